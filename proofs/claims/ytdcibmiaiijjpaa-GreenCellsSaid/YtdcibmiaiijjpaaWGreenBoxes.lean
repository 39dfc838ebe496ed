/- -/
import Derived.Test.YtdcibmiaiijjpaaVd
import Derived.Test.YtdcibmiaiijjpaaWBox
import Derived.Test.YtdcibmiaiijjpaaWSameBox
namespace Sg
open Go Go.RowKit Go.Proofs
set_option linter.unusedVariables false
set_option linter.unusedSimpArgs false
set_option maxRecDepth 100000
set_option maxHeartbeats 4000000
theorem body33 : Body Try.prog 33 := ⟨Try.f33, Try.func33, rfl, by kernel_rfl⟩
theorem J3H {A : List Nat} {w0 : World} {p_t : Option Addr} {c_t : Nat} {t : List (List Int)} (hA : ∀ b ∈ A, b < w0.heap.size) (h_t : ISl (Rp.sl (Rp.int .i64)) A w0 p_t c_t t) {K : Int → Prop} (H : J2e t K) :
    CallsV Try.prog 33 #[.slice p_t t.length c_t] w0 (fun v w' => ∃ (r0 : Int), v = .int .i64 r0 ∧ Same w0 w' ∧ K r0) := by
 refine cal hA Try.func33 Try.ntmps33 fun hO hB => ?_
 unfold J2e at H
 refine sln0 ?_
 refine scm (H h_t.bd) (fun h1 H => ?_) fun h1 H => ?_
 ·refine au ?_
  refine Go1.ret1 Try.func33 rfl ⟨_, er, frs, H⟩
 refine sln0 ?_
 refine scm H (fun h2 H => ?_) fun h2 H => ?_
 ·refine au ?_
  refine Go1.ret1 Try.func33 rfl ⟨_, er, frs, H⟩
 refine sln0 ?_
 refine au ?_
 refine lv [0, 13, 14] hO H (fun E k1_4 σ w => Lo A w0 σ w [(15, .int .i64 (k1_4 : Int))] []) ⟨agr, hO, fr⟩ ?_
 refine fun X1 => fun k1_4 => fun H hX1 σ w3 hk => lh hk fun hO hB => ?_
 refine scm H (fun h5 H => ?_) fun h5 H => ?_
 ·refine sxls hO h_t.u H.1 H.2.1 fun p6 c7 hi8 => ?_
  refine sln0 ?_
  refine sln0 ?_
  have h9 := H.1
  have h10 := H.2.1
  refine scm (H.2.2 hi8.bd) (fun h11 H => ?_) fun h11 H => ?_
  ·refine sln0 ?_
   refine au ?_
   refine lv [0, 13, 14, 15, 24, 25] hO H (fun E k2_13 σ w => (fun Z => Lo A w0 σ w [(26, .int .i64 (k2_13 : Int))] Z ∧ ISl (Rp.int .i64) (bl Z ++ A) w p6 c7 (ix t (k1_4 : Int))) []) ⟨⟨agr, hO, fr⟩, hi8.u⟩ ?_
   refine fun X2 => fun k2_13 => fun H hX2 σ w12 hk => d1 fun hL => fun hi8 => lh hk (fun hO hB => ?_) hL
   revert hO; repeat (rename Owns .. => q; clear q)
   intro hO; repeat (rename Sq .. => q; clear q)
   refine scm H (fun h14 H => ?_) fun h14 H => ?_
   ·refine sxl hO hi8 H.1 H.2.1 ?_
    refine au ?_
    have h15 := H.1
    have h16 := H.2.1
    refine scm H.2.2 (fun h17 H => ?_) fun h17 H => ?_
    ·refine au ?_
     refine Go1.ret1 Try.func33 rfl ⟨_, er, frs, H⟩
    refine sln0 ?_
    refine scm H (fun h18 H => ?_) fun h18 H => ?_
    ·refine au ?_
     refine Go1.ret1 Try.func33 rfl ⟨_, er, frs, H⟩
    refine sinc (natbd h14 hi8.bd) ?_
    refine au ?_
    exact hX2 _ H _ _ agr ⟨⟨agr, hO, fr⟩, hi8⟩
   refine sinc (natbd h5 h_t.bd) ?_
   refine au ?_
   exact hX1 _ H _ _ agr ⟨agr, hO, fr⟩
  refine au ?_
  refine Go1.ret1 Try.func33 rfl ⟨_, er, frs, H⟩
 refine au ?_
 refine Go1.ret1 Try.func33 rfl ⟨_, er, frs, H⟩
theorem body21 : Body Try.prog 21 := ⟨Try.f21, Try.func21, rfl, by kernel_rfl⟩
theorem J2x {A : List Nat} {w0 : World} (hA : ∀ b ∈ A, b < w0.heap.size) {K : List (List Int) → Prop} (H : law15_flip  K) :
    CallsV Try.prog 21 #[] w0 (fun v w' => ∃ (r0 : List (List Int)), ∃ (bw : Option Addr), ∃ (bx : Nat), v = .slice bw r0.length bx ∧ Same w0 w' ∧ ISl (Rp.sl (Rp.int .i64)) A w' bw bx r0 ∧ K r0) := by
 refine cal hA Try.func21 Try.ntmps21 fun hO hB => ?_
 unfold law15_flip at H
 refine sbu Fl.i 3 [(0 : Int), (1 : Int), (2 : Int)] hO fun w1 p4 s hO => ?_
 refine sbu Fl.i 3 [(1 : Int), (0 : Int), (2 : Int)] hO fun w6 p7 s hO => ?_
 refine sbu Fl.i 3 [(2 : Int), (2 : Int), (2 : Int)] hO fun w9 p10 s hO => ?_
 refine sfz 2 hO fun s hO yA sK => ?_
 refine sfz 1 hO fun s hO yB yC => ?_
 refine sfz 0 hO fun s hO sL yD => ?_
 have zz := J2O (r := Rp.sl (Rp.int .i64)) (n := 3) (parts := [(0, .slice p4 3 3), (1, .slice p7 3 3), (2, .slice p10 3 3)]) (vs := [.slice p4 3 3, .slice p7 3 3, .slice p10 3 3]) (xs := [[(0 : Int), (1 : Int), (2 : Int)], [(1 : Int), (0 : Int), (2 : Int)], [(2 : Int), (2 : Int), (2 : Int)]]) rfl Try.underlying22 ti26 hO (by decide) (by kernel_rfl) (Els.cons rfl ⟨p4, 3, congrArg some (congrArg (fun nn => Value.slice p4 nn 3) sK), yA.u⟩ (Els.cons rfl ⟨p7, 3, congrArg some (congrArg (fun nn => Value.slice p7 nn 3) yC), yB.u⟩ (Els.cons rfl ⟨p10, 3, congrArg some (congrArg (fun nn => Value.slice p10 nn 3) yD), sL⟩ (Els.nil _ _ _) (by simp [mx])) (by simp [mx])) (by simp [mx])) rfl
 obtain ⟨w18, p19, ww, lU, B9, oA⟩ := zz
 refine zg (oA rfl) ?_
 refine nst ww fun s hO => ?_
 refine au ?_
 refine sfzR 0 hO lU fun s hO nT nU => ?_
 refine Go1.ret1 Try.func21 rfl ⟨_, _, _, ?_, frs, nT.r, H⟩
 exact (congrArg (fun nn => Value.slice p19 nn 3) nU)
theorem body45 : Body Try.prog 45 := ⟨Try.f45, Try.func45, rfl, by kernel_rfl⟩
theorem body23 : Body Try.prog 23 := ⟨Try.f23, Try.func23, rfl, by kernel_rfl⟩
theorem J3m {A : List Nat} {w0 : World} {p_t : Option Addr} {c_t : Nat} {t : List (List Int)} (hA : ∀ b ∈ A, b < w0.heap.size) (h_t : ISl (Rp.sl (Rp.int .i64)) A w0 p_t c_t t) {K : List Int → Prop} (H : J19 t K) :
    CallsV Try.prog 23 #[.slice p_t t.length c_t] w0 (fun v w' => ∃ (r0 : List Int), ∃ (bw : Option Addr), ∃ (bx : Nat), v = .slice bw r0.length bx ∧ Same w0 w' ∧ ISl (Rp.int .i64) A w' bw bx r0 ∧ K r0) := by
 refine CallsV.of (l := [.slice p_t t.length c_t]) Try.func23 rfl Try.ntmps23 rfl ?_
 have hO := Owns.start hA
 have hB := Fr.refl (bl []) w0
 unfold J19 at H
 replace h_t := h_t.ch (Ch.start A w0)
 refine Go1.seq ?_
 refine Go1.region ?_
 refine GoR.op ((J04 rfl) _) rfl rfl ?_
 refine GoR.nil ?_
 refine Go1.seq ?_
 refine Go1.region ?_
 refine GoR.op ((J00 rfl) _) rfl rfl ?_
 refine GoR.call (J05 body9 rfl (J0B hO.lt h_t H)) rfl rfl ?_
 rintro v5 w2 ⟨r1, aN, aO, aP, aQ, aS, aT, aU, aV, aq, ar, rfl, hs3, aI, aJ, aK, aM, ap, H⟩
 have jS := Stp.same hO hs3
 replace hO := jS.own
 replace h_t := h_t.ch jS.ch
 replace hB := hB.trans jS.fr
 have hobt := oalloc (t := 29) (cs := #[.slice none 0 0, .slice none 0 0, .slice none 0 0, .slice none 0 0, .slice none 0 0]) ti29 hO rfl
 obtain ⟨w7, B8, lV, xJ, oC⟩ := hobt
 refine GoR.op oC rfl rfl ?_
 replace hO := lV.own
 replace h_t := h_t.ch lV.ch
 replace aI := aI.ch lV.ch
 replace aJ := aJ.ch lV.ch
 replace aK := aK.ch lV.ch
 replace aM := aM.ch lV.ch
 replace ap := ap.ch lV.ch
 replace hB := hB.trans lV.fr
 have hobt := J1W (us := [.slice aN r1.R.length aO, .slice aP r1.L.length aQ, .slice aS r1.J.length aT, .slice aU r1.H.length aV, .slice aq r1.Below.length ar]) (o := 0) (cs' := #[.slice aN r1.R.length aO, .slice aP r1.L.length aQ, .slice aS r1.J.length aT, .slice aU r1.H.length aV, .slice aq r1.Below.length ar]) 0 hO rfl rfl (Nat.le_of_ble_eq_true rfl) rfl
 obtain ⟨w13, k8, wz⟩ := hobt
 refine GoR.op (wz ti29 (by exact rfl) (by exact rfl) rfl) rfl rfl ?_
 replace hO := k8.own
 replace h_t := h_t.ch k8.ch
 replace aI := aI.ch k8.ch
 replace aJ := aJ.ch k8.ch
 replace aK := aK.ch k8.ch
 replace aM := aM.ch k8.ch
 replace ap := ap.ch k8.ch
 replace hB := hB.trans k8.fr
 refine GoR.nil ?_
 refine Go1.seq ?_
 refine Go1.region ?_
 refine GoR.op ((J03 Try.underlying29 rfl ti27 rfl (by decide)) _) rfl rfl ?_
 refine GoR.op ((oblk (i := 4) 0 hO rfl rfl Try.underlying27 rfl rfl) _ (Same.refl _)) rfl rfl ?_
 refine GoR.op ((J27 Try.underlying27 rfl) _) rfl rfl ?_
 replace H := H ap.bd
 obtain ⟨h23, H⟩ := H
 obtain ⟨h24, H⟩ := H
 have hobt := omake (n := (r1.Below.length : Int)) (r := Rp.int .i64) (d := (0 : Int)) Try.underlying26 ti3 (fun _ _ => rfl) rfl hO h23 h24 (by decide)
 obtain ⟨w16, p17, yE, jO, nr, Ca, wA⟩ := hobt
 refine GoR.op (wA rfl rfl) rfl rfl ?_
 replace hO := jO.own
 replace h_t := h_t.ch jO.ch
 replace aI := aI.ch jO.ch
 replace aJ := aJ.ch jO.ch
 replace aK := aK.ch jO.ch
 replace aM := aM.ch jO.ch
 replace ap := ap.ch jO.ch
 replace hB := hB.trans jO.fr
 have hobt := oalloc (t := 26) (cs := #[.slice none 0 0]) ti26 hO rfl
 obtain ⟨w26, B27, bP, Cb, wB⟩ := hobt
 refine GoR.op wB rfl rfl ?_
 replace nr := nr.ch bP.ch
 replace hO := bP.own
 replace h_t := h_t.ch bP.ch
 replace aI := aI.ch bP.ch
 replace aJ := aJ.ch bP.ch
 replace aK := aK.ch bP.ch
 replace aM := aM.ch bP.ch
 replace ap := ap.ch bP.ch
 replace hB := hB.trans bP.fr
 have hobt := J2a (v := .slice p17 r1.Below.length r1.Below.length) (i := 0) (cs' := #[.slice p17 r1.Below.length r1.Below.length]) 0 hO rfl rfl rfl rfl
 obtain ⟨w32, jT, mA⟩ := hobt
 refine GoR.op (mA Try.underlying26 rfl ti26 (by exact rfl) (by exact rfl)) rfl rfl ?_
 replace nr := nr.ch jT.ch
 replace hO := jT.own
 replace h_t := h_t.ch jT.ch
 replace aI := aI.ch jT.ch
 replace aJ := aJ.ch jT.ch
 replace aK := aK.ch jT.ch
 replace aM := aM.ch jT.ch
 replace ap := ap.ch jT.ch
 replace hB := hB.trans jT.fr
 refine GoR.nil ?_
 refine Go1.seq ?_
 refine Go1.seq ?_
 refine Go1.region ?_
 refine GoR.op ((oblk (i := 0) 0 hO rfl rfl Try.underlying26 rfl rfl) _ (Same.refl _)) rfl rfl ?_
 refine GoR.op ((J2v Try.underlying26 rfl (nr.neq hO 1 rfl)) _) rfl rfl ?_
 refine GoR.op ((J00 rfl) _) rfl rfl ?_
 refine GoR.nil ?_
 refine Go1.block ?_
 refine Go1.loopW (S := Nat × List Int) (fun s σ w => match s with | (k1_36, d_37) => ∃ (kN : List Value), agrees σ [(3, .pointer (some ⟨B8, 0, none⟩)), (4, .pointer (some ⟨B27, 0, none⟩)), (15, .int .i64 ((List.replicate r1.Below.length ((0 : Int))).length : Int)), (16, .int .i64 (k1_36 : Int))] ∧ Owns w0.heap.size w [.blk B27 (.cells #[.slice p17 r1.Below.length r1.Below.length] 26 (0, 0)), .row 3 1 p17 r1.Below.length r1.Below.length kN, .blk B8 (.cells #[.slice aN r1.R.length aO, .slice aP r1.L.length aQ, .slice aS r1.J.length aT, .slice aU r1.H.length aV, .slice aq r1.Below.length ar] 29 (0, 0))] A ∧ Els (Rp.int .i64) (bl [.blk B27 (.cells #[.slice p17 r1.Below.length r1.Below.length] 26 (0, 0)), .row 3 1 p17 r1.Below.length r1.Below.length kN, .blk B8 (.cells #[.slice aN r1.R.length aO, .slice aP r1.L.length aQ, .slice aS r1.J.length aT, .slice aU r1.H.length aV, .slice aq r1.Below.length ar] 29 (0, 0))] ++ A) w kN d_37 ∧ ISl (Rp.int .i64) (bl [.blk B27 (.cells #[.slice p17 r1.Below.length r1.Below.length] 26 (0, 0)), .row 3 1 p17 r1.Below.length r1.Below.length kN, .blk B8 (.cells #[.slice aN r1.R.length aO, .slice aP r1.L.length aQ, .slice aS r1.J.length aT, .slice aU r1.H.length aV, .slice aq r1.Below.length ar] 29 (0, 0))] ++ A) w aN aO r1.R ∧ ISl (Rp.int .i64) (bl [.blk B27 (.cells #[.slice p17 r1.Below.length r1.Below.length] 26 (0, 0)), .row 3 1 p17 r1.Below.length r1.Below.length kN, .blk B8 (.cells #[.slice aN r1.R.length aO, .slice aP r1.L.length aQ, .slice aS r1.J.length aT, .slice aU r1.H.length aV, .slice aq r1.Below.length ar] 29 (0, 0))] ++ A) w aP aQ r1.L ∧ ISl (Rp.int .i64) (bl [.blk B27 (.cells #[.slice p17 r1.Below.length r1.Below.length] 26 (0, 0)), .row 3 1 p17 r1.Below.length r1.Below.length kN, .blk B8 (.cells #[.slice aN r1.R.length aO, .slice aP r1.L.length aQ, .slice aS r1.J.length aT, .slice aU r1.H.length aV, .slice aq r1.Below.length ar] 29 (0, 0))] ++ A) w aS aT r1.J ∧ ISl (Rp.int .i64) (bl [.blk B27 (.cells #[.slice p17 r1.Below.length r1.Below.length] 26 (0, 0)), .row 3 1 p17 r1.Below.length r1.Below.length kN, .blk B8 (.cells #[.slice aN r1.R.length aO, .slice aP r1.L.length aQ, .slice aS r1.J.length aT, .slice aU r1.H.length aV, .slice aq r1.Below.length ar] 29 (0, 0))] ++ A) w aU aV r1.H ∧ ISl (Rp.sl (Rp.bool)) (bl [.blk B27 (.cells #[.slice p17 r1.Below.length r1.Below.length] 26 (0, 0)), .row 3 1 p17 r1.Below.length r1.Below.length kN, .blk B8 (.cells #[.slice aN r1.R.length aO, .slice aP r1.L.length aQ, .slice aS r1.J.length aT, .slice aU r1.H.length aV, .slice aq r1.Below.length ar] 29 (0, 0))] ++ A) w aq ar r1.Below ∧ Fr (bl []) w0 (bl [.blk B27 (.cells #[.slice p17 r1.Below.length r1.Below.length] 26 (0, 0)), .row 3 1 p17 r1.Below.length r1.Below.length kN, .blk B8 (.cells #[.slice aN r1.R.length aO, .slice aP r1.L.length aQ, .slice aS r1.J.length aT, .slice aU r1.H.length aV, .slice aq r1.Below.length ar] 29 (0, 0))]) w) H ⟨yE, ⟨rfl, rfl, rfl, rfl, trivial⟩, hO, nr, aI, aJ, aK, aM, ap, hB⟩ ?_
 intro X1
 refine prE fun k1_36 => fun d_37 => ?_
 intro H hX1 σ w35
 refine exE fun kN => andE fun hag => andE fun hO => andE fun lN => andE fun aI => andE fun aJ => andE fun aK => andE fun aM => andE fun ap => fun hB => ?_
 dsimp only at H
 refine Go1.keep [(3, .pointer (some ⟨B8, 0, none⟩)), (4, .pointer (some ⟨B27, 0, none⟩)), (15, .int .i64 ((List.replicate r1.Below.length ((0 : Int))).length : Int)), (16, .int .i64 (k1_36 : Int))] hag ?_
 refine Go1.seq ?_
 refine Go1.region ?_
 by_cases h40 : (k1_36 : Int) < ((List.replicate r1.Below.length ((0 : Int))).length : Int)
 ·replace H := ifp h40 H
  refine GoR.op ((fun w => opB (J0s rfl rfl w) (decide_eq_true h40)) _) rfl rfl ?_
  refine GoR.nil ?_
  refine Go1.seq ?_
  refine Go1.condT rfl rfl ?_
  refine Go1.skip ?_
  refine Go1.seq ?_
  refine Go1.block ?_
  refine Go1.seq ?_
  refine Go1.region ?_
  refine GoR.op ((J00 rfl) _) rfl rfl ?_
  refine GoR.op ((J04 rfl) _) rfl rfl ?_
  refine GoR.nil ?_
  refine Go1.region ?_
  refine GoR.op ((oblk (i := 0) 0 hO rfl rfl Try.underlying26 rfl rfl) _ (Same.refl _)) rfl rfl ?_
  refine GoR.op ((J00 rfl) _) rfl rfl ?_
  obtain ⟨h41, H⟩ := H
  obtain ⟨h42, H⟩ := H
  refine GoR.op ((J01 Try.underlying26 ti3 rfl rfl h41 (ltn (lN.neq hO 1 rfl) h42) (lN.psome hO 1 rfl h41 h42)) _) rfl rfl ?_
  have hobt := ost (r := Rp.int .i64) rfl 1 hO rfl lN h41 h42 (v := .int .i64 (-1 : Int)) (u := (-1 : Int)) rfl rfl
  obtain ⟨w43, yF, fu, yG, wC⟩ := hobt
  refine GoR.op (wC Try.underlying3 rfl ti3 (by exact rfl) (by exact rfl)) rfl rfl ?_
  replace hO := fu.own
  replace aI := aI.ch fu.ch
  replace aJ := aJ.ch fu.ch
  replace aK := aK.ch fu.ch
  replace aM := aM.ch fu.ch
  replace ap := ap.ch fu.ch
  replace hB := hB.trans fu.fr
  refine GoR.nil ?_
  refine Go1.inBlock ?_
  refine Go1.region ?_
  obtain ⟨h48, H⟩ := H
  refine GoR.op ((J06 rfl rfl (wrap_i64 h48)) _) rfl rfl ?_
  refine GoR.op ((J00 rfl) _) rfl rfl ?_
  refine GoR.nil ?_
  exact hX1 _ H _ _ ⟨yF, ⟨rfl, rfl, rfl, rfl, trivial⟩, hO, yG, aI, aJ, aK, aM, ap, hB⟩
 replace H := ifn h40 H
 refine GoR.op ((fun w => opB (J0s rfl rfl w) (decide_eq_false h40)) _) rfl rfl ?_
 refine GoR.nil ?_
 refine Go1.seq ?_
 refine Go1.condF rfl rfl ?_
 refine Go1.exit rfl ?_
 refine Go1.seq ?_
 refine Go1.region ?_
 have hobt := oalloc (t := 68) (cs := #[.nilFunc]) ti68 hO rfl
 obtain ⟨w49, B50, jV, Cc, oD⟩ := hobt
 refine GoR.op oD rfl rfl ?_
 replace lN := lN.ch jV.ch
 replace hO := jV.own
 replace aI := aI.ch jV.ch
 replace aJ := aJ.ch jV.ch
 replace aK := aK.ch jV.ch
 replace aM := aM.ch jV.ch
 replace ap := ap.ch jV.ch
 replace hB := hB.trans jV.fr
 refine GoR.nil ?_
 refine Go1.seq ?_
 refine Go1.region ?_
 refine GoR.op ((J3V (vs := [.pointer (some ⟨B27, 0, none⟩), .pointer (some ⟨B8, 0, none⟩), .pointer (some ⟨B50, 0, none⟩)]) rfl) _) rfl rfl ?_
 have hobt := J2a (v := .func (.func 45) #[] #[.pointer (some ⟨B27, 0, none⟩), .pointer (some ⟨B8, 0, none⟩), .pointer (some ⟨B50, 0, none⟩)]) (i := 0) (cs' := #[.func (.func 45) #[] #[.pointer (some ⟨B27, 0, none⟩), .pointer (some ⟨B8, 0, none⟩), .pointer (some ⟨B50, 0, none⟩)]]) 0 hO rfl rfl rfl rfl
 obtain ⟨w55, k9, wD⟩ := hobt
 refine GoR.op (wD Try.underlying68 rfl ti68 (by exact rfl) (by exact rfl)) rfl rfl ?_
 replace lN := lN.ch k9.ch
 replace hO := k9.own
 replace aI := aI.ch k9.ch
 replace aJ := aJ.ch k9.ch
 replace aK := aK.ch k9.ch
 replace aM := aM.ch k9.ch
 replace ap := ap.ch k9.ch
 replace hB := hB.trans k9.fr
 refine GoR.nil ?_
 refine Go1.seq ?_
 refine Go1.seq ?_
 refine Go1.region ?_
 refine GoR.op ((oblk (i := 0) 1 hO rfl rfl Try.underlying26 rfl rfl) _ (Same.refl _)) rfl rfl ?_
 refine GoR.op ((J2v Try.underlying26 rfl (lN.neq hO 2 rfl)) _) rfl rfl ?_
 refine GoR.op ((J00 rfl) _) rfl rfl ?_
 refine GoR.nil ?_
 refine Go1.block ?_
 refine Go1.loopW (S := Nat × List Int) (fun s σ w => match s with | (k2_59, d_60) => ∃ (kO : List Value), agrees σ [(4, .pointer (some ⟨B27, 0, none⟩)), (6, .pointer (some ⟨B50, 0, none⟩)), (25, .int .i64 (d_37.length : Int)), (26, .int .i64 (k2_59 : Int))] ∧ Owns w0.heap.size w [.blk B50 (.cells #[.func (.func 45) #[] #[.pointer (some ⟨B27, 0, none⟩), .pointer (some ⟨B8, 0, none⟩), .pointer (some ⟨B50, 0, none⟩)]] 68 (0, 0)), .blk B27 (.cells #[.slice p17 r1.Below.length r1.Below.length] 26 (0, 0)), .row 3 1 p17 r1.Below.length r1.Below.length kO, .blk B8 (.cells #[.slice aN r1.R.length aO, .slice aP r1.L.length aQ, .slice aS r1.J.length aT, .slice aU r1.H.length aV, .slice aq r1.Below.length ar] 29 (0, 0))] A ∧ Els (Rp.int .i64) (bl [.blk B50 (.cells #[.func (.func 45) #[] #[.pointer (some ⟨B27, 0, none⟩), .pointer (some ⟨B8, 0, none⟩), .pointer (some ⟨B50, 0, none⟩)]] 68 (0, 0)), .blk B27 (.cells #[.slice p17 r1.Below.length r1.Below.length] 26 (0, 0)), .row 3 1 p17 r1.Below.length r1.Below.length kO, .blk B8 (.cells #[.slice aN r1.R.length aO, .slice aP r1.L.length aQ, .slice aS r1.J.length aT, .slice aU r1.H.length aV, .slice aq r1.Below.length ar] 29 (0, 0))] ++ A) w kO d_60 ∧ ISl (Rp.int .i64) (bl [.blk B50 (.cells #[.func (.func 45) #[] #[.pointer (some ⟨B27, 0, none⟩), .pointer (some ⟨B8, 0, none⟩), .pointer (some ⟨B50, 0, none⟩)]] 68 (0, 0)), .blk B27 (.cells #[.slice p17 r1.Below.length r1.Below.length] 26 (0, 0)), .row 3 1 p17 r1.Below.length r1.Below.length kO, .blk B8 (.cells #[.slice aN r1.R.length aO, .slice aP r1.L.length aQ, .slice aS r1.J.length aT, .slice aU r1.H.length aV, .slice aq r1.Below.length ar] 29 (0, 0))] ++ A) w aN aO r1.R ∧ ISl (Rp.int .i64) (bl [.blk B50 (.cells #[.func (.func 45) #[] #[.pointer (some ⟨B27, 0, none⟩), .pointer (some ⟨B8, 0, none⟩), .pointer (some ⟨B50, 0, none⟩)]] 68 (0, 0)), .blk B27 (.cells #[.slice p17 r1.Below.length r1.Below.length] 26 (0, 0)), .row 3 1 p17 r1.Below.length r1.Below.length kO, .blk B8 (.cells #[.slice aN r1.R.length aO, .slice aP r1.L.length aQ, .slice aS r1.J.length aT, .slice aU r1.H.length aV, .slice aq r1.Below.length ar] 29 (0, 0))] ++ A) w aP aQ r1.L ∧ ISl (Rp.int .i64) (bl [.blk B50 (.cells #[.func (.func 45) #[] #[.pointer (some ⟨B27, 0, none⟩), .pointer (some ⟨B8, 0, none⟩), .pointer (some ⟨B50, 0, none⟩)]] 68 (0, 0)), .blk B27 (.cells #[.slice p17 r1.Below.length r1.Below.length] 26 (0, 0)), .row 3 1 p17 r1.Below.length r1.Below.length kO, .blk B8 (.cells #[.slice aN r1.R.length aO, .slice aP r1.L.length aQ, .slice aS r1.J.length aT, .slice aU r1.H.length aV, .slice aq r1.Below.length ar] 29 (0, 0))] ++ A) w aS aT r1.J ∧ ISl (Rp.int .i64) (bl [.blk B50 (.cells #[.func (.func 45) #[] #[.pointer (some ⟨B27, 0, none⟩), .pointer (some ⟨B8, 0, none⟩), .pointer (some ⟨B50, 0, none⟩)]] 68 (0, 0)), .blk B27 (.cells #[.slice p17 r1.Below.length r1.Below.length] 26 (0, 0)), .row 3 1 p17 r1.Below.length r1.Below.length kO, .blk B8 (.cells #[.slice aN r1.R.length aO, .slice aP r1.L.length aQ, .slice aS r1.J.length aT, .slice aU r1.H.length aV, .slice aq r1.Below.length ar] 29 (0, 0))] ++ A) w aU aV r1.H ∧ ISl (Rp.sl (Rp.bool)) (bl [.blk B50 (.cells #[.func (.func 45) #[] #[.pointer (some ⟨B27, 0, none⟩), .pointer (some ⟨B8, 0, none⟩), .pointer (some ⟨B50, 0, none⟩)]] 68 (0, 0)), .blk B27 (.cells #[.slice p17 r1.Below.length r1.Below.length] 26 (0, 0)), .row 3 1 p17 r1.Below.length r1.Below.length kO, .blk B8 (.cells #[.slice aN r1.R.length aO, .slice aP r1.L.length aQ, .slice aS r1.J.length aT, .slice aU r1.H.length aV, .slice aq r1.Below.length ar] 29 (0, 0))] ++ A) w aq ar r1.Below ∧ Fr (bl []) w0 (bl [.blk B50 (.cells #[.func (.func 45) #[] #[.pointer (some ⟨B27, 0, none⟩), .pointer (some ⟨B8, 0, none⟩), .pointer (some ⟨B50, 0, none⟩)]] 68 (0, 0)), .blk B27 (.cells #[.slice p17 r1.Below.length r1.Below.length] 26 (0, 0)), .row 3 1 p17 r1.Below.length r1.Below.length kO, .blk B8 (.cells #[.slice aN r1.R.length aO, .slice aP r1.L.length aQ, .slice aS r1.J.length aT, .slice aU r1.H.length aV, .slice aq r1.Below.length ar] 29 (0, 0))]) w) H ⟨kN, ⟨rfl, rfl, rfl, rfl, trivial⟩, hO, lN, aI, aJ, aK, aM, ap, hB⟩ ?_
 intro X2
 refine prE fun k2_59 => fun d_60 => ?_
 intro H hX2 σ w58
 refine exE fun kO => andE fun hag => andE fun hO => andE fun pC => andE fun aI => andE fun aJ => andE fun aK => andE fun aM => andE fun ap => fun hB => ?_
 dsimp only at H
 refine Go1.keep [(4, .pointer (some ⟨B27, 0, none⟩)), (6, .pointer (some ⟨B50, 0, none⟩)), (25, .int .i64 (d_37.length : Int)), (26, .int .i64 (k2_59 : Int))] hag ?_
 refine Go1.seq ?_
 refine Go1.region ?_
 by_cases h63 : (k2_59 : Int) < (d_37.length : Int)
 ·replace H := ifp h63 H
  refine GoR.op ((fun w => opB (J0s rfl rfl w) (decide_eq_true h63)) _) rfl rfl ?_
  refine GoR.nil ?_
  refine Go1.seq ?_
  refine Go1.condT rfl rfl ?_
  refine Go1.skip ?_
  refine Go1.seq ?_
  refine Go1.block ?_
  refine Go1.seq ?_
  refine Go1.region ?_
  refine GoR.op ((J00 rfl) _) rfl rfl ?_
  refine GoR.op ((J04 rfl) _) rfl rfl ?_
  refine GoR.nil ?_
  refine Go1.region ?_
  refine GoR.op ((oblk (i := 0) 0 hO rfl rfl Try.underlying68 rfl rfl) _ (Same.refl _)) rfl rfl ?_
  refine GoR.op ((J00 rfl) _) rfl rfl ?_
  refine useRec (P := Try.prog) (g := 45) (S := Int × List Int) (T := Int × List Int) (args := [.int .i64 (k2_59 : Int), .pointer (some ⟨B27, 0, none⟩), .pointer (some ⟨B8, 0, none⟩), .pointer (some ⟨B50, 0, none⟩)]) (fun s args w => ∃ (iu : List Value), args = [.int .i64 (s.1), .pointer (some ⟨B27, 0, none⟩), .pointer (some ⟨B8, 0, none⟩), .pointer (some ⟨B50, 0, none⟩)] ∧ Owns w0.heap.size w [.blk B50 (.cells #[.func (.func 45) #[] #[.pointer (some ⟨B27, 0, none⟩), .pointer (some ⟨B8, 0, none⟩), .pointer (some ⟨B50, 0, none⟩)]] 68 (0, 0)), .blk B27 (.cells #[.slice p17 r1.Below.length r1.Below.length] 26 (0, 0)), .row 3 1 p17 r1.Below.length r1.Below.length iu, .blk B8 (.cells #[.slice aN r1.R.length aO, .slice aP r1.L.length aQ, .slice aS r1.J.length aT, .slice aU r1.H.length aV, .slice aq r1.Below.length ar] 29 (0, 0))] A ∧ Els (Rp.int .i64) (bl [.blk B50 (.cells #[.func (.func 45) #[] #[.pointer (some ⟨B27, 0, none⟩), .pointer (some ⟨B8, 0, none⟩), .pointer (some ⟨B50, 0, none⟩)]] 68 (0, 0)), .blk B27 (.cells #[.slice p17 r1.Below.length r1.Below.length] 26 (0, 0)), .row 3 1 p17 r1.Below.length r1.Below.length iu, .blk B8 (.cells #[.slice aN r1.R.length aO, .slice aP r1.L.length aQ, .slice aS r1.J.length aT, .slice aU r1.H.length aV, .slice aq r1.Below.length ar] 29 (0, 0))] ++ A) w iu (s.2) ∧ ISl (Rp.int .i64) (bl [.blk B50 (.cells #[.func (.func 45) #[] #[.pointer (some ⟨B27, 0, none⟩), .pointer (some ⟨B8, 0, none⟩), .pointer (some ⟨B50, 0, none⟩)]] 68 (0, 0)), .blk B27 (.cells #[.slice p17 r1.Below.length r1.Below.length] 26 (0, 0)), .row 3 1 p17 r1.Below.length r1.Below.length iu, .blk B8 (.cells #[.slice aN r1.R.length aO, .slice aP r1.L.length aQ, .slice aS r1.J.length aT, .slice aU r1.H.length aV, .slice aq r1.Below.length ar] 29 (0, 0))] ++ A) w aN aO r1.R ∧ ISl (Rp.int .i64) (bl [.blk B50 (.cells #[.func (.func 45) #[] #[.pointer (some ⟨B27, 0, none⟩), .pointer (some ⟨B8, 0, none⟩), .pointer (some ⟨B50, 0, none⟩)]] 68 (0, 0)), .blk B27 (.cells #[.slice p17 r1.Below.length r1.Below.length] 26 (0, 0)), .row 3 1 p17 r1.Below.length r1.Below.length iu, .blk B8 (.cells #[.slice aN r1.R.length aO, .slice aP r1.L.length aQ, .slice aS r1.J.length aT, .slice aU r1.H.length aV, .slice aq r1.Below.length ar] 29 (0, 0))] ++ A) w aP aQ r1.L ∧ ISl (Rp.int .i64) (bl [.blk B50 (.cells #[.func (.func 45) #[] #[.pointer (some ⟨B27, 0, none⟩), .pointer (some ⟨B8, 0, none⟩), .pointer (some ⟨B50, 0, none⟩)]] 68 (0, 0)), .blk B27 (.cells #[.slice p17 r1.Below.length r1.Below.length] 26 (0, 0)), .row 3 1 p17 r1.Below.length r1.Below.length iu, .blk B8 (.cells #[.slice aN r1.R.length aO, .slice aP r1.L.length aQ, .slice aS r1.J.length aT, .slice aU r1.H.length aV, .slice aq r1.Below.length ar] 29 (0, 0))] ++ A) w aS aT r1.J ∧ ISl (Rp.int .i64) (bl [.blk B50 (.cells #[.func (.func 45) #[] #[.pointer (some ⟨B27, 0, none⟩), .pointer (some ⟨B8, 0, none⟩), .pointer (some ⟨B50, 0, none⟩)]] 68 (0, 0)), .blk B27 (.cells #[.slice p17 r1.Below.length r1.Below.length] 26 (0, 0)), .row 3 1 p17 r1.Below.length r1.Below.length iu, .blk B8 (.cells #[.slice aN r1.R.length aO, .slice aP r1.L.length aQ, .slice aS r1.J.length aT, .slice aU r1.H.length aV, .slice aq r1.Below.length ar] 29 (0, 0))] ++ A) w aU aV r1.H ∧ ISl (Rp.sl (Rp.bool)) (bl [.blk B50 (.cells #[.func (.func 45) #[] #[.pointer (some ⟨B27, 0, none⟩), .pointer (some ⟨B8, 0, none⟩), .pointer (some ⟨B50, 0, none⟩)]] 68 (0, 0)), .blk B27 (.cells #[.slice p17 r1.Below.length r1.Below.length] 26 (0, 0)), .row 3 1 p17 r1.Below.length r1.Below.length iu, .blk B8 (.cells #[.slice aN r1.R.length aO, .slice aP r1.L.length aQ, .slice aS r1.J.length aT, .slice aU r1.H.length aV, .slice aq r1.Below.length ar] 29 (0, 0))] ++ A) w aq ar r1.Below) (fun we t v w => ∃ (iu : List Value), v = .int .i64 (t.1) ∧ Owns w0.heap.size w [.blk B50 (.cells #[.func (.func 45) #[] #[.pointer (some ⟨B27, 0, none⟩), .pointer (some ⟨B8, 0, none⟩), .pointer (some ⟨B50, 0, none⟩)]] 68 (0, 0)), .blk B27 (.cells #[.slice p17 r1.Below.length r1.Below.length] 26 (0, 0)), .row 3 1 p17 r1.Below.length r1.Below.length iu, .blk B8 (.cells #[.slice aN r1.R.length aO, .slice aP r1.L.length aQ, .slice aS r1.J.length aT, .slice aU r1.H.length aV, .slice aq r1.Below.length ar] 29 (0, 0))] A ∧ Els (Rp.int .i64) (bl [.blk B50 (.cells #[.func (.func 45) #[] #[.pointer (some ⟨B27, 0, none⟩), .pointer (some ⟨B8, 0, none⟩), .pointer (some ⟨B50, 0, none⟩)]] 68 (0, 0)), .blk B27 (.cells #[.slice p17 r1.Below.length r1.Below.length] 26 (0, 0)), .row 3 1 p17 r1.Below.length r1.Below.length iu, .blk B8 (.cells #[.slice aN r1.R.length aO, .slice aP r1.L.length aQ, .slice aS r1.J.length aT, .slice aU r1.H.length aV, .slice aq r1.Below.length ar] 29 (0, 0))] ++ A) w iu (t.2) ∧ Fr (bl [.blk B50 (.cells #[.func (.func 45) #[] #[.pointer (some ⟨B27, 0, none⟩), .pointer (some ⟨B8, 0, none⟩), .pointer (some ⟨B50, 0, none⟩)]] 68 (0, 0)), .blk B27 (.cells #[.slice p17 r1.Below.length r1.Below.length] 26 (0, 0)), .row 3 1 p17 r1.Below.length r1.Below.length iu, .blk B8 (.cells #[.slice aN r1.R.length aO, .slice aP r1.L.length aQ, .slice aS r1.J.length aT, .slice aU r1.H.length aV, .slice aq r1.Below.length ar] 29 (0, 0))]) we (bl [.blk B50 (.cells #[.func (.func 45) #[] #[.pointer (some ⟨B27, 0, none⟩), .pointer (some ⟨B8, 0, none⟩), .pointer (some ⟨B50, 0, none⟩)]] 68 (0, 0)), .blk B27 (.cells #[.slice p17 r1.Below.length r1.Below.length] 26 (0, 0)), .row 3 1 p17 r1.Below.length r1.Below.length iu, .blk B8 (.cells #[.slice aN r1.R.length aO, .slice aP r1.L.length aQ, .slice aS r1.J.length aT, .slice aU r1.H.length aV, .slice aq r1.Below.length ar] 29 (0, 0))]) w) ⟨kO, rfl, hO, pC, aI, aJ, aK, aM, ap⟩ H ?_ ?_
  ·rintro X3 hX3 ⟨i3_64, d3_65⟩ KR3 args w68 H ⟨iu, rfl, hO, ld, aI, aJ, aK, aM, ap⟩
   dsimp only at H
   refine CallsV.of (l := [.int .i64 i3_64, .pointer (some ⟨B27, 0, none⟩), .pointer (some ⟨B8, 0, none⟩), .pointer (some ⟨B50, 0, none⟩)]) Try.func45 rfl Try.ntmps45 rfl ?_
   have hB := Fr.refl (bl [.blk B50 (.cells #[.func (.func 45) #[] #[.pointer (some ⟨B27, 0, none⟩), .pointer (some ⟨B8, 0, none⟩), .pointer (some ⟨B50, 0, none⟩)]] 68 (0, 0)), .blk B27 (.cells #[.slice p17 r1.Below.length r1.Below.length] 26 (0, 0)), .row 3 1 p17 r1.Below.length r1.Below.length iu, .blk B8 (.cells #[.slice aN r1.R.length aO, .slice aP r1.L.length aQ, .slice aS r1.J.length aT, .slice aU r1.H.length aV, .slice aq r1.Below.length ar] 29 (0, 0))]) w68
   refine Go1.seq ?_
   refine Go1.region ?_
   refine GoR.op ((J04 rfl) _) rfl rfl ?_
   refine GoR.nil ?_
   refine Go1.seq ?_
   refine Go1.seq ?_
   refine Go1.region ?_
   refine GoR.op ((oblk (i := 0) 1 hO rfl rfl Try.underlying26 rfl rfl) _ (Same.refl _)) rfl rfl ?_
   refine GoR.op ((J00 rfl) _) rfl rfl ?_
   obtain ⟨h69, H⟩ := H
   obtain ⟨h70, H⟩ := H
   refine GoR.op ((J01 Try.underlying26 ti3 rfl rfl h69 (ltn (ld.neq hO 2 rfl) h70) (ld.psome hO 2 rfl h69 h70)) _) rfl rfl ?_
   refine GoR.op ((oldInt 2 hO rfl ld h69 h70 Try.underlying3 rfl rfl) _ (Same.refl _)) rfl rfl ?_
   by_cases h71 : (ix d3_65 i3_64) < (0 : Int)
   ·replace H := ifp h71 H
    refine GoR.op ((fun w => opB (J0s rfl rfl w) (decide_eq_true h71)) _) rfl rfl ?_
    refine GoR.nil ?_
    refine Go1.condT rfl rfl ?_
    refine Go1.seq ?_
    refine Go1.region ?_
    refine GoR.op ((oblk (i := 0) 1 hO rfl rfl Try.underlying26 rfl rfl) _ (Same.refl _)) rfl rfl ?_
    refine GoR.op ((J00 rfl) _) rfl rfl ?_
    obtain ⟨h72, H⟩ := H
    obtain ⟨h73, H⟩ := H
    refine GoR.op ((J01 Try.underlying26 ti3 rfl rfl h72 (ltn (ld.neq hO 2 rfl) h73) (ld.psome hO 2 rfl h72 h73)) _) rfl rfl ?_
    have hobt := ost (r := Rp.int .i64) rfl 2 hO rfl ld h72 h73 (v := .int .i64 (0 : Int)) (u := (0 : Int)) rfl rfl
    obtain ⟨w74, yH, lO, yI, wE⟩ := hobt
    refine GoR.op (wE Try.underlying3 rfl ti3 (by exact rfl) (by exact rfl)) rfl rfl ?_
    replace hO := lO.own
    replace aI := aI.ch lO.ch
    replace aJ := aJ.ch lO.ch
    replace aK := aK.ch lO.ch
    replace aM := aM.ch lO.ch
    replace ap := ap.ch lO.ch
    replace hB := hB.trans lO.fr
    refine GoR.nil ?_
    refine Go1.seq ?_
    refine Go1.region ?_
    refine GoR.op ((J03 Try.underlying29 rfl ti27 rfl (by decide)) _) rfl rfl ?_
    refine GoR.op ((oblk (i := 4) 3 hO rfl rfl Try.underlying27 rfl rfl) _ (Same.refl _)) rfl rfl ?_
    refine GoR.op ((J00 rfl) _) rfl rfl ?_
    obtain ⟨h79, H⟩ := H
    obtain ⟨h80, H⟩ := H
    refine GoR.op ((J01 Try.underlying27 ti42 rfl rfl h79 h80 (ap.some_ h79 h80)) _) rfl rfl ?_
    have hobt := ldSl ap h79 h80
    obtain ⟨p81, c82, bO, yJ⟩ := hobt
    refine GoR.op ((yJ Try.underlying42 rfl rfl) _ (Same.refl _)) rfl rfl ?_
    refine GoR.op ((J27 Try.underlying42 rfl) _) rfl rfl ?_
    replace H := H bO.bd
    refine GoR.op ((J00 rfl) _) rfl rfl ?_
    refine GoR.nil ?_
    refine Go1.block ?_
    refine Go1.loopW (S := Nat × List Int) (fun s σ w => match s with | (k4_86, d_87) => ∃ (jR : List Value), agrees σ [(0, .int .i64 i3_64), (1, .pointer (some ⟨B27, 0, none⟩)), (3, .pointer (some ⟨B50, 0, none⟩)), (20, .slice p81 ((ix r1.Below i3_64).length) c82), (21, .int .i64 ((ix r1.Below i3_64).length : Int)), (22, .int .i64 (k4_86 : Int))] ∧ Owns w0.heap.size w [.blk B50 (.cells #[.func (.func 45) #[] #[.pointer (some ⟨B27, 0, none⟩), .pointer (some ⟨B8, 0, none⟩), .pointer (some ⟨B50, 0, none⟩)]] 68 (0, 0)), .blk B27 (.cells #[.slice p17 r1.Below.length r1.Below.length] 26 (0, 0)), .row 3 1 p17 r1.Below.length r1.Below.length jR, .blk B8 (.cells #[.slice aN r1.R.length aO, .slice aP r1.L.length aQ, .slice aS r1.J.length aT, .slice aU r1.H.length aV, .slice aq r1.Below.length ar] 29 (0, 0))] A ∧ Els (Rp.int .i64) (bl [.blk B50 (.cells #[.func (.func 45) #[] #[.pointer (some ⟨B27, 0, none⟩), .pointer (some ⟨B8, 0, none⟩), .pointer (some ⟨B50, 0, none⟩)]] 68 (0, 0)), .blk B27 (.cells #[.slice p17 r1.Below.length r1.Below.length] 26 (0, 0)), .row 3 1 p17 r1.Below.length r1.Below.length jR, .blk B8 (.cells #[.slice aN r1.R.length aO, .slice aP r1.L.length aQ, .slice aS r1.J.length aT, .slice aU r1.H.length aV, .slice aq r1.Below.length ar] 29 (0, 0))] ++ A) w jR d_87 ∧ ISl (Rp.int .i64) (bl [.blk B50 (.cells #[.func (.func 45) #[] #[.pointer (some ⟨B27, 0, none⟩), .pointer (some ⟨B8, 0, none⟩), .pointer (some ⟨B50, 0, none⟩)]] 68 (0, 0)), .blk B27 (.cells #[.slice p17 r1.Below.length r1.Below.length] 26 (0, 0)), .row 3 1 p17 r1.Below.length r1.Below.length jR, .blk B8 (.cells #[.slice aN r1.R.length aO, .slice aP r1.L.length aQ, .slice aS r1.J.length aT, .slice aU r1.H.length aV, .slice aq r1.Below.length ar] 29 (0, 0))] ++ A) w aN aO r1.R ∧ ISl (Rp.int .i64) (bl [.blk B50 (.cells #[.func (.func 45) #[] #[.pointer (some ⟨B27, 0, none⟩), .pointer (some ⟨B8, 0, none⟩), .pointer (some ⟨B50, 0, none⟩)]] 68 (0, 0)), .blk B27 (.cells #[.slice p17 r1.Below.length r1.Below.length] 26 (0, 0)), .row 3 1 p17 r1.Below.length r1.Below.length jR, .blk B8 (.cells #[.slice aN r1.R.length aO, .slice aP r1.L.length aQ, .slice aS r1.J.length aT, .slice aU r1.H.length aV, .slice aq r1.Below.length ar] 29 (0, 0))] ++ A) w aP aQ r1.L ∧ ISl (Rp.int .i64) (bl [.blk B50 (.cells #[.func (.func 45) #[] #[.pointer (some ⟨B27, 0, none⟩), .pointer (some ⟨B8, 0, none⟩), .pointer (some ⟨B50, 0, none⟩)]] 68 (0, 0)), .blk B27 (.cells #[.slice p17 r1.Below.length r1.Below.length] 26 (0, 0)), .row 3 1 p17 r1.Below.length r1.Below.length jR, .blk B8 (.cells #[.slice aN r1.R.length aO, .slice aP r1.L.length aQ, .slice aS r1.J.length aT, .slice aU r1.H.length aV, .slice aq r1.Below.length ar] 29 (0, 0))] ++ A) w aS aT r1.J ∧ ISl (Rp.int .i64) (bl [.blk B50 (.cells #[.func (.func 45) #[] #[.pointer (some ⟨B27, 0, none⟩), .pointer (some ⟨B8, 0, none⟩), .pointer (some ⟨B50, 0, none⟩)]] 68 (0, 0)), .blk B27 (.cells #[.slice p17 r1.Below.length r1.Below.length] 26 (0, 0)), .row 3 1 p17 r1.Below.length r1.Below.length jR, .blk B8 (.cells #[.slice aN r1.R.length aO, .slice aP r1.L.length aQ, .slice aS r1.J.length aT, .slice aU r1.H.length aV, .slice aq r1.Below.length ar] 29 (0, 0))] ++ A) w aU aV r1.H ∧ ISl (Rp.sl (Rp.bool)) (bl [.blk B50 (.cells #[.func (.func 45) #[] #[.pointer (some ⟨B27, 0, none⟩), .pointer (some ⟨B8, 0, none⟩), .pointer (some ⟨B50, 0, none⟩)]] 68 (0, 0)), .blk B27 (.cells #[.slice p17 r1.Below.length r1.Below.length] 26 (0, 0)), .row 3 1 p17 r1.Below.length r1.Below.length jR, .blk B8 (.cells #[.slice aN r1.R.length aO, .slice aP r1.L.length aQ, .slice aS r1.J.length aT, .slice aU r1.H.length aV, .slice aq r1.Below.length ar] 29 (0, 0))] ++ A) w aq ar r1.Below ∧ ISl (Rp.bool) (bl [.blk B50 (.cells #[.func (.func 45) #[] #[.pointer (some ⟨B27, 0, none⟩), .pointer (some ⟨B8, 0, none⟩), .pointer (some ⟨B50, 0, none⟩)]] 68 (0, 0)), .blk B27 (.cells #[.slice p17 r1.Below.length r1.Below.length] 26 (0, 0)), .row 3 1 p17 r1.Below.length r1.Below.length jR, .blk B8 (.cells #[.slice aN r1.R.length aO, .slice aP r1.L.length aQ, .slice aS r1.J.length aT, .slice aU r1.H.length aV, .slice aq r1.Below.length ar] 29 (0, 0))] ++ A) w p81 c82 (ix r1.Below i3_64) ∧ Fr (bl [.blk B50 (.cells #[.func (.func 45) #[] #[.pointer (some ⟨B27, 0, none⟩), .pointer (some ⟨B8, 0, none⟩), .pointer (some ⟨B50, 0, none⟩)]] 68 (0, 0)), .blk B27 (.cells #[.slice p17 r1.Below.length r1.Below.length] 26 (0, 0)), .row 3 1 p17 r1.Below.length r1.Below.length iu, .blk B8 (.cells #[.slice aN r1.R.length aO, .slice aP r1.L.length aQ, .slice aS r1.J.length aT, .slice aU r1.H.length aV, .slice aq r1.Below.length ar] 29 (0, 0))]) w68 (bl [.blk B50 (.cells #[.func (.func 45) #[] #[.pointer (some ⟨B27, 0, none⟩), .pointer (some ⟨B8, 0, none⟩), .pointer (some ⟨B50, 0, none⟩)]] 68 (0, 0)), .blk B27 (.cells #[.slice p17 r1.Below.length r1.Below.length] 26 (0, 0)), .row 3 1 p17 r1.Below.length r1.Below.length jR, .blk B8 (.cells #[.slice aN r1.R.length aO, .slice aP r1.L.length aQ, .slice aS r1.J.length aT, .slice aU r1.H.length aV, .slice aq r1.Below.length ar] 29 (0, 0))]) w) H ⟨yH, ⟨rfl, rfl, rfl, rfl, rfl, rfl, trivial⟩, hO, yI, aI, aJ, aK, aM, ap, bO, hB⟩ ?_
    intro X4
    refine prE fun k4_86 => fun d_87 => ?_
    intro H hX4 σ w85
    refine exE fun jR => andE fun hag => andE fun hO => andE fun bW => andE fun aI => andE fun aJ => andE fun aK => andE fun aM => andE fun ap => andE fun bO => fun hB => ?_
    dsimp only at H
    refine Go1.keep [(0, .int .i64 i3_64), (1, .pointer (some ⟨B27, 0, none⟩)), (3, .pointer (some ⟨B50, 0, none⟩)), (20, .slice p81 ((ix r1.Below i3_64).length) c82), (21, .int .i64 ((ix r1.Below i3_64).length : Int)), (22, .int .i64 (k4_86 : Int))] hag ?_
    refine Go1.seq ?_
    refine Go1.region ?_
    by_cases h90 : (k4_86 : Int) < ((ix r1.Below i3_64).length : Int)
    ·replace H := ifp h90 H
     refine GoR.op ((fun w => opB (J0s rfl rfl w) (decide_eq_true h90)) _) rfl rfl ?_
     refine GoR.nil ?_
     refine Go1.seq ?_
     refine Go1.condT rfl rfl ?_
     refine Go1.skip ?_
     refine Go1.seq ?_
     refine Go1.block ?_
     refine Go1.seq ?_
     refine Go1.region ?_
     refine GoR.op ((J00 rfl) _) rfl rfl ?_
     obtain ⟨h91, H⟩ := H
     obtain ⟨h92, H⟩ := H
     refine GoR.op ((J01 Try.underlying42 ti4 rfl rfl h91 h92 (bO.some_ h91 h92)) _) rfl rfl ?_
     by_cases h93 : ix (ix r1.Below i3_64) (k4_86 : Int) = true
     ·replace H := ifp h93 H
      refine GoR.op (opB ((ldBool bO h91 h92 Try.underlying4 rfl rfl) _ (Same.refl _)) (h93)) rfl rfl ?_
      refine GoR.op ((J04 rfl) _) rfl rfl ?_
      refine GoR.op ((J04 rfl) _) rfl rfl ?_
      refine GoR.nil ?_
      refine Go1.seq ?_
      refine Go1.region ?_
      refine GoR.op ((J00 rfl) _) rfl rfl ?_
      refine GoR.op ((J00 rfl) _) rfl rfl ?_
      refine GoR.op ((J00 rfl) _) rfl rfl ?_
      refine GoR.op ((J00 rfl) _) rfl rfl ?_
      by_cases h94 : (k4_86 : Int) = i3_64
      ·replace H := ifp h94 H
       refine GoR.op ((fun w => opB (J3y rfl rfl w) (ndT h94)) _) rfl rfl ?_
       refine GoR.op ((J1t rfl rfl rfl) _) rfl rfl ?_
       refine GoR.nil ?_
       refine Go1.condF rfl rfl ?_
       refine Go1.skip ?_
       refine Go1.inBlock ?_
       refine Go1.region ?_
       refine GoR.op ((J06 rfl rfl (wrap_i64 (natbd h90 bO.bd))) _) rfl rfl ?_
       refine GoR.op ((J00 rfl) _) rfl rfl ?_
       refine GoR.nil ?_
       exact hX4 _ H _ _ ⟨jR, ⟨rfl, rfl, rfl, rfl, rfl, rfl, trivial⟩, hO, bW, aI, aJ, aK, aM, ap, bO, hB⟩
      replace H := ifn h94 H
      refine GoR.op ((fun w => opB (J3y rfl rfl w) (ndF h94)) _) rfl rfl ?_
      refine GoR.op ((J1t rfl rfl rfl) _) rfl rfl ?_
      refine GoR.nil ?_
      refine Go1.condT rfl rfl ?_
      refine Go1.drawRS [(some ⟨B27, 0, none⟩), (padd p17 (i3_64.toNat * 1)), (some ⟨B50, 0, none⟩)] 1 [(0, .stable), (1, .pure), (2, .stable), (3, .pure), (4, .pure), (5, .stable), (6, .stable), (7, .pure), (8, .loud), (9, .pure), (10, .pure), (11, .pure), (12, .last)] mixed (by kernel_rfl) ?_
      intro w95 yK
      have kG := Stp.same hO yK
      replace bW := bW.ch kG.ch
      replace hO := kG.own
      replace aI := aI.ch kG.ch
      replace aJ := aJ.ch kG.ch
      replace aK := aK.ch kG.ch
      replace aM := aM.ch kG.ch
      replace ap := ap.ch kG.ch
      replace bO := bO.ch kG.ch
      replace hB := hB.trans kG.fr
      refine GoQR.stable rfl (loadR (.head _) rfl (J1o 1 hO rfl rfl) Try.underlying26 rfl rfl) rfl rfl ?_
      refine GoQR.pure rfl (J00 rfl) rfl rfl ?_
      refine GoQR.stable rfl (loadR (.head _) rfl (J1o 1 hO rfl rfl) Try.underlying26 rfl rfl) rfl rfl ?_
      refine GoQR.pure rfl (J00 rfl) rfl rfl ?_
      obtain ⟨h98, H⟩ := H
      obtain ⟨h99, H⟩ := H
      refine GoQR.pure rfl (J01 Try.underlying26 ti3 rfl rfl h98 (ltn (bW.neq hO 2 rfl) h99) (bW.psome hO 2 rfl h98 h99)) rfl rfl ?_
      refine GoQR.stable rfl (loadR (.tail _ (.head _)) (J5H (bW.psome hO 2 rfl h98 h99)) (rowCellInt 2 hO rfl bW h98 h99) Try.underlying3 rfl rfl) rfl rfl ?_
      refine GoQR.stable rfl (loadR (.tail _ (.tail _ (.head _))) rfl (J1o 0 hO rfl rfl) Try.underlying68 rfl rfl) rfl rfl ?_
      refine GoQR.pure rfl (J00 rfl) rfl rfl ?_
      refine GoQR.call rfl (J3a (vs := [.int .i64 (k4_86 : Int)]) (caps := [.pointer (some ⟨B27, 0, none⟩), .pointer (some ⟨B8, 0, none⟩), .pointer (some ⟨B50, 0, none⟩)]) body45 rfl rfl (hX3 ((k4_86 : Int), d_87) _ _ _ H ⟨jR, rfl, hO, bW, aI, aJ, aK, aM, ap⟩)) (fun v w hr => by obtain ⟨⟨r102, d103⟩, ⟨wF, rfl, hO9, wG, hF9⟩, H9⟩ := hr; dsimp only at H9; obtain ⟨kk1, kl1, H9⟩ := H9; exact (CS.cons (cs_eq (J1o 1 hO rfl rfl) (J1o 1 hO9 rfl rfl)) (CS.cons (cs_eq (rowCellInt 2 hO rfl bW h98 h99) (by rw [← kk1]; exact rowCellInt 2 hO9 rfl wG h98 kl1)) (CS.cons (cs_eq (J1o 0 hO rfl rfl) (J1o 0 hO9 rfl rfl)) (CS.nil _ _))))) rfl rfl ?_
      rintro Cd xb ⟨⟨r102, d103⟩, ⟨wF, rfl, hO, bW, hF⟩, H⟩
      dsimp only at H
      replace aI := aI.ch (hF.ch.app A)
      replace aJ := aJ.ch (hF.ch.app A)
      replace aK := aK.ch (hF.ch.app A)
      replace aM := aM.ch (hF.ch.app A)
      replace ap := ap.ch (hF.ch.app A)
      replace bO := bO.ch (hF.ch.app A)
      replace hB := hB.trans hF
      obtain ⟨kk1, kl1, H⟩ := H
      obtain ⟨tj, H⟩ := H
      refine GoQR.pure rfl (J06 rfl rfl (wrap_i64 tj)) rfl rfl ?_
      by_cases nJ : (ix d_87 i3_64) < ((1 : Int) + r102)
      ·replace H := ifp nJ H
       refine GoQR.pure rfl (J5T rfl rfl nJ) rfl rfl ?_
       obtain ⟨nK, H⟩ := H
       obtain ⟨sM, H⟩ := H
       refine GoQR.pure rfl (J01 Try.underlying26 ti3 rfl rfl nK (ltn (bW.neq hO 2 rfl) sM) (bW.psome hO 2 rfl nK sM)) rfl rfl ?_
       have hobt := ost (r := Rp.int .i64) rfl 2 hO rfl bW nK sM (v := .int .i64 ((1 : Int) + r102)) (u := ((1 : Int) + r102)) rfl rfl
       obtain ⟨Ce, wH, kD, wI, uy⟩ := hobt
       refine GoQR.last rfl (uy Try.underlying3 rfl ti3 (by exact rfl) (by exact rfl)) rfl rfl ?_
       replace hO := kD.own
       replace aI := aI.ch kD.ch
       replace aJ := aJ.ch kD.ch
       replace aK := aK.ch kD.ch
       replace aM := aM.ch kD.ch
       replace ap := ap.ch kD.ch
       replace bO := bO.ch kD.ch
       replace hB := hB.trans kD.fr
       refine GoQR.nil ?_
       refine Go1.inBlock ?_
       refine Go1.region ?_
       refine GoR.op ((J06 rfl rfl (wrap_i64 (natbd h90 bO.bd))) _) rfl rfl ?_
       refine GoR.op ((J00 rfl) _) rfl rfl ?_
       refine GoR.nil ?_
       exact hX4 _ H _ _ ⟨wH, ⟨rfl, rfl, rfl, rfl, rfl, rfl, trivial⟩, hO, wI, aI, aJ, aK, aM, ap, bO, hB⟩
      replace H := ifn nJ H
      refine GoQR.pure rfl (J5R rfl rfl nJ) rfl rfl ?_
      obtain ⟨sN, H⟩ := H
      obtain ⟨sO, H⟩ := H
      refine GoQR.pure rfl (J01 Try.underlying26 ti3 rfl rfl sN (ltn (bW.neq hO 2 rfl) sO) (bW.psome hO 2 rfl sN sO)) rfl rfl ?_
      have hobt := ost (r := Rp.int .i64) rfl 2 hO rfl bW sN sO (v := .int .i64 (ix d_87 i3_64)) (u := (ix d_87 i3_64)) rfl rfl
      obtain ⟨xc, wJ, kE, wK, n7⟩ := hobt
      refine GoQR.last rfl (n7 Try.underlying3 rfl ti3 (by exact rfl) (by exact rfl)) rfl rfl ?_
      replace hO := kE.own
      replace aI := aI.ch kE.ch
      replace aJ := aJ.ch kE.ch
      replace aK := aK.ch kE.ch
      replace aM := aM.ch kE.ch
      replace ap := ap.ch kE.ch
      replace bO := bO.ch kE.ch
      replace hB := hB.trans kE.fr
      refine GoQR.nil ?_
      refine Go1.inBlock ?_
      refine Go1.region ?_
      refine GoR.op ((J06 rfl rfl (wrap_i64 (natbd h90 bO.bd))) _) rfl rfl ?_
      refine GoR.op ((J00 rfl) _) rfl rfl ?_
      refine GoR.nil ?_
      exact hX4 _ H _ _ ⟨wJ, ⟨rfl, rfl, rfl, rfl, rfl, rfl, trivial⟩, hO, wK, aI, aJ, aK, aM, ap, bO, hB⟩
     replace H := ifn h93 H
     refine GoR.op (opB ((ldBool bO h91 h92 Try.underlying4 rfl rfl) _ (Same.refl _)) (Bool.eq_false_iff.2 h93)) rfl rfl ?_
     refine GoR.op ((J04 rfl) _) rfl rfl ?_
     refine GoR.op ((J04 rfl) _) rfl rfl ?_
     refine GoR.nil ?_
     refine Go1.seq ?_
     refine Go1.region ?_
     refine GoR.op ((J00 rfl) _) rfl rfl ?_
     refine GoR.op ((J00 rfl) _) rfl rfl ?_
     refine GoR.pass rfl rfl ?_
     refine GoR.pass rfl rfl ?_
     refine GoR.pass rfl rfl ?_
     refine GoR.op ((J0m rfl rfl rfl) _) rfl rfl ?_
     refine GoR.nil ?_
     refine Go1.condF rfl rfl ?_
     refine Go1.skip ?_
     refine Go1.inBlock ?_
     refine Go1.region ?_
     refine GoR.op ((J06 rfl rfl (wrap_i64 (natbd h90 bO.bd))) _) rfl rfl ?_
     refine GoR.op ((J00 rfl) _) rfl rfl ?_
     refine GoR.nil ?_
     exact hX4 _ H _ _ ⟨jR, ⟨rfl, rfl, rfl, rfl, rfl, rfl, trivial⟩, hO, bW, aI, aJ, aK, aM, ap, bO, hB⟩
    replace H := ifn h90 H
    refine GoR.op ((fun w => opB (J0s rfl rfl w) (decide_eq_false h90)) _) rfl rfl ?_
    refine GoR.nil ?_
    refine Go1.seq ?_
    refine Go1.condF rfl rfl ?_
    refine Go1.exit rfl ?_
    refine Go1.seq ?_
    refine Go1.region ?_
    refine GoR.op ((oblk (i := 0) 1 hO rfl rfl Try.underlying26 rfl rfl) _ (Same.refl _)) rfl rfl ?_
    refine GoR.op ((J00 rfl) _) rfl rfl ?_
    obtain ⟨om, H⟩ := H
    obtain ⟨oo, H⟩ := H
    refine GoR.op ((J01 Try.underlying26 ti3 rfl rfl om (ltn (bW.neq hO 2 rfl) oo) (bW.psome hO 2 rfl om oo)) _) rfl rfl ?_
    refine GoR.op ((oldInt 2 hO rfl bW om oo Try.underlying3 rfl rfl) _ (Same.refl _)) rfl rfl ?_
    refine GoR.op ((J04 rfl) _) rfl rfl ?_
    refine GoR.nil ?_
    refine Go1.ret1 Try.func45 rfl ?_
    exact ⟨((ix d_87 i3_64), d_87), ⟨jR, rfl, hO, bW, hB⟩, H⟩
   replace H := ifn h71 H
   refine GoR.op ((fun w => opB (J0s rfl rfl w) (decide_eq_false h71)) _) rfl rfl ?_
   refine GoR.nil ?_
   refine Go1.condF rfl rfl ?_
   refine Go1.skip ?_
   refine Go1.seq ?_
   refine Go1.region ?_
   refine GoR.op ((oblk (i := 0) 1 hO rfl rfl Try.underlying26 rfl rfl) _ (Same.refl _)) rfl rfl ?_
   refine GoR.op ((J00 rfl) _) rfl rfl ?_
   obtain ⟨nM, H⟩ := H
   obtain ⟨nO, H⟩ := H
   refine GoR.op ((J01 Try.underlying26 ti3 rfl rfl nM (ltn (ld.neq hO 2 rfl) nO) (ld.psome hO 2 rfl nM nO)) _) rfl rfl ?_
   refine GoR.op ((oldInt 2 hO rfl ld nM nO Try.underlying3 rfl rfl) _ (Same.refl _)) rfl rfl ?_
   refine GoR.op ((J04 rfl) _) rfl rfl ?_
   refine GoR.nil ?_
   refine Go1.ret1 Try.func45 rfl ?_
   exact ⟨((ix d3_65 i3_64), d3_65), ⟨iu, rfl, hO, ld, hB⟩, H⟩
  ·intro hrec3
   refine GoR.call (J3a (vs := [.int .i64 (k2_59 : Int)]) (caps := [.pointer (some ⟨B27, 0, none⟩), .pointer (some ⟨B8, 0, none⟩), .pointer (some ⟨B50, 0, none⟩)]) body45 rfl rfl hrec3) rfl rfl ?_
   rintro Cf xd ⟨⟨r127, d128⟩, ⟨wL, rfl, hO, pC, hF⟩, H⟩
   dsimp only at H
   replace aI := aI.ch (hF.ch.app A)
   replace aJ := aJ.ch (hF.ch.app A)
   replace aK := aK.ch (hF.ch.app A)
   replace aM := aM.ch (hF.ch.app A)
   replace ap := ap.ch (hF.ch.app A)
   replace hB := hB.trans hF
   refine GoR.nil ?_
   refine Go1.inBlock ?_
   refine Go1.cut [(4, .pointer (some ⟨B27, 0, none⟩)), (6, .pointer (some ⟨B50, 0, none⟩)), (25, .int .i64 (d_37.length : Int)), (26, .int .i64 (k2_59 : Int))] ⟨rfl, rfl, rfl, rfl, trivial⟩ ?_
   intro σ _
   refine Go1.region ?_
   obtain ⟨yL, H⟩ := H
   refine GoR.op ((J06 rfl rfl (wrap_i64 yL)) _) rfl rfl ?_
   refine GoR.op ((J00 rfl) _) rfl rfl ?_
   refine GoR.nil ?_
   exact hX2 _ H _ _ ⟨wL, ⟨rfl, rfl, rfl, rfl, trivial⟩, hO, pC, aI, aJ, aK, aM, ap, hB⟩
 replace H := ifn h63 H
 refine GoR.op ((fun w => opB (J0s rfl rfl w) (decide_eq_false h63)) _) rfl rfl ?_
 refine GoR.nil ?_
 refine Go1.seq ?_
 refine Go1.condF rfl rfl ?_
 refine Go1.exit rfl ?_
 refine Go1.seq ?_
 refine Go1.region ?_
 refine GoR.op ((oblk (i := 0) 1 hO rfl rfl Try.underlying26 rfl rfl) _ (Same.refl _)) rfl rfl ?_
 refine GoR.op ((J04 rfl) _) rfl rfl ?_
 refine GoR.nil ?_
 have hobt := freeze 2 hO rfl pC
 obtain ⟨hO1, mH, wM, wN⟩ := hobt
 replace aI := aI.ch mH
 replace aJ := aJ.ch mH
 replace aK := aK.ch mH
 replace aM := aM.ch mH
 replace ap := ap.ch mH
 replace hB := hB.trans (Owns.J0W _ _ 2)
 replace hO := hO1; clear hO1
 refine Go1.ret1 Try.func23 rfl ?_
 exact ⟨d_60, p17, r1.Below.length, (congrArg (fun nn => Value.slice p17 nn r1.Below.length) wN), hB.same, (wM.ch (Ch.weak _ _ _)), H⟩
theorem body8 : Body Try.prog 8 := ⟨Try.f8, Try.func8, rfl, by kernel_rfl⟩
theorem J2j {A : List Nat} {w0 : World} (hA : ∀ b ∈ A, b < w0.heap.size) {K : Bool → Prop} (H : law15_awake  K) :
    CallsV Try.prog 8 #[] w0 (fun v w' => ∃ (r0 : Bool), v = .bool r0 ∧ Same w0 w' ∧ K r0) := by
 refine cal hA Try.func8 Try.ntmps8 fun hO hB => ?_
 unfold law15_awake at H
 refine au ?_
 refine zcr (J05 body21 rfl (J2x hO.lt H)) fun _ w2 => e3 fun r1 Cg Ci => sc0 hO fun s hO => d1 fun yM H => ?_
 refine zcr (J05 body9 rfl (J0B hO.lt yM H)) fun _ w4 => e4 fun r3 y4 y5 y6 => e4 fun y7 y8 y9 zc => e3 fun zd wO wP => sc0 hO fun s hO => d1 fun zh => d4 fun zj uz zl pD H => ?_
 refine sal hO fun w5 B6 s hO => ?_
 refine sba 0 hO fun w8 s hO => ?_
 refine sbu Fl.i 3 [(0 : Int), (0 : Int), (1 : Int)] hO fun w9 p10 s hO => ?_
 have yN := t1lend 0 hO
 have sK := t1n 0 hO
 have hOc14 := hO.drop 0
 refine zcr (J05 body22 (by rw [sK]; exact rfl) (J2w hOc14.lt (uz.u.ch (Owns.J5v _ _ 0)) yN H)) fun _ w16 => e1 fun r15 => sc0 hO fun s hO => fun H => ?_
 refine au ?_
 cases r15
 ·refine au ?_
  refine Go1.ret1 Try.func8 rfl ⟨_, er, frs, (iF H)⟩
 refine sln0 ?_
 refine scm ((iT H) pD.bd) (fun h17 H => ?_) fun h17 H => ?_
 ·refine au ?_
  refine zcr (J05 body21 rfl (J2x hO.lt H)) fun _ w19 => e3 fun r18 zJ zK => sc0 hO fun s hO => d1 fun wQ H => ?_
  refine zcr (J05 body23 rfl (J3m hO.lt wQ H)) fun _ w21 => e3 fun r20 zL zM => sc0 hO fun s hO => d1 fun wR H => ?_
  refine sbu Fl.i 3 [(0 : Int), (1 : Int)] hO fun w22 p23 s hO => ?_
  have yO := t1lend 0 hO
  have nU := t1n 0 hO
  have hOc27 := hO.drop 0
  refine zcr (J05 body22 (by rw [nU]; exact rfl) (J2w hOc27.lt (wR.u.ch (Owns.J5v _ _ 0)) yO H)) fun _ w29 => e1 fun r28 => sc0 hO fun s hO => fun H => ?_
  refine au ?_
  refine Go1.ret1 Try.func8 rfl ⟨_, er, frs, H⟩
 refine au ?_
 refine Go1.ret1 Try.func8 rfl ⟨_, er, frs, H⟩
theorem body37 : Body Try.prog 37 := ⟨Try.f37, Try.func37, rfl, by kernel_rfl⟩
theorem J2o {A : List Nat} {w0 : World} {p_t : Option Addr} {c_t : Nat} {t : List (List Int)} (hA : ∀ b ∈ A, b < w0.heap.size) (h_t : ISl (Rp.sl (Rp.int .i64)) A w0 p_t c_t t) {K : Int → Int → Int → Int → Prop} (H : J0r t K) :
    CallsV Try.prog 37 #[.slice p_t t.length c_t] w0 (fun v w' => ∃ (r0 : Int), ∃ (r1 : Int), ∃ (r2 : Int), ∃ (r3 : Int), v = .tuple #[.int .i64 r0, .int .i64 r1, .int .i64 r2, .int .i64 r3] ∧ Same w0 w' ∧ K r0 r1 r2 r3) := by
 refine cal hA Try.func37 Try.ntmps37 fun hO hB => ?_
 unfold J0r at H
 refine au ?_
 refine zcr (J05 body33 rfl (J3H hO.lt h_t.u H)) fun _ w2 => e1 fun r1 => sc0 hO fun s hO => fun H => ?_
 refine scm H (fun h3 H => ?_) fun h3 H => ?_
 ·refine sln0 ?_
  refine au ?_
  refine lv [0, 16] hO (H h_t.bd) (fun E k1_5 σ w => Lo A w0 σ w [(17, .int .i64 (k1_5 : Int))] []) ⟨agr, hO, fr⟩ ?_
  refine fun X1 => fun k1_5 => fun H hX1 σ w4 hk => lh hk fun hO hB => ?_
  revert hO; repeat (rename Owns .. => q; clear q)
  intro hO; repeat (rename Sq .. => q; clear q)
  refine scm H (fun h6 H => ?_) fun h6 H => ?_
  ·refine sln0 ?_
   refine au ?_
   refine lv [0, 7, 16, 17, 21] hO H (fun E k2_8 σ w => Lo A w0 σ w [(22, .int .i64 (k2_8 : Int))] []) ⟨agr, hO, fr⟩ ?_
   refine fun X2 => fun k2_8 => fun H hX2 σ w7 hk => lh hk fun hO hB => ?_
   revert hO; repeat (rename Owns .. => q; clear q)
   intro hO; repeat (rename Sq .. => q; clear q)
   refine scm H (fun h9 H => ?_) fun h9 H => ?_
   ·refine sln0 ?_
    refine au ?_
    refine lv [0, 7, 8, 16, 17, 21, 22, 26] hO H (fun E k3_11 σ w => Lo A w0 σ w [(27, .int .i64 (k3_11 : Int))] []) ⟨agr, hO, fr⟩ ?_
    refine fun X3 => fun k3_11 => fun H hX3 σ w10 hk => lh hk fun hO hB => ?_
    revert hO; repeat (rename Owns .. => q; clear q)
    intro hO; repeat (rename Sq .. => q; clear q)
    refine scm H (fun h12 H => ?_) fun h12 H => ?_
    ·refine au ?_
     refine drs 0 [q0, q0, q0, q0, q1, q0, q0, q1, q0, q1, q0, q0, q1, q0, q0, q0, q1, q0, q0, q0, q1, q0, q0, q1, q0, q1, q0] hO fun w13 s hO => ?_
     refine sxls hO h_t.u H.1 H.2.1 fun p14 c15 sL => ?_
     refine sxl hO sL.u H.2.2.1 H.2.2.2.1 ?_
     refine sxls hO h_t.u H.2.2.2.2.1 H.2.2.2.2.2.1 fun p17 c18 yP => ?_
     refine sxl hO yP.u H.2.2.2.2.2.2.1 H.2.2.2.2.2.2.2.1 ?_
     refine sxls hO h_t.u H.2.2.2.2.2.2.2.2.1 H.2.2.2.2.2.2.2.2.2.1 fun p20 c21 yQ => ?_
     refine sxls hO h_t.u H.2.2.2.2.2.2.2.2.2.2.1 H.2.2.2.2.2.2.2.2.2.2.2.1 fun p23 c24 nT => ?_
     refine sxl hO nT.u H.2.2.2.2.2.2.2.2.2.2.2.2.1 H.2.2.2.2.2.2.2.2.2.2.2.2.2.1 ?_
     refine sxl hO yQ.u H.2.2.2.2.2.2.2.2.2.2.2.2.2.2.1 H.2.2.2.2.2.2.2.2.2.2.2.2.2.2.2.1 ?_
     have h26 := H.1
     have h27 := H.2.1
     have h28 := H.2.2.1
     have h29 := H.2.2.2.1
     have h30 := H.2.2.2.2.1
     have h31 := H.2.2.2.2.2.1
     have h32 := H.2.2.2.2.2.2.1
     have h33 := H.2.2.2.2.2.2.2.1
     have h34 := H.2.2.2.2.2.2.2.2.1
     have h35 := H.2.2.2.2.2.2.2.2.2.1
     have h36 := H.2.2.2.2.2.2.2.2.2.2.1
     have h37 := H.2.2.2.2.2.2.2.2.2.2.2.1
     have h38 := H.2.2.2.2.2.2.2.2.2.2.2.2.1
     have h39 := H.2.2.2.2.2.2.2.2.2.2.2.2.2.1
     have h40 := H.2.2.2.2.2.2.2.2.2.2.2.2.2.2.1
     have h41 := H.2.2.2.2.2.2.2.2.2.2.2.2.2.2.2.1
     refine scm H.2.2.2.2.2.2.2.2.2.2.2.2.2.2.2.2 (fun h42 H => ?_) fun h42 H => ?_
     ·refine sinc (natbd h12 h_t.bd) ?_
      refine au ?_
      exact hX3 _ H _ _ agr ⟨agr, hO, fr⟩
     refine au ?_
     refine Go1.ret4 Try.func37 rfl ⟨_, _, _, _, er, frs, H⟩
    refine sinc (natbd h9 h_t.bd) ?_
    refine au ?_
    exact hX2 _ H _ _ agr ⟨agr, hO, fr⟩
   refine sinc (natbd h6 h_t.bd) ?_
   refine au ?_
   exact hX1 _ H _ _ agr ⟨agr, hO, fr⟩
  refine au ?_
  refine Go1.ret4 Try.func37 rfl ⟨_, _, _, _, er, frs, H⟩
 refine au ?_
 refine Go1.ret4 Try.func37 rfl ⟨_, _, _, _, er, frs, H⟩
theorem body15 : Body Try.prog 15 := ⟨Try.f15, Try.func15, rfl, by kernel_rfl⟩
theorem J2W {A : List Nat} {w0 : World} {p_t : Option Addr} {c_t : Nat} {t : List (List Int)} (hA : ∀ b ∈ A, b < w0.heap.size) (h_t : ISl (Rp.sl (Rp.int .i64)) A w0 p_t c_t t) {K : Int → Prop} (H : J0S t K) :
    CallsV Try.prog 15 #[.slice p_t t.length c_t] w0 (fun v w' => ∃ (r0 : Int), v = .int .i64 r0 ∧ Same w0 w' ∧ K r0) := by
 refine cal hA Try.func15 Try.ntmps15 fun hO hB => ?_
 unfold J0S at H
 refine au ?_
 refine zcr (J05 body37 rfl (J2o hO.lt h_t.u H)) fun _ w5 => e4 fun r1 r2 r3 r4 => sc0 hO fun s hO => fun H => ?_
 refine au ?_
 refine Go1.ret1 Try.func15 rfl ⟨_, er, frs, H⟩
end Sg
