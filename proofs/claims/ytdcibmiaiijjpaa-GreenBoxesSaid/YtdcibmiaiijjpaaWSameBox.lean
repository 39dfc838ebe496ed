/- -/
import Derived.Test.YtdcibmiaiijjpaaVd
namespace Sg
open Go Go.RowKit Go.Proofs
set_option linter.unusedVariables false
set_option linter.unusedSimpArgs false
set_option maxRecDepth 100000
set_option maxHeartbeats 4000000
theorem body22 : Body Try.prog 22 := ⟨Try.f22, Try.func22, rfl, by kernel_rfl⟩
theorem J0J {A : List Nat} {w0 : World} {p_a : Option Addr} {c_a : Nat} {p_b : Option Addr} {c_b : Nat} {a : List Int} {b : List Int} (hA : ∀ b ∈ A, b < w0.heap.size) (h_a : ISl (Rp.int .i64) A w0 p_a c_a a) (h_b : ISl (Rp.int .i64) A w0 p_b c_b b) {K : Bool → Prop} (H : J0Q a b K) :
    CallsV Try.prog 22 #[.slice p_a a.length c_a, .slice p_b b.length c_b] w0 (fun v w' => ∃ (r0 : Bool), v = .bool r0 ∧ Same w0 w' ∧ K r0) := by
 refine cal hA Try.func22 Try.ntmps22 fun hO hB => ?_
 unfold J0Q at H
 refine sln0 ?_
 refine sln0 ?_
 refine scm ((H h_a.bd) h_b.bd) (fun h1 H => ?_) fun h1 H => ?_
 ·refine sln0 ?_
  refine au ?_
  refine lv [0, 1, 12] hO H (fun E k1_3 σ w => Lo A w0 σ w [(13, .int .i64 (k1_3 : Int))] []) ⟨agr, hO, fr⟩ ?_
  refine fun X1 => fun k1_3 => fun H hX1 σ w2 hk => lh hk fun hO hB => ?_
  refine scm H (fun h4 H => ?_) fun h4 H => ?_
  ·refine au ?_
   refine drs 0 [q0, q0, q0, q1, q0, q0, q0, q1, q0] hO fun w5 s hO => ?_
   refine sxl hO h_a.u H.1 H.2.1 ?_
   refine sxl hO h_b.u H.2.2.1 H.2.2.2.1 ?_
   have h6 := H.1
   have h7 := H.2.1
   have h8 := H.2.2.1
   have h9 := H.2.2.2.1
   refine scm H.2.2.2.2 (fun h10 H => ?_) fun h10 H => ?_
   ·refine sinc (natbd h4 h_a.bd) ?_
    refine au ?_
    exact hX1 _ H _ _ agr ⟨agr, hO, fr⟩
   refine au ?_
   refine Go1.ret1 Try.func22 rfl ⟨_, er, frs, H⟩
  refine au ?_
  refine Go1.ret1 Try.func22 rfl ⟨_, er, frs, H⟩
 refine au ?_
 refine Go1.ret1 Try.func22 rfl ⟨_, er, frs, H⟩
theorem body42 : Body Try.prog 42 := ⟨Try.f42, Try.func42, rfl, by kernel_rfl⟩
theorem J3C {A : List Nat} {w0 : World} {p_a : Option Addr} {c_a : Nat} {p_b : Option Addr} {c_b : Nat} {a : List (List Int)} {b : List (List Int)} (hA : ∀ b ∈ A, b < w0.heap.size) (h_a : ISl (Rp.sl (Rp.int .i64)) A w0 p_a c_a a) (h_b : ISl (Rp.sl (Rp.int .i64)) A w0 p_b c_b b) {K : Bool → Prop} (H : J13 a b K) :
    CallsV Try.prog 42 #[.slice p_a a.length c_a, .slice p_b b.length c_b] w0 (fun v w' => ∃ (r0 : Bool), v = .bool r0 ∧ Same w0 w' ∧ K r0) := by
 refine cal hA Try.func42 Try.ntmps42 fun hO hB => ?_
 unfold J13 at H
 refine sln0 ?_
 refine sln0 ?_
 refine scm ((H h_a.bd) h_b.bd) (fun h1 H => ?_) fun h1 H => ?_
 ·refine sln0 ?_
  refine au ?_
  refine lv [0, 1, 12] hO H (fun E k1_3 σ w => Lo A w0 σ w [(13, .int .i64 (k1_3 : Int))] []) ⟨agr, hO, fr⟩ ?_
  refine fun X1 => fun k1_3 => fun H hX1 σ w2 hk => lh hk fun hO hB => ?_
  refine scm H (fun h4 H => ?_) fun h4 H => ?_
  ·refine au ?_
   refine drs 0 [q0, q0, q0, q1, q0, q0, q0, q1, q2, q0] hO fun w5 s hO => ?_
   refine sxls hO h_a.u H.1 H.2.1 fun p6 c7 hi8 => ?_
   refine sxls hO h_b.u H.2.2.1 H.2.2.2.1 fun p9 c10 CD => ?_
   have h14 := H.1
   have h15 := H.2.1
   have h16 := H.2.2.1
   have h17 := H.2.2.2.1
   refine zcq rfl (J04 body22 rfl (J0J hO.lt hi8.u CD.u H.2.2.2.2)) fun _ w13 => e1 fun r12 => sq0 hO fun s hO => fun H => ?_
   cases r12
   ·refine au ?_
    refine Go1.ret1 Try.func42 rfl ⟨_, er, frs, (iF H)⟩
   refine sinc (natbd h4 h_a.bd) ?_
   refine au ?_
   exact hX1 _ (iT H) _ _ agr ⟨agr, hO, fr⟩
  refine au ?_
  refine Go1.ret1 Try.func42 rfl ⟨_, er, frs, H⟩
 refine au ?_
 refine Go1.ret1 Try.func42 rfl ⟨_, er, frs, H⟩
theorem body17 : Body Try.prog 17 := ⟨Try.f17, Try.func17, rfl, by kernel_rfl⟩
theorem J0G {A : List Nat} {w0 : World} {oC : Option Addr} {oD : Nat} {oE : Option Addr} {oF : Nat} {nO : Option Addr} {nP : Nat} {ne : Option Addr} {nf : Nat} {oG : Option Addr} {oH : Nat} {oI : Option Addr} {oJ : Nat} {nQ : Option Addr} {nS : Nat} {ng : Option Addr} {nh : Nat} {a0 : Box} {a1 : Box} (hA : ∀ b ∈ A, b < w0.heap.size) (rN : ISl (Rp.int .i64) A w0 oC oD a0.Rows) (rO : ISl (Rp.int .i64) A w0 oE oF a0.Cols) (mD : ISl (Rp.sl (Rp.sl (Rp.int .i64))) A w0 nO nP a0.Cells) (jT : ISl (Rp.sl (Rp.bool)) A w0 ne nf a0.Groups) (rP : ISl (Rp.int .i64) A w0 oG oH a1.Rows) (rQ : ISl (Rp.int .i64) A w0 oI oJ a1.Cols) (nT : ISl (Rp.sl (Rp.sl (Rp.int .i64))) A w0 nQ nS a1.Cells) (k8 : ISl (Rp.sl (Rp.bool)) A w0 ng nh a1.Groups) {K : Bool → Prop} (H : J0e a0 a1 K) :
    CallsV Try.prog 17 #[.agg #[.slice oC a0.Rows.length oD, .slice oE a0.Cols.length oF, .slice nO a0.Cells.length nP, .slice ne a0.Groups.length nf], .agg #[.slice oG a1.Rows.length oH, .slice oI a1.Cols.length oJ, .slice nQ a1.Cells.length nS, .slice ng a1.Groups.length nh]] w0 (fun v w' => ∃ (r0 : Bool), v = .bool r0 ∧ Same w0 w' ∧ K r0) := by
 refine cal hA Try.func17 Try.ntmps17 fun hO hB => ?_
 unfold J0e at H
 refine sbx hO fun w1 B2 s hO => ?_
 refine sbx hO fun w4 B5 s hO => ?_
 refine au ?_
 refine zcr (J04 body22 rfl (J0J hO.lt rN.u rP.u H)) fun _ w8 => e1 fun r7 => sc0 hO fun s hO => fun H => ?_
 cases r7
 ·refine au ?_
  refine Go1.ret1 Try.func17 rfl ⟨_, er, frs, (iF H)⟩
 refine au ?_
 refine zcr (J04 body22 rfl (J0J hO.lt rO.u rQ.u (iT H))) fun _ w10 => e1 fun r9 => sc0 hO fun s hO => fun H => ?_
 cases r9
 ·refine au ?_
  refine Go1.ret1 Try.func17 rfl ⟨_, er, frs, (iF H)⟩
 refine sln0 ?_
 refine sln0 ?_
 refine scm (((iT H) mD.bd) nT.bd) (fun h11 H => ?_) fun h11 H => ?_
 ·refine sln0 ?_
  refine sln0 ?_
  refine scm ((H jT.bd) k8.bd) (fun h12 H => ?_) fun h12 H => ?_
  ·refine sln0 ?_
   refine au ?_
   refine lv [2, 3, 42] hO H (fun E k1_14 σ w => Lo A w0 σ w [(43, .int .i64 (k1_14 : Int))] E) ⟨agr, hO, fr⟩ ?_
   refine fun X1 => fun k1_14 => fun H hX1 σ w13 hk => lh hk fun hO hB => ?_
   revert hO; repeat (rename Owns .. => q; clear q)
   intro hO; repeat (rename Sq .. => q; clear q)
   refine scm H (fun h15 H => ?_) fun h15 H => ?_
   ·refine au ?_
    refine drs 0 [q0, q1, q0, q0, q1, q0, q1, q0, q0, q1, q2, q0] hO fun w16 s hO => ?_
    refine sxls hO mD.u H.1 H.2.1 fun p17 c18 uN => ?_
    refine sxls hO nT.u H.2.2.1 H.2.2.2.1 fun p20 c21 uO => ?_
    have h25 := H.1
    have h26 := H.2.1
    have h27 := H.2.2.1
    have h28 := H.2.2.2.1
    refine zcq rfl (J04 body42 rfl (J3C hO.lt uN.u uO.u H.2.2.2.2)) fun _ w24 => e1 fun r23 => sq0 hO fun s hO => fun H => ?_
    cases r23
    ·refine au ?_
     refine Go1.ret1 Try.func17 rfl ⟨_, er, frs, (iF H)⟩
    refine sinc (natbd h15 mD.bd) ?_
    refine au ?_
    exact hX1 _ (iT H) _ _ agr ⟨agr, hO, fr⟩
   refine sln0 ?_
   refine au ?_
   refine lv [2, 3, 61] hO H (fun E k2_30 σ w => Lo A w0 σ w [(62, .int .i64 (k2_30 : Int))] E) ⟨agr, hO, fr⟩ ?_
   refine fun X2 => fun k2_30 => fun H hX2 σ w29 hk => lh hk fun hO hB => ?_
   revert hO; repeat (rename Owns .. => q; clear q)
   intro hO; repeat (rename Sq .. => q; clear q)
   refine scm H (fun h31 H => ?_) fun h31 H => ?_
   ·refine au ?_
    refine drs 0 [q0, q1, q0, q0, q1, q0, q0, q1, q0, q0, q1, q0, q0] hO fun w32 s hO => ?_
    refine sxls hO jT.u H.1 H.2.1 fun p33 c34 pM => ?_
    refine sln0 ?_
    refine sxls hO k8.u (H.2.2 pM.bd).1 (H.2.2 pM.bd).2.1 fun p36 c37 CE => ?_
    refine sln0 ?_
    have h39 := H.1
    have h40 := H.2.1
    have h41 := (H.2.2 pM.bd).1
    have h42 := (H.2.2 pM.bd).2.1
    refine scm ((H.2.2 pM.bd).2.2 CE.bd) (fun h43 H => ?_) fun h43 H => ?_
    ·refine sxls hO jT.u H.1 H.2.1 fun p44 c45 oX => ?_
     refine sln0 ?_
     refine au ?_
     have h49 := H.1
     have h50 := H.2.1
     refine lv [2, 3, 6, 61, 62, 83] hO H.2.2 (fun E k3_48 σ w => Lo A w0 σ w [(84, .int .i64 (k3_48 : Int))] E) ⟨agr, hO, fr⟩ ?_
     refine fun X3 => fun k3_48 => fun H hX3 σ w47 hk => lh hk fun hO hB => ?_
     revert hO; repeat (rename Owns .. => q; clear q)
     intro hO; repeat (rename Sq .. => q; clear q)
     refine scm H (fun h51 H => ?_) fun h51 H => ?_
     ·refine au ?_
      refine drs 0 [q0, q1, q0, q0, q1, q0, q0, q1, q0, q1, q0, q0, q1, q0, q0, q1, q0] hO fun w52 s hO => ?_
      refine sxls hO jT.u H.1 H.2.1 fun p53 c54 pk => ?_
      refine au ?_
      have h56 := H.1
      have h57 := H.2.1
      have h58 := H.2.2.1
      have h59 := H.2.2.2.1
      refine sxb hO pk.u H.2.2.1 H.2.2.2.1 H.2.2.2.2 (fun h60 H => ?_) fun h60 H => ?_
      ·refine sxls hO k8.u H.1 H.2.1 fun p61 c62 CF => ?_
       refine au ?_
       have h64 := H.1
       have h65 := H.2.1
       have h66 := H.2.2.1
       have h67 := H.2.2.2.1
       refine sxb hO CF.u H.2.2.1 H.2.2.2.1 H.2.2.2.2 (fun h68 H => ?_) fun h68 H => ?_
       ·refine GoQ.pure rfl (J5i Try.underlying4 rfl rfl) rfl rfl ?_
        refine sinc (natbd h51 pk.bd) ?_
        refine au ?_
        exact hX3 _ H _ _ agr ⟨agr, hO, fr⟩
       refine GoQ.pure rfl (J5i Try.underlying4 rfl rfl) rfl rfl ?_
       refine au ?_
       refine Go1.ret1 Try.func17 rfl ⟨_, er, frs, H⟩
      refine sxls hO k8.u H.1 H.2.1 fun p69 c70 CG => ?_
      refine au ?_
      have h72 := H.1
      have h73 := H.2.1
      have h74 := H.2.2.1
      have h75 := H.2.2.2.1
      refine sxb hO CG.u H.2.2.1 H.2.2.2.1 H.2.2.2.2 (fun h76 H => ?_) fun h76 H => ?_
      ·refine GoQ.pure rfl (J5i Try.underlying4 rfl rfl) rfl rfl ?_
       refine au ?_
       refine Go1.ret1 Try.func17 rfl ⟨_, er, frs, H⟩
      refine GoQ.pure rfl (J5i Try.underlying4 rfl rfl) rfl rfl ?_
      refine sinc (natbd h51 pk.bd) ?_
      refine au ?_
      exact hX3 _ H _ _ agr ⟨agr, hO, fr⟩
     refine sinc (natbd h31 jT.bd) ?_
     refine au ?_
     exact hX2 _ H _ _ agr ⟨agr, hO, fr⟩
    refine au ?_
    refine Go1.ret1 Try.func17 rfl ⟨_, er, frs, H⟩
   refine au ?_
   refine Go1.ret1 Try.func17 rfl ⟨_, er, frs, H⟩
  refine au ?_
  refine Go1.ret1 Try.func17 rfl ⟨_, er, frs, H⟩
 refine au ?_
 refine Go1.ret1 Try.func17 rfl ⟨_, er, frs, H⟩
end Sg
