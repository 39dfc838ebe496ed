/- -/
import Derived.Test.YtlneebpmblkllaaVd
import Derived.Test.YtlneebpmblkllaaWSyntacticJoint
import Derived.Test.YtlneebpmblkllaaWSyntacticMonoids
import Derived.Test.YtlneebpmblkllaaWSyntacticMonoidsc
import Derived.Test.YtlneebpmblkllaaWSyntacticMonoidsf
namespace Sg
open Go Go.RowKit Go.Proofs Try
set_option linter.unusedVariables false
set_option linter.unusedSimpArgs false
set_option maxRecDepth 100000
set_option maxHeartbeats 4000000
variable {A : List Nat} {w0 : World}
theorem body76 : Body prog 76 := ⟨f76, func76, rfl, by kernel_rfl⟩
theorem J2d {t8 : Option Addr} {t9 : Nat} {list : List Int} {n : Int} (hA : HA0 A w0) (oL : ISi A w0 t8 t9 list) {K : Bool → Prop} (H : J0u list n K) :
    CallsV prog 76 #[.slice t8 list.length t9, .int .i64 n] w0 (fun v w' => ∃ (r0 : Bool), v = .bool r0 ∧ Same w0 w' ∧ K r0) := by
 refine cal hA func76 ntmps76 fun hO hB => ?_
 unfold J0u at H
 refine sln0 ?_
 refine au ?_
 refine lv [1, 7, 8] hO (H oL.bd) (fun E k1_2 σ w => Lo A w0 σ w [(9, .int .i64 (k1_2 : Int))] []) ⟨agr, hO, fr⟩ ?_
 refine fun X1 => fun k1_2 => fun H hX1 σ w1 hk => d2 fun hag hO hB => keep2 hk hag ?_
 refine scm H (fun h3 H => ?_) fun h3 H => ?_
 ·refine sxl hO oL.u H.1 H.2.1 ?_
  refine au ?_
  have h4 := H.1
  have h5 := H.2.1
  refine scm H.2.2 (fun h6 H => ?_) fun h6 H => ?_
  ·refine au ?_
   refine Go1.ret1 func76 rfl ⟨_, er, frs, H⟩
  refine scm H (fun h7 H => ?_) fun h7 H => ?_
  ·refine au ?_
   refine Go1.ret1 func76 rfl ⟨_, er, frs, H⟩
  refine sinc (natbd h3 oL.bd) ?_
  refine au ?_
  exact hX1 _ H _ _ agr ⟨agr, hO, fr⟩
 refine au ?_
 refine Go1.ret1 func76 rfl ⟨_, er, frs, H⟩
theorem body71 : Body prog 71 := ⟨f71, func71, rfl, by kernel_rfl⟩
theorem J49 {dT dV dF dH eo : Option Addr} {dU dW dG dI eA : Nat} {a0 : Syntactic} (hA : HA0 A w0) (cv : ISs A w0 dT dU a0.Table) (du : ISt A w0 dV dW a0.Words) (cD : ISi A w0 dF dG a0.Images) (cW : ISb A w0 dH dI a0.Accept) (dX : ISb A w0 eo eA a0.Plus) {K : Bool → Prop} (H : J0N a0 K) :
    CallsV prog 71 #[.agg (cSY a0 dT dU dV dW dF dG dH dI eo eA)] w0 (fun v w' => ∃ (r0 : Bool), v = .bool r0 ∧ Same w0 w' ∧ K r0) := by
 refine cal hA func71 ntmps71 fun hO hB => ?_
 unfold J0N at H
 refine sbx hO fun w1 B2 s hO => ?_
 refine sln0 ?_
 refine scm (H cv.bd) (fun h4 H => ?_) fun h4 H => ?_
 ·refine au ?_
  refine Go1.ret1 func71 rfl ⟨_, er, frs, H⟩
 refine scm H (fun h5 H => ?_) fun h5 H => ?_
 ·refine au ?_
  refine Go1.ret1 func71 rfl ⟨_, er, frs, H⟩
 refine scm H (fun h6 H => ?_) fun h6 H => ?_
 ·refine au ?_
  refine Go1.ret1 func71 rfl ⟨_, er, frs, H⟩
 refine scm H (fun h7 H => ?_) fun h7 H => ?_
 ·refine au ?_
  refine Go1.ret1 func71 rfl ⟨_, er, frs, H⟩
 refine sln0 ?_
 refine scm (H du.bd) (fun h8 H => ?_) fun h8 H => ?_
 ·refine sln0 ?_
  refine scm (H cW.bd) (fun h9 H => ?_) fun h9 H => ?_
  ·refine sln0 ?_
   refine scm (H dX.bd) (fun h10 H => ?_) fun h10 H => ?_
   ·refine sln0 ?_
    refine scm (H cD.bd) (fun h11 H => ?_) fun h11 H => ?_
    ·refine sln0 ?_
     refine au ?_
     refine lv [1, 3, 53, 54] hO H (fun E fU σ w => Lo A w0 σ w [(55, .int .i64 (fU : Int))] E) ⟨agr, hO, fr⟩ ?_
     refine fun X1 => fun fU => fun H hX1 σ w12 hk => d2 fun hag hO hB => keep2 hk hag ?_
     revert hO; repeat (rename Owns .. => q; clear q)
     intro hO; repeat (rename Sq .. => q; clear q)
     refine scm H (fun h14 H => ?_) fun h14 H => ?_
     ·refine sxls hO cv.u H.1 H.2.1 fun p15 c16 Dd => ?_
      refine sln0 ?_
      refine au ?_
      have h18 := H.1
      have h19 := H.2.1
      refine scm (H.2.2 Dd.bd) (fun h20 H => ?_) fun h20 H => ?_
      ·refine au ?_
       refine zcr (J01 body76 rfl (J2d hO.lt Dd.u H)) fun _ w22 => e1 fun r21 => sc0 hO fun s hO => fun H => ?_
       cases r21
       ·refine au ?_
        refine Go1.ret1 func71 rfl ⟨_, er, frs, (iF H)⟩
       refine sinc (natbd h14 cv.bd) ?_
       refine au ?_
       exact hX1 _ (iT H) _ _ agr ⟨agr, hO, fr⟩
      refine au ?_
      refine Go1.ret1 func71 rfl ⟨_, er, frs, H⟩
     refine au ?_
     refine zcr (J01 body76 rfl (J2d hO.lt cD.u H)) fun _ w24 => e1 fun r23 => sc0 hO fun s hO => fun H => ?_
     refine au ?_
     refine Go1.ret1 func71 rfl ⟨_, er, frs, H⟩
    refine au ?_
    refine Go1.ret1 func71 rfl ⟨_, er, frs, H⟩
   refine au ?_
   refine Go1.ret1 func71 rfl ⟨_, er, frs, H⟩
  refine au ?_
  refine Go1.ret1 func71 rfl ⟨_, er, frs, H⟩
 refine au ?_
 refine Go1.ret1 func71 rfl ⟨_, er, frs, H⟩
theorem body72 : Body prog 72 := ⟨f72, func72, rfl, by kernel_rfl⟩
theorem J1q {p_s__Table p_s__Words p_s__Images p_s__Accept p_s__Plus : Option Addr} {c_s__Table c_s__Words c_s__Images c_s__Accept c_s__Plus : Nat} {s_ : Syntactic} (hA : HA0 A w0) (h_s__Table : ISs A w0 p_s__Table c_s__Table s_.Table) (h_s__Words : ISt A w0 p_s__Words c_s__Words s_.Words) (h_s__Images : ISi A w0 p_s__Images c_s__Images s_.Images) (h_s__Accept : ISb A w0 p_s__Accept c_s__Accept s_.Accept) (h_s__Plus : ISb A w0 p_s__Plus c_s__Plus s_.Plus) {K : DFA → Prop} (H : J0k s_ K) :
    CallsV prog 72 #[.agg (cSY s_ p_s__Table c_s__Table p_s__Words c_s__Words p_s__Images c_s__Images p_s__Accept c_s__Accept p_s__Plus c_s__Plus)] w0 (fun v w' => ∃ (r0 : DFA), ∃ (aI : Option Addr), ∃ (aJ : Nat), ∃ (aT : Option Addr), ∃ (aU : Nat), v = .agg (cDF r0 aI aJ aT aU) ∧ Same w0 w' ∧ ISb A w' aI aJ r0.Final ∧ ISs A w' aT aU r0.Next ∧ K r0) := by
 refine cal hA func72 ntmps72 fun hO hB => ?_
 unfold J0k at H
 refine sbx hO fun w1 B2 s hO => ?_
 refine sal hO fun w4 B5 s hO => ?_
 refine au ?_
 refine drA Same.tr 1 [(0, m0), (1, m1), (2, m0), (3, m1), (5, m0), (6, m1), (7, m0), (4, m2), (8, m4), (9, m0), (10, m4), (11, m3)] hO fun w7 s hO => ?_
 have hn8 := hO.le
 have hw9 := (fr : Fr (bl []) w0 _ w7).ch.size
 refine au ?_
 refine sbl 1 ?_
 refine au ?_
 refine sbl 1 ?_
 refine au ?_
 refine sbl 1 ?_
 refine sln0 ?_
 refine GoQA.loudI rfl rfl fun w10 A11 QS => ?_
 refine sgw QS hO fun s hO => ?_
 refine GoAt.call (J01 body69 rfl (J48 hO.lt h_s__Accept.u (H h_s__Table.bd))) (fun _ _ hr => ⟨fun _ => saq hr, Same.kp hO (saq hr)⟩) rfl fun _ w15 => e4 fun r13 y5 tu tv => sA1 hO fun s hO => fun H => ?_
 obtain ⟨h27, H⟩ := H
 obtain ⟨h28, H⟩ := H
 refine GoQA.alloc rfl rfl (alMake2 (e' := 3) Fl.i underlying23 ti31 h27 h28 (by decide) rfl rfl) ?_
 intro w18 A19 b20 A21 QT QU hd24 hnb25 hh26
 refine sgw QT hO fun s hO => ?_
 refine sgn (e := t2 Fl.i 31 3 (some ⟨b20, 0, none⟩) s_.Table.length s_.Table.length ((fun _ => (none, 0))) (List.replicate s_.Table.length ([] : List Int))) QU hO hn8 hw9 hnb25 (J7p b20) hh26 hd24 (fr : Fr (bl []) w0 _ w18) fun s hO hB => ?_
 refine GoQA.pure rfl (J04 underlying25 ti25 (pl := [(0, 1), (1, 1), (2, 1), (3, 1)]) (vs := [(0, .int .i64 s_.Letters), (2, .slice tu y5 tv), (3, .slice (some ⟨b20, 0, none⟩) s_.Table.length s_.Table.length)]) (cs := #[.int .i64 s_.Letters, .int .i64 (0 : Int), .slice tu y5 tv, .slice (some ⟨b20, 0, none⟩) s_.Table.length s_.Table.length]) (by kernel_rfl) rfl (by kernel_rfl)) rfl rfl ?_
 refine GoQA.alloc rfl rfl (alAlloc (cs := #[.int .i64 (0 : Int), .int .i64 (0 : Int), .slice none 0 0, .slice none 0 0]) ti25 rfl) ?_
 intro w30 A31 b32 A33 QV QW hd36 hnb37 hh38
 refine sgw QV hO fun s hO => ?_
 refine sgn (e := .blk b32 (.cells #[.int .i64 (0 : Int), .int .i64 (0 : Int), .slice none 0 0, .slice none 0 0] 25 (0, 0))) QW hO hn8 hw9 hnb37 rfl hh38 hd36 (fr : Fr (bl []) w0 _ w30) fun s hO hB => ?_
 refine GoQA.lastI rfl rfl fun w39 A40 QX => ?_
 refine sgw QX hO fun s hO => ?_
 refine sba 0 hO fun w42 s hO => ?_
 refine GoQA.nil fun w43 A44 QY Q0 => ?_
 refine sgw QY hO fun s hO => ?_
 refine spm Q0 hO fun s hO => ?_
 refine sln0 ?_
 refine au ?_
 refine lv [1, 2, 3, 19, 20] hO H (fun E (jy, d_49) σ w => ∃ x5, Lo A w0 σ w [(21, .int .i64 (jy : Int))] (E.set 1 (t2 Fl.i 31 3 (some ⟨b20, 0, none⟩) s_.Table.length s_.Table.length x5 d_49))) ⟨_, ⟨agr, hO, fr⟩⟩ ?_
 refine fun X1 => p1 fun jy d_49 => fun H hX1 σ w47 hk => e1 fun x5 => d2 fun hag hO hB => keep2 hk hag ?_
 dsimp only [esets, sS, sZ] at hO hB
 dsimp only at H
 revert hO; repeat (rename Owns .. => q; clear q)
 intro hO; repeat (rename Sq .. => q; clear q)
 refine scm H (fun h51 H => ?_) fun h51 H => ?_
 ·refine sxls hO h_s__Table.u H.1 H.2.1 fun p52 c53 oM => ?_
  refine au ?_
  refine drs 1 [q0, q1, q0, q0, q1, q2, q0, q3] hO fun w55 s hO => ?_
  refine smk Fl.i H.2.2 hO fun w56 p57 s hO => ?_
  have h59 := H.1
  have h60 := H.2.1
  replace H := H.2.2.2.2
  obtain ⟨h61, H⟩ := H
  obtain ⟨h62, H⟩ := H
  refine GoQ.pure rfl (J05 underlying23 ti31 rfl rfl h61 (ltn (t2neq 2 hO rfl) h62) (t2some 2 hO rfl h61 h62)) rfl rfl ?_
  refine op1 0 hO fun aeO s hO Q1 => ?_
  refine sfr 2 hO fun s hO => ?_
  refine sfr 1 hO fun s hO => ?_
  have zz := t2put (hf := Fl.i) hO Q1.u h61 h62
  obtain ⟨w65, KQ, KR⟩ := zz
  refine GoQ.last rfl (KR underlying31 rfl ti31 (by exact rfl) (by exact rfl)) rfl rfl ?_
  refine nst KQ fun s hO => ?_
  refine sln0 ?_
  refine au ?_
  refine lv [1, 2, 3, 4, 5, 19, 20, 21, 34, 35] hO (H h_s__Images.bd) (fun E (k2_69, d_70) σ w => (fun Z => Lo A w0 σ w [(36, .int .i64 (k2_69 : Int))] Z ∧ ISi (bl Z ++ A) w p52 c53 (ix s_.Table (jy : Int))) (E.set 0 (t2 Fl.i 31 3 (some ⟨b20, 0, none⟩) s_.Table.length s_.Table.length (hup x5 (jy : Int).toNat (p57, s_.Letters.toNat)) d_70))) ⟨⟨agr, hO, fr⟩, oM.u⟩ ?_
  refine fun X2 => p1 fun k2_69 d_70 => fun H hX2 σ w68 hk => d1 fun hL => fun oM => d2 (fun hag hO hB => keep2 hk hag ?_) hL
  dsimp only [esets, sS, sZ] at hO hB oM
  dsimp only at H
  revert hO; repeat (rename Owns .. => q; clear q)
  intro hO; repeat (rename Sq .. => q; clear q)
  refine scm H (fun h71 H => ?_) fun h71 H => ?_
  ·refine sxl hO h_s__Images.u H.1 H.2.1 ?_
   refine au ?_
   refine drs 1 [q0, q1, q0, q0, q1, q0, q0, q0, q0, q1, q0, q3] hO fun w72 s hO => ?_
   refine au ?_
   have h73 := H.1
   have h74 := H.2.1
   replace H := H.2.2
   obtain ⟨h75, H⟩ := H
   obtain ⟨h76, H⟩ := H
   refine GoQ.pure rfl (J05 underlying23 ti31 rfl rfl h75 (ltn (t2neq 0 hO rfl) h76) (t2some 0 hO rfl h75 h76)) rfl rfl ?_
   refine GoQ.stable rfl (t2head 0 hO rfl h75 h76 underlying31 rfl rfl) rfl rfl ?_
   refine sxl hO oM.u H.1 H.2.1 ?_
   have h77 := H.1
   have h78 := H.2.1
   replace H := H.2.2
   obtain ⟨h79, H⟩ := H
   obtain ⟨h80, H⟩ := H
   refine GoQ.pure rfl (J05 underlying31 ti3 rfl rfl h79 h80 (t2isome 0 hO rfl h75 h76 h79 h80)) rfl rfl ?_
   have zz := t2st (r := Rp.int .i64) (hf := Fl.i) rfl 0 hO rfl h75 h76 h79 h80 (v := .int .i64 (ix (ix s_.Table (jy : Int)) (ix s_.Images (k2_69 : Int)))) (u := (ix (ix s_.Table (jy : Int)) (ix s_.Images (k2_69 : Int)))) rfl rfl
   obtain ⟨w81, pG, pI⟩ := zz
   refine GoQ.last rfl (pI underlying3 rfl ti3 (by exact rfl) (by exact rfl)) rfl rfl ?_
   refine nst pG fun s hO => ?_
   refine sinc (natbd h71 h_s__Images.bd) ?_
   refine au ?_
   exact hX2 _ H _ _ agr ⟨⟨agr, hO, fr⟩, oM.u⟩
  refine sinc (natbd h51 h_s__Table.bd) ?_
  refine au ?_
  refine sfr 4 hO fun s hO => ?_
  refine sfr 4 hO fun s hO => ?_
  refine sfr 4 hO fun s hO => ?_
  refine sfr 3 hO fun s hO => ?_
  refine sfr 4 hO fun s hO => ?_
  exact hX1 _ H _ _ agr ⟨_, ⟨agr, hO, fr⟩⟩
 refine sag 0 hO ?_
 refine sba 3 hO fun w84 s hO => ?_
 refine au ?_
 refine sfz 2 hO fun s hO vP nM => ?_
 refine sfz2 1 hO fun s hO Q3 Q4 => ?_
 refine Go1.retC1 func72 rfl rfl (rlb 1 hO) ⟨((⟨s_.Letters, (0 : Int), r13, d_49⟩ : DFA)), _, _, _, _, ?_, frs, vP.r, Q3.r, H⟩
 exact (congrArg (fun l => Value.agg (List.toArray l)) (J02 rfl (J02 rfl (J02 (congrArg (fun nn => Value.slice tu nn tv) nM) (J02 (congrArg (fun nn => Value.slice (some ⟨b20, 0, none⟩) nn s_.Table.length) Q4) rfl)))))
theorem body73 : Body prog 73 := ⟨f73, func73, rfl, by kernel_rfl⟩
theorem J2a {jf jh : Option Addr} {jg ji : Nat} {s1 s2 : List Int} (hA : HA0 A w0) (fT : ISi A w0 jf jg s1) (ik : ISi A w0 jh ji s2) {K : Bool → Prop} (H : J0P s1 s2 K) :
    CallsV prog 73 #[.slice jf s1.length jg, .slice jh s2.length ji] w0 (fun v w' => ∃ (r0 : Bool), v = .bool r0 ∧ Same w0 w' ∧ K r0) := by
 refine cal hA func73 ntmps73 fun hO hB => ?_
 unfold J0P at H
 refine sln0 ?_
 refine sln0 ?_
 refine scm ((H fT.bd) ik.bd) (fun h1 H => ?_) fun h1 H => ?_
 ·refine sln0 ?_
  refine au ?_
  refine lv [0, 1, 12] hO H (fun E k1_3 σ w => Lo A w0 σ w [(13, .int .i64 (k1_3 : Int))] []) ⟨agr, hO, fr⟩ ?_
  refine fun X1 => fun k1_3 => fun H hX1 σ w2 hk => d2 fun hag hO hB => keep2 hk hag ?_
  refine scm H (fun h4 H => ?_) fun h4 H => ?_
  ·refine au ?_
   refine drs 0 [q0, q0, q0, q1, q0, q0, q0, q1, q0] hO fun w5 s hO => ?_
   refine sxl hO fT.u H.1 H.2.1 ?_
   refine sxl hO ik.u H.2.2.1 H.2.2.2.1 ?_
   have h6 := H.1
   have h7 := H.2.1
   have h8 := H.2.2.1
   have h9 := H.2.2.2.1
   refine scm H.2.2.2.2 (fun h10 H => ?_) fun h10 H => ?_
   ·refine sinc (natbd h4 fT.bd) ?_
    refine au ?_
    exact hX1 _ H _ _ agr ⟨agr, hO, fr⟩
   refine au ?_
   refine Go1.ret1 func73 rfl ⟨_, er, frs, H⟩
  refine au ?_
  refine Go1.ret1 func73 rfl ⟨_, er, frs, H⟩
 refine au ?_
 refine Go1.ret1 func73 rfl ⟨_, er, frs, H⟩
theorem body74 : Body prog 74 := ⟨f74, func74, rfl, by kernel_rfl⟩
theorem J3s {jf jh : Option Addr} {jg ji : Nat} {s1 s2 : List Str} (hA : HA0 A w0) (fT : ISt A w0 jf jg s1) (ik : ISt A w0 jh ji s2) {K : Bool → Prop} (H : J0L s1 s2 K) :
    CallsV prog 74 #[.slice jf s1.length jg, .slice jh s2.length ji] w0 (fun v w' => ∃ (r0 : Bool), v = .bool r0 ∧ Same w0 w' ∧ K r0) := by
 refine cal hA func74 ntmps74 fun hO hB => ?_
 unfold J0L at H
 refine sln0 ?_
 refine sln0 ?_
 refine scm ((H fT.bd) ik.bd) (fun h1 H => ?_) fun h1 H => ?_
 ·refine sln0 ?_
  refine au ?_
  refine lv [0, 1, 12] hO H (fun E k1_3 σ w => Lo A w0 σ w [(13, .int .i64 (k1_3 : Int))] []) ⟨agr, hO, fr⟩ ?_
  refine fun X1 => fun k1_3 => fun H hX1 σ w2 hk => d2 fun hag hO hB => keep2 hk hag ?_
  refine scm H (fun h4 H => ?_) fun h4 H => ?_
  ·refine au ?_
   refine drs 0 [q0, q0, q0, q1, q0, q0, q0, q1, q0] hO fun w5 s hO => ?_
   refine sxl hO fT.u H.1 H.2.1 ?_
   have hle6 := ISl.J8B fT H.1 H.2.1
   refine sxl hO ik.u H.2.2.1 H.2.2.2.1 ?_
   have hle7 := ISl.J8B ik H.2.2.1 H.2.2.2.1
   have h8 := H.1
   have h9 := H.2.1
   have h10 := H.2.2.1
   have h11 := H.2.2.2.1
   refine scm H.2.2.2.2 (fun h12 H => ?_) fun h12 H => ?_
   ·refine sinc (natbd h4 fT.bd) ?_
    refine au ?_
    exact hX1 _ H _ _ agr ⟨agr, hO, fr⟩
   refine au ?_
   refine Go1.ret1 func74 rfl ⟨_, er, frs, H⟩
  refine au ?_
  refine Go1.ret1 func74 rfl ⟨_, er, frs, H⟩
 refine au ?_
 refine Go1.ret1 func74 rfl ⟨_, er, frs, H⟩
theorem body75 : Body prog 75 := ⟨f75, func75, rfl, by kernel_rfl⟩
theorem J1R {jf jh : Option Addr} {jg ji : Nat} {s1 s2 : List Bool} (hA : HA0 A w0) (fT : ISb A w0 jf jg s1) (ik : ISb A w0 jh ji s2) {K : Bool → Prop} (H : J0E s1 s2 K) :
    CallsV prog 75 #[.slice jf s1.length jg, .slice jh s2.length ji] w0 (fun v w' => ∃ (r0 : Bool), v = .bool r0 ∧ Same w0 w' ∧ K r0) := by
 refine cal hA func75 ntmps75 fun hO hB => ?_
 unfold J0E at H
 refine sln0 ?_
 refine sln0 ?_
 refine scm ((H fT.bd) ik.bd) (fun h1 H => ?_) fun h1 H => ?_
 ·refine sln0 ?_
  refine au ?_
  refine lv [0, 1, 12] hO H (fun E k1_3 σ w => Lo A w0 σ w [(13, .int .i64 (k1_3 : Int))] []) ⟨agr, hO, fr⟩ ?_
  refine fun X1 => fun k1_3 => fun H hX1 σ w2 hk => d2 fun hag hO hB => keep2 hk hag ?_
  refine scm H (fun h4 H => ?_) fun h4 H => ?_
  ·refine au ?_
   refine drs 0 [q0, q0, q0, q1, q0, q0, q0, q1, q0] hO fun w5 s hO => ?_
   refine au ?_
   have h6 := H.1
   have h7 := H.2.1
   refine sxb hO fT.u H.1 H.2.1 H.2.2 (fun h8 H => ?_) fun h8 H => ?_
   ·refine au ?_
    have h9 := H.1
    have h10 := H.2.1
    refine sxb hO ik.u H.1 H.2.1 H.2.2 (fun h11 H => ?_) fun h11 H => ?_
    ·refine GoQ.pure rfl (J19 underlying4 rfl rfl) rfl rfl ?_
     refine sinc (natbd h4 fT.bd) ?_
     refine au ?_
     exact hX1 _ H _ _ agr ⟨agr, hO, fr⟩
    refine GoQ.pure rfl (J19 underlying4 rfl rfl) rfl rfl ?_
    refine au ?_
    refine Go1.ret1 func75 rfl ⟨_, er, frs, H⟩
   refine au ?_
   have h12 := H.1
   have h13 := H.2.1
   refine sxb hO ik.u H.1 H.2.1 H.2.2 (fun h14 H => ?_) fun h14 H => ?_
   ·refine GoQ.pure rfl (J19 underlying4 rfl rfl) rfl rfl ?_
    refine au ?_
    refine Go1.ret1 func75 rfl ⟨_, er, frs, H⟩
   refine GoQ.pure rfl (J19 underlying4 rfl rfl) rfl rfl ?_
   refine sinc (natbd h4 fT.bd) ?_
   refine au ?_
   exact hX1 _ H _ _ agr ⟨agr, hO, fr⟩
  refine au ?_
  refine Go1.ret1 func75 rfl ⟨_, er, frs, H⟩
 refine au ?_
 refine Go1.ret1 func75 rfl ⟨_, er, frs, H⟩
theorem body28 : Body prog 28 := ⟨f28, func28, rfl, by kernel_rfl⟩
theorem J3G {dT dV dF dH eo : Option Addr} {dU dW dG dI eA : Nat} {a0 : Syntactic} (hA : HA0 A w0) (cv : ISs A w0 dT dU a0.Table) (du : ISt A w0 dV dW a0.Words) (cD : ISi A w0 dF dG a0.Images) (cW : ISb A w0 dH dI a0.Accept) (dX : ISb A w0 eo eA a0.Plus) {K : Int → Prop} (H : J0w a0 K) :
    CallsV prog 28 #[.agg (cSY a0 dT dU dV dW dF dG dH dI eo eA)] w0 (fun v w' => ∃ (r0 : Int), v = .int .i64 r0 ∧ Same w0 w' ∧ K r0) := by
 refine cal hA func28 ntmps28 fun hO hB => ?_
 unfold J0w at H
 refine sbx hO fun w1 B2 s hO => ?_
 refine sag 0 hO ?_
 refine zcr (J01 body71 rfl (J49 hO.lt cv.u du.u cD.u cW.u dX.u H)) fun _ w5 => e1 fun r4 => sc0 hO fun s hO => fun H => ?_
 cases r4
 ·refine au ?_
  refine Go1.ret1 func28 rfl ⟨_, er, frs, (iF H)⟩
 refine sag 0 hO ?_
 refine zcr (J01 body72 rfl (J1q hO.lt cv.u du.u cD.u cW.u dX.u (iT H))) fun _ w7 => e4 fun r6 KS KT Lc => e1 fun Ld => sc0 hO fun s hO => d2 fun tw ua H => ?_
 refine zcr (J01 body19 rfl (J17 hO.lt tw ua H)) fun _ w10 => e4 fun r8 r9 tx tz => e4 fun tA tB o4 o5 => e4 fun o6 o7 ub uc => sc0 hO fun s hO => d1 fun eV => d4 fun gC fY f5 ia H => ?_
 refine sal hO fun w11 B12 s hO => ?_
 refine sba 0 hO fun w14 s hO => ?_
 refine scm H (fun h15 H => ?_) fun h15 H => ?_
 ·refine sln0 ?_
  refine sln0 ?_
  refine scm ((H eV.bd) cv.bd) (fun h16 H => ?_) fun h16 H => ?_
  ·refine sln0 ?_
   refine au ?_
   refine lv [1, 3, 28, 29] hO H (fun E k1_18 σ w => (fun Z => Lo A w0 σ w [(30, .int .i64 (k1_18 : Int))] Z ∧ ISs (bl Z ++ A) w tx tz r8.Table ∧ ISt (bl Z ++ A) w tA tB r8.Words ∧ ISi (bl Z ++ A) w o4 o5 r8.Images ∧ ISb (bl Z ++ A) w o6 o7 r8.Accept ∧ ISb (bl Z ++ A) w ub uc r8.Plus) E) ⟨⟨agr, hO, fr⟩, eV.u, gC.u, fY.u, f5.u, ia.u⟩ ?_
   refine fun X1 => fun k1_18 => fun H hX1 σ w17 hk => d1 fun hL => d4 fun eV gC fY f5 ia => d2 (fun hag hO hB => keep2 hk hag ?_) hL
   revert hO; repeat (rename Owns .. => q; clear q)
   intro hO; repeat (rename Sq .. => q; clear q)
   refine scm H (fun h19 H => ?_) fun h19 H => ?_
   ·refine sxls hO eV H.1 H.2.1 fun p20 c21 Q5 => ?_
    refine sxls hO cv.u H.2.2.1 H.2.2.2.1 fun p23 c24 ui => ?_
    have h28 := H.1
    have h29 := H.2.1
    have h30 := H.2.2.1
    have h31 := H.2.2.2.1
    refine zcr (J01 body73 rfl (J2a hO.lt Q5.u ui.u H.2.2.2.2)) fun _ w27 => e1 fun r26 => sc0 hO fun s hO => fun H => ?_
    cases r26
    ·refine au ?_
     refine Go1.ret1 func28 rfl ⟨_, er, frs, (iF H)⟩
    refine sinc (natbd h19 eV.bd) ?_
    refine au ?_
    exact hX1 _ (iT H) _ _ agr ⟨⟨agr, hO, fr⟩, eV.u, gC.u, fY.u, f5.u, ia.u⟩
   refine au ?_
   refine zcr (J01 body74 rfl (J3s hO.lt gC.u du.u H)) fun _ w33 => e1 fun r32 => sc0 hO fun s hO => fun H => ?_
   cases r32
   ·refine au ?_
    refine Go1.ret1 func28 rfl ⟨_, er, frs, (iF H)⟩
   refine au ?_
   refine zcr (J01 body73 rfl (J2a hO.lt fY.u cD.u (iT H))) fun _ w35 => e1 fun r34 => sc0 hO fun s hO => fun H => ?_
   cases r34
   ·refine au ?_
    refine Go1.ret1 func28 rfl ⟨_, er, frs, (iF H)⟩
   refine au ?_
   refine zcr (J01 body75 rfl (J1R hO.lt f5.u cW.u (iT H))) fun _ w37 => e1 fun r36 => sc0 hO fun s hO => fun H => ?_
   cases r36
   ·refine au ?_
    refine Go1.ret1 func28 rfl ⟨_, er, frs, (iF H)⟩
   refine au ?_
   refine zcr (J01 body75 rfl (J1R hO.lt ia.u dX.u (iT H))) fun _ w39 => e1 fun r38 => sc0 hO fun s hO => fun H => ?_
   cases r38
   ·refine au ?_
    refine Go1.ret1 func28 rfl ⟨_, er, frs, (iF H)⟩
   refine au ?_
   refine Go1.ret1 func28 rfl ⟨_, er, frs, (iT H)⟩
  refine au ?_
  refine Go1.ret1 func28 rfl ⟨_, er, frs, H⟩
 refine au ?_
 refine Go1.ret1 func28 rfl ⟨_, er, frs, H⟩
theorem body53 : Body prog 53 := ⟨f53, func53, rfl, by kernel_rfl⟩
theorem J64 {p_t : Option Addr} {c_t : Nat} {t : List (List Int)} (hA : HA0 A w0) (h_t : ISs A w0 p_t c_t t) {K : Int → Prop} (H : J3U t K) :
    CallsV prog 53 #[.slice p_t t.length c_t] w0 (fun v w' => ∃ (r0 : Int), v = .int .i64 r0 ∧ Same w0 w' ∧ K r0) := by
 refine cal hA func53 ntmps53 fun hO hB => ?_
 unfold J3U at H
 refine sln0 ?_
 refine scm (H h_t.bd) (fun h1 H => ?_) fun h1 H => ?_
 ·refine au ?_
  refine Go1.ret1 func53 rfl ⟨_, er, frs, H⟩
 refine sln0 ?_
 refine scm H (fun h2 H => ?_) fun h2 H => ?_
 ·refine au ?_
  refine Go1.ret1 func53 rfl ⟨_, er, frs, H⟩
 refine sln0 ?_
 refine au ?_
 refine lv [0, 13, 14] hO H (fun E k1_4 σ w => Lo A w0 σ w [(15, .int .i64 (k1_4 : Int))] []) ⟨agr, hO, fr⟩ ?_
 refine fun X1 => fun k1_4 => fun H hX1 σ w3 hk => d2 fun hag hO hB => keep2 hk hag ?_
 refine scm H (fun h5 H => ?_) fun h5 H => ?_
 ·refine sxls hO h_t.u H.1 H.2.1 fun p6 c7 hi8 => ?_
  refine sln0 ?_
  refine sln0 ?_
  have h9 := H.1
  have h10 := H.2.1
  refine scm (H.2.2 hi8.bd) (fun h11 H => ?_) fun h11 H => ?_
  ·refine sln0 ?_
   refine au ?_
   refine lv [0, 13, 14, 15, 24, 25] hO H (fun E y6 σ w => (fun Z => Lo A w0 σ w [(26, .int .i64 (y6 : Int))] Z ∧ ISi (bl Z ++ A) w p6 c7 (ix t (k1_4 : Int))) []) ⟨⟨agr, hO, fr⟩, hi8.u⟩ ?_
   refine fun X2 => fun y6 => fun H hX2 σ w12 hk => d1 fun hL => fun hi8 => d2 (fun hag hO hB => keep2 hk hag ?_) hL
   revert hO; repeat (rename Owns .. => q; clear q)
   intro hO; repeat (rename Sq .. => q; clear q)
   refine scm H (fun h14 H => ?_) fun h14 H => ?_
   ·refine sxl hO hi8 H.1 H.2.1 ?_
    refine au ?_
    have h15 := H.1
    have h16 := H.2.1
    refine scm H.2.2 (fun h17 H => ?_) fun h17 H => ?_
    ·refine au ?_
     refine Go1.ret1 func53 rfl ⟨_, er, frs, H⟩
    refine sln0 ?_
    refine scm H (fun h18 H => ?_) fun h18 H => ?_
    ·refine au ?_
     refine Go1.ret1 func53 rfl ⟨_, er, frs, H⟩
    refine sinc (natbd h14 hi8.bd) ?_
    refine au ?_
    exact hX2 _ H _ _ agr ⟨⟨agr, hO, fr⟩, hi8⟩
   refine sinc (natbd h5 h_t.bd) ?_
   refine au ?_
   exact hX1 _ H _ _ agr ⟨agr, hO, fr⟩
  refine au ?_
  refine Go1.ret1 func53 rfl ⟨_, er, frs, H⟩
 refine au ?_
 refine Go1.ret1 func53 rfl ⟨_, er, frs, H⟩
theorem body30 : Body prog 30 := ⟨f30, func30, rfl, by kernel_rfl⟩
theorem J7x {p_t p_l : Option Addr} {c_t c_l : Nat} {t : List (List Int)} {l : List Int} (hA : HA0 A w0) (h_t : ISs A w0 p_t c_t t) (h_l : ISi A w0 p_l c_l l) {K : Bool → Prop} (H : J6d t l K) :
    CallsV prog 30 #[.slice p_t t.length c_t, .slice p_l l.length c_l] w0 (fun v w' => ∃ (r0 : Bool), v = .bool r0 ∧ Same w0 w' ∧ K r0) := by
 refine cal hA func30 ntmps30 fun hO hB => ?_
 unfold J6d at H
 refine sln0 ?_
 refine au ?_
 refine lv [0, 7, 8] hO (H h_l.bd) (fun E k1_2 σ w => Lo A w0 σ w [(9, .int .i64 (k1_2 : Int))] []) ⟨agr, hO, fr⟩ ?_
 refine fun X1 => fun k1_2 => fun H hX1 σ w1 hk => d2 fun hag hO hB => keep2 hk hag ?_
 refine scm H (fun h3 H => ?_) fun h3 H => ?_
 ·refine sxl hO h_l.u H.1 H.2.1 ?_
  refine au ?_
  have h4 := H.1
  have h5 := H.2.1
  refine scm H.2.2 (fun h6 H => ?_) fun h6 H => ?_
  ·refine au ?_
   refine Go1.ret1 func30 rfl ⟨_, er, frs, H⟩
  refine sln0 ?_
  refine scm (H h_t.bd) (fun h7 H => ?_) fun h7 H => ?_
  ·refine au ?_
   refine Go1.ret1 func30 rfl ⟨_, er, frs, H⟩
  refine sinc (natbd h3 h_l.bd) ?_
  refine au ?_
  exact hX1 _ H _ _ agr ⟨agr, hO, fr⟩
 refine au ?_
 refine Go1.ret1 func30 rfl ⟨_, er, frs, H⟩
theorem body44 : Body prog 44 := ⟨f44, func44, rfl, by kernel_rfl⟩
theorem J1a {p_s__Table p_s__Words p_s__Images p_s__Accept p_s__Plus : Option Addr} {c_s__Table c_s__Words c_s__Images c_s__Accept c_s__Plus : Nat} {s_ : Syntactic} (hA : HA0 A w0) (h_s__Table : ISs A w0 p_s__Table c_s__Table s_.Table) (h_s__Words : ISt A w0 p_s__Words c_s__Words s_.Words) (h_s__Images : ISi A w0 p_s__Images c_s__Images s_.Images) (h_s__Accept : ISb A w0 p_s__Accept c_s__Accept s_.Accept) (h_s__Plus : ISb A w0 p_s__Plus c_s__Plus s_.Plus) {K : DFA → Prop} (H : J0m s_ K) :
    CallsV prog 44 #[.agg (cSY s_ p_s__Table c_s__Table p_s__Words c_s__Words p_s__Images c_s__Images p_s__Accept c_s__Accept p_s__Plus c_s__Plus)] w0 (fun v w' => ∃ (r0 : DFA), ∃ (aI : Option Addr), ∃ (aJ : Nat), ∃ (aT : Option Addr), ∃ (aU : Nat), v = .agg (cDF r0 aI aJ aT aU) ∧ Same w0 w' ∧ ISb A w' aI aJ r0.Final ∧ ISs A w' aT aU r0.Next ∧ K r0) := by
 refine cal hA func44 ntmps44 fun hO hB => ?_
 unfold J0m at H
 refine sbx hO fun w1 B2 s hO => ?_
 refine sal hO fun w4 B5 s hO => ?_
 refine au ?_
 refine drA (CSv.tr [(some ⟨B2, 0, none⟩), (some ⟨B2, 4, none⟩)]) 1 [(0, m0), (1, m1), (3, m0), (4, m1), (2, m4), (5, m2), (6, m0), (7, m4), (8, m3)] hO fun w7 s hO => ?_
 have hn8 := hO.le
 have hw9 := (fr : Fr (bl []) w0 _ w7).ch.size
 refine au ?_
 refine GoQA.stable rfl (loadV (.head _) rfl (J00 1 hO rfl rfl) underlying3 rfl rfl) rfl rfl ?_
 refine au ?_
 refine GoQA.stable rfl (loadV (.tail _ (.head _)) rfl (J00 1 hO rfl rfl) underlying22 rfl rfl) rfl rfl ?_
 refine GoQA.alloc rfl rfl (alBuild (n := 0) (parts := []) (vs := []) underlying22 ti4 (by decide) (by decide) (by decide) (by kernel_rfl) rfl rfl) ?_
 intro w11 A12 b13 A14 xl xm hd17 hnb18 hh19
 refine sgw xl hO fun s hO => ?_
 have ko := elE (Rp.bool) [] (([] : List Bool)) hO (Els.nil _ _ _)
 refine sgn (e := .row 4 1 (some ⟨b13, 0, none⟩) 0 0 []) xm hO hn8 hw9 hnb18 rfl hh19 hd17 (fr : Fr (bl []) w0 _ w11) fun s hO hB => ?_
 replace ko := ko.ch s.ch
 refine cl1 Fl.bool 0 hO ko.u fun s hO => ?_
 refine GoQA.loudI rfl rfl fun w21 A22 xn => ?_
 refine sgw xn hO fun s hO => ?_
 refine sapQ 0 hO h_s__Accept.u H (fun w24 p25 c26 s hO => ?_) (g := fun _ _ _ _ hv hst h => GoAt.step hv (fun _ => (CSv.cons (cs_eq (J00 2 hO rfl rfl) (J00 2 hst.own rfl rfl)) (CSv.cons (cs_eq (J00 2 hO rfl rfl) (J00 2 hst.own rfl rfl)) (CSv.nil _ _)))) (Stp.kp hO hst) rfl h)
 refine GoQA.pure rfl (J04 underlying25 ti25 (pl := [(0, 1), (1, 1), (2, 1), (3, 1)]) (vs := [(0, .int .i64 s_.Letters), (2, .slice p25 (0 + s_.Accept.length) c26)]) (cs := #[.int .i64 s_.Letters, .int .i64 (0 : Int), .slice p25 (0 + s_.Accept.length) c26, .slice none 0 0]) (by kernel_rfl) rfl (by kernel_rfl)) rfl rfl ?_
 refine GoQA.alloc rfl rfl (alAlloc (cs := #[.int .i64 (0 : Int), .int .i64 (0 : Int), .slice none 0 0, .slice none 0 0]) ti25 rfl) ?_
 intro w28 A29 b30 A31 Q6 Q7 hd34 hnb35 hh36
 refine sgw Q6 hO fun s hO => ?_
 refine sgn (e := .blk b30 (.cells #[.int .i64 (0 : Int), .int .i64 (0 : Int), .slice none 0 0, .slice none 0 0] 25 (0, 0))) Q7 hO hn8 hw9 hnb35 rfl hh36 hd34 (fr : Fr (bl []) w0 _ w28) fun s hO hB => ?_
 refine GoQA.lastI rfl rfl fun w37 A38 Q8 => ?_
 refine sgw Q8 hO fun s hO => ?_
 refine sba 0 hO fun w40 s hO => ?_
 refine GoQA.nil fun w41 A42 xV xW => ?_
 refine sgw xV hO fun s hO => ?_
 refine spm xW hO fun s hO => ?_
 refine sln0 ?_
 refine au ?_
 have kO := Stp.nil (e := 31) (r := 1) hO
 refine nst kO fun s hO => ?_
 have lN := elN (Rp.sl (Rp.int .i64)) hO
 refine lv [1, 2, 3, 17] hO (H.2 h_s__Table.bd) (fun E (tC, tD) σ w => ∃ n55 p53 c54 tE, (fun Z => Lo A w0 σ w [(18, .int .i64 (tC : Int))] Z ∧ Els (Rp.sl (Rp.int .i64)) (bl Z ++ A) w tE tD) (esets E [(0, .row 31 1 p53 n55 c54 tE), (1, .blk b30 (.cells #[.int .i64 s_.Letters, .int .i64 (0 : Int), .slice p25 (0 + s_.Accept.length) c26, .slice p53 n55 c54] 25 (0, 0)))])) ⟨_, _, _, _, ⟨agr, hO, fr⟩, lN.u⟩ ?_
 refine fun X1 => p1 fun tC tD => fun H hX1 σ w48 hk => e4 fun n55 p53 c54 tE => d1 fun hL => fun kw => d2 (fun hag hO hB => keep2 hk hag ?_) hL
 dsimp only [esets, sS, sZ] at hO hB kw
 dsimp only at H
 revert hO; repeat (rename Owns .. => q; clear q)
 intro hO; repeat (rename Sq .. => q; clear q)
 refine scm H (fun h56 H => ?_) fun h56 H => ?_
 ·refine sln0 ?_
  refine au ?_
  refine snil Fl.i 3 hO fun s hO => ?_
  refine lv [1, 2, 3, 4, 17, 18, 22, 23] hO (H h_s__Images.bd) (fun E (k2_59, row2_60) σ w => ∃ n63 p61 c62, (fun Z => Lo A w0 σ w [(5, .slice p61 n63 c62), (24, .int .i64 (k2_59 : Int))] Z ∧ Els (Rp.sl (Rp.int .i64)) (bl Z ++ A) w tE tD) (E.set 0 (t1 Fl.i 3 p61 n63 c62 row2_60))) ⟨_, _, _, ⟨agr, hO, fr⟩, kw.u⟩ ?_
  refine fun X2 => p1 fun k2_59 row2_60 => fun H hX2 σ w58 hk => e3 fun n63 p61 c62 => d1 fun hL => fun kw => d2 (fun hag hO hB => keep2 hk hag ?_) hL
  dsimp only [esets, sS, sZ] at hO hB kw
  dsimp only at H
  revert hO; repeat (rename Owns .. => q; clear q)
  intro hO; repeat (rename Sq .. => q; clear q)
  refine scm H (fun h64 H => ?_) fun h64 H => ?_
  ·refine sxl hO h_s__Images.u H.1 H.2.1 ?_
   refine sxls hO h_s__Table.u H.2.2.1 H.2.2.2.1 fun p65 c66 Q9 => ?_
   refine sxl hO Q9.u H.2.2.2.2.1 H.2.2.2.2.2.1 ?_
   refine sap1 ((ix (ix s_.Table (tC : Int)) (ix s_.Images (k2_59 : Int)))) 0 hO H.2.2.2.2.2.2 fun _ w68 p69 c70 s hO => ?_
   refine sinc (natbd h64 h_s__Images.bd) ?_
   refine au ?_
   exact hX2 _ H.2.2.2.2.2.2.2 _ _ agr ⟨_, _, _, ⟨agr, hO, fr⟩, kw.u⟩
  refine au ?_
  refine sfz 0 hO fun s hO ol wS => ?_
  have zz := J1P (r := Rp.sl (Rp.int .i64)) (n := 1) (parts := [(0, .slice p61 n63 c62)]) (vs := [.slice p61 n63 c62]) (xs := [row2_60]) rfl underlying23 ti31 hO (by decide) (by kernel_rfl) (Els.cons rfl ⟨p61, c62, congrArg some (congrArg (fun nn => Value.slice p61 nn c62) wS), ol.u⟩ (Els.nil _ _ _) (by simp [mx])) rfl
  obtain ⟨w73, p74, KU, Ra, aeP, KV⟩ := zz
  refine zg (KV rfl) ?_
  refine nst KU fun s hO => ?_
  refine sfzR 0 hO Ra fun s hO Rb Rc => ?_
  obtain ⟨h82, H⟩ := H
  have zz := oapp underlying23 ti31 rfl 0 hO rfl kw.u Rb Rc h82 (by decide)
  obtain ⟨w83, p84, c85, aeQ, KW, De, KX⟩ := zz
  dsimp only [sS, sZ] at De
  refine zg (KX (by exact rfl) (by exact rfl)) ?_
  refine nst KW fun s hO => ?_
  refine sbs 1 hO fun w91 s hO => ?_
  refine sinc (natbd h56 h_s__Table.bd) ?_
  refine au ?_
  exact hX1 _ H _ _ agr ⟨_, _, _, _, ⟨agr, hO, fr⟩, De.u⟩
 refine sag 1 hO ?_
 refine sba 3 hO fun w92 s hO => ?_
 refine au ?_
 refine sfz 2 hO fun s hO Rd Re => ?_
 refine sfzR 0 hO kw.u fun s hO Rf Rg => ?_
 refine Go1.retC1 func44 rfl rfl (rlb 1 hO) ⟨((⟨s_.Letters, (0 : Int), (([] : List Bool)) ++ s_.Accept, tD⟩ : DFA)), _, _, _, _, ?_, frs, Rd.r, Rf.r, H⟩
 exact (congrArg (fun l => Value.agg (List.toArray l)) (J02 rfl (J02 rfl (J02 (congrArg (fun nn => Value.slice p25 nn c26) Re) (J02 (congrArg (fun nn => Value.slice p53 nn c54) Rg) rfl)))))
theorem body29 : Body prog 29 := ⟨f29, func29, rfl, by kernel_rfl⟩
theorem J54 {dT dV dF dH eo : Option Addr} {dU dW dG dI eA : Nat} {a0 : Syntactic} (hA : HA0 A w0) (cv : ISs A w0 dT dU a0.Table) (du : ISt A w0 dV dW a0.Words) (cD : ISi A w0 dF dG a0.Images) (cW : ISb A w0 dH dI a0.Accept) (dX : ISb A w0 eo eA a0.Plus) {K : Int → Prop} (H : J1d a0 K) :
    CallsV prog 29 #[.agg (cSY a0 dT dU dV dW dF dG dH dI eo eA)] w0 (fun v w' => ∃ (r0 : Int), v = .int .i64 r0 ∧ Same w0 w' ∧ K r0) := by
 refine cal hA func29 ntmps29 fun hO hB => ?_
 unfold J1d at H
 refine sbx hO fun w1 B2 s hO => ?_
 refine sln0 ?_
 refine au ?_
 refine zcr (J01 body53 rfl (J64 hO.lt cv.u (H cv.bd))) fun _ w5 => e1 fun r4 => sc0 hO fun s hO => fun H => ?_
 refine scm H (fun h6 H => ?_) fun h6 H => ?_
 ·refine au ?_
  refine zcr (J01 body59 rfl (J2f hO.lt H)) fun _ w8 => e1 fun r7 => sc0 hO fun s hO => fun H => ?_
  cases r7
  ·refine au ?_
   refine Go1.ret1 func29 rfl ⟨_, er, frs, (iF H)⟩
  refine sln0 ?_
  refine scm ((iT H) cD.bd) (fun h9 H => ?_) fun h9 H => ?_
  ·refine au ?_
   refine zcr (J01 body30 rfl (J7x hO.lt cv.u cD.u H)) fun _ w11 => e1 fun r10 => sc0 hO fun s hO => fun H => ?_
   cases r10
   ·refine au ?_
    refine Go1.ret1 func29 rfl ⟨_, er, frs, (iF H)⟩
   refine sln0 ?_
   refine scm ((iT H) cW.bd) (fun h12 H => ?_) fun h12 H => ?_
   ·refine sln0 ?_
    refine scm (H du.bd) (fun h13 H => ?_) fun h13 H => ?_
    ·refine sln0 ?_
     refine scm (H dX.bd) (fun h14 H => ?_) fun h14 H => ?_
     ·refine sag 0 hO ?_
      refine zcr (J01 body44 rfl (J1a hO.lt cv.u du.u cD.u cW.u dX.u H)) fun _ w16 => e4 fun r15 Ec Ed KY => e1 fun K1 => sc0 hO fun s hO => d2 fun o8 tF H => ?_
      refine zcr (J01 body20 rfl (J7h hO.lt o8 tF H)) fun _ w19 => e4 fun r17 r18 Ee Ef => e4 fun Eg Eh Dg Dh => e4 fun Di Dj K2 K3 => sc0 hO fun s hO => d1 fun o9 => d4 fun pc oN oO tG H => ?_
      refine sal hO fun w20 B21 s hO => ?_
      refine sba 0 hO fun w23 s hO => ?_
      refine scm H (fun h24 H => ?_) fun h24 H => ?_
      ·refine sag 0 hO ?_
       refine sag 1 hO ?_
       refine zcr (J01 body21 rfl (J6r hO.lt o9.u pc.u oN.u oO.u tG.u cv.u du.u cD.u cW.u dX.u H)) fun _ w26 => e1 fun r25 => sc0 hO fun s hO => fun H => ?_
       cases r25
       ·refine au ?_
        refine Go1.ret1 func29 rfl ⟨_, er, frs, (iF H)⟩
       refine au ?_
       refine Go1.ret1 func29 rfl ⟨_, er, frs, (iT H)⟩
      refine au ?_
      refine Go1.ret1 func29 rfl ⟨_, er, frs, H⟩
     refine au ?_
     refine Go1.ret1 func29 rfl ⟨_, er, frs, H⟩
    refine au ?_
    refine Go1.ret1 func29 rfl ⟨_, er, frs, H⟩
   refine au ?_
   refine Go1.ret1 func29 rfl ⟨_, er, frs, H⟩
  refine au ?_
  refine Go1.ret1 func29 rfl ⟨_, er, frs, H⟩
 refine au ?_
 refine Go1.ret1 func29 rfl ⟨_, er, frs, H⟩
end Sg
