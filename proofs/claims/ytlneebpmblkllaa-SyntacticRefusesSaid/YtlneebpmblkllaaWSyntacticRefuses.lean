/- -/
import Derived.Test.YtlneebpmblkllaaVd
import Derived.Test.YtlneebpmblkllaaWSyntacticJoint
import Derived.Test.YtlneebpmblkllaaWSyntacticMonoids
import Derived.Test.YtlneebpmblkllaaWSyntacticMonoidsc
import Derived.Test.YtlneebpmblkllaaWSyntacticMonoidsf
namespace Sg
open Go Go.RowKit Go.Proofs Try
set_option linter.unusedVariables false
set_option linter.unusedSimpArgs false
set_option maxRecDepth 100000
set_option maxHeartbeats 4000000
variable {A : List Nat} {w0 : World}
theorem body76 : Body prog 76 := ⟨f76, func76, rfl, by kernel_rfl⟩
theorem J1U {tt : Option Addr} {tu : Nat} {list : List Int} {n : Int} (hA : HA0 A w0) (nJ : ISi A w0 tt tu list) {K : Bool → Prop} (H : J0r list n K) :
    CallsV prog 76 #[.slice tt list.length tu, .int .i64 n] w0 (fun v w' => ∃ (r0 : Bool), v = .bool r0 ∧ Same w0 w' ∧ K r0) := by
 refine cal hA func76 ntmps76 fun hO hB => ?_
 unfold J0r at H
 refine sln0 ?_
 refine au ?_
 refine lv [1, 7, 8] hO (H nJ.bd) (fun E k1_2 σ w => Lo A w0 σ w [(9, .int .i64 (k1_2 : Int))] []) ⟨agr, hO, fr⟩ ?_
 refine fun X1 => fun k1_2 => fun H hX1 σ w1 hk => d2 fun hag hO hB => keep2 hk hag ?_
 refine scm H (fun h3 H => ?_) fun h3 H => ?_
 ·refine sxl hO nJ.u H.1 H.2.1 ?_
  refine au ?_
  have h4 := H.1
  have h5 := H.2.1
  refine scm H.2.2 (fun h6 H => ?_) fun h6 H => ?_
  ·refine au ?_
   refine Go1.ret1 func76 rfl ⟨_, er, frs, H⟩
  refine scm H (fun h7 H => ?_) fun h7 H => ?_
  ·refine au ?_
   refine Go1.ret1 func76 rfl ⟨_, er, frs, H⟩
  refine sinc (natbd h3 nJ.bd) ?_
  refine au ?_
  exact hX1 _ H _ _ agr ⟨agr, hO, fr⟩
 refine au ?_
 refine Go1.ret1 func76 rfl ⟨_, er, frs, H⟩
theorem body71 : Body prog 71 := ⟨f71, func71, rfl, by kernel_rfl⟩
theorem J3I {cX c8 cD cG dD : Option Addr} {cY db cE cH dE : Nat} {a0 : Syntactic} (hA : HA0 A w0) (bG : ISs A w0 cX cY a0.Table) (cM : ISt A w0 c8 db a0.Words) (b9 : ISi A w0 cD cE a0.Images) (cy : ISb A w0 cG cH a0.Accept) (dk : ISb A w0 dD dE a0.Plus) {K : Bool → Prop} (H : J0H a0 K) :
    CallsV prog 71 #[.agg (cSY a0 cX cY c8 db cD cE cG cH dD dE)] w0 (fun v w' => ∃ (r0 : Bool), v = .bool r0 ∧ Same w0 w' ∧ K r0) := by
 refine cal hA func71 ntmps71 fun hO hB => ?_
 unfold J0H at H
 refine sbx hO fun w1 B2 s hO => ?_
 refine sln0 ?_
 refine scm (H bG.bd) (fun h4 H => ?_) fun h4 H => ?_
 ·refine au ?_
  refine Go1.ret1 func71 rfl ⟨_, er, frs, H⟩
 refine scm H (fun h5 H => ?_) fun h5 H => ?_
 ·refine au ?_
  refine Go1.ret1 func71 rfl ⟨_, er, frs, H⟩
 refine scm H (fun h6 H => ?_) fun h6 H => ?_
 ·refine au ?_
  refine Go1.ret1 func71 rfl ⟨_, er, frs, H⟩
 refine scm H (fun h7 H => ?_) fun h7 H => ?_
 ·refine au ?_
  refine Go1.ret1 func71 rfl ⟨_, er, frs, H⟩
 refine sln0 ?_
 refine scm (H cM.bd) (fun h8 H => ?_) fun h8 H => ?_
 ·refine sln0 ?_
  refine scm (H cy.bd) (fun h9 H => ?_) fun h9 H => ?_
  ·refine sln0 ?_
   refine scm (H dk.bd) (fun h10 H => ?_) fun h10 H => ?_
   ·refine sln0 ?_
    refine scm (H b9.bd) (fun h11 H => ?_) fun h11 H => ?_
    ·refine sln0 ?_
     refine au ?_
     refine lv [1, 3, 53, 54] hO H (fun E yg σ w => Lo A w0 σ w [(55, .int .i64 (yg : Int))] E) ⟨agr, hO, fr⟩ ?_
     refine fun X1 => fun yg => fun H hX1 σ w12 hk => d2 fun hag hO hB => keep2 hk hag ?_
     revert hO; repeat (rename Owns .. => q; clear q)
     intro hO; repeat (rename Sq .. => q; clear q)
     refine scm H (fun h14 H => ?_) fun h14 H => ?_
     ·refine sxls hO bG.u H.1 H.2.1 fun p15 c16 CF => ?_
      refine sln0 ?_
      refine au ?_
      have h18 := H.1
      have h19 := H.2.1
      refine scm (H.2.2 CF.bd) (fun h20 H => ?_) fun h20 H => ?_
      ·refine au ?_
       refine zcr (J01 body76 rfl (J1U hO.lt CF.u H)) fun _ w22 => e1 fun r21 => sc0 hO fun s hO => fun H => ?_
       cases r21
       ·refine au ?_
        refine Go1.ret1 func71 rfl ⟨_, er, frs, (iF H)⟩
       refine sinc (natbd h14 bG.bd) ?_
       refine au ?_
       exact hX1 _ (iT H) _ _ agr ⟨agr, hO, fr⟩
      refine au ?_
      refine Go1.ret1 func71 rfl ⟨_, er, frs, H⟩
     refine au ?_
     refine zcr (J01 body76 rfl (J1U hO.lt b9.u H)) fun _ w24 => e1 fun r23 => sc0 hO fun s hO => fun H => ?_
     refine au ?_
     refine Go1.ret1 func71 rfl ⟨_, er, frs, H⟩
    refine au ?_
    refine Go1.ret1 func71 rfl ⟨_, er, frs, H⟩
   refine au ?_
   refine Go1.ret1 func71 rfl ⟨_, er, frs, H⟩
  refine au ?_
  refine Go1.ret1 func71 rfl ⟨_, er, frs, H⟩
 refine au ?_
 refine Go1.ret1 func71 rfl ⟨_, er, frs, H⟩
theorem body72 : Body prog 72 := ⟨f72, func72, rfl, by kernel_rfl⟩
theorem J3c {p_s__Table p_s__Words p_s__Images p_s__Accept p_s__Plus : Option Addr} {c_s__Table c_s__Words c_s__Images c_s__Accept c_s__Plus : Nat} {s_ : Syntactic} (hA : HA0 A w0) (h_s__Table : ISs A w0 p_s__Table c_s__Table s_.Table) (h_s__Words : ISt A w0 p_s__Words c_s__Words s_.Words) (h_s__Images : ISi A w0 p_s__Images c_s__Images s_.Images) (h_s__Accept : ISb A w0 p_s__Accept c_s__Accept s_.Accept) (h_s__Plus : ISb A w0 p_s__Plus c_s__Plus s_.Plus) {K : DFA → Prop} (H : J0q s_ K) :
    CallsV prog 72 #[.agg (cSY s_ p_s__Table c_s__Table p_s__Words c_s__Words p_s__Images c_s__Images p_s__Accept c_s__Accept p_s__Plus c_s__Plus)] w0 (fun v w' => ∃ (r0 : DFA), ∃ (aN : Option Addr), ∃ (aO : Nat), ∃ (bk : Option Addr), ∃ (bm : Nat), v = .agg (cDF r0 aN aO bk bm) ∧ Same w0 w' ∧ ISb A w' aN aO r0.Final ∧ ISs A w' bk bm r0.Next ∧ K r0) := by
 refine cal hA func72 ntmps72 fun hO hB => ?_
 unfold J0q at H
 refine sbx hO fun w1 B2 s hO => ?_
 refine sal hO fun w4 B5 s hO => ?_
 refine au ?_
 refine drA Same.tr 1 [(0, m0), (1, m1), (2, m0), (3, m1), (5, m0), (6, m1), (7, m0), (4, m2), (8, m4), (9, m0), (10, m4), (11, m3)] hO fun w7 s hO => ?_
 have hn8 := hO.le
 have hw9 := (fr : Fr (bl []) w0 _ w7).ch.size
 refine au ?_
 refine sbl 1 ?_
 refine au ?_
 refine sbl 1 ?_
 refine au ?_
 refine sbl 1 ?_
 refine sln0 ?_
 refine GoQA.loudI rfl rfl fun w10 A11 Qh => ?_
 refine sgw Qh hO fun s hO => ?_
 refine GoAt.call (J01 body69 rfl (J3E hO.lt h_s__Accept.u (H h_s__Table.bd))) (fun _ _ hr => ⟨fun _ => saq hr, Same.kp hO (saq hr)⟩) rfl fun _ w15 => e4 fun r13 yh sB sC => sA1 hO fun s hO => fun H => ?_
 obtain ⟨h27, H⟩ := H
 obtain ⟨h28, H⟩ := H
 refine GoQA.alloc rfl rfl (alMake2 (e' := 3) Fl.i underlying23 ti31 h27 h28 (by decide) rfl rfl) ?_
 intro w18 A19 b20 A21 Qi Qj hd24 hnb25 hh26
 refine sgw Qi hO fun s hO => ?_
 refine sgn (e := t2 Fl.i 31 3 (some ⟨b20, 0, none⟩) s_.Table.length s_.Table.length ((fun _ => (none, 0))) (List.replicate s_.Table.length ([] : List Int))) Qj hO hn8 hw9 hnb25 (J6O b20) hh26 hd24 (fr : Fr (bl []) w0 _ w18) fun s hO hB => ?_
 refine GoQA.pure rfl (J0a underlying25 ti25 (pl := [(0, 1), (1, 1), (2, 1), (3, 1)]) (vs := [(0, .int .i64 s_.Letters), (2, .slice sB yh sC), (3, .slice (some ⟨b20, 0, none⟩) s_.Table.length s_.Table.length)]) (cs := #[.int .i64 s_.Letters, .int .i64 (0 : Int), .slice sB yh sC, .slice (some ⟨b20, 0, none⟩) s_.Table.length s_.Table.length]) (by kernel_rfl) rfl (by kernel_rfl)) rfl rfl ?_
 refine GoQA.alloc rfl rfl (alAlloc (cs := #[.int .i64 (0 : Int), .int .i64 (0 : Int), .slice none 0 0, .slice none 0 0]) ti25 rfl) ?_
 intro w30 A31 b32 A33 Qk Ql hd36 hnb37 hh38
 refine sgw Qk hO fun s hO => ?_
 refine sgn (e := .blk b32 (.cells #[.int .i64 (0 : Int), .int .i64 (0 : Int), .slice none 0 0, .slice none 0 0] 25 (0, 0))) Ql hO hn8 hw9 hnb37 rfl hh38 hd36 (fr : Fr (bl []) w0 _ w30) fun s hO hB => ?_
 refine GoQA.lastI rfl rfl fun w39 A40 Qm => ?_
 refine sgw Qm hO fun s hO => ?_
 refine sba 0 hO fun w42 s hO => ?_
 refine GoQA.nil fun w43 A44 Qn Qo => ?_
 refine sgw Qn hO fun s hO => ?_
 refine spm Qo hO fun s hO => ?_
 refine sln0 ?_
 refine au ?_
 refine lv [1, 2, 3, 19, 20] hO H (fun E (ji, d_49) σ w => ∃ xk, Lo A w0 σ w [(21, .int .i64 (ji : Int))] (E.set 1 (t2 Fl.i 31 3 (some ⟨b20, 0, none⟩) s_.Table.length s_.Table.length xk d_49))) ⟨_, ⟨agr, hO, fr⟩⟩ ?_
 refine fun X1 => p1 fun ji d_49 => fun H hX1 σ w47 hk => e1 fun xk => d2 fun hag hO hB => keep2 hk hag ?_
 dsimp only [esets, sS, sZ] at hO hB
 dsimp only at H
 revert hO; repeat (rename Owns .. => q; clear q)
 intro hO; repeat (rename Sq .. => q; clear q)
 refine scm H (fun h51 H => ?_) fun h51 H => ?_
 ·refine sxls hO h_s__Table.u H.1 H.2.1 fun p52 c53 nK => ?_
  refine au ?_
  refine drs 1 [q0, q1, q0, q0, q1, q2, q0, q3] hO fun w55 s hO => ?_
  refine smk Fl.i H.2.2 hO fun w56 p57 s hO => ?_
  have h59 := H.1
  have h60 := H.2.1
  replace H := H.2.2.2.2
  obtain ⟨h61, H⟩ := H
  obtain ⟨h62, H⟩ := H
  refine GoQ.pure rfl (J0b underlying23 ti31 rfl rfl h61 (ltn (t2neq 2 hO rfl) h62) (t2some 2 hO rfl h61 h62)) rfl rfl ?_
  refine op1 0 hO fun adM s hO Qp => ?_
  refine sfr 2 hO fun s hO => ?_
  refine sfr 1 hO fun s hO => ?_
  have zz := t2put (hf := Fl.i) hO Qp.u h61 h62
  obtain ⟨w65, JV, JW⟩ := zz
  refine GoQ.last rfl (JW underlying31 rfl ti31 (by exact rfl) (by exact rfl)) rfl rfl ?_
  refine nst JV fun s hO => ?_
  refine sln0 ?_
  refine au ?_
  refine lv [1, 2, 3, 4, 5, 19, 20, 21, 34, 35] hO (H h_s__Images.bd) (fun E (k2_69, d_70) σ w => (fun Z => Lo A w0 σ w [(36, .int .i64 (k2_69 : Int))] Z ∧ ISi (bl Z ++ A) w p52 c53 (ix s_.Table (ji : Int))) (E.set 0 (t2 Fl.i 31 3 (some ⟨b20, 0, none⟩) s_.Table.length s_.Table.length (hup xk (ji : Int).toNat (p57, s_.Letters.toNat)) d_70))) ⟨⟨agr, hO, fr⟩, nK.u⟩ ?_
  refine fun X2 => p1 fun k2_69 d_70 => fun H hX2 σ w68 hk => d1 fun hL => fun nK => d2 (fun hag hO hB => keep2 hk hag ?_) hL
  dsimp only [esets, sS, sZ] at hO hB nK
  dsimp only at H
  revert hO; repeat (rename Owns .. => q; clear q)
  intro hO; repeat (rename Sq .. => q; clear q)
  refine scm H (fun h71 H => ?_) fun h71 H => ?_
  ·refine sxl hO h_s__Images.u H.1 H.2.1 ?_
   refine au ?_
   refine drs 1 [q0, q1, q0, q0, q1, q0, q0, q0, q0, q1, q0, q3] hO fun w72 s hO => ?_
   refine au ?_
   have h73 := H.1
   have h74 := H.2.1
   replace H := H.2.2
   obtain ⟨h75, H⟩ := H
   obtain ⟨h76, H⟩ := H
   refine GoQ.pure rfl (J0b underlying23 ti31 rfl rfl h75 (ltn (t2neq 0 hO rfl) h76) (t2some 0 hO rfl h75 h76)) rfl rfl ?_
   refine GoQ.stable rfl (t2head 0 hO rfl h75 h76 underlying31 rfl rfl) rfl rfl ?_
   refine sxl hO nK.u H.1 H.2.1 ?_
   have h77 := H.1
   have h78 := H.2.1
   replace H := H.2.2
   obtain ⟨h79, H⟩ := H
   obtain ⟨h80, H⟩ := H
   refine GoQ.pure rfl (J0b underlying31 ti3 rfl rfl h79 h80 (t2isome 0 hO rfl h75 h76 h79 h80)) rfl rfl ?_
   have zz := t2st (r := Rp.int .i64) (hf := Fl.i) rfl 0 hO rfl h75 h76 h79 h80 (v := .int .i64 (ix (ix s_.Table (ji : Int)) (ix s_.Images (k2_69 : Int)))) (u := (ix (ix s_.Table (ji : Int)) (ix s_.Images (k2_69 : Int)))) rfl rfl
   obtain ⟨w81, oA, oB⟩ := zz
   refine GoQ.last rfl (oB underlying3 rfl ti3 (by exact rfl) (by exact rfl)) rfl rfl ?_
   refine nst oA fun s hO => ?_
   refine sinc (natbd h71 h_s__Images.bd) ?_
   refine au ?_
   exact hX2 _ H _ _ agr ⟨⟨agr, hO, fr⟩, nK.u⟩
  refine sinc (natbd h51 h_s__Table.bd) ?_
  refine au ?_
  refine sfr 4 hO fun s hO => ?_
  refine sfr 4 hO fun s hO => ?_
  refine sfr 4 hO fun s hO => ?_
  refine sfr 3 hO fun s hO => ?_
  refine sfr 4 hO fun s hO => ?_
  exact hX1 _ H _ _ agr ⟨_, ⟨agr, hO, fr⟩⟩
 refine sag 0 hO ?_
 refine sba 3 hO fun w84 s hO => ?_
 refine au ?_
 refine sfz 2 hO fun s hO uX mM => ?_
 refine sfz2 1 hO fun s hO Qq Qr => ?_
 refine Go1.retC1 func72 rfl rfl (rlb 1 hO) ⟨((⟨s_.Letters, (0 : Int), r13, d_49⟩ : DFA)), _, _, _, _, ?_, frs, uX.r, Qq.r, H⟩
 exact (congrArg (fun l => Value.agg (List.toArray l)) (J02 rfl (J02 rfl (J02 (congrArg (fun nn => Value.slice sB nn sC) mM) (J02 (congrArg (fun nn => Value.slice (some ⟨b20, 0, none⟩) nn s_.Table.length) Qr) rfl)))))
theorem body73 : Body prog 73 := ⟨f73, func73, rfl, by kernel_rfl⟩
theorem J1Y {iY i5 : Option Addr} {i4 i6 : Nat} {s1 s2 : List Int} (hA : HA0 A w0) (fT : ISi A w0 iY i4 s1) (g7 : ISi A w0 i5 i6 s2) {K : Bool → Prop} (H : J0I s1 s2 K) :
    CallsV prog 73 #[.slice iY s1.length i4, .slice i5 s2.length i6] w0 (fun v w' => ∃ (r0 : Bool), v = .bool r0 ∧ Same w0 w' ∧ K r0) := by
 refine cal hA func73 ntmps73 fun hO hB => ?_
 unfold J0I at H
 refine sln0 ?_
 refine sln0 ?_
 refine scm ((H fT.bd) g7.bd) (fun h1 H => ?_) fun h1 H => ?_
 ·refine sln0 ?_
  refine au ?_
  refine lv [0, 1, 12] hO H (fun E k1_3 σ w => Lo A w0 σ w [(13, .int .i64 (k1_3 : Int))] []) ⟨agr, hO, fr⟩ ?_
  refine fun X1 => fun k1_3 => fun H hX1 σ w2 hk => d2 fun hag hO hB => keep2 hk hag ?_
  refine scm H (fun h4 H => ?_) fun h4 H => ?_
  ·refine au ?_
   refine drs 0 [q0, q0, q0, q1, q0, q0, q0, q1, q0] hO fun w5 s hO => ?_
   refine sxl hO fT.u H.1 H.2.1 ?_
   refine sxl hO g7.u H.2.2.1 H.2.2.2.1 ?_
   have h6 := H.1
   have h7 := H.2.1
   have h8 := H.2.2.1
   have h9 := H.2.2.2.1
   refine scm H.2.2.2.2 (fun h10 H => ?_) fun h10 H => ?_
   ·refine sinc (natbd h4 fT.bd) ?_
    refine au ?_
    exact hX1 _ H _ _ agr ⟨agr, hO, fr⟩
   refine au ?_
   refine Go1.ret1 func73 rfl ⟨_, er, frs, H⟩
  refine au ?_
  refine Go1.ret1 func73 rfl ⟨_, er, frs, H⟩
 refine au ?_
 refine Go1.ret1 func73 rfl ⟨_, er, frs, H⟩
theorem body74 : Body prog 74 := ⟨f74, func74, rfl, by kernel_rfl⟩
theorem J30 {iY i5 : Option Addr} {i4 i6 : Nat} {s1 s2 : List Str} (hA : HA0 A w0) (fT : ISt A w0 iY i4 s1) (g7 : ISt A w0 i5 i6 s2) {K : Bool → Prop} (H : J0E s1 s2 K) :
    CallsV prog 74 #[.slice iY s1.length i4, .slice i5 s2.length i6] w0 (fun v w' => ∃ (r0 : Bool), v = .bool r0 ∧ Same w0 w' ∧ K r0) := by
 refine cal hA func74 ntmps74 fun hO hB => ?_
 unfold J0E at H
 refine sln0 ?_
 refine sln0 ?_
 refine scm ((H fT.bd) g7.bd) (fun h1 H => ?_) fun h1 H => ?_
 ·refine sln0 ?_
  refine au ?_
  refine lv [0, 1, 12] hO H (fun E k1_3 σ w => Lo A w0 σ w [(13, .int .i64 (k1_3 : Int))] []) ⟨agr, hO, fr⟩ ?_
  refine fun X1 => fun k1_3 => fun H hX1 σ w2 hk => d2 fun hag hO hB => keep2 hk hag ?_
  refine scm H (fun h4 H => ?_) fun h4 H => ?_
  ·refine au ?_
   refine drs 0 [q0, q0, q0, q1, q0, q0, q0, q1, q0] hO fun w5 s hO => ?_
   refine sxl hO fT.u H.1 H.2.1 ?_
   have hle6 := ISl.J81 fT H.1 H.2.1
   refine sxl hO g7.u H.2.2.1 H.2.2.2.1 ?_
   have hle7 := ISl.J81 g7 H.2.2.1 H.2.2.2.1
   have h8 := H.1
   have h9 := H.2.1
   have h10 := H.2.2.1
   have h11 := H.2.2.2.1
   refine scm H.2.2.2.2 (fun h12 H => ?_) fun h12 H => ?_
   ·refine sinc (natbd h4 fT.bd) ?_
    refine au ?_
    exact hX1 _ H _ _ agr ⟨agr, hO, fr⟩
   refine au ?_
   refine Go1.ret1 func74 rfl ⟨_, er, frs, H⟩
  refine au ?_
  refine Go1.ret1 func74 rfl ⟨_, er, frs, H⟩
 refine au ?_
 refine Go1.ret1 func74 rfl ⟨_, er, frs, H⟩
theorem body75 : Body prog 75 := ⟨f75, func75, rfl, by kernel_rfl⟩
theorem J1H {iY i5 : Option Addr} {i4 i6 : Nat} {s1 s2 : List Bool} (hA : HA0 A w0) (fT : ISb A w0 iY i4 s1) (g7 : ISb A w0 i5 i6 s2) {K : Bool → Prop} (H : J0A s1 s2 K) :
    CallsV prog 75 #[.slice iY s1.length i4, .slice i5 s2.length i6] w0 (fun v w' => ∃ (r0 : Bool), v = .bool r0 ∧ Same w0 w' ∧ K r0) := by
 refine cal hA func75 ntmps75 fun hO hB => ?_
 unfold J0A at H
 refine sln0 ?_
 refine sln0 ?_
 refine scm ((H fT.bd) g7.bd) (fun h1 H => ?_) fun h1 H => ?_
 ·refine sln0 ?_
  refine au ?_
  refine lv [0, 1, 12] hO H (fun E k1_3 σ w => Lo A w0 σ w [(13, .int .i64 (k1_3 : Int))] []) ⟨agr, hO, fr⟩ ?_
  refine fun X1 => fun k1_3 => fun H hX1 σ w2 hk => d2 fun hag hO hB => keep2 hk hag ?_
  refine scm H (fun h4 H => ?_) fun h4 H => ?_
  ·refine au ?_
   refine drs 0 [q0, q0, q0, q1, q0, q0, q0, q1, q0] hO fun w5 s hO => ?_
   refine au ?_
   have h6 := H.1
   have h7 := H.2.1
   refine sxb hO fT.u H.1 H.2.1 H.2.2 (fun h8 H => ?_) fun h8 H => ?_
   ·refine au ?_
    have h9 := H.1
    have h10 := H.2.1
    refine sxb hO g7.u H.1 H.2.1 H.2.2 (fun h11 H => ?_) fun h11 H => ?_
    ·refine GoQ.pure rfl (J27 underlying4 rfl rfl) rfl rfl ?_
     refine sinc (natbd h4 fT.bd) ?_
     refine au ?_
     exact hX1 _ H _ _ agr ⟨agr, hO, fr⟩
    refine GoQ.pure rfl (J27 underlying4 rfl rfl) rfl rfl ?_
    refine au ?_
    refine Go1.ret1 func75 rfl ⟨_, er, frs, H⟩
   refine au ?_
   have h12 := H.1
   have h13 := H.2.1
   refine sxb hO g7.u H.1 H.2.1 H.2.2 (fun h14 H => ?_) fun h14 H => ?_
   ·refine GoQ.pure rfl (J27 underlying4 rfl rfl) rfl rfl ?_
    refine au ?_
    refine Go1.ret1 func75 rfl ⟨_, er, frs, H⟩
   refine GoQ.pure rfl (J27 underlying4 rfl rfl) rfl rfl ?_
   refine sinc (natbd h4 fT.bd) ?_
   refine au ?_
   exact hX1 _ H _ _ agr ⟨agr, hO, fr⟩
  refine au ?_
  refine Go1.ret1 func75 rfl ⟨_, er, frs, H⟩
 refine au ?_
 refine Go1.ret1 func75 rfl ⟨_, er, frs, H⟩
theorem body28 : Body prog 28 := ⟨f28, func28, rfl, by kernel_rfl⟩
theorem J05 {cX c8 cD cG dD : Option Addr} {cY db cE cH dE : Nat} {a0 : Syntactic} (hA : HA0 A w0) (bG : ISs A w0 cX cY a0.Table) (cM : ISt A w0 c8 db a0.Words) (b9 : ISi A w0 cD cE a0.Images) (cy : ISb A w0 cG cH a0.Accept) (dk : ISb A w0 dD dE a0.Plus) {K : Int → Prop} (H : J04 a0 K) :
    CallsV prog 28 #[.agg (cSY a0 cX cY c8 db cD cE cG cH dD dE)] w0 (fun v w' => ∃ (r0 : Int), v = .int .i64 r0 ∧ Same w0 w' ∧ K r0) := by
 refine cal hA func28 ntmps28 fun hO hB => ?_
 unfold J04 at H
 refine sbx hO fun w1 B2 s hO => ?_
 refine sag 0 hO ?_
 refine zcr (J01 body71 rfl (J3I hO.lt bG.u cM.u b9.u cy.u dk.u H)) fun _ w5 => e1 fun r4 => sc0 hO fun s hO => fun H => ?_
 cases r4
 ·refine au ?_
  refine Go1.ret1 func28 rfl ⟨_, er, frs, (iF H)⟩
 refine sag 0 hO ?_
 refine zcr (J01 body72 rfl (J3c hO.lt bG.u cM.u b9.u cy.u dk.u (iT H))) fun _ w7 => e4 fun r6 JX JY KJ => e1 fun KK => sc0 hO fun s hO => d2 fun sD tv H => ?_
 refine zcr (J01 body19 rfl (J39 hO.lt sD tv H)) fun _ w10 => e4 fun r8 r9 sE sF => e4 fun sG sH od oe => e4 fun og oh tw tx => sc0 hO fun s hO => d1 fun eX => d4 fun gy fX fY gV H => ?_
 refine sal hO fun w11 B12 s hO => ?_
 refine sba 0 hO fun w14 s hO => ?_
 refine scm H (fun h15 H => ?_) fun h15 H => ?_
 ·refine sln0 ?_
  refine sln0 ?_
  refine scm ((H eX.bd) bG.bd) (fun h16 H => ?_) fun h16 H => ?_
  ·refine sln0 ?_
   refine au ?_
   refine lv [1, 3, 28, 29] hO H (fun E k1_18 σ w => (fun Z => Lo A w0 σ w [(30, .int .i64 (k1_18 : Int))] Z ∧ ISs (bl Z ++ A) w sE sF r8.Table ∧ ISt (bl Z ++ A) w sG sH r8.Words ∧ ISi (bl Z ++ A) w od oe r8.Images ∧ ISb (bl Z ++ A) w og oh r8.Accept ∧ ISb (bl Z ++ A) w tw tx r8.Plus) E) ⟨⟨agr, hO, fr⟩, eX.u, gy.u, fX.u, fY.u, gV.u⟩ ?_
   refine fun X1 => fun k1_18 => fun H hX1 σ w17 hk => d1 fun hL => d4 fun eX gy fX fY gV => d2 (fun hag hO hB => keep2 hk hag ?_) hL
   revert hO; repeat (rename Owns .. => q; clear q)
   intro hO; repeat (rename Sq .. => q; clear q)
   refine scm H (fun h19 H => ?_) fun h19 H => ?_
   ·refine sxls hO eX H.1 H.2.1 fun p20 c21 Qs => ?_
    refine sxls hO bG.u H.2.2.1 H.2.2.2.1 fun p23 c24 Qt => ?_
    have h28 := H.1
    have h29 := H.2.1
    have h30 := H.2.2.1
    have h31 := H.2.2.2.1
    refine zcr (J01 body73 rfl (J1Y hO.lt Qs.u Qt.u H.2.2.2.2)) fun _ w27 => e1 fun r26 => sc0 hO fun s hO => fun H => ?_
    cases r26
    ·refine au ?_
     refine Go1.ret1 func28 rfl ⟨_, er, frs, (iF H)⟩
    refine sinc (natbd h19 eX.bd) ?_
    refine au ?_
    exact hX1 _ (iT H) _ _ agr ⟨⟨agr, hO, fr⟩, eX.u, gy.u, fX.u, fY.u, gV.u⟩
   refine au ?_
   refine zcr (J01 body74 rfl (J30 hO.lt gy.u cM.u H)) fun _ w33 => e1 fun r32 => sc0 hO fun s hO => fun H => ?_
   cases r32
   ·refine au ?_
    refine Go1.ret1 func28 rfl ⟨_, er, frs, (iF H)⟩
   refine au ?_
   refine zcr (J01 body73 rfl (J1Y hO.lt fX.u b9.u (iT H))) fun _ w35 => e1 fun r34 => sc0 hO fun s hO => fun H => ?_
   cases r34
   ·refine au ?_
    refine Go1.ret1 func28 rfl ⟨_, er, frs, (iF H)⟩
   refine au ?_
   refine zcr (J01 body75 rfl (J1H hO.lt fY.u cy.u (iT H))) fun _ w37 => e1 fun r36 => sc0 hO fun s hO => fun H => ?_
   cases r36
   ·refine au ?_
    refine Go1.ret1 func28 rfl ⟨_, er, frs, (iF H)⟩
   refine au ?_
   refine zcr (J01 body75 rfl (J1H hO.lt gV.u dk.u (iT H))) fun _ w39 => e1 fun r38 => sc0 hO fun s hO => fun H => ?_
   cases r38
   ·refine au ?_
    refine Go1.ret1 func28 rfl ⟨_, er, frs, (iF H)⟩
   refine au ?_
   refine Go1.ret1 func28 rfl ⟨_, er, frs, (iT H)⟩
  refine au ?_
  refine Go1.ret1 func28 rfl ⟨_, er, frs, H⟩
 refine au ?_
 refine Go1.ret1 func28 rfl ⟨_, er, frs, H⟩
theorem body53 : Body prog 53 := ⟨f53, func53, rfl, by kernel_rfl⟩
theorem J5o {p_t : Option Addr} {c_t : Nat} {t : List (List Int)} (hA : HA0 A w0) (h_t : ISs A w0 p_t c_t t) {K : Int → Prop} (H : J3h t K) :
    CallsV prog 53 #[.slice p_t t.length c_t] w0 (fun v w' => ∃ (r0 : Int), v = .int .i64 r0 ∧ Same w0 w' ∧ K r0) := by
 refine cal hA func53 ntmps53 fun hO hB => ?_
 unfold J3h at H
 refine sln0 ?_
 refine scm (H h_t.bd) (fun h1 H => ?_) fun h1 H => ?_
 ·refine au ?_
  refine Go1.ret1 func53 rfl ⟨_, er, frs, H⟩
 refine sln0 ?_
 refine scm H (fun h2 H => ?_) fun h2 H => ?_
 ·refine au ?_
  refine Go1.ret1 func53 rfl ⟨_, er, frs, H⟩
 refine sln0 ?_
 refine au ?_
 refine lv [0, 13, 14] hO H (fun E k1_4 σ w => Lo A w0 σ w [(15, .int .i64 (k1_4 : Int))] []) ⟨agr, hO, fr⟩ ?_
 refine fun X1 => fun k1_4 => fun H hX1 σ w3 hk => d2 fun hag hO hB => keep2 hk hag ?_
 refine scm H (fun h5 H => ?_) fun h5 H => ?_
 ·refine sxls hO h_t.u H.1 H.2.1 fun p6 c7 hi8 => ?_
  refine sln0 ?_
  refine sln0 ?_
  have h9 := H.1
  have h10 := H.2.1
  refine scm (H.2.2 hi8.bd) (fun h11 H => ?_) fun h11 H => ?_
  ·refine sln0 ?_
   refine au ?_
   refine lv [0, 13, 14, 15, 24, 25] hO H (fun E yj σ w => (fun Z => Lo A w0 σ w [(26, .int .i64 (yj : Int))] Z ∧ ISi (bl Z ++ A) w p6 c7 (ix t (k1_4 : Int))) []) ⟨⟨agr, hO, fr⟩, hi8.u⟩ ?_
   refine fun X2 => fun yj => fun H hX2 σ w12 hk => d1 fun hL => fun hi8 => d2 (fun hag hO hB => keep2 hk hag ?_) hL
   revert hO; repeat (rename Owns .. => q; clear q)
   intro hO; repeat (rename Sq .. => q; clear q)
   refine scm H (fun h14 H => ?_) fun h14 H => ?_
   ·refine sxl hO hi8 H.1 H.2.1 ?_
    refine au ?_
    have h15 := H.1
    have h16 := H.2.1
    refine scm H.2.2 (fun h17 H => ?_) fun h17 H => ?_
    ·refine au ?_
     refine Go1.ret1 func53 rfl ⟨_, er, frs, H⟩
    refine sln0 ?_
    refine scm H (fun h18 H => ?_) fun h18 H => ?_
    ·refine au ?_
     refine Go1.ret1 func53 rfl ⟨_, er, frs, H⟩
    refine sinc (natbd h14 hi8.bd) ?_
    refine au ?_
    exact hX2 _ H _ _ agr ⟨⟨agr, hO, fr⟩, hi8⟩
   refine sinc (natbd h5 h_t.bd) ?_
   refine au ?_
   exact hX1 _ H _ _ agr ⟨agr, hO, fr⟩
  refine au ?_
  refine Go1.ret1 func53 rfl ⟨_, er, frs, H⟩
 refine au ?_
 refine Go1.ret1 func53 rfl ⟨_, er, frs, H⟩
theorem body30 : Body prog 30 := ⟨f30, func30, rfl, by kernel_rfl⟩
theorem J6N {p_t p_l : Option Addr} {c_t c_l : Nat} {t : List (List Int)} {l : List Int} (hA : HA0 A w0) (h_t : ISs A w0 p_t c_t t) (h_l : ISi A w0 p_l c_l l) {K : Bool → Prop} (H : J5D t l K) :
    CallsV prog 30 #[.slice p_t t.length c_t, .slice p_l l.length c_l] w0 (fun v w' => ∃ (r0 : Bool), v = .bool r0 ∧ Same w0 w' ∧ K r0) := by
 refine cal hA func30 ntmps30 fun hO hB => ?_
 unfold J5D at H
 refine sln0 ?_
 refine au ?_
 refine lv [0, 7, 8] hO (H h_l.bd) (fun E k1_2 σ w => Lo A w0 σ w [(9, .int .i64 (k1_2 : Int))] []) ⟨agr, hO, fr⟩ ?_
 refine fun X1 => fun k1_2 => fun H hX1 σ w1 hk => d2 fun hag hO hB => keep2 hk hag ?_
 refine scm H (fun h3 H => ?_) fun h3 H => ?_
 ·refine sxl hO h_l.u H.1 H.2.1 ?_
  refine au ?_
  have h4 := H.1
  have h5 := H.2.1
  refine scm H.2.2 (fun h6 H => ?_) fun h6 H => ?_
  ·refine au ?_
   refine Go1.ret1 func30 rfl ⟨_, er, frs, H⟩
  refine sln0 ?_
  refine scm (H h_t.bd) (fun h7 H => ?_) fun h7 H => ?_
  ·refine au ?_
   refine Go1.ret1 func30 rfl ⟨_, er, frs, H⟩
  refine sinc (natbd h3 h_l.bd) ?_
  refine au ?_
  exact hX1 _ H _ _ agr ⟨agr, hO, fr⟩
 refine au ?_
 refine Go1.ret1 func30 rfl ⟨_, er, frs, H⟩
theorem body44 : Body prog 44 := ⟨f44, func44, rfl, by kernel_rfl⟩
theorem J49 {p_s__Table p_s__Words p_s__Images p_s__Accept p_s__Plus : Option Addr} {c_s__Table c_s__Words c_s__Images c_s__Accept c_s__Plus : Nat} {s_ : Syntactic} (hA : HA0 A w0) (h_s__Table : ISs A w0 p_s__Table c_s__Table s_.Table) (h_s__Words : ISt A w0 p_s__Words c_s__Words s_.Words) (h_s__Images : ISi A w0 p_s__Images c_s__Images s_.Images) (h_s__Accept : ISb A w0 p_s__Accept c_s__Accept s_.Accept) (h_s__Plus : ISb A w0 p_s__Plus c_s__Plus s_.Plus) {K : DFA → Prop} (H : J0W s_ K) :
    CallsV prog 44 #[.agg (cSY s_ p_s__Table c_s__Table p_s__Words c_s__Words p_s__Images c_s__Images p_s__Accept c_s__Accept p_s__Plus c_s__Plus)] w0 (fun v w' => ∃ (r0 : DFA), ∃ (aN : Option Addr), ∃ (aO : Nat), ∃ (bk : Option Addr), ∃ (bm : Nat), v = .agg (cDF r0 aN aO bk bm) ∧ Same w0 w' ∧ ISb A w' aN aO r0.Final ∧ ISs A w' bk bm r0.Next ∧ K r0) := by
 refine cal hA func44 ntmps44 fun hO hB => ?_
 unfold J0W at H
 refine sbx hO fun w1 B2 s hO => ?_
 refine sal hO fun w4 B5 s hO => ?_
 refine au ?_
 refine drA (CSv.tr [(some ⟨B2, 0, none⟩), (some ⟨B2, 4, none⟩)]) 1 [(0, m0), (1, m1), (3, m0), (4, m1), (2, m4), (5, m2), (6, m0), (7, m4), (8, m3)] hO fun w7 s hO => ?_
 have hn8 := hO.le
 have hw9 := (fr : Fr (bl []) w0 _ w7).ch.size
 refine au ?_
 refine GoQA.stable rfl (loadV (.head _) rfl (J00 1 hO rfl rfl) underlying3 rfl rfl) rfl rfl ?_
 refine au ?_
 refine GoQA.stable rfl (loadV (.tail _ (.head _)) rfl (J00 1 hO rfl rfl) underlying22 rfl rfl) rfl rfl ?_
 refine GoQA.alloc rfl rfl (alBuild (n := 0) (parts := []) (vs := []) underlying22 ti4 (by decide) (by decide) (by decide) (by kernel_rfl) rfl rfl) ?_
 intro w11 A12 b13 A14 wu ww hd17 hnb18 hh19
 refine sgw wu hO fun s hO => ?_
 have jF := elE (Rp.bool) [] (([] : List Bool)) hO (Els.nil _ _ _)
 refine sgn (e := .row 4 1 (some ⟨b13, 0, none⟩) 0 0 []) ww hO hn8 hw9 hnb18 rfl hh19 hd17 (fr : Fr (bl []) w0 _ w11) fun s hO hB => ?_
 replace jF := jF.ch s.ch
 refine cl1 Fl.bool 0 hO jF.u fun s hO => ?_
 refine GoQA.loudI rfl rfl fun w21 A22 wz => ?_
 refine sgw wz hO fun s hO => ?_
 refine sapQ 0 hO h_s__Accept.u H (fun w24 p25 c26 s hO => ?_) (g := fun _ _ _ _ hv hst h => GoAt.step hv (fun _ => (CSv.cons (cs_eq (J00 2 hO rfl rfl) (J00 2 hst.own rfl rfl)) (CSv.cons (cs_eq (J00 2 hO rfl rfl) (J00 2 hst.own rfl rfl)) (CSv.nil _ _)))) (Stp.kp hO hst) rfl h)
 refine GoQA.pure rfl (J0a underlying25 ti25 (pl := [(0, 1), (1, 1), (2, 1), (3, 1)]) (vs := [(0, .int .i64 s_.Letters), (2, .slice p25 (0 + s_.Accept.length) c26)]) (cs := #[.int .i64 s_.Letters, .int .i64 (0 : Int), .slice p25 (0 + s_.Accept.length) c26, .slice none 0 0]) (by kernel_rfl) rfl (by kernel_rfl)) rfl rfl ?_
 refine GoQA.alloc rfl rfl (alAlloc (cs := #[.int .i64 (0 : Int), .int .i64 (0 : Int), .slice none 0 0, .slice none 0 0]) ti25 rfl) ?_
 intro w28 A29 b30 A31 Qu Qv hd34 hnb35 hh36
 refine sgw Qu hO fun s hO => ?_
 refine sgn (e := .blk b30 (.cells #[.int .i64 (0 : Int), .int .i64 (0 : Int), .slice none 0 0, .slice none 0 0] 25 (0, 0))) Qv hO hn8 hw9 hnb35 rfl hh36 hd34 (fr : Fr (bl []) w0 _ w28) fun s hO hB => ?_
 refine GoQA.lastI rfl rfl fun w37 A38 Qw => ?_
 refine sgw Qw hO fun s hO => ?_
 refine sba 0 hO fun w40 s hO => ?_
 refine GoQA.nil fun w41 A42 xe xg => ?_
 refine sgw xe hO fun s hO => ?_
 refine spm xg hO fun s hO => ?_
 refine sln0 ?_
 refine au ?_
 have jN := Stp.nil (e := 31) (r := 1) hO
 refine nst jN fun s hO => ?_
 have kE := elN (Rp.sl (Rp.int .i64)) hO
 refine lv [1, 2, 3, 17] hO (H.2 h_s__Table.bd) (fun E (sI, sJ) σ w => ∃ n55 p53 c54 sK, (fun Z => Lo A w0 σ w [(18, .int .i64 (sI : Int))] Z ∧ Els (Rp.sl (Rp.int .i64)) (bl Z ++ A) w sK sJ) (esets E [(0, .row 31 1 p53 n55 c54 sK), (1, .blk b30 (.cells #[.int .i64 s_.Letters, .int .i64 (0 : Int), .slice p25 (0 + s_.Accept.length) c26, .slice p53 n55 c54] 25 (0, 0)))])) ⟨_, _, _, _, ⟨agr, hO, fr⟩, kE.u⟩ ?_
 refine fun X1 => p1 fun sI sJ => fun H hX1 σ w48 hk => e4 fun n55 p53 c54 sK => d1 fun hL => fun jK => d2 (fun hag hO hB => keep2 hk hag ?_) hL
 dsimp only [esets, sS, sZ] at hO hB jK
 dsimp only at H
 revert hO; repeat (rename Owns .. => q; clear q)
 intro hO; repeat (rename Sq .. => q; clear q)
 refine scm H (fun h56 H => ?_) fun h56 H => ?_
 ·refine sln0 ?_
  refine au ?_
  refine snil Fl.i 3 hO fun s hO => ?_
  refine lv [1, 2, 3, 4, 17, 18, 22, 23] hO (H h_s__Images.bd) (fun E (k2_59, row2_60) σ w => ∃ n63 p61 c62, (fun Z => Lo A w0 σ w [(5, .slice p61 n63 c62), (24, .int .i64 (k2_59 : Int))] Z ∧ Els (Rp.sl (Rp.int .i64)) (bl Z ++ A) w sK sJ) (E.set 0 (t1 Fl.i 3 p61 n63 c62 row2_60))) ⟨_, _, _, ⟨agr, hO, fr⟩, jK.u⟩ ?_
  refine fun X2 => p1 fun k2_59 row2_60 => fun H hX2 σ w58 hk => e3 fun n63 p61 c62 => d1 fun hL => fun jK => d2 (fun hag hO hB => keep2 hk hag ?_) hL
  dsimp only [esets, sS, sZ] at hO hB jK
  dsimp only at H
  revert hO; repeat (rename Owns .. => q; clear q)
  intro hO; repeat (rename Sq .. => q; clear q)
  refine scm H (fun h64 H => ?_) fun h64 H => ?_
  ·refine sxl hO h_s__Images.u H.1 H.2.1 ?_
   refine sxls hO h_s__Table.u H.2.2.1 H.2.2.2.1 fun p65 c66 Qx => ?_
   refine sxl hO Qx.u H.2.2.2.2.1 H.2.2.2.2.2.1 ?_
   refine sap1 ((ix (ix s_.Table (sI : Int)) (ix s_.Images (k2_59 : Int)))) 0 hO H.2.2.2.2.2.2 fun _ w68 p69 c70 s hO => ?_
   refine sinc (natbd h64 h_s__Images.bd) ?_
   refine au ?_
   exact hX2 _ H.2.2.2.2.2.2.2 _ _ agr ⟨_, _, _, ⟨agr, hO, fr⟩, jK.u⟩
  refine au ?_
  refine sfz 0 hO fun s hO nf v7 => ?_
  have zz := J1u (r := Rp.sl (Rp.int .i64)) (n := 1) (parts := [(0, .slice p61 n63 c62)]) (vs := [.slice p61 n63 c62]) (xs := [row2_60]) rfl underlying23 ti31 hO (by decide) (by kernel_rfl) (Els.cons rfl ⟨p61, c62, congrArg some (congrArg (fun nn => Value.slice p61 nn c62) v7), nf.u⟩ (Els.nil _ _ _) (by simp [mx])) rfl
  obtain ⟨w73, p74, J0, Qy, adN, J1⟩ := zz
  refine zg (J1 rfl) ?_
  refine nst J0 fun s hO => ?_
  refine sfzR 0 hO Qy fun s hO Qz QA => ?_
  obtain ⟨h82, H⟩ := H
  have zz := oapp underlying23 ti31 rfl 0 hO rfl jK.u Qz QA h82 (by decide)
  obtain ⟨w83, p84, c85, adO, J2, CG, J3⟩ := zz
  dsimp only [sS, sZ] at CG
  refine zg (J3 (by exact rfl) (by exact rfl)) ?_
  refine nst J2 fun s hO => ?_
  refine sbs 1 hO fun w91 s hO => ?_
  refine sinc (natbd h56 h_s__Table.bd) ?_
  refine au ?_
  exact hX1 _ H _ _ agr ⟨_, _, _, _, ⟨agr, hO, fr⟩, CG.u⟩
 refine sag 1 hO ?_
 refine sba 3 hO fun w92 s hO => ?_
 refine au ?_
 refine sfz 2 hO fun s hO QB QC => ?_
 refine sfzR 0 hO jK.u fun s hO QD QE => ?_
 refine Go1.retC1 func44 rfl rfl (rlb 1 hO) ⟨((⟨s_.Letters, (0 : Int), (([] : List Bool)) ++ s_.Accept, sJ⟩ : DFA)), _, _, _, _, ?_, frs, QB.r, QD.r, H⟩
 exact (congrArg (fun l => Value.agg (List.toArray l)) (J02 rfl (J02 rfl (J02 (congrArg (fun nn => Value.slice p25 nn c26) QC) (J02 (congrArg (fun nn => Value.slice p53 nn c54) QE) rfl)))))
theorem body29 : Body prog 29 := ⟨f29, func29, rfl, by kernel_rfl⟩
theorem J07 {cX c8 cD cG dD : Option Addr} {cY db cE cH dE : Nat} {a0 : Syntactic} (hA : HA0 A w0) (bG : ISs A w0 cX cY a0.Table) (cM : ISt A w0 c8 db a0.Words) (b9 : ISi A w0 cD cE a0.Images) (cy : ISb A w0 cG cH a0.Accept) (dk : ISb A w0 dD dE a0.Plus) {K : Int → Prop} (H : J09 a0 K) :
    CallsV prog 29 #[.agg (cSY a0 cX cY c8 db cD cE cG cH dD dE)] w0 (fun v w' => ∃ (r0 : Int), v = .int .i64 r0 ∧ Same w0 w' ∧ K r0) := by
 refine cal hA func29 ntmps29 fun hO hB => ?_
 unfold J09 at H
 refine sbx hO fun w1 B2 s hO => ?_
 refine sln0 ?_
 refine au ?_
 refine zcr (J01 body53 rfl (J5o hO.lt bG.u (H bG.bd))) fun _ w5 => e1 fun r4 => sc0 hO fun s hO => fun H => ?_
 refine scm H (fun h6 H => ?_) fun h6 H => ?_
 ·refine au ?_
  refine zcr (J01 body59 rfl (J1Z hO.lt H)) fun _ w8 => e1 fun r7 => sc0 hO fun s hO => fun H => ?_
  cases r7
  ·refine au ?_
   refine Go1.ret1 func29 rfl ⟨_, er, frs, (iF H)⟩
  refine sln0 ?_
  refine scm ((iT H) b9.bd) (fun h9 H => ?_) fun h9 H => ?_
  ·refine au ?_
   refine zcr (J01 body30 rfl (J6N hO.lt bG.u b9.u H)) fun _ w11 => e1 fun r10 => sc0 hO fun s hO => fun H => ?_
   cases r10
   ·refine au ?_
    refine Go1.ret1 func29 rfl ⟨_, er, frs, (iF H)⟩
   refine sln0 ?_
   refine scm ((iT H) cy.bd) (fun h12 H => ?_) fun h12 H => ?_
   ·refine sln0 ?_
    refine scm (H cM.bd) (fun h13 H => ?_) fun h13 H => ?_
    ·refine sln0 ?_
     refine scm (H dk.bd) (fun h14 H => ?_) fun h14 H => ?_
     ·refine sag 0 hO ?_
      refine zcr (J01 body44 rfl (J49 hO.lt bG.u cM.u b9.u cy.u dk.u H)) fun _ w16 => e4 fun r15 Dw Dx J4 => e1 fun J5 => sc0 hO fun s hO => d2 fun ol sL H => ?_
      refine zcr (J01 body20 rfl (J3p hO.lt ol sL H)) fun _ w19 => e4 fun r17 r18 Dy Dz => e4 fun DA DB CH CJ => e4 fun CK CM J6 J7 => sc0 hO fun s hO => d1 fun om => d4 fun oo nM nO sM H => ?_
      refine sal hO fun w20 B21 s hO => ?_
      refine sba 0 hO fun w23 s hO => ?_
      refine scm H (fun h24 H => ?_) fun h24 H => ?_
      ·refine sag 0 hO ?_
       refine sag 1 hO ?_
       refine zcr (J01 body21 rfl (J67 hO.lt om.u oo.u nM.u nO.u sM.u bG.u cM.u b9.u cy.u dk.u H)) fun _ w26 => e1 fun r25 => sc0 hO fun s hO => fun H => ?_
       cases r25
       ·refine au ?_
        refine Go1.ret1 func29 rfl ⟨_, er, frs, (iF H)⟩
       refine au ?_
       refine Go1.ret1 func29 rfl ⟨_, er, frs, (iT H)⟩
      refine au ?_
      refine Go1.ret1 func29 rfl ⟨_, er, frs, H⟩
     refine au ?_
     refine Go1.ret1 func29 rfl ⟨_, er, frs, H⟩
    refine au ?_
    refine Go1.ret1 func29 rfl ⟨_, er, frs, H⟩
   refine au ?_
   refine Go1.ret1 func29 rfl ⟨_, er, frs, H⟩
  refine au ?_
  refine Go1.ret1 func29 rfl ⟨_, er, frs, H⟩
 refine au ?_
 refine Go1.ret1 func29 rfl ⟨_, er, frs, H⟩
theorem J2o {cX c8 cD cG dD kB lF : Option Addr} {cY db cE cH dE kC lG : Nat} {a0 : Syntactic} {a1 : DFA} {a2 a3 : Int} (hA : HA0 A w0) (bG : ISs A w0 cX cY a0.Table) (cM : ISt A w0 c8 db a0.Words) (b9 : ISi A w0 cD cE a0.Images) (cy : ISb A w0 cG cH a0.Accept) (dk : ISb A w0 dD dE a0.Plus) (gz : ISb A w0 kB kC a1.Final) (gW : ISs A w0 lF lG a1.Next) {K : Bool → Prop} (H : law21_SyntacticRefuses a0 a1 a2 a3 K) :
    CallsV prog 6 #[.agg (cSY a0 cX cY c8 db cD cE cG cH dD dE), .agg (cDF a1 kB kC lF lG), .int .i64 a2, .int .i64 a3] w0 (fun v w' => ∃ (r0 : Bool), v = .bool r0 ∧ Same w0 w' ∧ K r0) := by
 refine cal hA func6 ntmps6 fun hO hB => ?_
 unfold law21_SyntacticRefuses at H
 refine sbx hO fun w1 B2 s hO => ?_
 refine sbx hO fun w4 B5 s hO => ?_
 refine au ?_
 refine drw 0 [(0, q0), (1, q1), (2, q0), (3, q0), (4, q0), (5, q1), (7, q1), (6, q2), (8, q2), (9, q0), (10, q0)] hO fun w7 s hO => ?_
 refine sln0 ?_
 refine scm (H bG.bd) (fun h8 H => ?_) fun h8 H => ?_
 ·refine sag 1 hO ?_
  refine sag 1 hO ?_
  refine zcq rfl (J01 body28 rfl (J05 hO.lt bG.u cM.u b9.u cy.u dk.u H)) fun _ w10 => e1 fun r9 => sq0 hO fun s hO => fun H => ?_
  refine zcq rfl (J01 body29 rfl (J07 hO.lt bG.u cM.u b9.u cy.u dk.u H)) fun _ w12 => e1 fun r11 => sq0 hO fun s hO => fun H => ?_
  refine scm H (fun h13 H => ?_) fun h13 H => ?_
  ·refine sag 0 hO ?_
   refine zcr (J01 body17 rfl (J3w hO.lt gz.u gW.u H)) fun _ w15 => e1 fun r14 => sc0 hO fun s hO => fun H => ?_
   cases r14
   ·refine au ?_
    refine zcr (J01 body18 rfl (J08 hO.lt (iF H))) fun _ w17 => e1 fun r16 => sc0 hO fun s hO => fun H => ?_
    refine au ?_
    refine Go1.ret1 func6 rfl ⟨_, er, frs, H⟩
   refine sag 0 hO ?_
   refine zcr (J01 body20 rfl (J3p hO.lt gz.u gW.u (iT H))) fun _ w20 => e4 fun r18 r19 DD DE => e4 fun DF DG CO CP => e4 fun CQ CR J8 J9 => sc0 hO fun s hO => d1 fun cd => d4 fun cI cv de dJ H => ?_
   refine sal hO fun w21 B22 s hO => ?_
   refine sba 0 hO fun w24 s hO => ?_
   refine scm H (fun h25 H => ?_) fun h25 H => ?_
   ·refine sln0 ?_
    refine au ?_
    replace H := (H cd.bd)
    obtain ⟨h26, H⟩ := H
    refine zo (J7X rfl rfl h26 rfl) ?_
    refine au ?_
    obtain ⟨h27, H⟩ := H
    refine zo (J06 rfl rfl (wrap_i64 h27)) ?_
    refine au ?_
    obtain ⟨h28, H⟩ := H
    refine zo (J7X rfl rfl h28 rfl) ?_
    refine au ?_
    refine zo (J9F rfl rfl) ?_
    refine scm H (fun h29 H => ?_) fun h29 H => ?_
    ·refine sbu Fl.bool 4 ([] : List Bool) hO fun w30 p31 s hO => ?_
     refine sap 0 hO de.u H fun w33 p34 c35 s hO => ?_
     refine sbs 1 hO fun w36 s hO => ?_
     refine au ?_
     refine drs 1 [q0, q1, q0, q0, q1, q0, q0, q1, q0, q0, q3] hO fun w37 s hO => ?_
     refine au ?_
     have h38 := H.2.1
     have h39 := H.2.2.1
     refine sxb1 0 hO H.2.1 H.2.2.1 H.2.2.2 (fun h40 H => ?_) fun h40 H => ?_
     ·refine six1 0 hO H.1 H.2.1 ?_
      refine sst (u := false) 0 hO H.1 H.2.1 fun w41 s hO => ?_
      refine au ?_
      refine drw 0 [(0, q1), (2, q1), (1, q2), (3, q2), (4, q0), (5, q0), (6, q2), (7, q0), (8, q0)] hO fun w42 s hO => ?_
      refine sag 1 hO ?_
      refine sag 1 hO ?_
      have QF := t1lend 0 hO
      have QG := t1n 0 hO
      have hOc45 := hO.drop 0
      have h48 := H.1
      have h49 := H.2.1
      refine zcq rfl (J01 body28 (by rw [QG]; exact rfl) (J05 (a0 := (⟨r18.Letters, r18.Table, r18.Words, r18.Images, st ((([] : List Bool)) ++ r18.Accept) (((a3.tmod (r18.Table.length : Int)) + (r18.Table.length : Int)).tmod (r18.Table.length : Int)) false, r18.Plus⟩ : Syntactic)) hOc45.lt (cd.u.ch (Owns.J03 _ _ 0)) (cI.u.ch (Owns.J03 _ _ 0)) (cv.u.ch (Owns.J03 _ _ 0)) QF (dJ.u.ch (Owns.J03 _ _ 0)) H.2.2)) fun _ w47 => e1 fun r46 => sq0 hO fun s hO => fun H => ?_
      have QH := t1lend 0 hO
      have kP := t1n 0 hO
      have hOc52 := hO.drop 0
      refine zcq rfl (J01 body29 (by rw [kP]; exact rfl) (J07 (a0 := (⟨r18.Letters, r18.Table, r18.Words, r18.Images, st ((([] : List Bool)) ++ r18.Accept) (((a3.tmod (r18.Table.length : Int)) + (r18.Table.length : Int)).tmod (r18.Table.length : Int)) false, r18.Plus⟩ : Syntactic)) hOc52.lt (cd.u.ch (Owns.J03 _ _ 0)) (cI.u.ch (Owns.J03 _ _ 0)) (cv.u.ch (Owns.J03 _ _ 0)) QH (dJ.u.ch (Owns.J03 _ _ 0)) H)) fun _ w54 => e1 fun r53 => sq0 hO fun s hO => fun H => ?_
      refine scm H (fun h55 H => ?_) fun h55 H => ?_
      ·refine au ?_
       refine zcq rfl (J01 body18 rfl (J08 hO.lt H)) fun _ w57 => e1 fun r56 => sq0 hO fun s hO => fun H => ?_
       refine au ?_
       refine Go1.ret1 func6 rfl ⟨_, er, frs, H⟩
      refine au ?_
      refine Go1.ret1 func6 rfl ⟨_, er, frs, H⟩
     refine six1 0 hO H.1 H.2.1 ?_
     refine sst (u := true) 0 hO H.1 H.2.1 fun w58 s hO => ?_
     refine au ?_
     refine drw 0 [(0, q1), (2, q1), (1, q2), (3, q2), (4, q0), (5, q0), (6, q2), (7, q0), (8, q0)] hO fun w59 s hO => ?_
     refine sag 1 hO ?_
     refine sag 1 hO ?_
     have QI := t1lend 0 hO
     have QJ := t1n 0 hO
     have hOc62 := hO.drop 0
     have h65 := H.1
     have h66 := H.2.1
     refine zcq rfl (J01 body28 (by rw [QJ]; exact rfl) (J05 (a0 := (⟨r18.Letters, r18.Table, r18.Words, r18.Images, st ((([] : List Bool)) ++ r18.Accept) (((a3.tmod (r18.Table.length : Int)) + (r18.Table.length : Int)).tmod (r18.Table.length : Int)) true, r18.Plus⟩ : Syntactic)) hOc62.lt (cd.u.ch (Owns.J03 _ _ 0)) (cI.u.ch (Owns.J03 _ _ 0)) (cv.u.ch (Owns.J03 _ _ 0)) QI (dJ.u.ch (Owns.J03 _ _ 0)) H.2.2)) fun _ w64 => e1 fun r63 => sq0 hO fun s hO => fun H => ?_
     have QK := t1lend 0 hO
     have QL := t1n 0 hO
     have hOc69 := hO.drop 0
     refine zcq rfl (J01 body29 (by rw [QL]; exact rfl) (J07 (a0 := (⟨r18.Letters, r18.Table, r18.Words, r18.Images, st ((([] : List Bool)) ++ r18.Accept) (((a3.tmod (r18.Table.length : Int)) + (r18.Table.length : Int)).tmod (r18.Table.length : Int)) true, r18.Plus⟩ : Syntactic)) hOc69.lt (cd.u.ch (Owns.J03 _ _ 0)) (cI.u.ch (Owns.J03 _ _ 0)) (cv.u.ch (Owns.J03 _ _ 0)) QK (dJ.u.ch (Owns.J03 _ _ 0)) H)) fun _ w71 => e1 fun r70 => sq0 hO fun s hO => fun H => ?_
     refine scm H (fun h72 H => ?_) fun h72 H => ?_
     ·refine au ?_
      refine zcq rfl (J01 body18 rfl (J08 hO.lt H)) fun _ w74 => e1 fun r73 => sq0 hO fun s hO => fun H => ?_
      refine au ?_
      refine Go1.ret1 func6 rfl ⟨_, er, frs, H⟩
     refine au ?_
     refine Go1.ret1 func6 rfl ⟨_, er, frs, H⟩
    refine scm H (fun h75 H => ?_) fun h75 H => ?_
    ·refine sbu Fl.bool 4 ([] : List Bool) hO fun w76 p77 s hO => ?_
     refine sap 0 hO dJ.u H fun w79 p80 c81 s hO => ?_
     refine sbs 1 hO fun w82 s hO => ?_
     refine au ?_
     refine drs 1 [q0, q1, q0, q0, q1, q0, q0, q1, q0, q0, q3] hO fun w83 s hO => ?_
     refine au ?_
     have h84 := H.2.1
     have h85 := H.2.2.1
     refine sxb1 0 hO H.2.1 H.2.2.1 H.2.2.2 (fun h86 H => ?_) fun h86 H => ?_
     ·refine six1 0 hO H.1 H.2.1 ?_
      refine sst (u := false) 0 hO H.1 H.2.1 fun w87 s hO => ?_
      refine au ?_
      refine drw 0 [(0, q1), (2, q1), (1, q2), (3, q2), (4, q0), (5, q0), (6, q2), (7, q0), (8, q0)] hO fun w88 s hO => ?_
      refine sag 1 hO ?_
      refine sag 1 hO ?_
      have QM := t1lend 0 hO
      have tR := t1n 0 hO
      have hOc91 := hO.drop 0
      have h94 := H.1
      have h95 := H.2.1
      refine zcq rfl (J01 body28 (by rw [tR]; exact rfl) (J05 (a0 := (⟨r18.Letters, r18.Table, r18.Words, r18.Images, r18.Accept, st ((([] : List Bool)) ++ r18.Plus) (((a3.tmod (r18.Table.length : Int)) + (r18.Table.length : Int)).tmod (r18.Table.length : Int)) false⟩ : Syntactic)) hOc91.lt (cd.u.ch (Owns.J03 _ _ 0)) (cI.u.ch (Owns.J03 _ _ 0)) (cv.u.ch (Owns.J03 _ _ 0)) (de.u.ch (Owns.J03 _ _ 0)) QM H.2.2)) fun _ w93 => e1 fun r92 => sq0 hO fun s hO => fun H => ?_
      have QO := t1lend 0 hO
      have vQ := t1n 0 hO
      have hOc98 := hO.drop 0
      refine zcq rfl (J01 body29 (by rw [vQ]; exact rfl) (J07 (a0 := (⟨r18.Letters, r18.Table, r18.Words, r18.Images, r18.Accept, st ((([] : List Bool)) ++ r18.Plus) (((a3.tmod (r18.Table.length : Int)) + (r18.Table.length : Int)).tmod (r18.Table.length : Int)) false⟩ : Syntactic)) hOc98.lt (cd.u.ch (Owns.J03 _ _ 0)) (cI.u.ch (Owns.J03 _ _ 0)) (cv.u.ch (Owns.J03 _ _ 0)) (de.u.ch (Owns.J03 _ _ 0)) QO H)) fun _ adP => e1 fun r99 => sq0 hO fun s hO => fun H => ?_
      refine scm H (fun mA H => ?_) fun mA H => ?_
      ·refine au ?_
       refine zcq rfl (J01 body18 rfl (J08 hO.lt H)) fun _ y6 => e1 fun adQ => sq0 hO fun s hO => fun H => ?_
       refine au ?_
       refine Go1.ret1 func6 rfl ⟨_, er, frs, H⟩
      refine au ?_
      refine Go1.ret1 func6 rfl ⟨_, er, frs, H⟩
     refine six1 0 hO H.1 H.2.1 ?_
     refine sst (u := true) 0 hO H.1 H.2.1 fun o7 s hO => ?_
     refine au ?_
     refine drw 0 [(0, q1), (2, q1), (1, q2), (3, q2), (4, q0), (5, q0), (6, q2), (7, q0), (8, q0)] hO fun mj s hO => ?_
     refine sag 1 hO ?_
     refine sag 1 hO ?_
     have su := t1lend 0 hO
     have gU := t1n 0 hO
     have hOc108 := hO.drop 0
     have kD := H.1
     have iB := H.2.1
     refine zcq rfl (J01 body28 (by rw [gU]; exact rfl) (J05 (a0 := (⟨r18.Letters, r18.Table, r18.Words, r18.Images, r18.Accept, st ((([] : List Bool)) ++ r18.Plus) (((a3.tmod (r18.Table.length : Int)) + (r18.Table.length : Int)).tmod (r18.Table.length : Int)) true⟩ : Syntactic)) hOc108.lt (cd.u.ch (Owns.J03 _ _ 0)) (cI.u.ch (Owns.J03 _ _ 0)) (cv.u.ch (Owns.J03 _ _ 0)) (de.u.ch (Owns.J03 _ _ 0)) su H.2.2)) fun _ wa => e1 fun r109 => sq0 hO fun s hO => fun H => ?_
     have Ka := t1lend 0 hO
     have Kb := t1n 0 hO
     have hOc115 := hO.drop 0
     refine zcq rfl (J01 body29 (by rw [Kb]; exact rfl) (J07 (a0 := (⟨r18.Letters, r18.Table, r18.Words, r18.Images, r18.Accept, st ((([] : List Bool)) ++ r18.Plus) (((a3.tmod (r18.Table.length : Int)) + (r18.Table.length : Int)).tmod (r18.Table.length : Int)) true⟩ : Syntactic)) hOc115.lt (cd.u.ch (Owns.J03 _ _ 0)) (cI.u.ch (Owns.J03 _ _ 0)) (cv.u.ch (Owns.J03 _ _ 0)) (de.u.ch (Owns.J03 _ _ 0)) Ka H)) fun _ mC => e1 fun iG => sq0 hO fun s hO => fun H => ?_
     refine scm H (fun gv H => ?_) fun gv H => ?_
     ·refine au ?_
      refine zcq rfl (J01 body18 rfl (J08 hO.lt H)) fun _ mJ => e1 fun O1 => sq0 hO fun s hO => fun H => ?_
      refine au ?_
      refine Go1.ret1 func6 rfl ⟨_, er, frs, H⟩
     refine au ?_
     refine Go1.ret1 func6 rfl ⟨_, er, frs, H⟩
    refine scm H (fun mO H => ?_) fun mO H => ?_
    ·refine sbu Fl.str 9 ([] : List Str) hO fun vh NQ s hO => ?_
     refine sap 0 hO cI.u H fun uf Ln Lr s hO => ?_
     refine sbs 1 hO fun zc s hO => ?_
     refine au ?_
     refine drs 1 [q0, q1, q0, q0, q1, q0, q0, q1, q0, q0, q3] hO fun yH s hO => ?_
     refine sxl1 0 hO H.2.1 H.2.2.1 ?_
     have hle130 := t1le 0 hO H.2.1 H.2.2.1
     have adR := H.2.1
     have Aa := H.2.2.1
     replace H := H.2.2.2
     obtain ⟨CT, H⟩ := H
     refine GoQ.pure rfl (J0d rfl rfl CT) rfl rfl ?_
     refine six1 0 hO H.1 H.2.1 ?_
     refine sst (u := ((ix ((([] : List Str)) ++ r18.Words) (((a3.tmod (r18.Table.length : Int)) + (r18.Table.length : Int)).tmod (r18.Table.length : Int))) ++ (([97] : Str)))) 0 hO H.1 H.2.1 (fun zd s hO => ?_) (hR := by exact fun _ _ => ⟨rfl, (lenApp CT)⟩)
     refine au ?_
     refine drw 0 [(0, q1), (2, q1), (1, q2), (3, q2), (4, q0), (5, q0), (6, q2), (7, q0), (8, q0)] hO fun adS s hO => ?_
     refine sag 1 hO ?_
     refine sag 1 hO ?_
     have Kc := t1lend 0 hO
     have ru := t1n 0 hO
     have hOc138 := hO.drop 0
     have adT := H.1
     have adU := H.2.1
     refine zcq rfl (J01 body28 (by rw [ru]; exact rfl) (J05 (a0 := (⟨r18.Letters, r18.Table, st ((([] : List Str)) ++ r18.Words) (((a3.tmod (r18.Table.length : Int)) + (r18.Table.length : Int)).tmod (r18.Table.length : Int)) ((ix ((([] : List Str)) ++ r18.Words) (((a3.tmod (r18.Table.length : Int)) + (r18.Table.length : Int)).tmod (r18.Table.length : Int))) ++ (([97] : Str))), r18.Images, r18.Accept, r18.Plus⟩ : Syntactic)) hOc138.lt (cd.u.ch (Owns.J03 _ _ 0)) Kc (cv.u.ch (Owns.J03 _ _ 0)) (de.u.ch (Owns.J03 _ _ 0)) (dJ.u.ch (Owns.J03 _ _ 0)) H.2.2)) fun _ Lv => e1 fun r139 => sq0 hO fun s hO => fun H => ?_
     have sb := t1lend 0 hO
     have jO := t1n 0 hO
     have hOc145 := hO.drop 0
     refine zcq rfl (J01 body29 (by rw [jO]; exact rfl) (J07 (a0 := (⟨r18.Letters, r18.Table, st ((([] : List Str)) ++ r18.Words) (((a3.tmod (r18.Table.length : Int)) + (r18.Table.length : Int)).tmod (r18.Table.length : Int)) ((ix ((([] : List Str)) ++ r18.Words) (((a3.tmod (r18.Table.length : Int)) + (r18.Table.length : Int)).tmod (r18.Table.length : Int))) ++ (([97] : Str))), r18.Images, r18.Accept, r18.Plus⟩ : Syntactic)) hOc145.lt (cd.u.ch (Owns.J03 _ _ 0)) sb (cv.u.ch (Owns.J03 _ _ 0)) (de.u.ch (Owns.J03 _ _ 0)) (dJ.u.ch (Owns.J03 _ _ 0)) H)) fun _ adV => e1 fun r146 => sq0 hO fun s hO => fun H => ?_
     refine scm H (fun QP H => ?_) fun QP H => ?_
     ·refine au ?_
      refine zcq rfl (J01 body18 rfl (J08 hO.lt H)) fun _ Ad => e1 fun adW => sq0 hO fun s hO => fun H => ?_
      refine au ?_
      refine Go1.ret1 func6 rfl ⟨_, er, frs, H⟩
     refine au ?_
     refine Go1.ret1 func6 rfl ⟨_, er, frs, H⟩
    refine sbu Fl.i 3 ([] : List Int) hO fun yK adX s hO => ?_
    refine sap 0 hO cv.u H fun uJ MA MB s hO => ?_
    refine sbs 1 hO fun Ae s hO => ?_
    refine six1 0 hO H.2.1 H.2.2.1 ?_
    refine sst (u := (((a3.tmod (r18.Table.length : Int)) + (r18.Table.length : Int)).tmod (r18.Table.length : Int))) 0 hO H.2.1 H.2.2.1 fun MC s hO => ?_
    refine au ?_
    refine drw 0 [(0, q1), (2, q1), (1, q2), (3, q2), (4, q0), (5, q0), (6, q2), (7, q0), (8, q0)] hO fun K3 s hO => ?_
    refine sag 1 hO ?_
    refine sag 1 hO ?_
    have Kd := t1lend 0 hO
    have Ke := t1n 0 hO
    have hOc162 := hO.drop 0
    have vi := H.2.1
    have oI := H.2.2.1
    refine zcq rfl (J01 body28 (by rw [Ke]; exact rfl) (J05 (a0 := (⟨r18.Letters, r18.Table, r18.Words, st ((([] : List Int)) ++ r18.Images) (0 : Int) (((a3.tmod (r18.Table.length : Int)) + (r18.Table.length : Int)).tmod (r18.Table.length : Int)), r18.Accept, r18.Plus⟩ : Syntactic)) hOc162.lt (cd.u.ch (Owns.J03 _ _ 0)) (cI.u.ch (Owns.J03 _ _ 0)) Kd (de.u.ch (Owns.J03 _ _ 0)) (dJ.u.ch (Owns.J03 _ _ 0)) H.2.2.2)) fun _ ph => e1 fun r163 => sq0 hO fun s hO => fun H => ?_
    have Kf := t1lend 0 hO
    have x5 := t1n 0 hO
    have hOc169 := hO.drop 0
    refine zcq rfl (J01 body29 (by rw [x5]; exact rfl) (J07 (a0 := (⟨r18.Letters, r18.Table, r18.Words, st ((([] : List Int)) ++ r18.Images) (0 : Int) (((a3.tmod (r18.Table.length : Int)) + (r18.Table.length : Int)).tmod (r18.Table.length : Int)), r18.Accept, r18.Plus⟩ : Syntactic)) hOc169.lt (cd.u.ch (Owns.J03 _ _ 0)) (cI.u.ch (Owns.J03 _ _ 0)) Kf (de.u.ch (Owns.J03 _ _ 0)) (dJ.u.ch (Owns.J03 _ _ 0)) H)) fun _ tI => e1 fun r170 => sq0 hO fun s hO => fun H => ?_
    refine scm H (fun QQ H => ?_) fun QQ H => ?_
    ·refine au ?_
     refine zcq rfl (J01 body18 rfl (J08 hO.lt H)) fun _ adY => e1 fun r173 => sq0 hO fun s hO => fun H => ?_
     refine au ?_
     refine Go1.ret1 func6 rfl ⟨_, er, frs, H⟩
    refine au ?_
    refine Go1.ret1 func6 rfl ⟨_, er, frs, H⟩
   refine au ?_
   refine zcr (J01 body18 rfl (J08 hO.lt H)) fun _ yP => e1 fun ad0 => sc0 hO fun s hO => fun H => ?_
   refine au ?_
   refine Go1.ret1 func6 rfl ⟨_, er, frs, H⟩
  refine au ?_
  refine Go1.ret1 func6 rfl ⟨_, er, frs, H⟩
 refine sag 0 hO ?_
 refine zcr (J01 body17 rfl (J3w hO.lt gz.u gW.u H)) fun _ ad1 => e1 fun QR => sc0 hO fun s hO => fun H => ?_
 cases QR
 ·refine au ?_
  refine zcr (J01 body18 rfl (J08 hO.lt (iF H))) fun _ LD => e1 fun ad2 => sc0 hO fun s hO => fun H => ?_
  refine au ?_
  refine Go1.ret1 func6 rfl ⟨_, er, frs, H⟩
 refine sag 0 hO ?_
 refine zcr (J01 body20 rfl (J3p hO.lt gz.u gW.u (iT H))) fun _ tJ => e4 fun aa r182 CU CV => e4 fun CW CX yB yC => e4 fun yD yE DH DJ => sc0 hO fun s hO => d1 fun bV => d4 fun cw cb cN dp H => ?_
 refine sal hO fun yQ B185 s hO => ?_
 refine sba 0 hO fun yR s hO => ?_
 refine scm H (fun QS H => ?_) fun QS H => ?_
 ·refine sln0 ?_
  refine au ?_
  replace H := (H bV.bd)
  obtain ⟨QT, H⟩ := H
  refine zo (J7X rfl rfl QT rfl) ?_
  refine au ?_
  obtain ⟨vS, H⟩ := H
  refine zo (J06 rfl rfl (wrap_i64 vS)) ?_
  refine au ?_
  obtain ⟨QU, H⟩ := H
  refine zo (J7X rfl rfl QU rfl) ?_
  refine au ?_
  refine zo (J9F rfl rfl) ?_
  refine scm H (fun QV H => ?_) fun QV H => ?_
  ·refine sbu Fl.bool 4 ([] : List Bool) hO fun LF ad3 s hO => ?_
   refine sap 0 hO cN.u H fun zE zF NU s hO => ?_
   refine sbs 1 hO fun tM s hO => ?_
   refine au ?_
   refine drs 1 [q0, q1, q0, q0, q1, q0, q0, q1, q0, q0, q3] hO fun PP s hO => ?_
   refine au ?_
   have ad4 := H.2.1
   have tN := H.2.2.1
   refine sxb1 0 hO H.2.1 H.2.2.1 H.2.2.2 (fun qD H => ?_) fun qD H => ?_
   ·refine six1 0 hO H.1 H.2.1 ?_
    refine sst (u := false) 0 hO H.1 H.2.1 fun yX s hO => ?_
    refine au ?_
    refine drw 0 [(0, q1), (2, q1), (1, q2), (3, q2), (4, q0), (5, q0), (6, q2), (7, q0), (8, q0)] hO fun ad5 s hO => ?_
    refine sag 1 hO ?_
    refine sag 1 hO ?_
    have Kg := t1lend 0 hO
    have Kh := t1n 0 hO
    have hOc208 := hO.drop 0
    have AP := H.1
    have By := H.2.1
    refine zcq rfl (J01 body28 (by rw [Kh]; exact rfl) (J05 (a0 := (⟨aa.Letters, aa.Table, aa.Words, aa.Images, st ((([] : List Bool)) ++ aa.Accept) (((a3.tmod (aa.Table.length : Int)) + (aa.Table.length : Int)).tmod (aa.Table.length : Int)) false, aa.Plus⟩ : Syntactic)) hOc208.lt (bV.u.ch (Owns.J03 _ _ 0)) (cw.u.ch (Owns.J03 _ _ 0)) (cb.u.ch (Owns.J03 _ _ 0)) Kg (dp.u.ch (Owns.J03 _ _ 0)) H.2.2)) fun _ MO => e1 fun ad6 => sq0 hO fun s hO => fun H => ?_
    have Ki := t1lend 0 hO
    have Kj := t1n 0 hO
    have hOc215 := hO.drop 0
    refine zcq rfl (J01 body29 (by rw [Kj]; exact rfl) (J07 (a0 := (⟨aa.Letters, aa.Table, aa.Words, aa.Images, st ((([] : List Bool)) ++ aa.Accept) (((a3.tmod (aa.Table.length : Int)) + (aa.Table.length : Int)).tmod (aa.Table.length : Int)) false, aa.Plus⟩ : Syntactic)) hOc215.lt (bV.u.ch (Owns.J03 _ _ 0)) (cw.u.ch (Owns.J03 _ _ 0)) (cb.u.ch (Owns.J03 _ _ 0)) Ki (dp.u.ch (Owns.J03 _ _ 0)) H)) fun _ pk => e1 fun r216 => sq0 hO fun s hO => fun H => ?_
    refine scm H (fun QW H => ?_) fun QW H => ?_
    ·refine au ?_
     refine zcq rfl (J01 body18 rfl (J08 hO.lt H)) fun _ Ao => e1 fun r219 => sq0 hO fun s hO => fun H => ?_
     refine au ?_
     refine Go1.ret1 func6 rfl ⟨_, er, frs, H⟩
    refine au ?_
    refine Go1.ret1 func6 rfl ⟨_, er, frs, H⟩
   refine six1 0 hO H.1 H.2.1 ?_
   refine sst (u := true) 0 hO H.1 H.2.1 fun ad7 s hO => ?_
   refine au ?_
   refine drw 0 [(0, q1), (2, q1), (1, q2), (3, q2), (4, q0), (5, q0), (6, q2), (7, q0), (8, q0)] hO fun LN s hO => ?_
   refine sag 1 hO ?_
   refine sag 1 hO ?_
   have Kk := t1lend 0 hO
   have Kl := t1n 0 hO
   have hOc225 := hO.drop 0
   have ad8 := H.1
   have io := H.2.1
   refine zcq rfl (J01 body28 (by rw [Kl]; exact rfl) (J05 (a0 := (⟨aa.Letters, aa.Table, aa.Words, aa.Images, st ((([] : List Bool)) ++ aa.Accept) (((a3.tmod (aa.Table.length : Int)) + (aa.Table.length : Int)).tmod (aa.Table.length : Int)) true, aa.Plus⟩ : Syntactic)) hOc225.lt (bV.u.ch (Owns.J03 _ _ 0)) (cw.u.ch (Owns.J03 _ _ 0)) (cb.u.ch (Owns.J03 _ _ 0)) Kk (dp.u.ch (Owns.J03 _ _ 0)) H.2.2)) fun _ zL => e1 fun ad9 => sq0 hO fun s hO => fun H => ?_
   have Km := t1lend 0 hO
   have Kn := t1n 0 hO
   have hOc232 := hO.drop 0
   refine zcq rfl (J01 body29 (by rw [Kn]; exact rfl) (J07 (a0 := (⟨aa.Letters, aa.Table, aa.Words, aa.Images, st ((([] : List Bool)) ++ aa.Accept) (((a3.tmod (aa.Table.length : Int)) + (aa.Table.length : Int)).tmod (aa.Table.length : Int)) true, aa.Plus⟩ : Syntactic)) hOc232.lt (bV.u.ch (Owns.J03 _ _ 0)) (cw.u.ch (Owns.J03 _ _ 0)) (cb.u.ch (Owns.J03 _ _ 0)) Km (dp.u.ch (Owns.J03 _ _ 0)) H)) fun _ zM => e1 fun aea => sq0 hO fun s hO => fun H => ?_
   refine scm H (fun QX H => ?_) fun QX H => ?_
   ·refine au ?_
    refine zcq rfl (J01 body18 rfl (J08 hO.lt H)) fun _ uh => e1 fun r236 => sq0 hO fun s hO => fun H => ?_
    refine au ?_
    refine Go1.ret1 func6 rfl ⟨_, er, frs, H⟩
   refine au ?_
   refine Go1.ret1 func6 rfl ⟨_, er, frs, H⟩
  refine scm H (fun QY H => ?_) fun QY H => ?_
  ·refine sbu Fl.bool 4 ([] : List Bool) hO fun aeb nk s hO => ?_
   refine sap 0 hO dp.u H fun AT mF mG s hO => ?_
   refine sbs 1 hO fun Nk s hO => ?_
   refine au ?_
   refine drs 1 [q0, q1, q0, q0, q1, q0, q0, q1, q0, q0, q3] hO fun AU s hO => ?_
   refine au ?_
   have aec := H.2.1
   have aed := H.2.2.1
   refine sxb1 0 hO H.2.1 H.2.2.1 H.2.2.2 (fun ne H => ?_) fun ne H => ?_
   ·refine six1 0 hO H.1 H.2.1 ?_
    refine sst (u := false) 0 hO H.1 H.2.1 fun AV s hO => ?_
    refine au ?_
    refine drw 0 [(0, q1), (2, q1), (1, q2), (3, q2), (4, q0), (5, q0), (6, q2), (7, q0), (8, q0)] hO fun aee s hO => ?_
    refine sag 1 hO ?_
    refine sag 1 hO ?_
    have Ko := t1lend 0 hO
    have Kq := t1n 0 hO
    have hOc254 := hO.drop 0
    have mP := H.1
    have Nl := H.2.1
    refine zcq rfl (J01 body28 (by rw [Kq]; exact rfl) (J05 (a0 := (⟨aa.Letters, aa.Table, aa.Words, aa.Images, aa.Accept, st ((([] : List Bool)) ++ aa.Plus) (((a3.tmod (aa.Table.length : Int)) + (aa.Table.length : Int)).tmod (aa.Table.length : Int)) false⟩ : Syntactic)) hOc254.lt (bV.u.ch (Owns.J03 _ _ 0)) (cw.u.ch (Owns.J03 _ _ 0)) (cb.u.ch (Owns.J03 _ _ 0)) (cN.u.ch (Owns.J03 _ _ 0)) Ko H.2.2)) fun _ aef => e1 fun r255 => sq0 hO fun s hO => fun H => ?_
    have Kr := t1lend 0 hO
    have Ks := t1n 0 hO
    have hOc261 := hO.drop 0
    refine zcq rfl (J01 body29 (by rw [Ks]; exact rfl) (J07 (a0 := (⟨aa.Letters, aa.Table, aa.Words, aa.Images, aa.Accept, st ((([] : List Bool)) ++ aa.Plus) (((a3.tmod (aa.Table.length : Int)) + (aa.Table.length : Int)).tmod (aa.Table.length : Int)) false⟩ : Syntactic)) hOc261.lt (bV.u.ch (Owns.J03 _ _ 0)) (cw.u.ch (Owns.J03 _ _ 0)) (cb.u.ch (Owns.J03 _ _ 0)) (cN.u.ch (Owns.J03 _ _ 0)) Kr H)) fun _ aeg => e1 fun r262 => sq0 hO fun s hO => fun H => ?_
    refine scm H (fun Q0 H => ?_) fun Q0 H => ?_
    ·refine au ?_
     refine zcq rfl (J01 body18 rfl (J08 hO.lt H)) fun _ aeh => e1 fun aei => sq0 hO fun s hO => fun H => ?_
     refine au ?_
     refine Go1.ret1 func6 rfl ⟨_, er, frs, H⟩
    refine au ?_
    refine Go1.ret1 func6 rfl ⟨_, er, frs, H⟩
   refine six1 0 hO H.1 H.2.1 ?_
   refine sst (u := true) 0 hO H.1 H.2.1 fun aej s hO => ?_
   refine au ?_
   refine drw 0 [(0, q1), (2, q1), (1, q2), (3, q2), (4, q0), (5, q0), (6, q2), (7, q0), (8, q0)] hO fun aek s hO => ?_
   refine sag 1 hO ?_
   refine sag 1 hO ?_
   have Kt := t1lend 0 hO
   have Ku := t1n 0 hO
   have hOc271 := hO.drop 0
   have kG := H.1
   have pC := H.2.1
   refine zcq rfl (J01 body28 (by rw [Ku]; exact rfl) (J05 (a0 := (⟨aa.Letters, aa.Table, aa.Words, aa.Images, aa.Accept, st ((([] : List Bool)) ++ aa.Plus) (((a3.tmod (aa.Table.length : Int)) + (aa.Table.length : Int)).tmod (aa.Table.length : Int)) true⟩ : Syntactic)) hOc271.lt (bV.u.ch (Owns.J03 _ _ 0)) (cw.u.ch (Owns.J03 _ _ 0)) (cb.u.ch (Owns.J03 _ _ 0)) (cN.u.ch (Owns.J03 _ _ 0)) Kt H.2.2)) fun _ Nq => e1 fun ael => sq0 hO fun s hO => fun H => ?_
   have Kv := t1lend 0 hO
   have Kw := t1n 0 hO
   have hOc278 := hO.drop 0
   refine zcq rfl (J01 body29 (by rw [Kw]; exact rfl) (J07 (a0 := (⟨aa.Letters, aa.Table, aa.Words, aa.Images, aa.Accept, st ((([] : List Bool)) ++ aa.Plus) (((a3.tmod (aa.Table.length : Int)) + (aa.Table.length : Int)).tmod (aa.Table.length : Int)) true⟩ : Syntactic)) hOc278.lt (bV.u.ch (Owns.J03 _ _ 0)) (cw.u.ch (Owns.J03 _ _ 0)) (cb.u.ch (Owns.J03 _ _ 0)) (cN.u.ch (Owns.J03 _ _ 0)) Kv H)) fun _ aem => e1 fun r279 => sq0 hO fun s hO => fun H => ?_
   refine scm H (fun uF H => ?_) fun uF H => ?_
   ·refine au ?_
    refine zcq rfl (J01 body18 rfl (J08 hO.lt H)) fun _ zN => e1 fun aen => sq0 hO fun s hO => fun H => ?_
    refine au ?_
    refine Go1.ret1 func6 rfl ⟨_, er, frs, H⟩
   refine au ?_
   refine Go1.ret1 func6 rfl ⟨_, er, frs, H⟩
  refine scm H (fun AY H => ?_) fun AY H => ?_
  ·refine sbu Fl.str 9 ([] : List Str) hO fun LT aeo s hO => ?_
   refine sap 0 hO cw.u H fun vo NY aep s hO => ?_
   refine sbs 1 hO fun aeq s hO => ?_
   refine au ?_
   refine drs 1 [q0, q1, q0, q0, q1, q0, q0, q1, q0, q0, q3] hO fun zP s hO => ?_
   refine sxl1 0 hO H.2.1 H.2.2.1 ?_
   have hle293 := t1le 0 hO H.2.1 H.2.2.1
   have Nt := H.2.1
   have qe := H.2.2.1
   replace H := H.2.2.2
   obtain ⟨iP, H⟩ := H
   refine GoQ.pure rfl (J0d rfl rfl iP) rfl rfl ?_
   refine six1 0 hO H.1 H.2.1 ?_
   refine sst (u := ((ix ((([] : List Str)) ++ aa.Words) (((a3.tmod (aa.Table.length : Int)) + (aa.Table.length : Int)).tmod (aa.Table.length : Int))) ++ (([97] : Str)))) 0 hO H.1 H.2.1 (fun B3 s hO => ?_) (hR := by exact fun _ _ => ⟨rfl, (lenApp iP)⟩)
   refine au ?_
   refine drw 0 [(0, q1), (2, q1), (1, q2), (3, q2), (4, q0), (5, q0), (6, q2), (7, q0), (8, q0)] hO fun aer s hO => ?_
   refine sag 1 hO ?_
   refine sag 1 hO ?_
   have Kx := t1lend 0 hO
   have xY := t1n 0 hO
   have hOc301 := hO.drop 0
   have qf := H.1
   have qg := H.2.1
   refine zcq rfl (J01 body28 (by rw [xY]; exact rfl) (J05 (a0 := (⟨aa.Letters, aa.Table, st ((([] : List Str)) ++ aa.Words) (((a3.tmod (aa.Table.length : Int)) + (aa.Table.length : Int)).tmod (aa.Table.length : Int)) ((ix ((([] : List Str)) ++ aa.Words) (((a3.tmod (aa.Table.length : Int)) + (aa.Table.length : Int)).tmod (aa.Table.length : Int))) ++ (([97] : Str))), aa.Images, aa.Accept, aa.Plus⟩ : Syntactic)) hOc301.lt (bV.u.ch (Owns.J03 _ _ 0)) Kx (cb.u.ch (Owns.J03 _ _ 0)) (cN.u.ch (Owns.J03 _ _ 0)) (dp.u.ch (Owns.J03 _ _ 0)) H.2.2)) fun _ Cl => e1 fun aes => sq0 hO fun s hO => fun H => ?_
   have Ky := t1lend 0 hO
   have Kz := t1n 0 hO
   have hOc308 := hO.drop 0
   refine zcq rfl (J01 body29 (by rw [Kz]; exact rfl) (J07 (a0 := (⟨aa.Letters, aa.Table, st ((([] : List Str)) ++ aa.Words) (((a3.tmod (aa.Table.length : Int)) + (aa.Table.length : Int)).tmod (aa.Table.length : Int)) ((ix ((([] : List Str)) ++ aa.Words) (((a3.tmod (aa.Table.length : Int)) + (aa.Table.length : Int)).tmod (aa.Table.length : Int))) ++ (([97] : Str))), aa.Images, aa.Accept, aa.Plus⟩ : Syntactic)) hOc308.lt (bV.u.ch (Owns.J03 _ _ 0)) Ky (cb.u.ch (Owns.J03 _ _ 0)) (cN.u.ch (Owns.J03 _ _ 0)) (dp.u.ch (Owns.J03 _ _ 0)) H)) fun _ Pu => e1 fun aet => sq0 hO fun s hO => fun H => ?_
   refine scm H (fun Q1 H => ?_) fun Q1 H => ?_
   ·refine au ?_
    refine zcq rfl (J01 body18 rfl (J08 hO.lt H)) fun _ pD => e1 fun aeu => sq0 hO fun s hO => fun H => ?_
    refine au ?_
    refine Go1.ret1 func6 rfl ⟨_, er, frs, H⟩
   refine au ?_
   refine Go1.ret1 func6 rfl ⟨_, er, frs, H⟩
  refine sbu Fl.i 3 ([] : List Int) hO fun B6 aev s hO => ?_
  refine sap 0 hO cb.u H fun aew aex aey s hO => ?_
  refine sbs 1 hO fun aez s hO => ?_
  refine six1 0 hO H.2.1 H.2.2.1 ?_
  refine sst (u := (((a3.tmod (aa.Table.length : Int)) + (aa.Table.length : Int)).tmod (aa.Table.length : Int))) 0 hO H.2.1 H.2.2.1 fun PX s hO => ?_
  refine au ?_
  refine drw 0 [(0, q1), (2, q1), (1, q2), (3, q2), (4, q0), (5, q0), (6, q2), (7, q0), (8, q0)] hO fun aeA s hO => ?_
  refine sag 1 hO ?_
  refine sag 1 hO ?_
  have KA := t1lend 0 hO
  have rL := t1n 0 hO
  have hOc325 := hO.drop 0
  have Nv := H.2.1
  have Nw := H.2.2.1
  refine zcq rfl (J01 body28 (by rw [rL]; exact rfl) (J05 (a0 := (⟨aa.Letters, aa.Table, aa.Words, st ((([] : List Int)) ++ aa.Images) (0 : Int) (((a3.tmod (aa.Table.length : Int)) + (aa.Table.length : Int)).tmod (aa.Table.length : Int)), aa.Accept, aa.Plus⟩ : Syntactic)) hOc325.lt (bV.u.ch (Owns.J03 _ _ 0)) (cw.u.ch (Owns.J03 _ _ 0)) KA (cN.u.ch (Owns.J03 _ _ 0)) (dp.u.ch (Owns.J03 _ _ 0)) H.2.2.2)) fun _ aeB => e1 fun r326 => sq0 hO fun s hO => fun H => ?_
  have KB := t1lend 0 hO
  have KD := t1n 0 hO
  have hOc332 := hO.drop 0
  refine zcq rfl (J01 body29 (by rw [KD]; exact rfl) (J07 (a0 := (⟨aa.Letters, aa.Table, aa.Words, st ((([] : List Int)) ++ aa.Images) (0 : Int) (((a3.tmod (aa.Table.length : Int)) + (aa.Table.length : Int)).tmod (aa.Table.length : Int)), aa.Accept, aa.Plus⟩ : Syntactic)) hOc332.lt (bV.u.ch (Owns.J03 _ _ 0)) (cw.u.ch (Owns.J03 _ _ 0)) KB (cN.u.ch (Owns.J03 _ _ 0)) (dp.u.ch (Owns.J03 _ _ 0)) H)) fun _ aeC => e1 fun aeD => sq0 hO fun s hO => fun H => ?_
  refine scm H (fun Q3 H => ?_) fun Q3 H => ?_
  ·refine au ?_
   refine zcq rfl (J01 body18 rfl (J08 hO.lt H)) fun _ Bc => e1 fun r336 => sq0 hO fun s hO => fun H => ?_
   refine au ?_
   refine Go1.ret1 func6 rfl ⟨_, er, frs, H⟩
  refine au ?_
  refine Go1.ret1 func6 rfl ⟨_, er, frs, H⟩
 refine au ?_
 refine zcr (J01 body18 rfl (J08 hO.lt H)) fun _ zY => e1 fun aeE => sc0 hO fun s hO => fun H => ?_
 refine au ?_
 refine Go1.ret1 func6 rfl ⟨_, er, frs, H⟩
end Sg
