/- -/
import Derived.Test.YtlneebpmblkllaaVd
namespace Sg
open Go Go.RowKit Go.Proofs Try
set_option linter.unusedVariables false
set_option linter.unusedSimpArgs false
set_option maxRecDepth 100000
set_option maxHeartbeats 4000000
variable {A : List Nat} {w0 : World}
theorem body59 : Body prog 59 := ⟨f59, func59, rfl, by kernel_rfl⟩
theorem J1O {letters : Int} (hA : HA0 A w0) {K : Bool → Prop} (H : J0v letters K) :
    CallsV prog 59 #[.int .i64 letters] w0 (fun v w' => ∃ (r0 : Bool), v = .bool r0 ∧ Same w0 w' ∧ K r0) := by
 refine cal hA func59 ntmps59 fun hO hB => ?_
 unfold J0v at H
 refine scm H (fun h1 H => ?_) fun h1 H => ?_
 ·refine scm H (fun h2 H => ?_) fun h2 H => ?_
  ·refine au ?_
   refine Go1.ret1 func59 rfl ⟨_, er, frs, H⟩
  refine au ?_
  refine Go1.ret1 func59 rfl ⟨_, er, frs, H⟩
 refine au ?_
 refine Go1.ret1 func59 rfl ⟨_, er, frs, H⟩
theorem body16 : Body prog 16 := ⟨f16, func16, rfl, by kernel_rfl⟩
theorem J2d {bu bV : Option Addr} {bw bW : Nat} {d : DFA} (hA : HA0 A w0) (aT : ISb A w0 bu bw d.Final) (b9 : ISs A w0 bV bW d.Next) {K : Int → Prop} (H : J0q d K) :
    CallsV prog 16 #[.agg (cDF d bu bw bV bW)] w0 (fun v w' => ∃ (r0 : Int), v = .int .i64 r0 ∧ Same w0 w' ∧ K r0) := by
 refine cal hA func16 ntmps16 fun hO hB => ?_
 unfold J0q at H
 refine sbx hO fun w1 B2 s hO => ?_
 refine sln0 ?_
 refine au ?_
 refine zcr (J02 body59 rfl (J1O hO.lt (H aT.bd))) fun _ w5 => e1 fun r4 => sc0 hO fun s hO => fun H => ?_
 cases r4
 ·refine au ?_
  refine Go1.ret1 func16 rfl ⟨_, er, frs, (iF H)⟩
 refine scm (iT H) (fun h6 H => ?_) fun h6 H => ?_
 ·refine au ?_
  refine Go1.ret1 func16 rfl ⟨_, er, frs, H⟩
 refine scm H (fun h7 H => ?_) fun h7 H => ?_
 ·refine au ?_
  refine Go1.ret1 func16 rfl ⟨_, er, frs, H⟩
 refine sln0 ?_
 refine scm (H b9.bd) (fun h8 H => ?_) fun h8 H => ?_
 ·refine scm H (fun h9 H => ?_) fun h9 H => ?_
  ·refine au ?_
   refine Go1.ret1 func16 rfl ⟨_, er, frs, H⟩
  refine scm H (fun h10 H => ?_) fun h10 H => ?_
  ·refine au ?_
   refine Go1.ret1 func16 rfl ⟨_, er, frs, H⟩
  refine sln0 ?_
  refine au ?_
  refine lv [1, 3, 38, 39] hO H (fun E k1_12 σ w => Lo A w0 σ w [(40, .int .i64 (k1_12 : Int))] E) ⟨agr, hO, fr⟩ ?_
  refine fun X1 => fun k1_12 => fun H hX1 σ w11 hk => lh hk fun hO hB => ?_
  revert hO; repeat (rename Owns .. => q; clear q)
  intro hO; repeat (rename Sq .. => q; clear q)
  refine scm H (fun h13 H => ?_) fun h13 H => ?_
  ·refine sxls hO b9.u H.1 H.2.1 fun p14 c15 ie => ?_
   refine sln0 ?_
   refine au ?_
   have h17 := H.1
   have h18 := H.2.1
   refine scm (H.2.2 ie.bd) (fun h19 H => ?_) fun h19 H => ?_
   ·refine sln0 ?_
    refine au ?_
    refine lv [1, 3, 38, 39, 40, 49, 50] hO H (fun E Bf σ w => (fun Z => Lo A w0 σ w [(51, .int .i64 (Bf : Int))] Z ∧ ISi (bl Z ++ A) w p14 c15 (ix d.Next (k1_12 : Int))) E) ⟨⟨agr, hO, fr⟩, ie.u⟩ ?_
    refine fun X2 => fun Bf => fun H hX2 σ w20 hk => d1 fun hL => fun ie => lh hk (fun hO hB => ?_) hL
    revert hO; repeat (rename Owns .. => q; clear q)
    intro hO; repeat (rename Sq .. => q; clear q)
    refine scm H (fun h22 H => ?_) fun h22 H => ?_
    ·refine sxl hO ie H.1 H.2.1 ?_
     refine au ?_
     have h23 := H.1
     have h24 := H.2.1
     refine scm H.2.2 (fun h25 H => ?_) fun h25 H => ?_
     ·refine au ?_
      refine Go1.ret1 func16 rfl ⟨_, er, frs, H⟩
     refine scm H (fun h26 H => ?_) fun h26 H => ?_
     ·refine au ?_
      refine Go1.ret1 func16 rfl ⟨_, er, frs, H⟩
     refine sinc (natbd h22 ie.bd) ?_
     refine au ?_
     exact hX2 _ H _ _ agr ⟨⟨agr, hO, fr⟩, ie⟩
    refine sinc (natbd h13 b9.bd) ?_
    refine au ?_
    exact hX1 _ H _ _ agr ⟨agr, hO, fr⟩
   refine au ?_
   refine Go1.ret1 func16 rfl ⟨_, er, frs, H⟩
  refine au ?_
  refine Go1.ret1 func16 rfl ⟨_, er, frs, H⟩
 refine au ?_
 refine Go1.ret1 func16 rfl ⟨_, er, frs, H⟩
theorem body60 : Body prog 60 := ⟨f60, func60, rfl, by kernel_rfl⟩
theorem J6G (hA : HA0 A w0) {K : DFA → Prop} (H : law21_ab  K) :
    CallsV prog 60 #[] w0 (fun v w' => ∃ (r0 : DFA), ∃ (aX : Option Addr), ∃ (aY : Nat), ∃ (bK : Option Addr), ∃ (bM : Nat), v = .agg (cDF r0 aX aY bK bM) ∧ Same w0 w' ∧ ISb A w' aX aY r0.Final ∧ ISs A w' bK bM r0.Next ∧ K r0) := by
 refine cal hA func60 ntmps60 fun hO hB => ?_
 unfold law21_ab at H
 refine sal hO fun w1 B2 s hO => ?_
 refine sbu Fl.bool 4 [true, false, false] hO fun w4 p5 s hO => ?_
 refine sbu Fl.i 3 [(1 : Int), (2 : Int)] hO fun w7 p8 s hO => ?_
 refine sbu Fl.i 3 [(2 : Int), (0 : Int)] hO fun w10 p11 s hO => ?_
 refine sbu Fl.i 3 [(2 : Int), (2 : Int)] hO fun w13 p14 s hO => ?_
 refine sfz 2 hO fun s hO ie WK => ?_
 refine sfz 1 hO fun s hO rQ WL => ?_
 refine sfz 0 hO fun s hO WM WN => ?_
 have zz := J6g (r := Rp.sl (Rp.int .i64)) (n := 3) (parts := [(0, .slice p8 2 2), (1, .slice p11 2 2), (2, .slice p14 2 2)]) (vs := [.slice p8 2 2, .slice p11 2 2, .slice p14 2 2]) (xs := [[(1 : Int), (2 : Int)], [(2 : Int), (0 : Int)], [(2 : Int), (2 : Int)]]) rfl underlying23 ti31 hO (by decide) (by kernel_rfl) (Els.cons rfl ⟨p8, 2, congrArg some (congrArg (fun nn => Value.slice p8 nn 2) WK), ie.u⟩ (Els.cons rfl ⟨p11, 2, congrArg some (congrArg (fun nn => Value.slice p11 nn 2) WL), rQ.u⟩ (Els.cons rfl ⟨p14, 2, congrArg some (congrArg (fun nn => Value.slice p14 nn 2) WN), WM⟩ (Els.nil _ _ _) (by simp [mx])) (by simp [mx])) (by simp [mx])) rfl
 obtain ⟨w22, p23, rU, WO, ajP, rV⟩ := zz
 refine zg (rV rfl) ?_
 refine nst rU fun s hO => ?_
 refine zo (J05 underlying25 ti25 (pl := [(0, 1), (1, 1), (2, 1), (3, 1)]) (vs := [(0, .int .i64 (2 : Int)), (2, .slice p5 3 3), (3, .slice p23 3 3)]) (cs := #[.int .i64 (2 : Int), .int .i64 (0 : Int), .slice p5 3 3, .slice p23 3 3]) (by kernel_rfl) rfl (by kernel_rfl)) ?_
 refine sba 2 hO fun w29 s hO => ?_
 refine au ?_
 refine sfz 1 hO fun s hO WP WQ => ?_
 refine sfzR 0 hO WO.u fun s hO dJ WR => ?_
 refine Go1.retC1 func60 rfl rfl (rlb 0 hO) ⟨((⟨(2 : Int), (0 : Int), [true, false, false], [[(1 : Int), (2 : Int)], [(2 : Int), (0 : Int)], [(2 : Int), (2 : Int)]]⟩ : DFA)), _, _, _, _, ?_, frs, WP.r, dJ.r, H⟩
 exact (congrArg (fun l => Value.agg (List.toArray l)) (J01 rfl (J01 rfl (J01 (congrArg (fun nn => Value.slice p5 nn 3) WQ) (J01 (congrArg (fun nn => Value.slice p23 nn 3) WR) rfl)))))
theorem body61 : Body prog 61 := ⟨f61, func61, rfl, by kernel_rfl⟩
theorem J0y {bu bV : Option Addr} {bw bW : Nat} {d : DFA} (hA : HA0 A w0) (aT : ISb A w0 bu bw d.Final) (b9 : ISs A w0 bV bW d.Next) {K : Int → Prop} (H : J0p d K) :
    CallsV prog 61 #[.agg (cDF d bu bw bV bW)] w0 (fun v w' => ∃ (r0 : Int), v = .int .i64 r0 ∧ Same w0 w' ∧ K r0) := by
 refine cal hA func61 ntmps61 fun hO hB => ?_
 unfold J0p at H
 refine sbx hO fun w1 B2 s hO => ?_
 refine scm H (fun h4 H => ?_) fun h4 H => ?_
 ·refine au ?_
  refine Go1.ret1 func61 rfl ⟨_, er, frs, H⟩
 refine scm H (fun h5 H => ?_) fun h5 H => ?_
 ·refine au ?_
  refine Go1.ret1 func61 rfl ⟨_, er, frs, H⟩
 refine sln0 ?_
 refine scm (H aT.bd) (fun h6 H => ?_) fun h6 H => ?_
 ·refine au ?_
  refine Go1.ret1 func61 rfl ⟨_, er, frs, H⟩
 refine sln0 ?_
 refine scm (H b9.bd) (fun h7 H => ?_) fun h7 H => ?_
 ·refine scm H (fun h8 H => ?_) fun h8 H => ?_
  ·refine au ?_
   refine Go1.ret1 func61 rfl ⟨_, er, frs, H⟩
  refine scm H (fun h9 H => ?_) fun h9 H => ?_
  ·refine au ?_
   refine Go1.ret1 func61 rfl ⟨_, er, frs, H⟩
  refine sln0 ?_
  refine au ?_
  refine lv [1, 3, 38, 39] hO H (fun E k1_11 σ w => Lo A w0 σ w [(40, .int .i64 (k1_11 : Int))] E) ⟨agr, hO, fr⟩ ?_
  refine fun X1 => fun k1_11 => fun H hX1 σ w10 hk => lh hk fun hO hB => ?_
  revert hO; repeat (rename Owns .. => q; clear q)
  intro hO; repeat (rename Sq .. => q; clear q)
  refine scm H (fun h12 H => ?_) fun h12 H => ?_
  ·refine sxls hO b9.u H.1 H.2.1 fun p13 c14 fL => ?_
   refine sln0 ?_
   refine au ?_
   have h16 := H.1
   have h17 := H.2.1
   refine scm (H.2.2 fL.bd) (fun h18 H => ?_) fun h18 H => ?_
   ·refine sln0 ?_
    refine au ?_
    refine lv [1, 3, 38, 39, 40, 49, 50] hO H (fun E Bg σ w => (fun Z => Lo A w0 σ w [(51, .int .i64 (Bg : Int))] Z ∧ ISi (bl Z ++ A) w p13 c14 (ix d.Next (k1_11 : Int))) E) ⟨⟨agr, hO, fr⟩, fL.u⟩ ?_
    refine fun X2 => fun Bg => fun H hX2 σ w19 hk => d1 fun hL => fun fL => lh hk (fun hO hB => ?_) hL
    revert hO; repeat (rename Owns .. => q; clear q)
    intro hO; repeat (rename Sq .. => q; clear q)
    refine scm H (fun h21 H => ?_) fun h21 H => ?_
    ·refine sxl hO fL H.1 H.2.1 ?_
     refine au ?_
     have h22 := H.1
     have h23 := H.2.1
     refine scm H.2.2 (fun h24 H => ?_) fun h24 H => ?_
     ·refine au ?_
      refine Go1.ret1 func61 rfl ⟨_, er, frs, H⟩
     refine scm H (fun h25 H => ?_) fun h25 H => ?_
     ·refine au ?_
      refine Go1.ret1 func61 rfl ⟨_, er, frs, H⟩
     refine sinc (natbd h21 fL.bd) ?_
     refine au ?_
     exact hX2 _ H _ _ agr ⟨⟨agr, hO, fr⟩, fL⟩
    refine sinc (natbd h12 b9.bd) ?_
    refine au ?_
    exact hX1 _ H _ _ agr ⟨agr, hO, fr⟩
   refine au ?_
   refine Go1.ret1 func61 rfl ⟨_, er, frs, H⟩
  refine au ?_
  refine Go1.ret1 func61 rfl ⟨_, er, frs, H⟩
 refine au ?_
 refine Go1.ret1 func61 rfl ⟨_, er, frs, H⟩
theorem body141 : Body prog 141 := ⟨f141, func141, rfl, by kernel_rfl⟩
theorem body140 : Body prog 140 := ⟨f140, func140, rfl, by kernel_rfl⟩
theorem body163 : Body prog 163 := ⟨f163, func163, rfl, by kernel_rfl⟩
theorem body139 : Body prog 139 := ⟨f139, func139, rfl, by kernel_rfl⟩
theorem body109 : Body prog 109 := ⟨f109, func109, rfl, by kernel_rfl⟩
theorem J4v {bu bV : Option Addr} {bw bW : Nat} {d : DFA} (hA : HA0 A w0) (aT : ISb A w0 bu bw d.Final) (b9 : ISs A w0 bV bW d.Next) {K : DFA → List Int → Prop} (H : J3N d K) :
    CallsV prog 109 #[.agg (cDF d bu bw bV bW)] w0 (fun v w' => ∃ (r0 : DFA), ∃ (r1 : List Int), ∃ (aX : Option Addr), ∃ (aY : Nat), ∃ (bK : Option Addr), ∃ (bM : Nat), ∃ (dT : Option Addr), ∃ (dU : Nat), v = .tuple #[.agg (cDF r0 aX aY bK bM), .slice dT r1.length dU] ∧ Same w0 w' ∧ ISb A w' aX aY r0.Final ∧ ISs A w' bK bM r0.Next ∧ ISi A w' dT dU r1 ∧ K r0 r1) := by
 refine cal hA func109 ntmps109 fun hO hB => ?_
 unfold J3N at H
 refine sbx hO fun w1 B2 s hO => ?_
 refine sal hO fun w4 B5 s hO => ?_
 refine sag 1 hO ?_
 refine zcr (J02 body61 rfl (J0y hO.lt aT.u b9.u H)) fun _ w8 => e1 fun r7 => sc0 hO fun s hO => fun H => ?_
 refine scm H (fun h9 H => ?_) fun h9 H => ?_
 ·refine au ?_
  refine zo (J5C (vs := [.pointer (some ⟨B2, 0, none⟩)]) rfl) ?_
  refine zo (J5C (vs := [.pointer (some ⟨B2, 0, none⟩)]) rfl) ?_
  refine GoR.inl (vs := [.int .i64 d.Letters, .int .i64 d.Start, .func (.func 140) #[] #[.pointer (some ⟨B2, 0, none⟩)], .func (.func 141) #[] #[.pointer (some ⟨B2, 0, none⟩)]]) (caps := []) rfl rfl body139 func139 rfl ntmps139 rfl rfl rfl ?_
  intro RhR10 hR10
  refine sal hO fun w11 B12 s hO => ?_
  refine sal hO fun w14 B15 s hO => ?_
  refine au ?_
  refine GoR.inl (vs := [.pointer (some ⟨B15, 0, none⟩), .int .i64 d.Start]) (caps := []) rfl rfl body163 func163 rfl ntmps163 rfl rfl rfl ?_
  intro RhR17 hR17
  refine au ?_
  refine zs (fun w _ => olookN (a := d.Start) (MK.int underlying3) underlying168 ti3 rfl rfl w) ?_
  refine au ?_
  refine zo (fun w => opB (J75 underlying168 rfl rfl w) rfl) ?_
  refine au ?_
  have zz := omakeMap (fun a : Int => Value.int .i64 a) (fun a : Int => Value.int .i64 a) hO
  obtain ⟨w18, B19, rW, ajQ, NI⟩ := zz
  refine zg NI ?_
  refine nst rW fun s hO => ?_
  refine sbs 1 hO fun w24 s hO => ?_
  refine sln0 ?_
  refine au ?_
  have zz := omapUpd (MK.int underlying3) 0 hO rfl underlying168 d.Start (0 : Int)
  obtain ⟨w25, NJ, rV⟩ := zz
  refine zg (rV (by exact rfl) (by exact rfl) (by exact rfl)) ?_
  refine nst NJ fun s hO => ?_
  refine au ?_
  refine snil Fl.i 3 hO fun s hO => ?_
  refine sap1 d.Start 0 hO H fun _ w29 p30 c31 s hO => ?_
  refine sbs 2 hO fun w32 s hO => ?_
  refine au ?_
  refine Go1.ret1V func163 rfl (show _ = .int .i64 (0 : Int) from rfl) ?_
  refine hR17 _ _ ?_
  refine au ?_
  refine zo (J05 underlying25 ti25 (pl := [(0, 1), (1, 1), (2, 1), (3, 1)]) (vs := [(0, .int .i64 d.Letters)]) (cs := #[.int .i64 d.Letters, .int .i64 (0 : Int), .slice none 0 0, .slice none 0 0]) (by kernel_rfl) rfl (by kernel_rfl)) ?_
  refine sal hO fun w33 B34 s hO => ?_
  refine sba 0 hO fun w36 s hO => ?_
  refine au ?_
  refine snil Fl.bool 4 hO fun s hO => ?_
  have NK := Stp.nil (e := 31) (r := 1) hO
  refine nst NK fun s hO => ?_
  have WS := elN (Rp.sl (Rp.int .i64)) hO
  refine lv [0, 2, 3, 8, 11, 12] hO H.2 (fun E (eB, d_43, d_49, eC, Bi) σ w => ∃ n48 p46 c47 jb n52 p50 c51 n56 p54 c55, (fun Z => Lo A w0 σ w [(13, .int .i64 (eB : Int))] Z ∧ Els (Rp.sl (Rp.int .i64)) (bl Z ++ A) w jb d_43) (esets E [(0, .row 31 1 p46 n48 c47 jb), (1, t1 Fl.bool 4 p50 n52 c51 d_49), (2, .blk B34 (.cells #[.int .i64 d.Letters, .int .i64 (0 : Int), .slice p50 n52 c51, .slice p46 n48 c47] 25 (0, 0))), (3, t1 Fl.i 3 p54 n56 c55 eC), (4, .any (mapE (fun a : Int => Value.int .i64 a) (fun a : Int => Value.int .i64 a) B19 Bi)), (5, .blk B15 (.cells #[.slice p54 n56 c55, .map (some B19)] 188 (0, 0)))])) ⟨_, _, _, _, _, _, _, _, _, _, ⟨agr, hO, fr⟩, WS.u⟩ ?_
  refine fun X1 => p1 fun eB => p3 fun d_43 d_49 eC Bi => fun H hX1 σ w41 hk => e4 fun n48 p46 c47 jb => e4 fun n52 p50 c51 n56 => e2 fun p54 c55 => d1 fun hL => fun dF => lh hk (fun hO hB => ?_) hL
  dsimp only [esets, sS, sZ] at hO hB dF
  dsimp only at H
  revert hO; repeat (rename Owns .. => q; clear q)
  intro hO; repeat (rename Sq .. => q; clear q)
  refine sln1 3 hO ?_
  refine scm H (fun h58 H => ?_) fun h58 H => ?_
  ·refine sxl1 3 hO H.1 H.2.1 ?_
   refine smk Fl.i H.2.2 hO fun w59 p60 s hO => ?_
   refine sln1 0 hO ?_
   refine au ?_
   refine lv [0, 2, 3, 8, 11, 12, 13, 14, 15, 36] hO H.2.2.2.2 (fun E (fA, fE, d_65, ju) σ w => ∃ n68 p66 c67, (fun Z => Lo A w0 σ w [(37, .int .i64 (fA : Int))] Z ∧ Els (Rp.sl (Rp.int .i64)) (bl Z ++ A) w jb d_43) (esets E [(0, t1 Fl.i 3 p60 d.Letters.toNat d.Letters.toNat fE), (4, t1 Fl.i 3 p66 n68 c67 d_65), (5, .any (mapE (fun a : Int => Value.int .i64 a) (fun a : Int => Value.int .i64 a) B19 ju)), (6, .blk B15 (.cells #[.slice p66 n68 c67, .map (some B19)] 188 (0, 0)))])) ⟨_, _, _, ⟨agr, hO, fr⟩, dF.u⟩ ?_
   refine fun X2 => p3 fun fA fE d_65 ju => fun H hX2 σ w62 hk => e3 fun n68 p66 c67 => d1 fun hL => fun dF => lh hk (fun hO hB => ?_) hL
   dsimp only [esets, sS, sZ] at hO hB dF
   dsimp only at H
   revert hO; repeat (rename Owns .. => q; clear q)
   intro hO; repeat (rename Sq .. => q; clear q)
   refine scm H (fun h70 H => ?_) fun h70 H => ?_
   ·refine au ?_
    refine GoR.inl (vs := [.int .i64 (ix eC (eB : Int)), .int .i64 (fA : Int)]) (caps := [.pointer (some ⟨B2, 0, none⟩)]) rfl rfl body140 func140 rfl ntmps140 rfl rfl rfl ?_
    intro RhR71 hR71
    refine sxls hO b9.u H.1 H.2.1 fun p72 c73 WT => ?_
    refine sxl hO WT.u H.2.2.1 H.2.2.2.1 ?_
    refine au ?_
    refine Go1.ret1V func140 rfl (show _ = .int .i64 (ix (ix d.Next (ix eC (eB : Int))) (fA : Int)) from rfl) ?_
    refine hR71 _ _ ?_
    refine GoR.inl (vs := [.pointer (some ⟨B15, 0, none⟩), .int .i64 (ix (ix d.Next (ix eC (eB : Int))) (fA : Int))]) (caps := []) rfl rfl body163 func163 rfl ntmps163 rfl rfl rfl ?_
    intro RhR75 hR75
    refine au ?_
    replace H := H.2.2.2.2
    by_cases h76 : mhas ju ((ix (ix d.Next (ix eC (eB : Int))) (fA : Int))) = true
    ·refine zs (olookT (a := (ix (ix d.Next (ix eC (eB : Int))) (fA : Int))) (MK.int underlying3) 5 hO rfl underlying168 rfl rfl h76) ?_
     refine au ?_
     refine Go1.ret1V func163 rfl (show _ = .int .i64 (mgt ju ((ix (ix d.Next (ix eC (eB : Int))) (fA : Int)))) from rfl) ?_
     refine hR75 _ _ ?_
     refine six1 0 hO (ifp h76 H).1 (ifp h76 H).2.1 ?_
     refine sst (u := (mgt ju ((ix (ix d.Next (ix eC (eB : Int))) (fA : Int))))) 0 hO (ifp h76 H).1 (ifp h76 H).2.1 fun w77 s hO => ?_
     refine au ?_
     have h78 := (ifp h76 H).1
     have h79 := (ifp h76 H).2.1
     replace H := (ifp h76 H).2.2
     obtain ⟨h80, H⟩ := H
     refine zo (J03 rfl rfl (wrap_i64 h80)) ?_
     refine au ?_
     exact hX2 _ H _ _ agr ⟨_, _, _, ⟨agr, hO, fr⟩, dF.u⟩
    refine zs (olookF (a := (ix (ix d.Next (ix eC (eB : Int))) (fA : Int))) (MK.int underlying3) 5 hO rfl underlying168 ti3 rfl rfl h76) ?_
    refine au ?_
    refine zo (fun w => opB (J75 underlying168 rfl rfl w) rfl) ?_
    refine sln1 4 hO ?_
    refine au ?_
    have zz := omapUpd (MK.int underlying3) 5 hO rfl underlying168 (ix (ix d.Next (ix eC (eB : Int))) (fA : Int)) (d_65.length : Int)
    obtain ⟨w81, NL, NM⟩ := zz
    refine zg (NM (by exact rfl) (by exact rfl) (by exact rfl)) ?_
    refine nst NL fun s hO => ?_
    refine au ?_
    refine sap1 ((ix (ix d.Next (ix eC (eB : Int))) (fA : Int))) 4 hO (ifn h76 H) fun _ w84 p85 c86 s hO => ?_
    refine sbs 6 hO fun w87 s hO => ?_
    refine au ?_
    refine Go1.ret1V func163 rfl (show _ = .int .i64 (d_65.length : Int) from rfl) ?_
    refine hR75 _ _ ?_
    refine six1 0 hO (ifn h76 H).2.1 (ifn h76 H).2.2.1 ?_
    refine sst (u := (d_65.length : Int)) 0 hO (ifn h76 H).2.1 (ifn h76 H).2.2.1 fun w88 s hO => ?_
    refine au ?_
    have h89 := (ifn h76 H).2.1
    have h90 := (ifn h76 H).2.2.1
    replace H := (ifn h76 H).2.2.2
    obtain ⟨h91, H⟩ := H
    refine zo (J03 rfl rfl (wrap_i64 h91)) ?_
    refine au ?_
    exact hX2 _ H _ _ agr ⟨_, _, _, ⟨agr, hO, fr⟩, dF.u⟩
   refine sln1 4 hO ?_
   refine scm H (fun h92 H => ?_) fun h92 H => ?_
   ·refine au ?_
    refine zo (J05 underlying25 ti25 (pl := [(0, 1), (1, 1), (2, 1), (3, 1)]) (vs := []) (cs := #[.int .i64 (0 : Int), .int .i64 (0 : Int), .slice none 0 0, .slice none 0 0]) (by kernel_rfl) rfl (by kernel_rfl)) ?_
    refine sba 7 hO fun w93 s hO => ?_
    refine au ?_
    refine Go1.retC3V func139 rfl rfl (rlb 7 hO) (show _ = .slice none 0 0 from rfl) (show _ = .int .i64 (3 : Int) from rfl) ?_
    refine hR10 _ _ ?_
    refine sal hO fun w94 B95 s hO => ?_
    refine sba 0 hO fun w97 s hO => ?_
    refine sln0 ?_
    refine smk Fl.i (H aT.bd) hO fun w98 p99 s hO => ?_
    refine sln1 0 hO ?_
    refine au ?_
    refine sdr [2, 2, 2, 2, 2, 2, 2, 2, 3] hO fun s hO => ?_
    refine lv [2, 4, 5, 7, 31] hO (H aT.bd).2.2 (fun E (uM, number3_103) σ w => Lo A w0 σ w [(32, .int .i64 (uM : Int))] (E.set 0 (t1 Fl.i 3 p99 d.Final.length d.Final.length number3_103))) ⟨agr, hO, fr⟩ ?_
    refine fun X3 => p1 fun uM number3_103 => fun H hX3 σ wY hk => lh hk fun hO hB => ?_
    dsimp only [esets, sS, sZ] at hO hB
    dsimp only at H
    revert hO; repeat (rename Owns .. => q; clear q)
    intro hO; repeat (rename Sq .. => q; clear q)
    refine scm H (fun wN H => ?_) fun wN H => ?_
    ·refine six1 0 hO H.1 H.2.1 ?_
     refine sst (u := (-1 : Int)) 0 hO H.1 H.2.1 fun rX s hO => ?_
     refine au ?_
     have j9 := H.1
     have oW := H.2.1
     replace H := H.2.2
     obtain ⟨F6, H⟩ := H
     refine zo (J03 rfl rfl (wrap_i64 F6)) ?_
     refine au ?_
     exact hX3 _ H _ _ agr ⟨agr, hO, fr⟩
    refine sln0 ?_
    refine au ?_
    refine lv [2, 4, 7, 39, 40] hO H (fun E uN σ w => Lo A w0 σ w [(41, .int .i64 (uN : Int))] E) ⟨agr, hO, fr⟩ ?_
    refine fun X4 => fun uN => fun H hX4 σ F7 hk => lh hk fun hO hB => ?_
    revert hO; repeat (rename Owns .. => q; clear q)
    intro hO; repeat (rename Sq .. => q; clear q)
    refine scm H (fun jY H => ?_) fun jY H => ?_
    ·refine au ?_
     obtain ⟨kc, H⟩ := H
     obtain ⟨iu, H⟩ := H
     refine zo (J04 underlying31 ti3 rfl rfl kc iu (absurd iu (by omega))) ?_
     exact absurd iu (by omega)
    refine sag 1 hO ?_
    refine sba 2 hO fun TH s hO => ?_
    refine au ?_
    refine sfz 0 hO fun s hO NN NO => ?_
    refine Go1.retC2 func109 rfl rfl (rlb 1 hO) ⟨((⟨(0 : Int), (0 : Int), ([] : List Bool), ([] : List (List Int))⟩ : DFA)), _, _, _, _, _, _, _, ?_, frs, (ISl.null _ _ _), (ISl.null _ _ _), NN.r, H⟩
    exact (congrArg (fun l => Value.tuple (List.toArray l)) (J01 rfl (J01 (congrArg (fun nn => Value.slice p99 nn d.Final.length) NO) rfl)))
   refine au ?_
   refine sfz 0 hO fun s hO rY Bj => ?_
   have zz := obu underlying23 ti31 hO (rY) Bj
   obtain ⟨xa, wQ, oX, NP, adA, oY⟩ := zz
   refine zg (oY rfl) ?_
   refine nst oX fun s hO => ?_
   refine sfzR 0 hO NP.u fun s hO sb sd => ?_
   obtain ⟨oN, H⟩ := H
   have zz := oapp underlying23 ti31 rfl 0 hO rfl dF.u sb sd oN (by decide)
   obtain ⟨WU, xb, F8, NQ, F9, Bk, Ga⟩ := zz
   dsimp only [sS, sZ] at Bk
   refine zg (Ga (by exact rfl) (by exact rfl)) ?_
   refine nst F9 fun s hO => ?_
   refine sbs 2 hO fun TL s hO => ?_
   refine au ?_
   refine Go1.drawT (ok := fun _ => True) (CSv.tr [(some ⟨B34, 2, none⟩)]) [6, 8] 9 (.qp 0 (.qs 1 (.qp 2 (.qp 3 (.alt 4 (.alt 5 (.alt 6 (.qp 7 (.alt 8 .nil .fin)) .fin) .fin) .fin))))) mixed (by kernel_rfl) ?_
   intro se NR
   refine sm hO NR fun s hO => ?_
   refine au ?_
   refine GoT.stable rfl (loadV (.head _) rfl (J00 2 hO rfl rfl) underlying22 rfl rfl) rfl rfl ?_
   refine au ?_
   skip
   refine GoT.inl (vs := [.int .i64 (ix eC (eB : Int))]) (caps := [.pointer (some ⟨B2, 0, none⟩)]) rfl rfl rfl body141 func141 rfl ntmps141 rfl rfl rfl ?_
   intro RhR140 hR140
   have hOs141 := hO
   have hBs142 := (fr : Fr (bl []) w0 _ se)
   have hB := hO.frR
   refine sxl hO aT.u H.1 H.2.1 ?_
   refine au ?_
   refine Go1.ret1V func141 rfl (show _ = .bool (ix d.Final (ix eC (eB : Int))) from rfl) ?_
   refine hR140 _ _ (CSv.cons (cs_eq (J00 2 hOs141 rfl rfl) (J00 2 hO rfl rfl)) (CSv.nil _ _)) ?_
   replace hB := hBs142.trans (fr : Fr (bl [.row 31 1 xb (n48 + 1) F8 NQ, t1 Fl.bool 4 p50 n52 c51 d_49, .blk B34 (.cells #[.int .i64 d.Letters, .int .i64 (0 : Int), .slice p50 n52 c51, .slice xb (n48 + 1) F8] 25 (0, 0)), t1 Fl.i 3 p66 n68 c67 d_65, .any (mapE (fun a : Int => Value.int .i64 a) (fun a : Int => Value.int .i64 a) B19 ju), .blk B15 (.cells #[.slice p66 n68 c67, .map (some B19)] 188 (0, 0)), .blk B12 (.cells #[.int .i64 (0 : Int), .int .i64 (0 : Int), .slice none 0 0, .slice none 0 0] 25 (0, 0)), .blk B5 (.cells #[.int .i64 (0 : Int), .int .i64 (0 : Int), .slice none 0 0, .slice none 0 0] 25 (0, 0)), .blk B2 (.cells (cDF d bu bw bV bW) 25 (0, 0))]) se _ se)
   replace H := H.2.2
   skip
   refine sbuQ Fl.bool 4 [ix d.Final (ix eC (eB : Int))] hO (fun Eo Ep s hO => ?_) (g := fun _ _ _ hv _ hst h => GoT.step rfl hv (CSv.cons (cs_eq (J00 2 hO rfl rfl) (J00 3 hst.own rfl rfl)) (CSv.nil _ _)) rfl rfl h)
   skip
   refine sfz 0 hO fun s hO NS Bl => ?_
   refine sap 1 hO NS H fun ajR ajS ajT s hO => ?_
   refine au ?_
   replace H := H.2
   skip
   refine sbs 2 hO fun WW s hO => ?_
   refine au ?_
   obtain ⟨WX, H⟩ := H
   refine zo (J03 rfl rfl (wrap_i64 WX)) ?_
   refine au ?_
   exact hX1 _ H _ _ agr ⟨_, _, _, _, _, _, _, _, _, _, ⟨agr, hO, fr⟩, Bk.u⟩
  refine au ?_
  refine Go1.drawT (ok := fun _ => True) Same.tr [3] 6 (.qs 0 (.qp 1 (.alt 2 (.alt 3 (.qp 4 (.qp 5 .nil)) .fin) (.alt 3 (.alt 2 (.qp 4 (.qp 5 .nil)) .fin) .fin)))) mixed (by kernel_rfl) ?_
  intro Gb NT
  refine sm hO NT fun s hO => ?_
  refine GoT.stable rfl (J5P (vs := [.int .i64 d.Letters, .int .i64 (0 : Int), .slice p50 n52 c51, .slice p46 n48 c47]) (i := 0) 2 hO rfl rfl underlying25 rfl ti25 rfl) rfl rfl ?_
  refine au ?_
  refine GoT.both ?_ ?_
  ·skip
   replace H := H.1
   refine sbl 5 ?_
   skip
   refine sba 6 hO fun vB s hO => ?_
   refine au ?_
   refine Go1.retC3V func139 rfl rfl (rlb 6 hO) (show _ = .slice p54 n56 c55 from rfl) (show _ = .int .i64 (0 : Int) from rfl) ?_
   refine hR10 _ _ ?_
   refine sal hO fun vC B157 s hO => ?_
   refine sba 0 hO fun Co s hO => ?_
   refine sln0 ?_
   refine smk Fl.i (H aT.bd) hO fun WY sf s hO => ?_
   refine sln1 0 hO ?_
   refine au ?_
   refine sdr [4, 5, 5, 5, 6] hO fun s hO => ?_
   refine lv [2, 4, 5, 7, 31] hO (H aT.bd).2.2 (fun E (uO, number5_165) σ w => (fun Z => Lo A w0 σ w [(32, .int .i64 (uO : Int))] Z ∧ Els (Rp.sl (Rp.int .i64)) (bl Z ++ A) w jb d_43) (E.set 0 (t1 Fl.i 3 sf d.Final.length d.Final.length number5_165))) ⟨⟨agr, hO, fr⟩, dF.u⟩ ?_
   refine fun X5 => p1 fun uO number5_165 => fun H hX5 σ W0 hk => d1 fun hL => fun dF => lh hk (fun hO hB => ?_) hL
   dsimp only [esets, sS, sZ] at hO hB dF
   dsimp only at H
   revert hO; repeat (rename Owns .. => q; clear q)
   intro hO; repeat (rename Sq .. => q; clear q)
   refine scm H (fun xc H => ?_) fun xc H => ?_
   ·refine six1 0 hO H.1 H.2.1 ?_
    refine sst (u := (-1 : Int)) 0 hO H.1 H.2.1 fun vV s hO => ?_
    refine au ?_
    have ajU := H.1
    have ajV := H.2.1
    replace H := H.2.2
    obtain ⟨W1, H⟩ := H
    refine zo (J03 rfl rfl (wrap_i64 W1)) ?_
    refine au ?_
    exact hX5 _ H _ _ agr ⟨⟨agr, hO, fr⟩, dF.u⟩
   refine sln1 4 hO ?_
   refine au ?_
   refine lv [2, 4, 7, 39, 40] hO H (fun E (o3, number6_173) σ w => (fun Z => Lo A w0 σ w [(41, .int .i64 (o3 : Int))] Z ∧ Els (Rp.sl (Rp.int .i64)) (bl Z ++ A) w jb d_43) (E.set 0 (t1 Fl.i 3 sf d.Final.length d.Final.length number6_173))) ⟨⟨agr, hO, fr⟩, dF.u⟩ ?_
   refine fun X6 => p1 fun o3 number6_173 => fun H hX6 σ wS hk => d1 fun hL => fun dF => lh hk (fun hO hB => ?_) hL
   dsimp only [esets, sS, sZ] at hO hB dF
   dsimp only at H
   revert hO; repeat (rename Owns .. => q; clear q)
   intro hO; repeat (rename Sq .. => q; clear q)
   refine scm H (fun Gc H => ?_) fun Gc H => ?_
   ·refine sxl1 4 hO H.1 H.2.1 ?_
    refine six1 0 hO H.2.2.1 H.2.2.2.1 ?_
    refine sst (u := (o3 : Int)) 0 hO H.2.2.1 H.2.2.2.1 fun W2 s hO => ?_
    refine sinc (natbd Gc (t1b 4 hO)) ?_
    refine au ?_
    exact hX6 _ H.2.2.2.2 _ _ agr ⟨⟨agr, hO, fr⟩, dF.u⟩
   refine sag 1 hO ?_
   refine sba 5 hO fun W3 s hO => ?_
   refine au ?_
   refine sfz 3 hO fun s hO NU NV => ?_
   refine sfzR 2 hO dF.u fun s hO sj sk => ?_
   refine sfz 0 hO fun s hO NW NX => ?_
   refine Go1.retC2 func109 rfl rfl (rlb 2 hO) ⟨((⟨d.Letters, (0 : Int), d_49, d_43⟩ : DFA)), _, _, _, _, _, _, _, ?_, frs, NU.r, sj.r, NW.r, H⟩
   exact (congrArg (fun l => Value.tuple (List.toArray l)) (J01 (congrArg (fun l => Value.agg (List.toArray l)) (J01 rfl (J01 rfl (J01 (congrArg (fun nn => Value.slice p50 nn c51) NV) (J01 (congrArg (fun nn => Value.slice p46 nn c47) sk) rfl))))) (J01 (congrArg (fun nn => Value.slice sf nn d.Final.length) NX) rfl)))
  replace H := H.2
  refine sba 6 hO fun vE s hO => ?_
  skip
  refine sbl 5 ?_
  refine au ?_
  refine Go1.retC3V func139 rfl rfl (rlb 6 hO) (show _ = .slice p54 n56 c55 from rfl) (show _ = .int .i64 (0 : Int) from rfl) ?_
  refine hR10 _ _ ?_
  refine sal hO fun W4 B185 s hO => ?_
  refine sba 0 hO fun W5 s hO => ?_
  refine sln0 ?_
  refine smk Fl.i (H aT.bd) hO fun vX sn s hO => ?_
  refine sln1 0 hO ?_
  refine au ?_
  refine sdr [4, 5, 5, 5, 6] hO fun s hO => ?_
  refine lv [2, 4, 5, 7, 31] hO (H aT.bd).2.2 (fun E (uP, number7_193) σ w => (fun Z => Lo A w0 σ w [(32, .int .i64 (uP : Int))] Z ∧ Els (Rp.sl (Rp.int .i64)) (bl Z ++ A) w jb d_43) (E.set 0 (t1 Fl.i 3 sn d.Final.length d.Final.length number7_193))) ⟨⟨agr, hO, fr⟩, dF.u⟩ ?_
  refine fun X7 => p1 fun uP number7_193 => fun H hX7 σ xd hk => d1 fun hL => fun dF => lh hk (fun hO hB => ?_) hL
  dsimp only [esets, sS, sZ] at hO hB dF
  dsimp only at H
  revert hO; repeat (rename Owns .. => q; clear q)
  intro hO; repeat (rename Sq .. => q; clear q)
  refine scm H (fun W6 H => ?_) fun W6 H => ?_
  ·refine six1 0 hO H.1 H.2.1 ?_
   refine sst (u := (-1 : Int)) 0 hO H.1 H.2.1 fun Gd s hO => ?_
   refine au ?_
   have Ge := H.1
   have Gf := H.2.1
   replace H := H.2.2
   obtain ⟨iU, H⟩ := H
   refine zo (J03 rfl rfl (wrap_i64 iU)) ?_
   refine au ?_
   exact hX7 _ H _ _ agr ⟨⟨agr, hO, fr⟩, dF.u⟩
  refine sln1 4 hO ?_
  refine au ?_
  refine lv [2, 4, 7, 39, 40] hO H (fun E (o4, number8_201) σ w => (fun Z => Lo A w0 σ w [(41, .int .i64 (o4 : Int))] Z ∧ Els (Rp.sl (Rp.int .i64)) (bl Z ++ A) w jb d_43) (E.set 0 (t1 Fl.i 3 sn d.Final.length d.Final.length number8_201))) ⟨⟨agr, hO, fr⟩, dF.u⟩ ?_
  refine fun X8 => p1 fun o4 number8_201 => fun H hX8 σ vY hk => d1 fun hL => fun dF => lh hk (fun hO hB => ?_) hL
  dsimp only [esets, sS, sZ] at hO hB dF
  dsimp only at H
  revert hO; repeat (rename Owns .. => q; clear q)
  intro hO; repeat (rename Sq .. => q; clear q)
  refine scm H (fun wW H => ?_) fun wW H => ?_
  ·refine sxl1 4 hO H.1 H.2.1 ?_
   refine six1 0 hO H.2.2.1 H.2.2.2.1 ?_
   refine sst (u := (o4 : Int)) 0 hO H.2.2.1 H.2.2.2.1 fun Gg s hO => ?_
   refine sinc (natbd wW (t1b 4 hO)) ?_
   refine au ?_
   exact hX8 _ H.2.2.2.2 _ _ agr ⟨⟨agr, hO, fr⟩, dF.u⟩
  refine sag 1 hO ?_
  refine sba 5 hO fun vF s hO => ?_
  refine au ?_
  refine sfz 3 hO fun s hO NY N1 => ?_
  refine sfzR 2 hO dF.u fun s hO kT mV => ?_
  refine sfz 0 hO fun s hO N2 N3 => ?_
  refine Go1.retC2 func109 rfl rfl (rlb 2 hO) ⟨((⟨d.Letters, (0 : Int), d_49, d_43⟩ : DFA)), _, _, _, _, _, _, _, ?_, frs, NY.r, kT.r, N2.r, H⟩
  exact (congrArg (fun l => Value.tuple (List.toArray l)) (J01 (congrArg (fun l => Value.agg (List.toArray l)) (J01 rfl (J01 rfl (J01 (congrArg (fun nn => Value.slice p50 nn c51) N1) (J01 (congrArg (fun nn => Value.slice p46 nn c47) mV) rfl))))) (J01 (congrArg (fun nn => Value.slice sn nn d.Final.length) N3) rfl)))
 refine au ?_
 refine zo (J05 underlying25 ti25 (pl := [(0, 1), (1, 1), (2, 1), (3, 1)]) (vs := []) (cs := #[.int .i64 (0 : Int), .int .i64 (0 : Int), .slice none 0 0, .slice none 0 0]) (by kernel_rfl) rfl (by kernel_rfl)) ?_
 refine sba 0 hO fun ajW s hO => ?_
 refine au ?_
 refine Go1.retC2 func109 rfl rfl (rlb 0 hO) ⟨((⟨(0 : Int), (0 : Int), ([] : List Bool), ([] : List (List Int))⟩ : DFA)), _, _, _, _, _, _, _, er, frs, (ISl.null _ _ _), (ISl.null _ _ _), (ISl.null _ _ _), H⟩
theorem body110 : Body prog 110 := ⟨f110, func110, rfl, by kernel_rfl⟩
theorem J3u {b7 cx : Option Addr} {ci cy : Nat} {a0 : DFA} (hA : HA0 A w0) (ak : ISb A w0 b7 ci a0.Final) (ck : ISs A w0 cx cy a0.Next) {K : List Int → Prop} (H : J0C a0 K) :
    CallsV prog 110 #[.agg (cDF a0 b7 ci cx cy)] w0 (fun v w' => ∃ (r0 : List Int), ∃ (p_r0 : Option Addr), ∃ (c_r0 : Nat), v = .slice p_r0 r0.length c_r0 ∧ Same w0 w' ∧ ISi A w' p_r0 c_r0 r0 ∧ K r0) := by
 refine cal hA func110 ntmps110 fun hO hB => ?_
 unfold J0C at H
 refine sbx hO fun w1 B2 s hO => ?_
 refine sag 0 hO ?_
 refine zcr (J02 body61 rfl (J0y hO.lt ak.u ck.u H)) fun _ w5 => e1 fun r4 => sc0 hO fun s hO => fun H => ?_
 refine scm H (fun h6 H => ?_) fun h6 H => ?_
 ·refine sln0 ?_
  refine smk Fl.i (H ak.bd) hO fun w7 p8 s hO => ?_
  refine sln0 ?_
  refine au ?_
  refine lv [1, 3, 24, 25] hO (H ak.bd).2.2 (fun E (k1_11, k1_12, d_13) σ w => Lo A w0 σ w [(4, .int .i64 k1_11), (26, .int .i64 (k1_12 : Int))] (E.set 0 (t1 Fl.i 3 p8 a0.Final.length a0.Final.length d_13))) ⟨agr, hO, fr⟩ ?_
  refine fun X1 => p2 fun k1_11 k1_12 d_13 => fun H hX1 σ w10 hk => lh hk fun hO hB => ?_
  dsimp only [esets, sS, sZ] at hO hB
  dsimp only at H
  revert hO; repeat (rename Owns .. => q; clear q)
  intro hO; repeat (rename Sq .. => q; clear q)
  refine scm H (fun h14 H => ?_) fun h14 H => ?_
  ·refine au ?_
   have h15 := H.1
   have h16 := H.2.1
   refine sxb hO ak.u H.1 H.2.1 H.2.2 (fun h17 H => ?_) fun h17 H => ?_
   ·refine au ?_
    have h18 := H.1
    have h19 := H.2.1
    refine sxb hO ak.u H.1 H.2.1 H.2.2 (fun h20 H => ?_) fun h20 H => ?_
    ·refine zo (J3o underlying4 rfl rfl) ?_
     refine sinc (natbd h14 ak.bd) ?_
     refine au ?_
     exact hX1 _ H _ _ agr ⟨agr, hO, fr⟩
    refine zo (J3o underlying4 rfl rfl) ?_
    refine six1 0 hO H.1 H.2.1 ?_
    refine sst (u := (1 : Int)) 0 hO H.1 H.2.1 fun w21 s hO => ?_
    refine sinc (natbd h14 ak.bd) ?_
    refine au ?_
    exact hX1 _ H.2.2 _ _ agr ⟨agr, hO, fr⟩
   refine au ?_
   have h22 := H.1
   have h23 := H.2.1
   refine sxb hO ak.u H.1 H.2.1 H.2.2 (fun h24 H => ?_) fun h24 H => ?_
   ·refine zo (J3o underlying4 rfl rfl) ?_
    refine six1 0 hO H.1 H.2.1 ?_
    refine sst (u := (1 : Int)) 0 hO H.1 H.2.1 fun w25 s hO => ?_
    refine sinc (natbd h14 ak.bd) ?_
    refine au ?_
    exact hX1 _ H.2.2 _ _ agr ⟨agr, hO, fr⟩
   refine zo (J3o underlying4 rfl rfl) ?_
   refine sinc (natbd h14 ak.bd) ?_
   refine au ?_
   exact hX1 _ H _ _ agr ⟨agr, hO, fr⟩
  refine au ?_
  refine sfz 0 hO fun s hO W7 W8 => ?_
  refine lv [1] hO H (fun E (fm, k2_33) σ w => ∃ p30 c31, (fun Z => Lo A w0 σ w [(3, .slice p30 fm.length c31), (4, .int .i64 k2_33)] Z ∧ ISi (bl Z ++ A) w p30 c31 fm) E) ⟨_, _, ⟨⟨(congrArg (fun nn => Value.slice p8 nn a0.Final.length) W8), rfl, trivial⟩, hO, fr⟩, W7⟩ ?_
  refine fun X2 => p1 fun fm k2_33 => fun H hX2 σ w28 hk => e2 fun p30 c31 => d1 fun hL => fun dJ => lh hk (fun hO hB => ?_) hL
  dsimp only at H
  revert hO; repeat (rename Owns .. => q; clear q)
  intro hO; repeat (rename Sq .. => q; clear q)
  refine au ?_
  have zz := omakeMap (fun a : AN 7 => Value.agg (icells .i64 a.1).toArray) (fun a : Int => Value.int .i64 a) hO
  obtain ⟨w34, B35, N4, xe, qQ⟩ := zz
  refine zg qQ ?_
  refine nst N4 fun s hO => ?_
  refine sln0 ?_
  refine smk Fl.i (H dJ.bd) hO fun w40 p41 s hO => ?_
  refine sln0 ?_
  refine au ?_
  refine lv [1, 3, 4, 7, 8, 46, 47] hO ((H dJ.bd).2.2 ck.bd) (fun E (iC, Gh, jv) σ w => (fun Z => Lo A w0 σ w [(48, .int .i64 (iC : Int))] Z ∧ ISi (bl Z ++ A) w p30 c31 fm) (esets E [(0, t1 Fl.i 3 p41 fm.length fm.length Gh), (1, .any (mapE (fun a : AN 7 => Value.agg (icells .i64 a.1).toArray) (fun a : Int => Value.int .i64 a) B35 jv))])) ⟨⟨agr, hO, fr⟩, dJ.u⟩ ?_
  refine fun X3 => p2 fun iC Gh jv => fun H hX3 σ w43 hk => d1 fun hL => fun dJ => lh hk (fun hO hB => ?_) hL
  dsimp only [esets, sS, sZ] at hO hB dJ
  dsimp only at H
  revert hO; repeat (rename Owns .. => q; clear q)
  intro hO; repeat (rename Sq .. => q; clear q)
  refine scm H (fun h47 H => ?_) fun h47 H => ?_
  ·refine sxls hO ck.u H.1 H.2.1 fun p48 c49 gM => ?_
   refine sxl hO dJ H.2.2.1 H.2.2.2.1 ?_
   refine zo (J7q underlying166 ti166 ti3 (vs := [(0, .int .i64 (ix fm (iC : Int)))]) (cs := #[.int .i64 (ix fm (iC : Int)), .int .i64 (0 : Int), .int .i64 (0 : Int), .int .i64 (0 : Int), .int .i64 (0 : Int), .int .i64 (0 : Int), .int .i64 (0 : Int)]) rfl (by kernel_rfl)) ?_
   have zz := oalloc (t := 166) (cs := (icells .i64 (([(0 : Int), (0 : Int), (0 : Int), (0 : Int), (0 : Int), (0 : Int), (0 : Int)] : List Int))).toArray) ti166 hO rfl
   obtain ⟨w51, B52, N5, Gi, N6⟩ := zz
   refine zg N6 ?_
   refine nst N5 fun s hO => ?_
   have h60 := H.1
   have h61 := H.2.1
   have h62 := H.2.2.1
   have h63 := H.2.2.2.1
   replace H := H.2.2.2.2
   obtain ⟨h64, H⟩ := H
   have zz := oarrStA (M := [(ix fm (iC : Int)), (0 : Int), (0 : Int), (0 : Int), (0 : Int), (0 : Int), (0 : Int)]) 0 hO rfl (by rw [h64]; rfl)
   obtain ⟨w57, sq, kF⟩ := zz
   refine zg (kF ti166 (by exact rfl) (by exact rfl)) ?_
   refine nst sq fun s hO => ?_
   refine sln0 ?_
   refine au ?_
   refine lv [1, 3, 4, 7, 8, 9, 11, 46, 47, 48, 58, 59] hO (H gM.bd) (fun E (sr, y4_67) σ w => (fun Z => Lo A w0 σ w [(60, .int .i64 (sr : Int))] Z ∧ ISi (bl Z ++ A) w p30 c31 fm ∧ ISi (bl Z ++ A) w p48 c49 (ix a0.Next (iC : Int))) (E.set 0 (.blk B52 (.cells (icells .i64 y4_67).toArray 166 (0, 0))))) ⟨⟨agr, hO, fr⟩, dJ.u, gM.u⟩ ?_
   refine fun X4 => p1 fun sr y4_67 => fun H hX4 σ w65 hk => d1 fun hL => d1 fun dJ gM => lh hk (fun hO hB => ?_) hL
   dsimp only [esets, sS, sZ] at hO hB dJ gM
   dsimp only at H
   revert hO; repeat (rename Owns .. => q; clear q)
   intro hO; repeat (rename Sq .. => q; clear q)
   refine scm H (fun h68 H => ?_) fun h68 H => ?_
   ·refine sxl hO gM H.1 H.2.1 ?_
    refine au ?_
    have h69 := H.1
    have h70 := H.2.1
    replace H := H.2.2
    obtain ⟨h71, H⟩ := H
    refine zo (J03 rfl rfl (wrap_i64 h71)) ?_
    refine sxl hO dJ H.1 H.2.1 ?_
    have h72 := H.1
    have h73 := H.2.1
    replace H := H.2.2
    obtain ⟨h74, H⟩ := H
    obtain ⟨h75, H⟩ := H
    obtain ⟨h76, H⟩ := H
    refine zo (J7D (n := 7) underlying166 ti3 rfl rfl h75 h76) ?_
    have zz := oarrSt (v := (ix fm (ix (ix a0.Next (iC : Int)) (sr : Int)))) 0 hO rfl h75 (arrLt h74 h76)
    obtain ⟨w77, f5, ss⟩ := zz
    refine zg (ss underlying3 rfl ti3 (by exact rfl) (by exact rfl)) ?_
    refine nst f5 fun s hO => ?_
    refine sinc (natbd h68 gM.bd) ?_
    refine au ?_
    exact hX4 _ H _ _ agr ⟨⟨agr, hO, fr⟩, dJ.u, gM.u⟩
   refine au ?_
   obtain ⟨h80, H⟩ := H
   refine zs (oarrLd 0 hO rfl h80 underlying166 rfl ti166 rfl) ?_
   by_cases h81 : mhas jv ((toAN 7 y4_67)) = true
   ·refine zs (olookT (a := (toAN 7 y4_67)) (MK.arrN underlying166 underlying3 ti3) 2 hO rfl underlying164 rfl rfl h81) ?_
    refine six1 1 hO (ifp h81 H).1 (ifp h81 H).2.1 ?_
    refine sst (u := (mgt jv ((toAN 7 y4_67)))) 1 hO (ifp h81 H).1 (ifp h81 H).2.1 fun w82 s hO => ?_
    refine sinc (natbd h47 ck.bd) ?_
    refine au ?_
    refine sdr [0] hO fun s hO => ?_
    exact hX3 _ (ifp h81 H).2.2 _ _ agr ⟨⟨agr, hO, fr⟩, dJ.u⟩
   refine zs (olookF (a := (toAN 7 y4_67)) (MK.arrN underlying166 underlying3 ti3) 2 hO rfl underlying164 ti3 rfl rfl h81) ?_
   refine au ?_
   refine zs (omapLen 2 hO rfl underlying164 rfl) ?_
   refine au ?_
   replace H := (ifn h81 H)
   obtain ⟨h83, H⟩ := H
   refine zs (oarrLd 0 hO rfl h83 underlying166 rfl ti166 rfl) ?_
   refine au ?_
   have zz := omapUpd (MK.arrN underlying166 underlying3 ti3) 2 hO rfl underlying164 (toAN 7 y4_67) (jv.length : Int)
   obtain ⟨w84, N7, N8⟩ := zz
   refine zg (N8 (by exact rfl) (by exact rfl) (by exact rfl)) ?_
   refine nst N7 fun s hO => ?_
   refine six1 1 hO H.1 H.2.1 ?_
   refine sst (u := (jv.length : Int)) 1 hO H.1 H.2.1 fun w87 s hO => ?_
   refine sinc (natbd h47 ck.bd) ?_
   refine au ?_
   refine sdr [0] hO fun s hO => ?_
   exact hX3 _ H.2.2 _ _ agr ⟨⟨agr, hO, fr⟩, dJ.u⟩
  refine au ?_
  refine zs (omapLen 1 hO rfl underlying164 rfl) ?_
  refine scm H (fun h88 H => ?_) fun h88 H => ?_
  ·refine au ?_
   refine sfz 0 hO fun s hO xg W9 => ?_
   refine Go1.ret1 func110 rfl ⟨_, _, _, ?_, frs, xg.r, H⟩
   exact (congrArg (fun nn => Value.slice p41 nn fm.length) W9)
  refine au ?_
  refine zs (omapLen 1 hO rfl underlying164 rfl) ?_
  refine au ?_
  refine sfz 0 hO fun s hO Xa xh => ?_
  refine sdr [0] hO fun s hO => ?_
  exact hX2 _ H _ _ agr ⟨_, _, ⟨⟨(congrArg (fun nn => Value.slice p41 nn fm.length) xh), rfl, trivial⟩, hO, fr⟩, Xa.u⟩
 refine au ?_
 refine Go1.ret1 func110 rfl ⟨_, _, _, er, frs, (ISl.null _ _ _), H⟩
theorem body66 : Body prog 66 := ⟨f66, func66, rfl, by kernel_rfl⟩
theorem J3F {b7 cx : Option Addr} {ci cy : Nat} {a0 : DFA} (hA : HA0 A w0) (ak : ISb A w0 b7 ci a0.Final) (ck : ISs A w0 cx cy a0.Next) {K : DFA → List Int → Prop} (H : J0B a0 K) :
    CallsV prog 66 #[.agg (cDF a0 b7 ci cx cy)] w0 (fun v w' => ∃ (r0 : DFA), ∃ (r1 : List Int), ∃ (aX : Option Addr), ∃ (aY : Nat), ∃ (bK : Option Addr), ∃ (bM : Nat), ∃ (dT : Option Addr), ∃ (dU : Nat), v = .tuple #[.agg (cDF r0 aX aY bK bM), .slice dT r1.length dU] ∧ Same w0 w' ∧ ISb A w' aX aY r0.Final ∧ ISs A w' bK bM r0.Next ∧ ISi A w' dT dU r1 ∧ K r0 r1) := by
 refine cal hA func66 ntmps66 fun hO hB => ?_
 unfold J0B at H
 refine sbx hO fun w1 B2 s hO => ?_
 refine sal hO fun w4 B5 s hO => ?_
 refine sag 1 hO ?_
 refine zcr (J02 body109 rfl (J4v hO.lt ak.u ck.u H)) fun _ w9 => e4 fun r7 r8 kW kX => e4 fun mo mq su sv => sc0 hO fun s hO => d3 fun cX dz d8 H => ?_
 refine sal hO fun w10 B11 s hO => ?_
 refine sba 0 hO fun w13 s hO => ?_
 refine sag 0 hO ?_
 refine zcr (J02 body110 rfl (J3u hO.lt cX.u dz.u H)) fun _ w15 => e3 fun r14 sw sx => sc0 hO fun s hO => d1 fun dE H => ?_
 refine au ?_
 refine zo (J05 underlying25 ti25 (pl := [(0, 1), (1, 1), (2, 1), (3, 1)]) (vs := [(0, .int .i64 a0.Letters)]) (cs := #[.int .i64 a0.Letters, .int .i64 (0 : Int), .slice none 0 0, .slice none 0 0]) (by kernel_rfl) rfl (by kernel_rfl)) ?_
 refine sal hO fun w16 B17 s hO => ?_
 refine sba 0 hO fun w19 s hO => ?_
 refine sln0 ?_
 refine au ?_
 refine snil Fl.bool 4 hO fun s hO => ?_
 have N9 := Stp.nil (e := 31) (r := 1) hO
 refine nst N9 fun s hO => ?_
 have ig := elN (Rp.sl (Rp.int .i64)) hO
 refine lv [1, 2, 4, 5, 6, 7, 28, 29] hO (H dE.bd) (fun E (k1_25, sy, d_32) σ w => ∃ n31 p29 c30 sA n35 p33 c34, (fun Z => Lo A w0 σ w [(30, .int .i64 (k1_25 : Int))] Z ∧ Els (Rp.sl (Rp.int .i64)) (bl Z ++ A) w sA sy ∧ ISb (bl Z ++ A) w kW kX r7.Final ∧ ISs (bl Z ++ A) w mo mq r7.Next ∧ ISi (bl Z ++ A) w su sv r8 ∧ ISi (bl Z ++ A) w sw sx r14) (esets E [(0, .row 31 1 p29 n31 c30 sA), (1, t1 Fl.bool 4 p33 n35 c34 d_32), (2, .blk B17 (.cells #[.int .i64 a0.Letters, .int .i64 (0 : Int), .slice p33 n35 c34, .slice p29 n31 c30] 25 (0, 0)))])) ⟨_, _, _, _, _, _, _, ⟨agr, hO, fr⟩, ig.u, cX.u, dz.u, d8.u, dE.u⟩ ?_
 refine fun X1 => p2 fun k1_25 sy d_32 => fun H hX1 σ w24 hk => e4 fun n31 p29 c30 sA => e3 fun n35 p33 c34 => d1 fun hL => d4 fun jc cX dz d8 dE => lh hk (fun hO hB => ?_) hL
 dsimp only [esets, sS, sZ] at hO hB jc cX dz d8 dE
 dsimp only at H
 revert hO; repeat (rename Owns .. => q; clear q)
 intro hO; repeat (rename Sq .. => q; clear q)
 refine scm H (fun h36 H => ?_) fun h36 H => ?_
 ·refine sxl hO dE H.1 H.2.1 ?_
  refine sln1 1 hO ?_
  have h37 := H.1
  have h38 := H.2.1
  refine scm H.2.2 (fun h39 H => ?_) fun h39 H => ?_
  ·refine sinc (natbd h36 dE.bd) ?_
   refine au ?_
   exact hX1 _ H _ _ agr ⟨_, _, _, _, _, _, _, ⟨agr, hO, fr⟩, jc, cX, dz, d8, dE⟩
  refine smk Fl.i H hO fun w40 p41 s hO => ?_
  refine sxls hO dz.u H.2.2.1 H.2.2.2.1 fun p43 c44 gH => ?_
  refine sln0 ?_
  refine au ?_
  refine lv [1, 2, 4, 5, 6, 7, 8, 10, 28, 29, 30, 47, 48] hO (H.2.2.2.2 gH.bd) (fun E (sB, d_48) σ w => (fun Z => Lo A w0 σ w [(49, .int .i64 (sB : Int))] Z ∧ Els (Rp.sl (Rp.int .i64)) (bl Z ++ A) w sA sy ∧ ISb (bl Z ++ A) w kW kX r7.Final ∧ ISs (bl Z ++ A) w mo mq r7.Next ∧ ISi (bl Z ++ A) w su sv r8 ∧ ISi (bl Z ++ A) w sw sx r14 ∧ ISi (bl Z ++ A) w p43 c44 (ix r7.Next (k1_25 : Int))) (E.set 0 (t1 Fl.i 3 p41 a0.Letters.toNat a0.Letters.toNat d_48))) ⟨⟨agr, hO, fr⟩, jc.u, cX.u, dz.u, d8.u, dE.u, gH.u⟩ ?_
  refine fun X2 => p1 fun sB d_48 => fun H hX2 σ w46 hk => d1 fun hL => d1 fun jc => d4 fun cX dz d8 dE gH => lh hk (fun hO hB => ?_) hL
  dsimp only [esets, sS, sZ] at hO hB jc cX dz d8 dE gH
  dsimp only at H
  revert hO; repeat (rename Owns .. => q; clear q)
  intro hO; repeat (rename Sq .. => q; clear q)
  refine scm H (fun h49 H => ?_) fun h49 H => ?_
  ·refine sxl hO gH H.1 H.2.1 ?_
   refine sxl hO dE H.2.2.1 H.2.2.2.1 ?_
   refine six1 0 hO H.2.2.2.2.1 H.2.2.2.2.2.1 ?_
   refine sst (u := (ix r14 (ix (ix r7.Next (k1_25 : Int)) (sB : Int)))) 0 hO H.2.2.2.2.1 H.2.2.2.2.2.1 fun w50 s hO => ?_
   refine sinc (natbd h49 gH.bd) ?_
   refine au ?_
   exact hX2 _ H.2.2.2.2.2.2 _ _ agr ⟨⟨agr, hO, fr⟩, jc.u, cX.u, dz.u, d8.u, dE.u, gH.u⟩
  refine au ?_
  refine drs 4 [q0, q1, q0, q1, q0, q0, q1, q2, q3, q0, q3] hO fun w51 s hO => ?_
  refine sxl hO cX.u H.1 H.2.1 ?_
  refine sap1 (ix r7.Final (k1_25 : Int)) 2 hO H.2.2 fun _ w52 p53 c54 s hO => ?_
  refine sbs 3 hO fun w55 s hO => ?_
  refine au ?_
  refine sfz 0 hO fun s hO Xb Xc => ?_
  have zz := obu underlying23 ti31 hO (Xb.u) Xc
  obtain ⟨w58, p59, sC, xi, ajX, qr⟩ := zz
  refine zg (qr rfl) ?_
  refine nst sC fun s hO => ?_
  refine sfzR 0 hO xi fun s hO xj xk => ?_
  have h67 := H.1
  have h68 := H.2.1
  replace H := H.2.2.2
  obtain ⟨h69, H⟩ := H
  have zz := oapp underlying23 ti31 rfl 0 hO rfl jc.u xj xk h69 (by decide)
  obtain ⟨w70, p71, c72, ajY, Oa, Gj, Ob⟩ := zz
  dsimp only [sS, sZ] at Gj
  refine zg (Ob (by exact rfl) (by exact rfl)) ?_
  refine nst Oa fun s hO => ?_
  refine sbs 2 hO fun w78 s hO => ?_
  refine sinc (natbd h36 dE.bd) ?_
  refine au ?_
  exact hX1 _ H _ _ agr ⟨_, _, _, _, _, _, _, ⟨agr, hO, fr⟩, Gj.u, cX.u, dz.u, d8.u, dE.u⟩
 refine sag 2 hO ?_
 refine sfz 1 hO fun s hO o5 sD => ?_
 refine sfzR 0 hO jc.u fun s hO oM xl => ?_
 refine zcr (J02 body109 (by rw [sD, xl]; exact rfl) (J4v (d := (⟨a0.Letters, (0 : Int), d_32, sy⟩ : DFA)) hO.lt o5.u oM H)) fun _ w85 => e4 fun r83 r84 qd qe => e4 fun sE sF Oc Od => sc0 hO fun s hO => d3 fun eP fo jw H => ?_
 refine sal hO fun w86 B87 s hO => ?_
 refine sba 0 hO fun w89 s hO => ?_
 refine sln0 ?_
 refine smk Fl.i (H d8.bd) hO fun w90 p91 s hO => ?_
 refine sln0 ?_
 refine au ?_
 refine sdr [2, 2, 3] hO fun s hO => ?_
 refine lv [2, 6, 13, 14, 15, 87, 88] hO (H d8.bd).2.2 (fun E (sG, Gk) σ w => (fun Z => Lo A w0 σ w [(89, .int .i64 (sG : Int))] Z ∧ ISi (bl Z ++ A) w su sv r8 ∧ ISi (bl Z ++ A) w sw sx r14 ∧ ISb (bl Z ++ A) w qd qe r83.Final ∧ ISs (bl Z ++ A) w sE sF r83.Next ∧ ISi (bl Z ++ A) w Oc Od r84) (E.set 0 (t1 Fl.i 3 p91 r8.length r8.length Gk))) ⟨⟨agr, hO, fr⟩, d8.u, dE.u, eP.u, fo.u, jw.u⟩ ?_
 refine fun X3 => p1 fun sG Gk => fun H hX3 σ w93 hk => d1 fun hL => d4 fun d8 dE eP fo jw => lh hk (fun hO hB => ?_) hL
 dsimp only [esets, sS, sZ] at hO hB d8 dE eP fo jw
 dsimp only at H
 revert hO; repeat (rename Owns .. => q; clear q)
 intro hO; repeat (rename Sq .. => q; clear q)
 refine scm H (fun h96 H => ?_) fun h96 H => ?_
 ·refine sxl hO d8 H.1 H.2.1 ?_
  refine six1 0 hO H.2.2.1 H.2.2.2.1 ?_
  refine sst (u := (-1 : Int)) 0 hO H.2.2.1 H.2.2.2.1 fun w97 s hO => ?_
  refine au ?_
  have h98 := H.1
  have h99 := H.2.1
  have jP := H.2.2.1
  have nS := H.2.2.2.1
  refine scm H.2.2.2.2 (fun Xd H => ?_) fun Xd H => ?_
  ·refine sxl hO dE.u H.1 H.2.1 ?_
   refine sxl hO jw.u H.2.2.1 H.2.2.2.1 ?_
   refine six1 0 hO H.2.2.2.2.1 H.2.2.2.2.2.1 ?_
   refine sst (u := (ix r84 (ix r14 (ix r8 (sG : Int))))) 0 hO H.2.2.2.2.1 H.2.2.2.2.2.1 fun Xe s hO => ?_
   refine sinc (natbd h96 d8.bd) ?_
   refine au ?_
   exact hX3 _ H.2.2.2.2.2.2 _ _ agr ⟨⟨agr, hO, fr⟩, d8.u, dE.u, eP.u, fo.u, jw.u⟩
  refine sinc (natbd h96 d8.bd) ?_
  refine au ?_
  exact hX3 _ H _ _ agr ⟨⟨agr, hO, fr⟩, d8.u, dE.u, eP.u, fo.u, jw.u⟩
 refine sag 1 hO ?_
 refine sba 2 hO fun xm s hO => ?_
 refine au ?_
 refine sfz 0 hO fun s hO Oe Og => ?_
 refine Go1.retC2 func66 rfl rfl (rlb 1 hO) ⟨((⟨r83.Letters, r83.Start, r83.Final, r83.Next⟩ : DFA)), _, _, _, _, _, _, _, ?_, frs, eP.r, fo.r, Oe.r, H⟩
 exact (congrArg (fun l => Value.tuple (List.toArray l)) (J01 rfl (J01 (congrArg (fun nn => Value.slice p91 nn r8.length) Og) rfl)))
theorem body22 : Body prog 22 := ⟨f22, func22, rfl, by kernel_rfl⟩
theorem J1K {bu bV : Option Addr} {bw bW : Nat} {d : DFA} (hA : HA0 A w0) (aT : ISb A w0 bu bw d.Final) (b9 : ISs A w0 bV bW d.Next) {K : DFA → Prop} (H : J0o d K) :
    CallsV prog 22 #[.agg (cDF d bu bw bV bW)] w0 (fun v w' => ∃ (r0 : DFA), ∃ (aX : Option Addr), ∃ (aY : Nat), ∃ (bK : Option Addr), ∃ (bM : Nat), v = .agg (cDF r0 aX aY bK bM) ∧ Same w0 w' ∧ ISb A w' aX aY r0.Final ∧ ISs A w' bK bM r0.Next ∧ K r0) := by
 refine cal hA func22 ntmps22 fun hO hB => ?_
 unfold J0o at H
 refine sbx hO fun w1 B2 s hO => ?_
 refine sal hO fun w4 B5 s hO => ?_
 refine sag 1 hO ?_
 refine zcr (J02 body61 rfl (J0y hO.lt aT.u b9.u H)) fun _ w8 => e1 fun r7 => sc0 hO fun s hO => fun H => ?_
 refine scm H (fun h9 H => ?_) fun h9 H => ?_
 ·refine sag 1 hO ?_
  refine zcr (J02 body66 rfl (J3F hO.lt aT.u b9.u H)) fun _ w12 => e4 fun r10 r11 I3 I4 => e4 fun Oh Oi Oj Ok => sc0 hO fun s hO => d3 fun qf sH adB H => ?_
  refine sal hO fun w13 B14 s hO => ?_
  refine sba 0 hO fun w16 s hO => ?_
  refine sag 0 hO ?_
  refine sba 1 hO fun w17 s hO => ?_
  refine au ?_
  refine Go1.retC1 func22 rfl rfl (rlb 1 hO) ⟨((⟨r10.Letters, r10.Start, r10.Final, r10.Next⟩ : DFA)), _, _, _, _, er, frs, qf.r, sH.r, H⟩
 refine au ?_
 refine zo (J05 underlying25 ti25 (pl := [(0, 1), (1, 1), (2, 1), (3, 1)]) (vs := []) (cs := #[.int .i64 (0 : Int), .int .i64 (0 : Int), .slice none 0 0, .slice none 0 0]) (by kernel_rfl) rfl (by kernel_rfl)) ?_
 refine sba 0 hO fun w18 s hO => ?_
 refine au ?_
 refine Go1.retC1 func22 rfl rfl (rlb 0 hO) ⟨((⟨(0 : Int), (0 : Int), ([] : List Bool), ([] : List (List Int))⟩ : DFA)), _, _, _, _, er, frs, (ISl.null _ _ _), (ISl.null _ _ _), H⟩
theorem body154 : Body prog 154 := ⟨f154, func154, rfl, by kernel_rfl⟩
theorem J1S {p_f : Option Addr} {c_f : Nat} {f : List Int} (hA : HA0 A w0) (h_f : ISi A w0 p_f c_f f) {K : Bool → Prop} (H : J1B f K) :
    CallsV prog 154 #[.slice p_f f.length c_f] w0 (fun v w' => ∃ (r0 : Bool), v = .bool r0 ∧ Same w0 w' ∧ K r0) := by
 refine cal hA func154 ntmps154 fun hO hB => ?_
 unfold J1B at H
 refine sln0 ?_
 refine scm (H h_f.bd) (fun h1 H => ?_) fun h1 H => ?_
 ·refine au ?_
  refine Go1.ret1 func154 rfl ⟨_, er, frs, H⟩
 refine sln0 ?_
 refine scm H (fun h2 H => ?_) fun h2 H => ?_
 ·refine au ?_
  refine Go1.ret1 func154 rfl ⟨_, er, frs, H⟩
 refine sln0 ?_
 refine au ?_
 refine lv [0, 13, 14] hO H (fun E k1_4 σ w => Lo A w0 σ w [(15, .int .i64 (k1_4 : Int))] []) ⟨agr, hO, fr⟩ ?_
 refine fun X1 => fun k1_4 => fun H hX1 σ w3 hk => lh hk fun hO hB => ?_
 refine scm H (fun h5 H => ?_) fun h5 H => ?_
 ·refine sxl hO h_f.u H.1 H.2.1 ?_
  refine au ?_
  have h6 := H.1
  have h7 := H.2.1
  refine scm H.2.2 (fun h8 H => ?_) fun h8 H => ?_
  ·refine au ?_
   refine Go1.ret1 func154 rfl ⟨_, er, frs, H⟩
  refine sln0 ?_
  refine scm H (fun h9 H => ?_) fun h9 H => ?_
  ·refine au ?_
   refine Go1.ret1 func154 rfl ⟨_, er, frs, H⟩
  refine sinc (natbd h5 h_f.bd) ?_
  refine au ?_
  exact hX1 _ H _ _ agr ⟨agr, hO, fr⟩
 refine au ?_
 refine Go1.ret1 func154 rfl ⟨_, er, frs, H⟩
theorem body86 : Body prog 86 := ⟨f86, func86, rfl, by kernel_rfl⟩
theorem J0m {fD : Option Addr} {gJ : Nat} {s_ : List Int} (hA : HA0 A w0) (gK : ISi A w0 fD gJ s_) {K : List Int → Prop} (H : J07 s_ K) :
    CallsV prog 86 #[.slice fD s_.length gJ] w0 (fun v w' => ∃ (r0 : List Int), ∃ (fe : Nat), ∃ (p_r0 : Option Addr), ∃ (c_r0 : Nat), v = .slice p_r0 fe c_r0 ∧ Same w0 w' ∧ Owns w0.heap.size w' [t1 Fl.i 3 p_r0 fe c_r0 r0] A ∧ K r0) := by
 refine cal hA func86 ntmps86 fun hO hB => ?_
 unfold J07 at H
 refine au ?_
 replace H := H fD.isNone (fun h => gK.nilD h)
 by_cases hz2 : fD.isNone = true
 ·replace H := ifp hz2 H
  refine zo (fun w => opB (J12 underlying31 rfl rfl w) (hz2)) ?_
  refine au ?_
  refine snil Fl.i 3 hO fun s hO => ?_
  refine Go1.ret1 func86 rfl ⟨_, _, _, _, er, frs, hO, H⟩
 ·replace H := ifn hz2 H
  refine zo (fun w => opB (J12 underlying31 rfl rfl w) (Bool.eq_false_iff.2 hz2)) ?_
  refine sbu Fl.i 3 ([] : List Int) hO fun w4 p5 s hO => ?_
  refine sap 0 hO gK.u H fun w7 p8 c9 s hO => ?_
  refine au ?_
  refine Go1.ret1 func86 rfl ⟨_, _, _, _, er, frs, hO, H.2⟩
theorem body156 : Body prog 156 := ⟨f156, func156, rfl, by kernel_rfl⟩
theorem J4g {n : Int} (hA : HA0 A w0) {K : List Int → Prop} (H : J0V n K) :
    CallsV prog 156 #[.int .i64 n] w0 (fun v w' => ∃ (r0 : List Int), ∃ (p_r0 : Option Addr), ∃ (c_r0 : Nat), v = .slice p_r0 r0.length c_r0 ∧ Same w0 w' ∧ ISi A w' p_r0 c_r0 r0 ∧ K r0) := by
 refine cal hA func156 ntmps156 fun hO hB => ?_
 unfold J0V at H
 refine scm H (fun h1 H => ?_) fun h1 H => ?_
 ·refine au ?_
  refine Go1.ret1 func156 rfl ⟨_, _, _, er, frs, (ISl.null _ _ _), H⟩
 refine scm H (fun h2 H => ?_) fun h2 H => ?_
 ·refine au ?_
  refine Go1.ret1 func156 rfl ⟨_, _, _, er, frs, (ISl.null _ _ _), H⟩
 refine smk Fl.i H hO fun w3 p4 s hO => ?_
 refine sln1 0 hO ?_
 refine au ?_
 refine lv [3, 14] hO H.2.2 (fun E (aK, f1_8) σ w => Lo A w0 σ w [(15, .int .i64 (aK : Int))] [t1 Fl.i 3 p4 n.toNat n.toNat f1_8]) ⟨agr, hO, fr⟩ ?_
 refine fun X1 => p1 fun aK f1_8 => fun H hX1 σ w6 hk => lh hk fun hO hB => ?_
 dsimp only at H
 revert hO; repeat (rename Owns .. => q; clear q)
 intro hO; repeat (rename Sq .. => q; clear q)
 refine scm H (fun h9 H => ?_) fun h9 H => ?_
 ·refine six1 0 hO H.1 H.2.1 ?_
  refine sst (u := (aK : Int)) 0 hO H.1 H.2.1 fun w10 s hO => ?_
  refine au ?_
  have h11 := H.1
  have h12 := H.2.1
  replace H := H.2.2
  obtain ⟨h13, H⟩ := H
  refine zo (J03 rfl rfl (wrap_i64 h13)) ?_
  refine au ?_
  exact hX1 _ H _ _ agr ⟨agr, hO, fr⟩
 refine au ?_
 refine sfz 0 hO fun s hO ke ii => ?_
 refine Go1.ret1 func156 rfl ⟨_, _, _, ?_, frs, ke.r, H⟩
 exact (congrArg (fun nn => Value.slice p4 nn n.toNat) ii)
theorem body157 : Body prog 157 := ⟨f157, func157, rfl, by kernel_rfl⟩
theorem J0a {p_f : Option Addr} {c_f : Nat} {f : List Int} (hA : HA0 A w0) (h_f : ISi A w0 p_f c_f f) {K : Str → Prop} (H : J0d f K) :
    CallsV prog 157 #[.slice p_f f.length c_f] w0 (fun v w' => ∃ (r0 : Str), v = .string (gstr r0) ∧ Same w0 w' ∧ r0.length ≤ mx ∧ K r0) := by
 refine cal hA func157 ntmps157 fun hO hB => ?_
 unfold J0d at H
 refine sln0 ?_
 refine smk (Fl.int .u8) (H h_f.bd) hO fun w1 p4 s hO => ?_
 refine sln0 ?_
 refine au ?_
 refine lv [3, 9, 10] hO (H h_f.bd).2.2 (fun E (aK, Gl) σ w => Lo A w0 σ w [(11, .int .i64 (aK : Int))] [t1 (Fl.int .u8) 5 p4 f.length f.length Gl]) ⟨agr, hO, fr⟩ ?_
 refine fun X1 => p1 fun aK Gl => fun H hX1 σ w6 hk => lh hk fun hO hB => ?_
 dsimp only at H
 revert hO; repeat (rename Owns .. => q; clear q)
 intro hO; repeat (rename Sq .. => q; clear q)
 refine scm H (fun h9 H => ?_) fun h9 H => ?_
 ·refine sxl hO h_f.u H.1 H.2.1 ?_
  refine au ?_
  refine zo (J1Y underlying3 underlying5 rfl rfl) ?_
  refine six1 0 hO H.2.2.1 H.2.2.2.1 ?_
  refine sst (u := (IntKind.u8.wrap (ix f (aK : Int)))) 0 hO H.2.2.1 H.2.2.2.1 fun w10 s hO => ?_
  refine sinc (natbd h9 h_f.bd) ?_
  refine au ?_
  exact hX1 _ H.2.2.2.2 _ _ agr ⟨agr, hO, fr⟩
 refine au ?_
 refine op1 0 hO fun aj0 s hO Gm => ?_
 have hle13 := J0u Gm.bd
 refine zs (oldBytes 0 hO rfl Gm.u underlying126 underlying5 underlying9 rfl) ?_
 refine au ?_
 refine Go1.ret1 func157 rfl ⟨_, er, frs, hle13, H⟩
theorem body155 : Body prog 155 := ⟨f155, func155, rfl, by kernel_rfl⟩
theorem body131 : Body prog 131 := ⟨f131, func131, rfl, by kernel_rfl⟩
theorem J3O {fh : Option Addr} {fk : Nat} {a0 : List (List Int)} {a1 : Bool} (hA : HA0 A w0) (aS : ISs A w0 fh fk a0) {K : Option run → Int → Prop} (H : J0M a0 a1 K) :
    CallsV prog 131 #[.slice fh a0.length fk, .bool a1] w0 (fun v w' => (∃ (r1 : Int), v = .tuple #[.pointer none, .int .i64 r1] ∧ Same w0 w' ∧ K none r1) ∨ (∃ (q : run), ∃ (r1 : Int), ∃ (b_q : Nat), ∃ (aL : Nat), ∃ (aM : Option Addr), ∃ (aN : Nat), ∃ (bN : List Value), ∃ (aA : Nat), ∃ (aB : Option Addr), ∃ (aC : Nat), ∃ (bB : List Value), ∃ (aw : Nat), ∃ (ax : Option Addr), ∃ (ay : Nat), ∃ (aO : Nat), ∃ (aP : Option Addr), ∃ (aQ : Nat), ∃ (aD : Nat), ∃ (aE : Option Addr), ∃ (aF : Nat), ∃ (bC : List Value), ∃ (aG : Nat), ∃ (aH : Option Addr), ∃ (aI : Nat), ∃ (dS : Nat), ∃ (bS : Nat), ∃ (bT : Option Addr), ∃ (bU : Nat), ∃ (bi : Nat), ∃ (bj : Option Addr), ∃ (bk : Nat), ∃ (bm : Nat), ∃ (bn : Option Addr), ∃ (bo : Nat), v = .tuple #[.pointer (some ⟨b_q, 0, none⟩), .int .i64 r1] ∧ Same w0 w' ∧ Owns w0.heap.size w' [.blk b_q (.cells #[.int .i64 q.Enum.Points, .bool q.Enum.Monoid, .slice aM aL aN, .slice aB aA aC, .slice ax aw ay, .slice aP aO aQ, .slice aE aD aF, .slice aH aG aI, .int .i64 q.Enum.Done, .map (some dS), .slice bT bS bU, .slice bj bi bk, .slice bn bm bo] 156 (0, 0)), .row 31 1 aM aL aN bN, .row 31 1 aB aA aC bB, t1 Fl.i 3 ax aw ay q.Enum.Prefix, t1 Fl.i 3 aP aO aQ q.Enum.Last, .row 31 1 aE aD aF bC, t1 (id Fl.fl : Fl rpRule) 185 aH aG aI q.Enum.Rules, t1 Fl.str 9 bT bS bU q.words, t1 Fl.i 3 bj bi bk q.behind, t1 Fl.i 3 bn bm bo q.single, .any (mapE (fun a : List UInt8 => Value.string (gstr a)) (fun a : Int => Value.int .i64 a) dS q.number)] A ∧ Els (Rp.sl (Rp.int .i64)) (bl [.blk b_q (.cells #[.int .i64 q.Enum.Points, .bool q.Enum.Monoid, .slice aM aL aN, .slice aB aA aC, .slice ax aw ay, .slice aP aO aQ, .slice aE aD aF, .slice aH aG aI, .int .i64 q.Enum.Done, .map (some dS), .slice bT bS bU, .slice bj bi bk, .slice bn bm bo] 156 (0, 0)), .row 31 1 aM aL aN bN, .row 31 1 aB aA aC bB, t1 Fl.i 3 ax aw ay q.Enum.Prefix, t1 Fl.i 3 aP aO aQ q.Enum.Last, .row 31 1 aE aD aF bC, t1 (id Fl.fl : Fl rpRule) 185 aH aG aI q.Enum.Rules, t1 Fl.str 9 bT bS bU q.words, t1 Fl.i 3 bj bi bk q.behind, t1 Fl.i 3 bn bm bo q.single, .any (mapE (fun a : List UInt8 => Value.string (gstr a)) (fun a : Int => Value.int .i64 a) dS q.number)] ++ A) w' bN q.Enum.Gens ∧ Els (Rp.sl (Rp.int .i64)) (bl [.blk b_q (.cells #[.int .i64 q.Enum.Points, .bool q.Enum.Monoid, .slice aM aL aN, .slice aB aA aC, .slice ax aw ay, .slice aP aO aQ, .slice aE aD aF, .slice aH aG aI, .int .i64 q.Enum.Done, .map (some dS), .slice bT bS bU, .slice bj bi bk, .slice bn bm bo] 156 (0, 0)), .row 31 1 aM aL aN bN, .row 31 1 aB aA aC bB, t1 Fl.i 3 ax aw ay q.Enum.Prefix, t1 Fl.i 3 aP aO aQ q.Enum.Last, .row 31 1 aE aD aF bC, t1 (id Fl.fl : Fl rpRule) 185 aH aG aI q.Enum.Rules, t1 Fl.str 9 bT bS bU q.words, t1 Fl.i 3 bj bi bk q.behind, t1 Fl.i 3 bn bm bo q.single, .any (mapE (fun a : List UInt8 => Value.string (gstr a)) (fun a : Int => Value.int .i64 a) dS q.number)] ++ A) w' bB q.Enum.Elems ∧ Els (Rp.sl (Rp.int .i64)) (bl [.blk b_q (.cells #[.int .i64 q.Enum.Points, .bool q.Enum.Monoid, .slice aM aL aN, .slice aB aA aC, .slice ax aw ay, .slice aP aO aQ, .slice aE aD aF, .slice aH aG aI, .int .i64 q.Enum.Done, .map (some dS), .slice bT bS bU, .slice bj bi bk, .slice bn bm bo] 156 (0, 0)), .row 31 1 aM aL aN bN, .row 31 1 aB aA aC bB, t1 Fl.i 3 ax aw ay q.Enum.Prefix, t1 Fl.i 3 aP aO aQ q.Enum.Last, .row 31 1 aE aD aF bC, t1 (id Fl.fl : Fl rpRule) 185 aH aG aI q.Enum.Rules, t1 Fl.str 9 bT bS bU q.words, t1 Fl.i 3 bj bi bk q.behind, t1 Fl.i 3 bn bm bo q.single, .any (mapE (fun a : List UInt8 => Value.string (gstr a)) (fun a : Int => Value.int .i64 a) dS q.number)] ++ A) w' bC q.Enum.Right ∧ K (some q) r1)) := by
 refine cal hA func131 ntmps131 fun hO hB => ?_
 unfold J0M at H
 refine sln0 ?_
 refine scm (H aS.bd) (fun h1 H => ?_) fun h1 H => ?_
 ·refine au ?_
  refine Go1.ret2 func131 rfl (Or.inl ⟨_, er, frs, H⟩)
 refine sln0 ?_
 refine scm H (fun h2 H => ?_) fun h2 H => ?_
 ·refine au ?_
  refine Go1.ret2 func131 rfl (Or.inl ⟨_, er, frs, H⟩)
 refine au ?_
 have zz := omakeMap (fun a : List UInt8 => Value.string (gstr a)) (fun a : Int => Value.int .i64 a) hO
 obtain ⟨w3, B4, xn, hs6, Xf⟩ := zz
 refine zg Xf ?_
 refine nst xn fun s hO => ?_
 refine zo (J05 underlying156 ti156 (pl := [(0, 9), (9, 1), (10, 1), (11, 1), (12, 1)]) (vs := [(1, .map (some B4))]) (cs := #[.int .i64 (0 : Int), .bool false, .slice none 0 0, .slice none 0 0, .slice none 0 0, .slice none 0 0, .slice none 0 0, .slice none 0 0, .int .i64 (0 : Int), .map (some B4), .slice none 0 0, .slice none 0 0, .slice none 0 0]) (by kernel_rfl) rfl (by kernel_rfl)) ?_
 refine sbx hO fun w9 B10 s hO => ?_
 refine sxls hO aS.u H.1 H.2.1 fun p12 c13 ke => ?_
 refine sln0 ?_
 refine sbs 0 hO fun w15 s hO => ?_
 refine sbs 0 hO fun w16 s hO => ?_
 refine sln0 ?_
 refine au ?_
 have Ol := Stp.nil (e := 31) (r := 1) hO
 refine nst Ol fun s hO => ?_
 have Xg := elN (Rp.sl (Rp.int .i64)) hO
 refine lv [1, 6, 39, 40] hO (H.2.2 ke.bd) (fun E (k1_21, d_22) σ w => ∃ n27 p25 c26 kg, (fun Z => Lo A w0 σ w [(41, .int .i64 (k1_21 : Int))] Z ∧ Els (Rp.sl (Rp.int .i64)) (bl Z ++ A) w kg d_22) (esets E [(0, .row 31 1 p25 n27 c26 kg), (1, .blk B10 (.cells #[.int .i64 ((ix a0 (0 : Int)).length : Int), .bool a1, .slice p25 n27 c26, .slice none 0 0, .slice none 0 0, .slice none 0 0, .slice none 0 0, .slice none 0 0, .int .i64 (0 : Int), .map (some B4), .slice none 0 0, .slice none 0 0, .slice none 0 0] 156 (0, 0)))])) ⟨_, _, _, _, ⟨agr, hO, fr⟩, Xg.u⟩ ?_
 refine fun X1 => p1 fun k1_21 d_22 => fun H hX1 σ w20 hk => e4 fun n27 p25 c26 kg => d1 fun hL => fun dG => lh hk (fun hO hB => ?_) hL
 dsimp only [esets, sS, sZ] at hO hB dG
 dsimp only at H
 revert hO; repeat (rename Owns .. => q; clear q)
 intro hO; repeat (rename Sq .. => q; clear q)
 refine scm H (fun h28 H => ?_) fun h28 H => ?_
 ·refine sxls hO aS.u H.1 H.2.1 fun p29 c30 xo => ?_
  refine sln0 ?_
  refine au ?_
  have h32 := H.1
  have h33 := H.2.1
  refine scm (H.2.2 xo.bd) (fun h34 H => ?_) fun h34 H => ?_
  ·refine au ?_
   refine zcr (J02 body154 rfl (J1S hO.lt xo.u H)) fun _ w36 => e1 fun r35 => sc0 hO fun s hO => fun H => ?_
   cases r35
   ·refine au ?_
    refine Go1.ret2 func131 rfl (Or.inl ⟨_, er, frs, (iF H)⟩)
   refine au ?_
   refine drs 1 [q0, q0, q0, q0, q0, q1, q0, q2, q2, q3, q0, q0, q0, q3] hO fun w37 s hO => ?_
   refine au ?_
   refine zcq rfl (J02 body86 rfl (J0m hO.lt xo.u (iT H))) fun _ w40 => e4 fun r38 adC adD adE => sq1 hO fun s hO => fun H => ?_
   refine sfz 0 hO fun s hO Xh Xi => ?_
   have zz := obu underlying23 ti31 hO (Xh) Xi
   obtain ⟨w44, p45, Om, Xj, Xk, Oo⟩ := zz
   refine GoQ.loud rfl (Oo rfl) Xk rfl rfl ?_
   refine nst Om fun s hO => ?_
   refine sfzR 0 hO Xj fun s hO Xl Xm => ?_
   obtain ⟨h53, H⟩ := H
   have zz := oapp underlying23 ti31 rfl 0 hO rfl dG.u Xl Xm h53 (by decide)
   obtain ⟨w54, p55, c56, aj1, sq, Gn, Oq⟩ := zz
   dsimp only [sS, sZ] at Gn
   refine GoQ.last rfl (Oq (by exact rfl) (by exact rfl)) rfl rfl ?_
   refine nst sq fun s hO => ?_
   refine sbs 1 hO fun w62 s hO => ?_
   refine sinc (natbd h28 aS.bd) ?_
   refine au ?_
   exact hX1 _ H _ _ agr ⟨_, _, _, _, ⟨agr, hO, fr⟩, Gn.u⟩
  refine au ?_
  refine Go1.ret2 func131 rfl (Or.inl ⟨_, er, frs, H⟩)
 refine au ?_
 cases a1
 ·refine au ?_
  refine zo (J0t underlying23 rfl (Els.neqW dG.u hO 0 rfl)) ?_
  refine au ?_
  have Os := Stp.nil (e := 31) (r := 1) hO
  refine nst Os fun s hO => ?_
  have Xo := elN (Rp.sl (Rp.int .i64)) hO
  refine snil Fl.i 3 hO fun s hO => ?_
  refine snil Fl.i 3 hO fun s hO => ?_
  refine snil (id Fl.fl : Fl rpRule) 185 hO fun s hO => ?_
  refine snil Fl.str 9 hO fun s hO => ?_
  refine snil Fl.i 3 hO fun s hO => ?_
  refine snil Fl.i 3 hO fun s hO => ?_
  refine lv [6, 9, 85, 86] hO (iF H) (fun E (gy, xp, xq, d_82, d_86, xr, d_94, d_98, gf) σ w => ∃ n77 p75 c76 n81 p79 c80 n85 p83 c84 n89 p87 c88 n93 p91 c92 n97 p95 c96 xt rI rJ xv, (fun Z => Lo A w0 σ w [(87, .int .i64 (gy : Int))] Z ∧ Els (Rp.sl (Rp.int .i64)) (bl Z ++ A) w xv d_98 ∧ Els (Rp.sl (Rp.int .i64)) (bl Z ++ A) w kg d_22) [t1 Fl.i 3 p75 n77 c76 xp, t1 Fl.i 3 p79 n81 c80 xq, t1 Fl.str 9 p83 n85 c84 d_82, t1 (id Fl.fl : Fl rpRule) 185 p87 n89 c88 d_86, t1 Fl.i 3 p91 n93 c92 xr, t1 Fl.i 3 p95 n97 c96 d_94, .row 31 1 rI xt rJ xv, .row 31 1 p25 n27 c26 kg, .blk B10 (.cells #[.int .i64 ((ix a0 (0 : Int)).length : Int), .bool false, .slice p25 n27 c26, .slice rI xt rJ, .slice p95 n97 c96, .slice p91 n93 c92, .slice none 0 0, .slice p87 n89 c88, .int .i64 (0 : Int), .map (some B4), .slice p83 n85 c84, .slice p79 n81 c80, .slice p75 n77 c76] 156 (0, 0)), .any (mapE (fun a : List UInt8 => Value.string (gstr a)) (fun a : Int => Value.int .i64 a) B4 gf)]) ⟨_, _, _, _, _, _, _, _, _, _, _, _, _, _, _, _, _, _, _, _, _, _, ⟨agr, hO, fr⟩, Xo.u, dG.u⟩ ?_
  refine fun X2 => p1 fun gy => p1 fun xp => p1 fun xq => p1 fun d_82 => p1 fun d_86 => p3 fun xr d_94 d_98 gf => fun H hX2 σ w72 hk => e4 fun n77 p75 c76 n81 => e4 fun p79 c80 n85 p83 => e4 fun c84 n89 p87 c88 => e4 fun n93 p91 c92 n97 => e4 fun p95 c96 xt rI => e2 fun rJ xv => d1 fun hL => d1 fun g5 dG => lh hk (fun hO hB => ?_) hL
  dsimp only at H
  revert hO; repeat (rename Owns .. => q; clear q)
  intro hO; repeat (rename Sq .. => q; clear q)
  refine scm H (fun xw H => ?_) fun xw H => ?_
  ·refine au ?_
   obtain ⟨j9, H⟩ := H
   obtain ⟨oW, H⟩ := H
   refine zo (J04 underlying23 ti31 rfl rfl j9 (ltn (Els.neqW dG hO 7 rfl) oW) (Els.psomeW dG hO 7 rfl j9 oW)) ?_
   have zz := oldSl 7 hO rfl dG j9 oW
   obtain ⟨Xp, aj2, mW, Ot⟩ := zz
   refine zs (Ot underlying31 rfl rfl) ?_
   refine au ?_
   obtain ⟨kc, H⟩ := H
   refine zo (J03 rfl rfl (wrap_i64 kc)) ?_
   refine zo (J1Y underlying3 underlying21 rfl rfl) ?_
   obtain ⟨iu, H⟩ := H
   obtain ⟨Xq, H⟩ := H
   refine zo (J4m underlying21 underlying9 rfl iu Xq) ?_
   refine au ?_
   refine drs 0 [q0, q0, q0, q1, q0, q2, q1, q0, q0, q0, q0, q0] hO fun Em s hO => ?_
   refine au ?_
   refine zcq rfl (J02 body157 rfl (J0a hO.lt mW.u H)) fun _ sI => e1 fun kh => sq0 hO fun s hO => d1 fun ace H => ?_
   by_cases gv : mhas gf kh = true
   ·refine GoQ.stable rfl (olookT (a := kh) (MK.str underlying9) 9 hO rfl underlying154 rfl rfl gv) rfl rfl ?_
    refine au ?_
    refine drs 5 [q0, q0, q0, q0, q0, q1, q0, q0, q0, q0, q1, q0, q0, q1, q0, q2, q3, q0, q0, q0, q3] hO fun xa s hO => ?_
    refine sxl1 2 hO (ifp gv H).1 (ifp gv H).2.1 ?_
    have hle120 := t1le 2 hO (ifp gv H).1 (ifp gv H).2.1
    refine GoQ.pure rfl (J05 underlying185 ti185 (pl := [(0, 1), (1, 1)]) (vs := [(0, .string (gstr (chr (IntKind.i32.wrap ((97 : Int) + (gy : Int)))))), (1, .string (gstr (ix d_82 (mgt gf kh))))]) (cs := #[.string (gstr (chr (IntKind.i32.wrap ((97 : Int) + (gy : Int))))), .string (gstr (ix d_82 (mgt gf kh)))]) (by kernel_rfl) rfl (by kernel_rfl)) rfl rfl ?_
    refine sapF (⟨(chr (IntKind.i32.wrap ((97 : Int) + (gy : Int)))), ix d_82 (mgt gf kh)⟩ : Rule) 3 hO (ifp gv H).2.2 (fun _ nU aj3 aj4 s hO => ?_) (hok := by exact ⟨(J7R _), hle120⟩)
    refine sbs 8 hO fun TJ s hO => ?_
    refine au ?_
    refine sap1 ((mgt gf kh)) 0 hO (ifp gv H).2.2.2 fun _ Gp aj5 aj6 s hO => ?_
    refine sbs 8 hO fun Xr s hO => ?_
    refine sinc (natbd xw dG.bd) ?_
    refine au ?_
    exact hX2 _ (ifp gv H).2.2.2.2 _ _ agr ⟨_, _, _, _, _, _, _, _, _, _, _, _, _, _, _, _, _, _, _, _, _, _, ⟨agr, hO, fr⟩, g5.u, dG.u⟩
   refine GoQ.stable rfl (olookF (a := kh) (MK.str underlying9) 9 hO rfl underlying154 ti3 rfl rfl gv) rfl rfl ?_
   refine au ?_
   refine zcr (J02 body86 rfl (J0m hO.lt mW.u (ifn gv H))) fun _ Vw => e4 fun r129 Gq Gr Gs => sc1 hO fun s hO => fun H => ?_
   refine au ?_
   refine GoR.inl (vs := [.pointer (some ⟨B10, 0, none⟩), .slice Gr Gq Gs, .int .i64 (-1 : Int), .int .i64 (gy : Int), .string (gstr (chr (IntKind.i32.wrap ((97 : Int) + (gy : Int))))), .int .i64 (-1 : Int)]) (caps := []) rfl rfl body155 func155 rfl ntmps155 rfl rfl rfl ?_
   intro RhR133 hR133
   refine au ?_
   refine zo (J0t underlying23 rfl (Els.neqW g5.u hO 7 rfl)) ?_
   refine au ?_
   refine drw 1 [(0, q0), (1, q0), (2, q0), (3, q1), (4, q0), (6, q0), (5, q2), (7, q3)] hO fun Xs s hO => ?_
   refine au ?_
   have Ou := t1lend 0 hO
   have kA := t1n 0 hO
   have hOc137 := hO.drop 0
   refine zcq rfl (J02 body157 (by rw [kA]; exact rfl) (J0a hOc137.lt Ou H)) fun _ Xt => e1 fun Xu => sq0 hO fun s hO => d1 fun acf H => ?_
   have zz := omapUpd (MK.str underlying9) 10 hO rfl underlying154 Xu (d_98.length : Int)
   obtain ⟨aj7, Gt, nE⟩ := zz
   refine GoQ.last rfl (nE (by exact rfl) (by exact rfl) (by exact rfl)) rfl rfl ?_
   refine nst Gt fun s hO => ?_
   refine au ?_
   refine sfz 0 hO fun s hO rK kQ => ?_
   have zz := obu underlying23 ti31 hO (rK) kQ
   obtain ⟨Gz, Xv, nY, qU, adF, GA⟩ := zz
   refine zg (GA rfl) ?_
   refine nst nY fun s hO => ?_
   refine sfzR 0 hO qU.u fun s hO Ov sJ => ?_
   obtain ⟨oP, H⟩ := H
   have zz := oapp underlying23 ti31 rfl 6 hO rfl g5.u Ov sJ oP (by decide)
   obtain ⟨vB, Xw, Xx, adG, GB, iD, GC⟩ := zz
   dsimp only [sS, sZ] at iD
   refine zg (GC (by exact rfl) (by exact rfl)) ?_
   refine nst GB fun s hO => ?_
   refine sbs 8 hO fun W0 s hO => ?_
   refine au ?_
   refine sap1 ((-1 : Int)) 5 hO H fun _ oc aj8 aj9 s hO => ?_
   refine sbs 8 hO fun vV s hO => ?_
   refine au ?_
   refine sap1 ((gy : Int)) 4 hO H.2 fun _ qv Cr TO s hO => ?_
   refine sbs 8 hO fun wS s hO => ?_
   refine au ?_
   refine sap1 ((chr (IntKind.i32.wrap ((97 : Int) + (gy : Int))))) 2 hO H.2.2 (fun _ GD ki l8 s hO => ?_) (hR := by exact fun _ _ => ⟨rfl, (J7R _)⟩)
   refine sbs 8 hO fun W2 s hO => ?_
   refine au ?_
   refine sap1 ((-1 : Int)) 1 hO H.2.2.2 fun _ W3 aka akb s hO => ?_
   refine sbs 8 hO fun Xy s hO => ?_
   refine au ?_
   refine Go1.ret1V func155 rfl (show _ = .int .i64 (d_98.length : Int) from rfl) ?_
   refine hR133 _ _ ?_
   refine au ?_
   refine sap1 ((d_98.length : Int)) 0 hO H.2.2.2.2 fun _ akc akd ake s hO => ?_
   refine sbs 8 hO fun vE s hO => ?_
   refine sinc (natbd xw dG.bd) ?_
   refine au ?_
   exact hX2 _ H.2.2.2.2.2 _ _ agr ⟨_, _, _, _, _, _, _, _, _, _, _, _, _, _, _, _, _, _, _, _, _, _, ⟨agr, hO, fr⟩, iD.u, dG.u⟩
  refine au ?_
  have GE := Stp.nil (e := 31) (r := 1) hO
  refine nst GE fun s hO => ?_
  have gx := elN (Rp.sl (Rp.int .i64)) hO
  refine sfr 10 hO fun s hO => ?_
  refine sfr 2 hO fun s hO => ?_
  refine sfr 3 hO fun s hO => ?_
  refine sfr 4 hO fun s hO => ?_
  refine sfr 5 hO fun s hO => ?_
  refine sfr 5 hO fun s hO => ?_
  refine sfr 6 hO fun s hO => ?_
  refine sfr 7 hO fun s hO => ?_
  refine sfr 8 hO fun s hO => ?_
  refine sfr 9 hO fun s hO => ?_
  refine sfr 10 hO fun s hO => ?_
  refine Go1.ret2 func131 rfl (Or.inr ⟨(⟨(⟨((ix a0 (0 : Int)).length : Int), false, d_22, d_98, d_94, xr, ([] : List (List Int)), d_86, (0 : Int)⟩ : Enum), gf, d_82, xq, xp⟩ : run), _, _, _, _, _, _, _, _, _, _, _, _, _, _, _, _, _, _, _, _, _, _, _, _, _, _, _, _, _, _, _, _, _, er, frs, hO, dG.u, g5.u, gx.u, H⟩)
 refine au ?_
 refine zcr (J02 body156 rfl (J4g hO.lt (iT H))) fun _ vX => e3 fun r187 GF GG => sc0 hO fun s hO => d1 fun uR H => ?_
 refine GoR.inl (vs := [.pointer (some ⟨B10, 0, none⟩), .slice GF r187.length GG, .int .i64 (-1 : Int), .int .i64 (-1 : Int), .string (gstr (([] : Str))), .int .i64 (-1 : Int)]) (caps := []) rfl rfl body155 func155 rfl ntmps155 rfl rfl rfl ?_
 intro RhR189 hR189
 refine sln0 ?_
 refine au ?_
 refine drw 1 [(0, q0), (1, q0), (2, q0), (3, q1), (4, q0), (6, q0), (5, q2), (7, q3)] hO fun Xz s hO => ?_
 refine au ?_
 refine zcq rfl (J02 body157 rfl (J0a hO.lt uR.u H)) fun _ WF => e1 fun r191 => sq0 hO fun s hO => d1 fun acg H => ?_
 have zz := omapUpd (MK.str underlying9) 2 hO rfl underlying154 r191 (0 : Int)
 obtain ⟨TQ, GH, GJ⟩ := zz
 refine GoQ.last rfl (GJ (by exact rfl) (by exact rfl) (by exact rfl)) rfl rfl ?_
 refine nst GH fun s hO => ?_
 refine au ?_
 have zz := obu underlying23 ti31 hO (uR.u) rfl
 obtain ⟨XA, XB, GK, Ow, adH, GL⟩ := zz
 refine zg (GL rfl) ?_
 refine nst GK fun s hO => ?_
 refine sfzR 0 hO Ow fun s hO Ox Oy => ?_
 have GM := Stp.nil (e := 31) (r := 1) hO
 refine nst GM fun s hO => ?_
 have Oz := elN (Rp.sl (Rp.int .i64)) hO
 obtain ⟨od, H⟩ := H
 have zz := oapp underlying23 ti31 rfl 0 hO rfl Oz Ox.u Oy od (by decide)
 obtain ⟨v6, FT, XC, adI, GO, jx, o6⟩ := zz
 dsimp only [sS, sZ] at jx
 refine zg (o6 (by exact rfl) (by exact rfl)) ?_
 refine nst GO fun s hO => ?_
 refine sbs 2 hO fun GP s hO => ?_
 refine au ?_
 refine snil Fl.i 3 hO fun s hO => ?_
 refine sap1 ((-1 : Int)) 0 hO H fun _ vG lU lV s hO => ?_
 refine sbs 3 hO fun TU s hO => ?_
 refine au ?_
 refine snil Fl.i 3 hO fun s hO => ?_
 refine sap1 ((-1 : Int)) 0 hO H.2 fun _ akf akg akh s hO => ?_
 refine sbs 4 hO fun vH s hO => ?_
 refine au ?_
 refine snil Fl.str 9 hO fun s hO => ?_
 refine sap1 ((([] : Str))) 0 hO H.2.2 (fun _ aki akj akk s hO => ?_) (hR := by exact fun _ _ => ⟨rfl, (by decide)⟩)
 refine sbs 5 hO fun akl s hO => ?_
 refine au ?_
 refine snil Fl.i 3 hO fun s hO => ?_
 refine sap1 ((-1 : Int)) 0 hO H.2.2.2 fun _ XD akm akn s hO => ?_
 refine sbs 6 hO fun vI s hO => ?_
 refine au ?_
 refine Go1.ret1V func155 rfl (show _ = .int .i64 (0 : Int) from rfl) ?_
 refine hR189 _ _ ?_
 refine au ?_
 refine zo (J0t underlying23 rfl (Els.neqW dG.u hO 5 rfl)) ?_
 refine au ?_
 refine snil (id Fl.fl : Fl rpRule) 185 hO fun s hO => ?_
 refine snil Fl.i 3 hO fun s hO => ?_
 refine lv [6, 9, 85, 86] hO H.2.2.2.2 (fun E (fM, sK, d_246, jq, jy, d_258, sL, jz, gh) σ w => ∃ xz sM sN xA xB xC xD xE xF xG xH xI xJ xK xL xM xN xO xP xQ xR mX, (fun Z => Lo A w0 σ w [(87, .int .i64 (fM : Int))] Z ∧ Els (Rp.sl (Rp.int .i64)) (bl Z ++ A) w mX jz ∧ Els (Rp.sl (Rp.int .i64)) (bl Z ++ A) w kg d_22) [t1 Fl.i 3 sM xz sN sK, t1 (id Fl.fl : Fl rpRule) 185 xB xA xC d_246, t1 Fl.i 3 xE xD xF jq, t1 Fl.str 9 xH xG xI jy, t1 Fl.i 3 xK xJ xL d_258, t1 Fl.i 3 xN xM xO sL, .row 31 1 xQ xP xR mX, .row 31 1 p25 n27 c26 kg, .blk B10 (.cells #[.int .i64 ((ix a0 (0 : Int)).length : Int), .bool true, .slice p25 n27 c26, .slice xQ xP xR, .slice xN xM xO, .slice xK xJ xL, .slice none 0 0, .slice xB xA xC, .int .i64 (0 : Int), .map (some B4), .slice xH xG xI, .slice xE xD xF, .slice sM xz sN] 156 (0, 0)), .any (mapE (fun a : List UInt8 => Value.string (gstr a)) (fun a : Int => Value.int .i64 a) B4 gh)]) ⟨_, _, _, _, _, _, _, _, _, _, _, _, _, _, _, _, _, _, _, _, _, _, ⟨agr, hO, fr⟩, jx.u, dG.u⟩ ?_
 refine fun X3 => p1 fun fM => p1 fun sK => p1 fun d_246 => p1 fun jq => p1 fun jy => p3 fun d_258 sL jz gh => fun H hX3 σ ako hk => e4 fun xz sM sN xA => e4 fun xB xC xD xE => e4 fun xF xG xH xI => e4 fun xJ xK xL xM => e4 fun xN xO xP xQ => e2 fun xR mX => d1 fun hL => d1 fun fB dG => lh hk (fun hO hB => ?_) hL
 dsimp only at H
 revert hO; repeat (rename Owns .. => q; clear q)
 intro hO; repeat (rename Sq .. => q; clear q)
 refine scm H (fun xS H => ?_) fun xS H => ?_
 ·refine au ?_
  obtain ⟨o7, H⟩ := H
  obtain ⟨xT, H⟩ := H
  refine zo (J04 underlying23 ti31 rfl rfl o7 (ltn (Els.neqW dG hO 7 rfl) xT) (Els.psomeW dG hO 7 rfl o7 xT)) ?_
  have zz := oldSl 7 hO rfl dG o7 xT
  obtain ⟨XE, XF, mO, OA⟩ := zz
  refine zs (OA underlying31 rfl rfl) ?_
  refine au ?_
  obtain ⟨wc, H⟩ := H
  refine zo (J03 rfl rfl (wrap_i64 wc)) ?_
  refine zo (J1Y underlying3 underlying21 rfl rfl) ?_
  obtain ⟨XG, H⟩ := H
  obtain ⟨XH, H⟩ := H
  refine zo (J4m underlying21 underlying9 rfl XG XH) ?_
  refine au ?_
  refine drs 0 [q0, q0, q0, q1, q0, q2, q1, q0, q0, q0, q0, q0] hO fun XJ s hO => ?_
  refine au ?_
  refine zcq rfl (J02 body157 rfl (J0a hO.lt mO.u H)) fun _ akp => e1 fun kj => sq0 hO fun s hO => d1 fun ach H => ?_
  by_cases gN : mhas gh kj = true
  ·refine GoQ.stable rfl (olookT (a := kj) (MK.str underlying9) 9 hO rfl underlying154 rfl rfl gN) rfl rfl ?_
   refine au ?_
   refine drs 5 [q0, q0, q0, q0, q0, q1, q0, q0, q0, q0, q1, q0, q0, q1, q0, q2, q3, q0, q0, q0, q3] hO fun akq s hO => ?_
   refine sxl1 3 hO (ifp gN H).1 (ifp gN H).2.1 ?_
   have hle288 := t1le 3 hO (ifp gN H).1 (ifp gN H).2.1
   refine GoQ.pure rfl (J05 underlying185 ti185 (pl := [(0, 1), (1, 1)]) (vs := [(0, .string (gstr (chr (IntKind.i32.wrap ((97 : Int) + (fM : Int)))))), (1, .string (gstr (ix jy (mgt gh kj))))]) (cs := #[.string (gstr (chr (IntKind.i32.wrap ((97 : Int) + (fM : Int))))), .string (gstr (ix jy (mgt gh kj)))]) (by kernel_rfl) rfl (by kernel_rfl)) rfl rfl ?_
   refine sapF (⟨(chr (IntKind.i32.wrap ((97 : Int) + (fM : Int)))), ix jy (mgt gh kj)⟩ : Rule) 1 hO (ifp gN H).2.2 (fun _ GQ XK XL s hO => ?_) (hok := by exact ⟨(J7R _), hle288⟩)
   refine sbs 8 hO fun XM s hO => ?_
   refine au ?_
   refine sap1 ((mgt gh kj)) 0 hO (ifp gN H).2.2.2 fun _ xU XN XO s hO => ?_
   refine sbs 8 hO fun akr s hO => ?_
   refine sinc (natbd xS dG.bd) ?_
   refine au ?_
   exact hX3 _ (ifp gN H).2.2.2.2 _ _ agr ⟨_, _, _, _, _, _, _, _, _, _, _, _, _, _, _, _, _, _, _, _, _, _, ⟨agr, hO, fr⟩, fB.u, dG.u⟩
  refine GoQ.stable rfl (olookF (a := kj) (MK.str underlying9) 9 hO rfl underlying154 ti3 rfl rfl gN) rfl rfl ?_
  refine au ?_
  refine zcr (J02 body86 rfl (J0m hO.lt mO.u (ifn gN H))) fun _ GR => e4 fun aks GT GU GW => sc1 hO fun s hO => fun H => ?_
  refine au ?_
  refine GoR.inl (vs := [.pointer (some ⟨B10, 0, none⟩), .slice GU GT GW, .int .i64 (0 : Int), .int .i64 (fM : Int), .string (gstr (chr (IntKind.i32.wrap ((97 : Int) + (fM : Int))))), .int .i64 (0 : Int)]) (caps := []) rfl rfl body155 func155 rfl ntmps155 rfl rfl rfl ?_
  intro RhR301 hR301
  refine au ?_
  refine zo (J0t underlying23 rfl (Els.neqW fB.u hO 7 rfl)) ?_
  refine au ?_
  refine drw 1 [(0, q0), (1, q0), (2, q0), (3, q1), (4, q0), (6, q0), (5, q2), (7, q3)] hO fun Ua s hO => ?_
  refine au ?_
  have OB := t1lend 0 hO
  have OC := t1n 0 hO
  have hOc305 := hO.drop 0
  refine zcq rfl (J02 body157 (by rw [OC]; exact rfl) (J0a hOc305.lt OB H)) fun _ CU => e1 fun r306 => sq0 hO fun s hO => d1 fun aci H => ?_
  have zz := omapUpd (MK.str underlying9) 10 hO rfl underlying154 r306 (jz.length : Int)
  obtain ⟨akt, og, GX⟩ := zz
  refine GoQ.last rfl (GX (by exact rfl) (by exact rfl) (by exact rfl)) rfl rfl ?_
  refine nst og fun s hO => ?_
  refine au ?_
  refine sfz 0 hO fun s hO OD OE => ?_
  have zz := obu underlying23 ti31 hO (OD) OE
  obtain ⟨xV, XP, GY, OF, adJ, G0⟩ := zz
  refine zg (G0 rfl) ?_
  refine nst GY fun s hO => ?_
  refine sfzR 0 hO OF fun s hO OG OH => ?_
  obtain ⟨XQ, H⟩ := H
  have zz := oapp underlying23 ti31 rfl 6 hO rfl fB.u OG OH XQ (by decide)
  obtain ⟨XR, XS, XT, adK, G1, Bm, G3⟩ := zz
  dsimp only [sS, sZ] at Bm
  refine zg (G3 (by exact rfl) (by exact rfl)) ?_
  refine nst G1 fun s hO => ?_
  refine sbs 8 hO fun aku s hO => ?_
  refine au ?_
  refine sap1 ((0 : Int)) 5 hO H fun _ G4 XU XV s hO => ?_
  refine sbs 8 hO fun Ud s hO => ?_
  refine au ?_
  refine sap1 ((fM : Int)) 4 hO H.2 fun _ vL XW akv s hO => ?_
  refine sbs 8 hO fun C0 s hO => ?_
  refine au ?_
  refine sap1 ((chr (IntKind.i32.wrap ((97 : Int) + (fM : Int))))) 3 hO H.2.2 (fun _ wk G5 akw s hO => ?_) (hR := by exact fun _ _ => ⟨rfl, (J7R _)⟩)
  refine sbs 8 hO fun G6 s hO => ?_
  refine au ?_
  refine sap1 ((0 : Int)) 2 hO H.2.2.2 fun _ akx aky akz s hO => ?_
  refine sbs 8 hO fun XX s hO => ?_
  refine au ?_
  refine Go1.ret1V func155 rfl (show _ = .int .i64 (jz.length : Int) from rfl) ?_
  refine hR301 _ _ ?_
  refine au ?_
  refine sap1 ((jz.length : Int)) 0 hO H.2.2.2.2 fun _ C2 C3 C4 s hO => ?_
  refine sbs 8 hO fun XY s hO => ?_
  refine sinc (natbd xS dG.bd) ?_
  refine au ?_
  exact hX3 _ H.2.2.2.2.2 _ _ agr ⟨_, _, _, _, _, _, _, _, _, _, _, _, _, _, _, _, _, _, _, _, _, _, ⟨agr, hO, fr⟩, Bm.u, dG.u⟩
 refine au ?_
 have G7 := Stp.nil (e := 31) (r := 1) hO
 refine nst G7 fun s hO => ?_
 have OI := elN (Rp.sl (Rp.int .i64)) hO
 refine sfr 10 hO fun s hO => ?_
 refine sfr 2 hO fun s hO => ?_
 refine sfr 4 hO fun s hO => ?_
 refine sfr 5 hO fun s hO => ?_
 refine sfr 5 hO fun s hO => ?_
 refine sfr 5 hO fun s hO => ?_
 refine sfr 6 hO fun s hO => ?_
 refine sfr 7 hO fun s hO => ?_
 refine sfr 8 hO fun s hO => ?_
 refine sfr 9 hO fun s hO => ?_
 refine sfr 10 hO fun s hO => ?_
 refine Go1.ret2 func131 rfl (Or.inr ⟨(⟨(⟨((ix a0 (0 : Int)).length : Int), true, d_22, jz, sL, d_258, ([] : List (List Int)), d_246, (0 : Int)⟩ : Enum), gh, jy, jq, sK⟩ : run), _, _, _, _, _, _, _, _, _, _, _, _, _, _, _, _, _, _, _, _, _, _, _, _, _, _, _, _, _, _, _, _, _, er, frs, hO, dG.u, fB.u, OI.u, H⟩)
theorem body158 : Body prog 158 := ⟨f158, func158, rfl, by kernel_rfl⟩
theorem J4t {p_f p_g : Option Addr} {c_f c_g : Nat} {f g : List Int} (hA : HA0 A w0) (h_f : ISi A w0 p_f c_f f) (h_g : ISi A w0 p_g c_g g) {K : List Int → Prop} (H : J1g f g K) :
    CallsV prog 158 #[.slice p_f f.length c_f, .slice p_g g.length c_g] w0 (fun v w' => ∃ (r0 : List Int), ∃ (p_r0 : Option Addr), ∃ (c_r0 : Nat), v = .slice p_r0 r0.length c_r0 ∧ Same w0 w' ∧ ISi A w' p_r0 c_r0 r0 ∧ K r0) := by
 refine cal hA func158 ntmps158 fun hO hB => ?_
 unfold J1g at H
 refine sln0 ?_
 refine sln0 ?_
 refine scm ((H h_f.bd) h_g.bd) (fun h1 H => ?_) fun h1 H => ?_
 ·refine au ?_
  refine zcr (J02 body154 rfl (J1S hO.lt h_f.u H)) fun _ w3 => e1 fun r2 => sc0 hO fun s hO => fun H => ?_
  cases r2
  ·refine au ?_
   refine Go1.ret1 func158 rfl ⟨_, _, _, er, frs, (ISl.null _ _ _), (iF H)⟩
  refine au ?_
  refine zcr (J02 body154 rfl (J1S hO.lt h_g.u (iT H))) fun _ w5 => e1 fun r4 => sc0 hO fun s hO => fun H => ?_
  cases r4
  ·refine au ?_
   refine Go1.ret1 func158 rfl ⟨_, _, _, er, frs, (ISl.null _ _ _), (iF H)⟩
  refine sln0 ?_
  refine smk Fl.i (iT H) hO fun w6 p7 s hO => ?_
  refine sln0 ?_
  refine au ?_
  refine lv [1, 5, 26, 27] hO (iT H).2.2 (fun E (sO, Bn) σ w => Lo A w0 σ w [(28, .int .i64 (sO : Int))] [t1 Fl.i 3 p7 f.length f.length Bn]) ⟨agr, hO, fr⟩ ?_
  refine fun X1 => p1 fun sO Bn => fun H hX1 σ w9 hk => lh hk fun hO hB => ?_
  dsimp only at H
  revert hO; repeat (rename Owns .. => q; clear q)
  intro hO; repeat (rename Sq .. => q; clear q)
  refine scm H (fun h12 H => ?_) fun h12 H => ?_
  ·refine sxl hO h_f.u H.1 H.2.1 ?_
   refine sxl hO h_g.u H.2.2.1 H.2.2.2.1 ?_
   refine six1 0 hO H.2.2.2.2.1 H.2.2.2.2.2.1 ?_
   refine sst (u := (ix g (ix f (sO : Int)))) 0 hO H.2.2.2.2.1 H.2.2.2.2.2.1 fun w13 s hO => ?_
   refine sinc (natbd h12 h_f.bd) ?_
   refine au ?_
   exact hX1 _ H.2.2.2.2.2.2 _ _ agr ⟨agr, hO, fr⟩
  refine au ?_
  refine sfz 0 hO fun s hO ke ii => ?_
  refine Go1.ret1 func158 rfl ⟨_, _, _, ?_, frs, ke.r, H⟩
  exact (congrArg (fun nn => Value.slice p7 nn f.length) ii)
 refine au ?_
 refine Go1.ret1 func158 rfl ⟨_, _, _, er, frs, (ISl.null _ _ _), H⟩
end Sg
