/- -/
import Derived.Test.YtlneebpmblkllaaVd
namespace Sg
open Go Go.RowKit Go.Proofs Try
set_option linter.unusedVariables false
set_option linter.unusedSimpArgs false
set_option maxRecDepth 100000
set_option maxHeartbeats 4000000
variable {A : List Nat} {w0 : World}
theorem body59 : Body prog 59 := ⟨f59, func59, rfl, by kernel_rfl⟩
theorem J1Z {letters : Int} (hA : HA0 A w0) {K : Bool → Prop} (H : J0s letters K) :
    CallsV prog 59 #[.int .i64 letters] w0 (fun v w' => ∃ (r0 : Bool), v = .bool r0 ∧ Same w0 w' ∧ K r0) := by
 refine cal hA func59 ntmps59 fun hO hB => ?_
 unfold J0s at H
 refine scm H (fun h1 H => ?_) fun h1 H => ?_
 ·refine scm H (fun h2 H => ?_) fun h2 H => ?_
  ·refine au ?_
   refine Go1.ret1 func59 rfl ⟨_, er, frs, H⟩
  refine au ?_
  refine Go1.ret1 func59 rfl ⟨_, er, frs, H⟩
 refine au ?_
 refine Go1.ret1 func59 rfl ⟨_, er, frs, H⟩
theorem body16 : Body prog 16 := ⟨f16, func16, rfl, by kernel_rfl⟩
theorem J2j {aF aV : Option Addr} {aG aW : Nat} {d : DFA} (hA : HA0 A w0) (aE : ISb A w0 aF aG d.Final) (bg : ISs A w0 aV aW d.Next) {K : Int → Prop} (H : J0M d K) :
    CallsV prog 16 #[.agg (cDF d aF aG aV aW)] w0 (fun v w' => ∃ (r0 : Int), v = .int .i64 r0 ∧ Same w0 w' ∧ K r0) := by
 refine cal hA func16 ntmps16 fun hO hB => ?_
 unfold J0M at H
 refine sbx hO fun w1 B2 s hO => ?_
 refine sln0 ?_
 refine au ?_
 refine zcr (J01 body59 rfl (J1Z hO.lt (H aE.bd))) fun _ w5 => e1 fun r4 => sc0 hO fun s hO => fun H => ?_
 cases r4
 ·refine au ?_
  refine Go1.ret1 func16 rfl ⟨_, er, frs, (iF H)⟩
 refine scm (iT H) (fun h6 H => ?_) fun h6 H => ?_
 ·refine au ?_
  refine Go1.ret1 func16 rfl ⟨_, er, frs, H⟩
 refine scm H (fun h7 H => ?_) fun h7 H => ?_
 ·refine au ?_
  refine Go1.ret1 func16 rfl ⟨_, er, frs, H⟩
 refine sln0 ?_
 refine scm (H bg.bd) (fun h8 H => ?_) fun h8 H => ?_
 ·refine scm H (fun h9 H => ?_) fun h9 H => ?_
  ·refine au ?_
   refine Go1.ret1 func16 rfl ⟨_, er, frs, H⟩
  refine scm H (fun h10 H => ?_) fun h10 H => ?_
  ·refine au ?_
   refine Go1.ret1 func16 rfl ⟨_, er, frs, H⟩
  refine sln0 ?_
  refine au ?_
  refine lv [1, 3, 38, 39] hO H (fun E k1_12 σ w => Lo A w0 σ w [(40, .int .i64 (k1_12 : Int))] E) ⟨agr, hO, fr⟩ ?_
  refine fun X1 => fun k1_12 => fun H hX1 σ w11 hk => d2 fun hag hO hB => keep2 hk hag ?_
  revert hO; repeat (rename Owns .. => q; clear q)
  intro hO; repeat (rename Sq .. => q; clear q)
  refine scm H (fun h13 H => ?_) fun h13 H => ?_
  ·refine sxls hO bg.u H.1 H.2.1 fun p14 c15 gX => ?_
   refine sln0 ?_
   refine au ?_
   have h17 := H.1
   have h18 := H.2.1
   refine scm (H.2.2 gX.bd) (fun h19 H => ?_) fun h19 H => ?_
   ·refine sln0 ?_
    refine au ?_
    refine lv [1, 3, 38, 39, 40, 49, 50] hO H (fun E xl σ w => (fun Z => Lo A w0 σ w [(51, .int .i64 (xl : Int))] Z ∧ ISi (bl Z ++ A) w p14 c15 (ix d.Next (k1_12 : Int))) E) ⟨⟨agr, hO, fr⟩, gX.u⟩ ?_
    refine fun X2 => fun xl => fun H hX2 σ w20 hk => d1 fun hL => fun gX => d2 (fun hag hO hB => keep2 hk hag ?_) hL
    revert hO; repeat (rename Owns .. => q; clear q)
    intro hO; repeat (rename Sq .. => q; clear q)
    refine scm H (fun h22 H => ?_) fun h22 H => ?_
    ·refine sxl hO gX H.1 H.2.1 ?_
     refine au ?_
     have h23 := H.1
     have h24 := H.2.1
     refine scm H.2.2 (fun h25 H => ?_) fun h25 H => ?_
     ·refine au ?_
      refine Go1.ret1 func16 rfl ⟨_, er, frs, H⟩
     refine scm H (fun h26 H => ?_) fun h26 H => ?_
     ·refine au ?_
      refine Go1.ret1 func16 rfl ⟨_, er, frs, H⟩
     refine sinc (natbd h22 gX.bd) ?_
     refine au ?_
     exact hX2 _ H _ _ agr ⟨⟨agr, hO, fr⟩, gX⟩
    refine sinc (natbd h13 bg.bd) ?_
    refine au ?_
    exact hX1 _ H _ _ agr ⟨agr, hO, fr⟩
   refine au ?_
   refine Go1.ret1 func16 rfl ⟨_, er, frs, H⟩
  refine au ?_
  refine Go1.ret1 func16 rfl ⟨_, er, frs, H⟩
 refine au ?_
 refine Go1.ret1 func16 rfl ⟨_, er, frs, H⟩
theorem body17 : Body prog 17 := ⟨f17, func17, rfl, by kernel_rfl⟩
theorem J3w {aF aV : Option Addr} {aG aW : Nat} {d : DFA} {most : Int} (hA : HA0 A w0) (aE : ISb A w0 aF aG d.Final) (bg : ISs A w0 aV aW d.Next) {K : Bool → Prop} (H : law21_small d most K) :
    CallsV prog 17 #[.agg (cDF d aF aG aV aW), .int .i64 most] w0 (fun v w' => ∃ (r0 : Bool), v = .bool r0 ∧ Same w0 w' ∧ K r0) := by
 refine cal hA func17 ntmps17 fun hO hB => ?_
 unfold law21_small at H
 refine sbx hO fun w1 B2 s hO => ?_
 refine sln0 ?_
 refine scm (H aE.bd) (fun h4 H => ?_) fun h4 H => ?_
 ·refine scm H (fun h5 H => ?_) fun h5 H => ?_
  ·refine sag 0 hO ?_
   refine zcr (J01 body16 rfl (J2j hO.lt aE.u bg.u H)) fun _ w7 => e1 fun r6 => sc0 hO fun s hO => fun H => ?_
   refine scm H (fun h8 H => ?_) fun h8 H => ?_
   ·refine au ?_
    refine Go1.ret1 func17 rfl ⟨_, er, frs, H⟩
   refine au ?_
   refine Go1.ret1 func17 rfl ⟨_, er, frs, H⟩
  refine au ?_
  refine Go1.ret1 func17 rfl ⟨_, er, frs, H⟩
 refine au ?_
 refine Go1.ret1 func17 rfl ⟨_, er, frs, H⟩
theorem body60 : Body prog 60 := ⟨f60, func60, rfl, by kernel_rfl⟩
theorem J6L (hA : HA0 A w0) {K : DFA → Prop} (H : law21_ab  K) :
    CallsV prog 60 #[] w0 (fun v w' => ∃ (r0 : DFA), ∃ (aN : Option Addr), ∃ (aO : Nat), ∃ (bk : Option Addr), ∃ (bm : Nat), v = .agg (cDF r0 aN aO bk bm) ∧ Same w0 w' ∧ ISb A w' aN aO r0.Final ∧ ISs A w' bk bm r0.Next ∧ K r0) := by
 refine cal hA func60 ntmps60 fun hO hB => ?_
 unfold law21_ab at H
 refine sal hO fun w1 B2 s hO => ?_
 refine sbu Fl.bool 4 [true, false, false] hO fun w4 p5 s hO => ?_
 refine sbu Fl.i 3 [(1 : Int), (2 : Int)] hO fun w7 p8 s hO => ?_
 refine sbu Fl.i 3 [(2 : Int), (0 : Int)] hO fun w10 p11 s hO => ?_
 refine sbu Fl.i 3 [(2 : Int), (2 : Int)] hO fun w13 p14 s hO => ?_
 refine sfz 2 hO fun s hO gX KL => ?_
 refine sfz 1 hO fun s hO KM KN => ?_
 refine sfz 0 hO fun s hO KO KQ => ?_
 have zz := J1u (r := Rp.sl (Rp.int .i64)) (n := 3) (parts := [(0, .slice p8 2 2), (1, .slice p11 2 2), (2, .slice p14 2 2)]) (vs := [.slice p8 2 2, .slice p11 2 2, .slice p14 2 2]) (xs := [[(1 : Int), (2 : Int)], [(2 : Int), (0 : Int)], [(2 : Int), (2 : Int)]]) rfl underlying23 ti31 hO (by decide) (by kernel_rfl) (Els.cons rfl ⟨p8, 2, congrArg some (congrArg (fun nn => Value.slice p8 nn 2) KL), gX.u⟩ (Els.cons rfl ⟨p11, 2, congrArg some (congrArg (fun nn => Value.slice p11 nn 2) KN), KM.u⟩ (Els.cons rfl ⟨p14, 2, congrArg some (congrArg (fun nn => Value.slice p14 nn 2) KQ), KO⟩ (Els.nil _ _ _) (by simp [mx])) (by simp [mx])) (by simp [mx])) rfl
 obtain ⟨w22, p23, ou, KR, TQ, ov⟩ := zz
 refine zg (ov rfl) ?_
 refine nst ou fun s hO => ?_
 refine zo (J0a underlying25 ti25 (pl := [(0, 1), (1, 1), (2, 1), (3, 1)]) (vs := [(0, .int .i64 (2 : Int)), (2, .slice p5 3 3), (3, .slice p23 3 3)]) (cs := #[.int .i64 (2 : Int), .int .i64 (0 : Int), .slice p5 3 3, .slice p23 3 3]) (by kernel_rfl) rfl (by kernel_rfl)) ?_
 refine sba 2 hO fun w29 s hO => ?_
 refine au ?_
 refine sfz 1 hO fun s hO tE tF => ?_
 refine sfzR 0 hO KR.u fun s hO dU KS => ?_
 refine Go1.retC1 func60 rfl rfl (rlb 0 hO) ⟨((⟨(2 : Int), (0 : Int), [true, false, false], [[(1 : Int), (2 : Int)], [(2 : Int), (0 : Int)], [(2 : Int), (2 : Int)]]⟩ : DFA)), _, _, _, _, ?_, frs, tE.r, dU.r, H⟩
 exact (congrArg (fun l => Value.agg (List.toArray l)) (J02 rfl (J02 rfl (J02 (congrArg (fun nn => Value.slice p5 nn 3) tF) (J02 (congrArg (fun nn => Value.slice p23 nn 3) KS) rfl)))))
theorem body61 : Body prog 61 := ⟨f61, func61, rfl, by kernel_rfl⟩
theorem J0X {aF aV : Option Addr} {aG aW : Nat} {d : DFA} (hA : HA0 A w0) (aE : ISb A w0 aF aG d.Final) (bg : ISs A w0 aV aW d.Next) {K : Int → Prop} (H : J0D d K) :
    CallsV prog 61 #[.agg (cDF d aF aG aV aW)] w0 (fun v w' => ∃ (r0 : Int), v = .int .i64 r0 ∧ Same w0 w' ∧ K r0) := by
 refine cal hA func61 ntmps61 fun hO hB => ?_
 unfold J0D at H
 refine sbx hO fun w1 B2 s hO => ?_
 refine scm H (fun h4 H => ?_) fun h4 H => ?_
 ·refine au ?_
  refine Go1.ret1 func61 rfl ⟨_, er, frs, H⟩
 refine scm H (fun h5 H => ?_) fun h5 H => ?_
 ·refine au ?_
  refine Go1.ret1 func61 rfl ⟨_, er, frs, H⟩
 refine sln0 ?_
 refine scm (H aE.bd) (fun h6 H => ?_) fun h6 H => ?_
 ·refine au ?_
  refine Go1.ret1 func61 rfl ⟨_, er, frs, H⟩
 refine sln0 ?_
 refine scm (H bg.bd) (fun h7 H => ?_) fun h7 H => ?_
 ·refine scm H (fun h8 H => ?_) fun h8 H => ?_
  ·refine au ?_
   refine Go1.ret1 func61 rfl ⟨_, er, frs, H⟩
  refine scm H (fun h9 H => ?_) fun h9 H => ?_
  ·refine au ?_
   refine Go1.ret1 func61 rfl ⟨_, er, frs, H⟩
  refine sln0 ?_
  refine au ?_
  refine lv [1, 3, 38, 39] hO H (fun E k1_11 σ w => Lo A w0 σ w [(40, .int .i64 (k1_11 : Int))] E) ⟨agr, hO, fr⟩ ?_
  refine fun X1 => fun k1_11 => fun H hX1 σ w10 hk => d2 fun hag hO hB => keep2 hk hag ?_
  revert hO; repeat (rename Owns .. => q; clear q)
  intro hO; repeat (rename Sq .. => q; clear q)
  refine scm H (fun h12 H => ?_) fun h12 H => ?_
  ·refine sxls hO bg.u H.1 H.2.1 fun p13 c14 iw => ?_
   refine sln0 ?_
   refine au ?_
   have h16 := H.1
   have h17 := H.2.1
   refine scm (H.2.2 iw.bd) (fun h18 H => ?_) fun h18 H => ?_
   ·refine sln0 ?_
    refine au ?_
    refine lv [1, 3, 38, 39, 40, 49, 50] hO H (fun E xm σ w => (fun Z => Lo A w0 σ w [(51, .int .i64 (xm : Int))] Z ∧ ISi (bl Z ++ A) w p13 c14 (ix d.Next (k1_11 : Int))) E) ⟨⟨agr, hO, fr⟩, iw.u⟩ ?_
    refine fun X2 => fun xm => fun H hX2 σ w19 hk => d1 fun hL => fun iw => d2 (fun hag hO hB => keep2 hk hag ?_) hL
    revert hO; repeat (rename Owns .. => q; clear q)
    intro hO; repeat (rename Sq .. => q; clear q)
    refine scm H (fun h21 H => ?_) fun h21 H => ?_
    ·refine sxl hO iw H.1 H.2.1 ?_
     refine au ?_
     have h22 := H.1
     have h23 := H.2.1
     refine scm H.2.2 (fun h24 H => ?_) fun h24 H => ?_
     ·refine au ?_
      refine Go1.ret1 func61 rfl ⟨_, er, frs, H⟩
     refine scm H (fun h25 H => ?_) fun h25 H => ?_
     ·refine au ?_
      refine Go1.ret1 func61 rfl ⟨_, er, frs, H⟩
     refine sinc (natbd h21 iw.bd) ?_
     refine au ?_
     exact hX2 _ H _ _ agr ⟨⟨agr, hO, fr⟩, iw⟩
    refine sinc (natbd h12 bg.bd) ?_
    refine au ?_
    exact hX1 _ H _ _ agr ⟨agr, hO, fr⟩
   refine au ?_
   refine Go1.ret1 func61 rfl ⟨_, er, frs, H⟩
  refine au ?_
  refine Go1.ret1 func61 rfl ⟨_, er, frs, H⟩
 refine au ?_
 refine Go1.ret1 func61 rfl ⟨_, er, frs, H⟩
theorem body141 : Body prog 141 := ⟨f141, func141, rfl, by kernel_rfl⟩
theorem body140 : Body prog 140 := ⟨f140, func140, rfl, by kernel_rfl⟩
theorem body163 : Body prog 163 := ⟨f163, func163, rfl, by kernel_rfl⟩
theorem body139 : Body prog 139 := ⟨f139, func139, rfl, by kernel_rfl⟩
theorem body109 : Body prog 109 := ⟨f109, func109, rfl, by kernel_rfl⟩
theorem J50 {aF aV : Option Addr} {aG aW : Nat} {d : DFA} (hA : HA0 A w0) (aE : ISb A w0 aF aG d.Final) (bg : ISs A w0 aV aW d.Next) {K : DFA → List Int → Prop} (H : J45 d K) :
    CallsV prog 109 #[.agg (cDF d aF aG aV aW)] w0 (fun v w' => ∃ (r0 : DFA), ∃ (r1 : List Int), ∃ (aN : Option Addr), ∃ (aO : Nat), ∃ (bk : Option Addr), ∃ (bm : Nat), ∃ (fu : Option Addr), ∃ (fv : Nat), v = .tuple #[.agg (cDF r0 aN aO bk bm), .slice fu r1.length fv] ∧ Same w0 w' ∧ ISb A w' aN aO r0.Final ∧ ISs A w' bk bm r0.Next ∧ ISi A w' fu fv r1 ∧ K r0 r1) := by
 refine cal hA func109 ntmps109 fun hO hB => ?_
 unfold J45 at H
 refine sbx hO fun w1 B2 s hO => ?_
 refine sal hO fun w4 B5 s hO => ?_
 refine sag 1 hO ?_
 refine zcr (J01 body61 rfl (J0X hO.lt aE.u bg.u H)) fun _ w8 => e1 fun r7 => sc0 hO fun s hO => fun H => ?_
 refine scm H (fun h9 H => ?_) fun h9 H => ?_
 ·refine au ?_
  refine zo (J5U (vs := [.pointer (some ⟨B2, 0, none⟩)]) rfl) ?_
  refine zo (J5U (vs := [.pointer (some ⟨B2, 0, none⟩)]) rfl) ?_
  refine GoR.inl (vs := [.int .i64 d.Letters, .int .i64 d.Start, .func (.func 140) #[] #[.pointer (some ⟨B2, 0, none⟩)], .func (.func 141) #[] #[.pointer (some ⟨B2, 0, none⟩)]]) (caps := []) rfl rfl body139 func139 rfl ntmps139 rfl rfl rfl ?_
  intro RhR10 hR10
  refine sal hO fun w11 B12 s hO => ?_
  refine sal hO fun w14 B15 s hO => ?_
  refine au ?_
  refine GoR.inl (vs := [.pointer (some ⟨B15, 0, none⟩), .int .i64 d.Start]) (caps := []) rfl rfl body163 func163 rfl ntmps163 rfl rfl rfl ?_
  intro RhR17 hR17
  refine au ?_
  refine zs (fun w _ => olookN (a := d.Start) (MK.int underlying3) underlying168 ti3 rfl rfl w) ?_
  refine au ?_
  refine zo (fun w => opB (J7k underlying168 rfl rfl w) rfl) ?_
  refine au ?_
  have zz := omakeMap (fun a : Int => Value.int .i64 a) (fun a : Int => Value.int .i64 a) hO
  obtain ⟨w18, B19, ow, TS, DK⟩ := zz
  refine zg DK ?_
  refine nst ow fun s hO => ?_
  refine sbs 1 hO fun w24 s hO => ?_
  refine sln0 ?_
  refine au ?_
  have zz := omapUpd (MK.int underlying3) 0 hO rfl underlying168 d.Start (0 : Int)
  obtain ⟨w25, DL, ov⟩ := zz
  refine zg (ov (by exact rfl) (by exact rfl) (by exact rfl)) ?_
  refine nst DL fun s hO => ?_
  refine au ?_
  refine snil Fl.i 3 hO fun s hO => ?_
  refine sap1 d.Start 0 hO H fun _ w29 p30 c31 s hO => ?_
  refine sbs 2 hO fun w32 s hO => ?_
  refine au ?_
  refine Go1.ret1V func163 rfl (show _ = .int .i64 (0 : Int) from rfl) ?_
  refine hR17 _ _ ?_
  refine au ?_
  refine zo (J0a underlying25 ti25 (pl := [(0, 1), (1, 1), (2, 1), (3, 1)]) (vs := [(0, .int .i64 d.Letters)]) (cs := #[.int .i64 d.Letters, .int .i64 (0 : Int), .slice none 0 0, .slice none 0 0]) (by kernel_rfl) rfl (by kernel_rfl)) ?_
  refine sal hO fun w33 B34 s hO => ?_
  refine sba 0 hO fun w36 s hO => ?_
  refine au ?_
  refine snil Fl.bool 4 hO fun s hO => ?_
  have DN := Stp.nil (e := 31) (r := 1) hO
  refine nst DN fun s hO => ?_
  have KT := elN (Rp.sl (Rp.int .i64)) hO
  refine lv [0, 2, 3, 8, 11, 12] hO H.2 (fun E (eB, d_43, d_49, eC, xn) σ w => ∃ n48 p46 c47 iA n52 p50 c51 n56 p54 c55, (fun Z => Lo A w0 σ w [(13, .int .i64 (eB : Int))] Z ∧ Els (Rp.sl (Rp.int .i64)) (bl Z ++ A) w iA d_43) (esets E [(0, .row 31 1 p46 n48 c47 iA), (1, t1 Fl.bool 4 p50 n52 c51 d_49), (2, .blk B34 (.cells #[.int .i64 d.Letters, .int .i64 (0 : Int), .slice p50 n52 c51, .slice p46 n48 c47] 25 (0, 0))), (3, t1 Fl.i 3 p54 n56 c55 eC), (4, .any (mapE (fun a : Int => Value.int .i64 a) (fun a : Int => Value.int .i64 a) B19 xn)), (5, .blk B15 (.cells #[.slice p54 n56 c55, .map (some B19)] 188 (0, 0)))])) ⟨_, _, _, _, _, _, _, _, _, _, ⟨agr, hO, fr⟩, KT.u⟩ ?_
  refine fun X1 => p1 fun eB => p3 fun d_43 d_49 eC xn => fun H hX1 σ w41 hk => e4 fun n48 p46 c47 iA => e4 fun n52 p50 c51 n56 => e2 fun p54 c55 => d1 fun hL => fun dG => d2 (fun hag hO hB => keep2 hk hag ?_) hL
  dsimp only [esets, sS, sZ] at hO hB dG
  dsimp only at H
  revert hO; repeat (rename Owns .. => q; clear q)
  intro hO; repeat (rename Sq .. => q; clear q)
  refine sln1 3 hO ?_
  refine scm H (fun h58 H => ?_) fun h58 H => ?_
  ·refine sxl1 3 hO H.1 H.2.1 ?_
   refine smk Fl.i H.2.2 hO fun w59 p60 s hO => ?_
   refine sln1 0 hO ?_
   refine au ?_
   refine lv [0, 2, 3, 8, 11, 12, 13, 14, 15, 36] hO H.2.2.2.2 (fun E (fm, gt, d_65, ic) σ w => ∃ n68 p66 c67, (fun Z => Lo A w0 σ w [(37, .int .i64 (fm : Int))] Z ∧ Els (Rp.sl (Rp.int .i64)) (bl Z ++ A) w iA d_43) (esets E [(0, t1 Fl.i 3 p60 d.Letters.toNat d.Letters.toNat gt), (4, t1 Fl.i 3 p66 n68 c67 d_65), (5, .any (mapE (fun a : Int => Value.int .i64 a) (fun a : Int => Value.int .i64 a) B19 ic)), (6, .blk B15 (.cells #[.slice p66 n68 c67, .map (some B19)] 188 (0, 0)))])) ⟨_, _, _, ⟨agr, hO, fr⟩, dG.u⟩ ?_
   refine fun X2 => p3 fun fm gt d_65 ic => fun H hX2 σ w62 hk => e3 fun n68 p66 c67 => d1 fun hL => fun dG => d2 (fun hag hO hB => keep2 hk hag ?_) hL
   dsimp only [esets, sS, sZ] at hO hB dG
   dsimp only at H
   revert hO; repeat (rename Owns .. => q; clear q)
   intro hO; repeat (rename Sq .. => q; clear q)
   refine scm H (fun h70 H => ?_) fun h70 H => ?_
   ·refine au ?_
    refine GoR.inl (vs := [.int .i64 (ix eC (eB : Int)), .int .i64 (fm : Int)]) (caps := [.pointer (some ⟨B2, 0, none⟩)]) rfl rfl body140 func140 rfl ntmps140 rfl rfl rfl ?_
    intro RhR71 hR71
    refine sxls hO bg.u H.1 H.2.1 fun p72 c73 KU => ?_
    refine sxl hO KU.u H.2.2.1 H.2.2.2.1 ?_
    refine au ?_
    refine Go1.ret1V func140 rfl (show _ = .int .i64 (ix (ix d.Next (ix eC (eB : Int))) (fm : Int)) from rfl) ?_
    refine hR71 _ _ ?_
    refine GoR.inl (vs := [.pointer (some ⟨B15, 0, none⟩), .int .i64 (ix (ix d.Next (ix eC (eB : Int))) (fm : Int))]) (caps := []) rfl rfl body163 func163 rfl ntmps163 rfl rfl rfl ?_
    intro RhR75 hR75
    refine au ?_
    replace H := H.2.2.2.2
    by_cases h76 : mhas ic ((ix (ix d.Next (ix eC (eB : Int))) (fm : Int))) = true
    ·refine zs (olookT (a := (ix (ix d.Next (ix eC (eB : Int))) (fm : Int))) (MK.int underlying3) 5 hO rfl underlying168 rfl rfl h76) ?_
     refine au ?_
     refine Go1.ret1V func163 rfl (show _ = .int .i64 (mgt ic ((ix (ix d.Next (ix eC (eB : Int))) (fm : Int)))) from rfl) ?_
     refine hR75 _ _ ?_
     refine six1 0 hO (ifp h76 H).1 (ifp h76 H).2.1 ?_
     refine sst (u := (mgt ic ((ix (ix d.Next (ix eC (eB : Int))) (fm : Int))))) 0 hO (ifp h76 H).1 (ifp h76 H).2.1 fun w77 s hO => ?_
     refine au ?_
     have h78 := (ifp h76 H).1
     have h79 := (ifp h76 H).2.1
     replace H := (ifp h76 H).2.2
     obtain ⟨h80, H⟩ := H
     refine zo (J06 rfl rfl (wrap_i64 h80)) ?_
     refine au ?_
     exact hX2 _ H _ _ agr ⟨_, _, _, ⟨agr, hO, fr⟩, dG.u⟩
    refine zs (olookF (a := (ix (ix d.Next (ix eC (eB : Int))) (fm : Int))) (MK.int underlying3) 5 hO rfl underlying168 ti3 rfl rfl h76) ?_
    refine au ?_
    refine zo (fun w => opB (J7k underlying168 rfl rfl w) rfl) ?_
    refine sln1 4 hO ?_
    refine au ?_
    have zz := omapUpd (MK.int underlying3) 5 hO rfl underlying168 (ix (ix d.Next (ix eC (eB : Int))) (fm : Int)) (d_65.length : Int)
    obtain ⟨w81, oA, oB⟩ := zz
    refine zg (oB (by exact rfl) (by exact rfl) (by exact rfl)) ?_
    refine nst oA fun s hO => ?_
    refine au ?_
    refine sap1 ((ix (ix d.Next (ix eC (eB : Int))) (fm : Int))) 4 hO (ifn h76 H) fun _ w84 p85 c86 s hO => ?_
    refine sbs 6 hO fun w87 s hO => ?_
    refine au ?_
    refine Go1.ret1V func163 rfl (show _ = .int .i64 (d_65.length : Int) from rfl) ?_
    refine hR75 _ _ ?_
    refine six1 0 hO (ifn h76 H).2.1 (ifn h76 H).2.2.1 ?_
    refine sst (u := (d_65.length : Int)) 0 hO (ifn h76 H).2.1 (ifn h76 H).2.2.1 fun w88 s hO => ?_
    refine au ?_
    have h89 := (ifn h76 H).2.1
    have h90 := (ifn h76 H).2.2.1
    replace H := (ifn h76 H).2.2.2
    obtain ⟨h91, H⟩ := H
    refine zo (J06 rfl rfl (wrap_i64 h91)) ?_
    refine au ?_
    exact hX2 _ H _ _ agr ⟨_, _, _, ⟨agr, hO, fr⟩, dG.u⟩
   refine sln1 4 hO ?_
   refine scm H (fun h92 H => ?_) fun h92 H => ?_
   ·refine au ?_
    refine zo (J0a underlying25 ti25 (pl := [(0, 1), (1, 1), (2, 1), (3, 1)]) (vs := []) (cs := #[.int .i64 (0 : Int), .int .i64 (0 : Int), .slice none 0 0, .slice none 0 0]) (by kernel_rfl) rfl (by kernel_rfl)) ?_
    refine sba 7 hO fun w93 s hO => ?_
    refine au ?_
    refine Go1.retC3V func139 rfl rfl (rlb 7 hO) (show _ = .slice none 0 0 from rfl) (show _ = .int .i64 (3 : Int) from rfl) ?_
    refine hR10 _ _ ?_
    refine sal hO fun w94 B95 s hO => ?_
    refine sba 0 hO fun w97 s hO => ?_
    refine sln0 ?_
    refine smk Fl.i (H aE.bd) hO fun w98 p99 s hO => ?_
    refine sln1 0 hO ?_
    refine au ?_
    refine sdr [2, 2, 2, 2, 2, 2, 2, 2, 3] hO fun s hO => ?_
    refine lv [2, 4, 5, 7, 31] hO (H aE.bd).2.2 (fun E (sN, number3_103) σ w => Lo A w0 σ w [(32, .int .i64 (sN : Int))] (E.set 0 (t1 Fl.i 3 p99 d.Final.length d.Final.length number3_103))) ⟨agr, hO, fr⟩ ?_
    refine fun X3 => p1 fun sN number3_103 => fun H hX3 σ tG hk => d2 fun hag hO hB => keep2 hk hag ?_
    dsimp only [esets, sS, sZ] at hO hB
    dsimp only at H
    revert hO; repeat (rename Owns .. => q; clear q)
    intro hO; repeat (rename Sq .. => q; clear q)
    refine scm H (fun KV H => ?_) fun KV H => ?_
    ·refine six1 0 hO H.1 H.2.1 ?_
     refine sst (u := (-1 : Int)) 0 hO H.1 H.2.1 fun mj s hO => ?_
     refine au ?_
     have jm := H.1
     have mm := H.2.1
     replace H := H.2.2
     obtain ⟨yF, H⟩ := H
     refine zo (J06 rfl rfl (wrap_i64 yF)) ?_
     refine au ?_
     exact hX3 _ H _ _ agr ⟨agr, hO, fr⟩
    refine sln0 ?_
    refine au ?_
    refine lv [2, 4, 7, 39, 40] hO H (fun E sO σ w => Lo A w0 σ w [(41, .int .i64 (sO : Int))] E) ⟨agr, hO, fr⟩ ?_
    refine fun X4 => fun sO => fun H hX4 σ yG hk => d2 fun hag hO hB => keep2 hk hag ?_
    revert hO; repeat (rename Owns .. => q; clear q)
    intro hO; repeat (rename Sq .. => q; clear q)
    refine scm H (fun kD H => ?_) fun kD H => ?_
    ·refine au ?_
     obtain ⟨iB, H⟩ := H
     obtain ⟨jo, H⟩ := H
     refine zo (J0b underlying31 ti3 rfl rfl iB jo (absurd jo (by omega))) ?_
     exact absurd jo (by omega)
    refine sag 1 hO ?_
    refine sba 2 hO fun TT s hO => ?_
    refine au ?_
    refine sfz 0 hO fun s hO DO DP => ?_
    refine Go1.retC2 func109 rfl rfl (rlb 1 hO) ⟨((⟨(0 : Int), (0 : Int), ([] : List Bool), ([] : List (List Int))⟩ : DFA)), _, _, _, _, _, _, _, ?_, frs, (ISl.null _ _ _), (ISl.null _ _ _), DO.r, H⟩
    exact (congrArg (fun l => Value.tuple (List.toArray l)) (J02 rfl (J02 (congrArg (fun nn => Value.slice p99 nn d.Final.length) DP) rfl)))
   refine au ?_
   refine sfz 0 hO fun s hO oC xo => ?_
   have zz := J1u (r := Rp.sl (Rp.int .i64)) (n := 1) (parts := [(0, .slice p60 d.Letters.toNat d.Letters.toNat)]) (vs := [.slice p60 d.Letters.toNat d.Letters.toNat]) (xs := [gt]) rfl underlying23 ti31 hO (by decide) (by kernel_rfl) (Els.cons rfl ⟨p60, d.Letters.toNat, congrArg some (congrArg (fun nn => Value.slice p60 nn d.Letters.toNat) xo), oC⟩ (Els.nil _ _ _) (by simp [mx])) rfl
   obtain ⟨tH, KW, mo, DR, Rl, mq⟩ := zz
   refine zg (mq rfl) ?_
   refine nst mo fun s hO => ?_
   refine sfzR 0 hO DR.u fun s hO oD oE => ?_
   obtain ⟨oF, H⟩ := H
   have zz := oapp underlying23 ti31 rfl 0 hO rfl dG.u oD oE oF (by decide)
   obtain ⟨yH, mr, oG, xp, yI, xq, yJ⟩ := zz
   dsimp only [sS, sZ] at xq
   refine zg (yJ (by exact rfl) (by exact rfl)) ?_
   refine nst yI fun s hO => ?_
   refine sbs 2 hO fun TU s hO => ?_
   refine au ?_
   refine Go1.drawT (ok := fun _ => True) (CSv.tr [(some ⟨B34, 2, none⟩)]) [6, 8] 9 (.qp 0 (.qs 1 (.qp 2 (.qp 3 (.alt 4 (.alt 5 (.alt 6 (.qp 7 (.alt 8 .nil .fin)) .fin) .fin) .fin))))) mixed (by kernel_rfl) ?_
   intro mt DS
   refine sm hO DS fun s hO => ?_
   refine au ?_
   refine GoT.stable rfl (loadV (.head _) rfl (J00 2 hO rfl rfl) underlying22 rfl rfl) rfl rfl ?_
   refine au ?_
   skip
   refine GoT.inl (vs := [.int .i64 (ix eC (eB : Int))]) (caps := [.pointer (some ⟨B2, 0, none⟩)]) rfl rfl rfl body141 func141 rfl ntmps141 rfl rfl rfl ?_
   intro RhR140 hR140
   have hOs141 := hO
   have hBs142 := (fr : Fr (bl []) w0 _ mt)
   have hB := Fr.refl (bl [.row 31 1 mr (n48 + 1) oG xp, t1 Fl.bool 4 p50 n52 c51 d_49, .blk B34 (.cells #[.int .i64 d.Letters, .int .i64 (0 : Int), .slice p50 n52 c51, .slice mr (n48 + 1) oG] 25 (0, 0)), t1 Fl.i 3 p66 n68 c67 d_65, .any (mapE (fun a : Int => Value.int .i64 a) (fun a : Int => Value.int .i64 a) B19 ic), .blk B15 (.cells #[.slice p66 n68 c67, .map (some B19)] 188 (0, 0)), .blk B12 (.cells #[.int .i64 (0 : Int), .int .i64 (0 : Int), .slice none 0 0, .slice none 0 0] 25 (0, 0)), .blk B5 (.cells #[.int .i64 (0 : Int), .int .i64 (0 : Int), .slice none 0 0, .slice none 0 0] 25 (0, 0)), .blk B2 (.cells (cDF d aF aG aV aW) 25 (0, 0))]) mt
   refine sxl hO aE.u H.1 H.2.1 ?_
   refine au ?_
   refine Go1.ret1V func141 rfl (show _ = .bool (ix d.Final (ix eC (eB : Int))) from rfl) ?_
   refine hR140 _ _ (CSv.cons (cs_eq (J00 2 hOs141 rfl rfl) (J00 2 hO rfl rfl)) (CSv.nil _ _)) ?_
   replace hB := hBs142.trans (fr : Fr (bl [.row 31 1 mr (n48 + 1) oG xp, t1 Fl.bool 4 p50 n52 c51 d_49, .blk B34 (.cells #[.int .i64 d.Letters, .int .i64 (0 : Int), .slice p50 n52 c51, .slice mr (n48 + 1) oG] 25 (0, 0)), t1 Fl.i 3 p66 n68 c67 d_65, .any (mapE (fun a : Int => Value.int .i64 a) (fun a : Int => Value.int .i64 a) B19 ic), .blk B15 (.cells #[.slice p66 n68 c67, .map (some B19)] 188 (0, 0)), .blk B12 (.cells #[.int .i64 (0 : Int), .int .i64 (0 : Int), .slice none 0 0, .slice none 0 0] 25 (0, 0)), .blk B5 (.cells #[.int .i64 (0 : Int), .int .i64 (0 : Int), .slice none 0 0, .slice none 0 0] 25 (0, 0)), .blk B2 (.cells (cDF d aF aG aV aW) 25 (0, 0))]) mt _ mt)
   replace H := H.2.2
   skip
   refine sbuQ Fl.bool 4 [ix d.Final (ix eC (eB : Int))] hO (fun KX KY s hO => ?_) (g := fun _ _ _ hv _ hst h => GoT.step rfl hv (CSv.cons (cs_eq (J00 2 hO rfl rfl) (J00 3 hst.own rfl rfl)) (CSv.nil _ _)) rfl rfl h)
   skip
   refine sfz 0 hO fun s hO DT xr => ?_
   refine sap 1 hO DT H fun TV TW TX s hO => ?_
   refine au ?_
   replace H := H.2
   skip
   refine sbs 2 hO fun yK s hO => ?_
   refine au ?_
   obtain ⟨K1, H⟩ := H
   refine zo (J06 rfl rfl (wrap_i64 K1)) ?_
   refine au ?_
   exact hX1 _ H _ _ agr ⟨_, _, _, _, _, _, _, _, _, _, ⟨agr, hO, fr⟩, xq.u⟩
  refine au ?_
  refine Go1.drawT (ok := fun _ => True) Same.tr [3] 6 (.qs 0 (.qp 1 (.alt 2 (.alt 3 (.qp 4 (.qp 5 .nil)) .fin) (.alt 3 (.alt 2 (.qp 4 (.qp 5 .nil)) .fin) .fin)))) mixed (by kernel_rfl) ?_
  intro yL DU
  refine sm hO DU fun s hO => ?_
  refine GoT.stable rfl (J5R (vs := [.int .i64 d.Letters, .int .i64 (0 : Int), .slice p50 n52 c51, .slice p46 n48 c47]) (i := 0) 2 hO rfl rfl underlying25 rfl ti25 rfl) rfl rfl ?_
  refine au ?_
  refine GoT.both ?_ ?_
  ·skip
   replace H := H.1
   refine sbl 5 ?_
   skip
   refine sba 6 hO fun yM s hO => ?_
   refine au ?_
   refine Go1.retC3V func139 rfl rfl (rlb 6 hO) (show _ = .slice p54 n56 c55 from rfl) (show _ = .int .i64 (0 : Int) from rfl) ?_
   refine hR10 _ _ ?_
   refine sal hO fun K2 B157 s hO => ?_
   refine sba 0 hO fun K3 s hO => ?_
   refine sln0 ?_
   refine smk Fl.i (H aE.bd) hO fun K4 oH s hO => ?_
   refine sln1 0 hO ?_
   refine au ?_
   refine sdr [4, 5, 5, 5, 6] hO fun s hO => ?_
   refine lv [2, 4, 5, 7, 31] hO (H aE.bd).2.2 (fun E (sP, number5_165) σ w => (fun Z => Lo A w0 σ w [(32, .int .i64 (sP : Int))] Z ∧ Els (Rp.sl (Rp.int .i64)) (bl Z ++ A) w iA d_43) (E.set 0 (t1 Fl.i 3 oH d.Final.length d.Final.length number5_165))) ⟨⟨agr, hO, fr⟩, dG.u⟩ ?_
   refine fun X5 => p1 fun sP number5_165 => fun H hX5 σ K5 hk => d1 fun hL => fun dG => d2 (fun hag hO hB => keep2 hk hag ?_) hL
   dsimp only [esets, sS, sZ] at hO hB dG
   dsimp only at H
   revert hO; repeat (rename Owns .. => q; clear q)
   intro hO; repeat (rename Sq .. => q; clear q)
   refine scm H (fun oI H => ?_) fun oI H => ?_
   ·refine six1 0 hO H.1 H.2.1 ?_
    refine sst (u := (-1 : Int)) 0 hO H.1 H.2.1 fun yN s hO => ?_
    refine au ?_
    have TY := H.1
    have T3 := H.2.1
    replace H := H.2.2
    obtain ⟨K6, H⟩ := H
    refine zo (J06 rfl rfl (wrap_i64 K6)) ?_
    refine au ?_
    exact hX5 _ H _ _ agr ⟨⟨agr, hO, fr⟩, dG.u⟩
   refine sln1 4 hO ?_
   refine au ?_
   refine lv [2, 4, 7, 39, 40] hO H (fun E (mv, number6_173) σ w => (fun Z => Lo A w0 σ w [(41, .int .i64 (mv : Int))] Z ∧ Els (Rp.sl (Rp.int .i64)) (bl Z ++ A) w iA d_43) (E.set 0 (t1 Fl.i 3 oH d.Final.length d.Final.length number6_173))) ⟨⟨agr, hO, fr⟩, dG.u⟩ ?_
   refine fun X6 => p1 fun mv number6_173 => fun H hX6 σ tI hk => d1 fun hL => fun dG => d2 (fun hag hO hB => keep2 hk hag ?_) hL
   dsimp only [esets, sS, sZ] at hO hB dG
   dsimp only at H
   revert hO; repeat (rename Owns .. => q; clear q)
   intro hO; repeat (rename Sq .. => q; clear q)
   refine scm H (fun yO H => ?_) fun yO H => ?_
   ·refine sxl1 4 hO H.1 H.2.1 ?_
    refine six1 0 hO H.2.2.1 H.2.2.2.1 ?_
    refine sst (u := (mv : Int)) 0 hO H.2.2.1 H.2.2.2.1 fun K7 s hO => ?_
    refine sinc (natbd yO (t1b 4 hO)) ?_
    refine au ?_
    exact hX6 _ H.2.2.2.2 _ _ agr ⟨⟨agr, hO, fr⟩, dG.u⟩
   refine sag 1 hO ?_
   refine sba 5 hO fun yP s hO => ?_
   refine au ?_
   refine sfz 3 hO fun s hO DW DX => ?_
   refine sfzR 2 hO dG.u fun s hO oJ oK => ?_
   refine sfz 0 hO fun s hO DY D3 => ?_
   refine Go1.retC2 func109 rfl rfl (rlb 2 hO) ⟨((⟨d.Letters, (0 : Int), d_49, d_43⟩ : DFA)), _, _, _, _, _, _, _, ?_, frs, DW.r, oJ.r, DY.r, H⟩
   exact (congrArg (fun l => Value.tuple (List.toArray l)) (J02 (congrArg (fun l => Value.agg (List.toArray l)) (J02 rfl (J02 rfl (J02 (congrArg (fun nn => Value.slice p50 nn c51) DX) (J02 (congrArg (fun nn => Value.slice p46 nn c47) oK) rfl))))) (J02 (congrArg (fun nn => Value.slice oH nn d.Final.length) D3) rfl)))
  replace H := H.2
  refine sba 6 hO fun tJ s hO => ?_
  skip
  refine sbl 5 ?_
  refine au ?_
  refine Go1.retC3V func139 rfl rfl (rlb 6 hO) (show _ = .slice p54 n56 c55 from rfl) (show _ = .int .i64 (0 : Int) from rfl) ?_
  refine hR10 _ _ ?_
  refine sal hO fun yQ B185 s hO => ?_
  refine sba 0 hO fun yR s hO => ?_
  refine sln0 ?_
  refine smk Fl.i (H aE.bd) hO fun yS oL s hO => ?_
  refine sln1 0 hO ?_
  refine au ?_
  refine sdr [4, 5, 5, 5, 6] hO fun s hO => ?_
  refine lv [2, 4, 5, 7, 31] hO (H aE.bd).2.2 (fun E (sQ, number7_193) σ w => (fun Z => Lo A w0 σ w [(32, .int .i64 (sQ : Int))] Z ∧ Els (Rp.sl (Rp.int .i64)) (bl Z ++ A) w iA d_43) (E.set 0 (t1 Fl.i 3 oL d.Final.length d.Final.length number7_193))) ⟨⟨agr, hO, fr⟩, dG.u⟩ ?_
  refine fun X7 => p1 fun sQ number7_193 => fun H hX7 σ tK hk => d1 fun hL => fun dG => d2 (fun hag hO hB => keep2 hk hag ?_) hL
  dsimp only [esets, sS, sZ] at hO hB dG
  dsimp only at H
  revert hO; repeat (rename Owns .. => q; clear q)
  intro hO; repeat (rename Sq .. => q; clear q)
  refine scm H (fun K8 H => ?_) fun K8 H => ?_
  ·refine six1 0 hO H.1 H.2.1 ?_
   refine sst (u := (-1 : Int)) 0 hO H.1 H.2.1 fun yT s hO => ?_
   refine au ?_
   have yU := H.1
   have yV := H.2.1
   replace H := H.2.2
   obtain ⟨tL, H⟩ := H
   refine zo (J06 rfl rfl (wrap_i64 tL)) ?_
   refine au ?_
   exact hX7 _ H _ _ agr ⟨⟨agr, hO, fr⟩, dG.u⟩
  refine sln1 4 hO ?_
  refine au ?_
  refine lv [2, 4, 7, 39, 40] hO H (fun E (mw, number8_201) σ w => (fun Z => Lo A w0 σ w [(41, .int .i64 (mw : Int))] Z ∧ Els (Rp.sl (Rp.int .i64)) (bl Z ++ A) w iA d_43) (E.set 0 (t1 Fl.i 3 oL d.Final.length d.Final.length number8_201))) ⟨⟨agr, hO, fr⟩, dG.u⟩ ?_
  refine fun X8 => p1 fun mw number8_201 => fun H hX8 σ tM hk => d1 fun hL => fun dG => d2 (fun hag hO hB => keep2 hk hag ?_) hL
  dsimp only [esets, sS, sZ] at hO hB dG
  dsimp only at H
  revert hO; repeat (rename Owns .. => q; clear q)
  intro hO; repeat (rename Sq .. => q; clear q)
  refine scm H (fun tN H => ?_) fun tN H => ?_
  ·refine sxl1 4 hO H.1 H.2.1 ?_
   refine six1 0 hO H.2.2.1 H.2.2.2.1 ?_
   refine sst (u := (mw : Int)) 0 hO H.2.2.1 H.2.2.2.1 fun yW s hO => ?_
   refine sinc (natbd tN (t1b 4 hO)) ?_
   refine au ?_
   exact hX8 _ H.2.2.2.2 _ _ agr ⟨⟨agr, hO, fr⟩, dG.u⟩
  refine sag 1 hO ?_
  refine sba 5 hO fun yX s hO => ?_
  refine au ?_
  refine sfz 3 hO fun s hO D4 D5 => ?_
  refine sfzR 2 hO dG.u fun s hO oM xt => ?_
  refine sfz 0 hO fun s hO D6 D7 => ?_
  refine Go1.retC2 func109 rfl rfl (rlb 2 hO) ⟨((⟨d.Letters, (0 : Int), d_49, d_43⟩ : DFA)), _, _, _, _, _, _, _, ?_, frs, D4.r, oM.r, D6.r, H⟩
  exact (congrArg (fun l => Value.tuple (List.toArray l)) (J02 (congrArg (fun l => Value.agg (List.toArray l)) (J02 rfl (J02 rfl (J02 (congrArg (fun nn => Value.slice p50 nn c51) D5) (J02 (congrArg (fun nn => Value.slice p46 nn c47) xt) rfl))))) (J02 (congrArg (fun nn => Value.slice oL nn d.Final.length) D7) rfl)))
 refine au ?_
 refine zo (J0a underlying25 ti25 (pl := [(0, 1), (1, 1), (2, 1), (3, 1)]) (vs := []) (cs := #[.int .i64 (0 : Int), .int .i64 (0 : Int), .slice none 0 0, .slice none 0 0]) (by kernel_rfl) rfl (by kernel_rfl)) ?_
 refine sba 0 hO fun T4 s hO => ?_
 refine au ?_
 refine Go1.retC2 func109 rfl rfl (rlb 0 hO) ⟨((⟨(0 : Int), (0 : Int), ([] : List Bool), ([] : List (List Int))⟩ : DFA)), _, _, _, _, _, _, _, er, frs, (ISl.null _ _ _), (ISl.null _ _ _), (ISl.null _ _ _), H⟩
theorem body110 : Body prog 110 := ⟨f110, func110, rfl, by kernel_rfl⟩
theorem J3P {bT cz : Option Addr} {cg cA : Nat} {a0 : DFA} (hA : HA0 A w0) (ah : ISb A w0 bT cg a0.Final) (cp : ISs A w0 cz cA a0.Next) {K : List Int → Prop} (H : J0K a0 K) :
    CallsV prog 110 #[.agg (cDF a0 bT cg cz cA)] w0 (fun v w' => ∃ (r0 : List Int), ∃ (p_r0 : Option Addr), ∃ (c_r0 : Nat), v = .slice p_r0 r0.length c_r0 ∧ Same w0 w' ∧ ISi A w' p_r0 c_r0 r0 ∧ K r0) := by
 refine cal hA func110 ntmps110 fun hO hB => ?_
 unfold J0K at H
 refine sbx hO fun w1 B2 s hO => ?_
 refine sag 0 hO ?_
 refine zcr (J01 body61 rfl (J0X hO.lt ah.u cp.u H)) fun _ w5 => e1 fun r4 => sc0 hO fun s hO => fun H => ?_
 refine scm H (fun h6 H => ?_) fun h6 H => ?_
 ·refine sln0 ?_
  refine smk Fl.i (H ah.bd) hO fun w7 p8 s hO => ?_
  refine sln0 ?_
  refine au ?_
  refine lv [1, 3, 24, 25] hO (H ah.bd).2.2 (fun E (k1_11, k1_12, d_13) σ w => Lo A w0 σ w [(4, .int .i64 k1_11), (26, .int .i64 (k1_12 : Int))] (E.set 0 (t1 Fl.i 3 p8 a0.Final.length a0.Final.length d_13))) ⟨agr, hO, fr⟩ ?_
  refine fun X1 => p2 fun k1_11 k1_12 d_13 => fun H hX1 σ w10 hk => d2 fun hag hO hB => keep2 hk hag ?_
  dsimp only [esets, sS, sZ] at hO hB
  dsimp only at H
  revert hO; repeat (rename Owns .. => q; clear q)
  intro hO; repeat (rename Sq .. => q; clear q)
  refine scm H (fun h14 H => ?_) fun h14 H => ?_
  ·refine au ?_
   have h15 := H.1
   have h16 := H.2.1
   refine sxb hO ah.u H.1 H.2.1 H.2.2 (fun h17 H => ?_) fun h17 H => ?_
   ·refine au ?_
    have h18 := H.1
    have h19 := H.2.1
    refine sxb hO ah.u H.1 H.2.1 H.2.2 (fun h20 H => ?_) fun h20 H => ?_
    ·refine zo (J27 underlying4 rfl rfl) ?_
     refine sinc (natbd h14 ah.bd) ?_
     refine au ?_
     exact hX1 _ H _ _ agr ⟨agr, hO, fr⟩
    refine zo (J27 underlying4 rfl rfl) ?_
    refine six1 0 hO H.1 H.2.1 ?_
    refine sst (u := (1 : Int)) 0 hO H.1 H.2.1 fun w21 s hO => ?_
    refine sinc (natbd h14 ah.bd) ?_
    refine au ?_
    exact hX1 _ H.2.2 _ _ agr ⟨agr, hO, fr⟩
   refine au ?_
   have h22 := H.1
   have h23 := H.2.1
   refine sxb hO ah.u H.1 H.2.1 H.2.2 (fun h24 H => ?_) fun h24 H => ?_
   ·refine zo (J27 underlying4 rfl rfl) ?_
    refine six1 0 hO H.1 H.2.1 ?_
    refine sst (u := (1 : Int)) 0 hO H.1 H.2.1 fun w25 s hO => ?_
    refine sinc (natbd h14 ah.bd) ?_
    refine au ?_
    exact hX1 _ H.2.2 _ _ agr ⟨agr, hO, fr⟩
   refine zo (J27 underlying4 rfl rfl) ?_
   refine sinc (natbd h14 ah.bd) ?_
   refine au ?_
   exact hX1 _ H _ _ agr ⟨agr, hO, fr⟩
  refine au ?_
  refine sfz 0 hO fun s hO tO K9 => ?_
  refine lv [1] hO H (fun E (eU, k2_33) σ w => ∃ p30 c31, (fun Z => Lo A w0 σ w [(3, .slice p30 eU.length c31), (4, .int .i64 k2_33)] Z ∧ ISi (bl Z ++ A) w p30 c31 eU) E) ⟨_, _, ⟨⟨(congrArg (fun nn => Value.slice p8 nn a0.Final.length) K9), rfl, trivial⟩, hO, fr⟩, tO⟩ ?_
  refine fun X2 => p1 fun eU k2_33 => fun H hX2 σ w28 hk => e2 fun p30 c31 => d1 fun hL => fun dU => d2 (fun hag hO hB => keep2 hk hag ?_) hL
  dsimp only at H
  revert hO; repeat (rename Owns .. => q; clear q)
  intro hO; repeat (rename Sq .. => q; clear q)
  refine au ?_
  have zz := omakeMap (fun a : AN 7 => Value.agg (icells .i64 a.1).toArray) (fun a : Int => Value.int .i64 a) hO
  obtain ⟨w34, B35, D8, tP, D9⟩ := zz
  refine zg D9 ?_
  refine nst D8 fun s hO => ?_
  refine sln0 ?_
  refine smk Fl.i (H dU.bd) hO fun w40 p41 s hO => ?_
  refine sln0 ?_
  refine au ?_
  refine lv [1, 3, 4, 7, 8, 46, 47] hO ((H dU.bd).2.2 cp.bd) (fun E (ie, yY, i7) σ w => (fun Z => Lo A w0 σ w [(48, .int .i64 (ie : Int))] Z ∧ ISi (bl Z ++ A) w p30 c31 eU) (esets E [(0, t1 Fl.i 3 p41 eU.length eU.length yY), (1, .any (mapE (fun a : AN 7 => Value.agg (icells .i64 a.1).toArray) (fun a : Int => Value.int .i64 a) B35 i7))])) ⟨⟨agr, hO, fr⟩, dU.u⟩ ?_
  refine fun X3 => p2 fun ie yY i7 => fun H hX3 σ w43 hk => d1 fun hL => fun dU => d2 (fun hag hO hB => keep2 hk hag ?_) hL
  dsimp only [esets, sS, sZ] at hO hB dU
  dsimp only at H
  revert hO; repeat (rename Owns .. => q; clear q)
  intro hO; repeat (rename Sq .. => q; clear q)
  refine scm H (fun h47 H => ?_) fun h47 H => ?_
  ·refine sxls hO cp.u H.1 H.2.1 fun p48 c49 gC => ?_
   refine sxl hO dU H.2.2.1 H.2.2.2.1 ?_
   refine zo (J7z underlying166 ti166 ti3 (vs := [(0, .int .i64 (ix eU (ie : Int)))]) (cs := #[.int .i64 (ix eU (ie : Int)), .int .i64 (0 : Int), .int .i64 (0 : Int), .int .i64 (0 : Int), .int .i64 (0 : Int), .int .i64 (0 : Int), .int .i64 (0 : Int)]) rfl (by kernel_rfl)) ?_
   have zz := oalloc (t := 166) (cs := (icells .i64 (([(0 : Int), (0 : Int), (0 : Int), (0 : Int), (0 : Int), (0 : Int), (0 : Int)] : List Int))).toArray) ti166 hO rfl
   obtain ⟨w51, B52, Ea, y3, Eb⟩ := zz
   refine zg Eb ?_
   refine nst Ea fun s hO => ?_
   have h60 := H.1
   have h61 := H.2.1
   have h62 := H.2.2.1
   have h63 := H.2.2.2.1
   replace H := H.2.2.2.2
   obtain ⟨h64, H⟩ := H
   have zz := oarrStA (M := [(ix eU (ie : Int)), (0 : Int), (0 : Int), (0 : Int), (0 : Int), (0 : Int), (0 : Int)]) 0 hO rfl (by rw [h64]; rfl)
   obtain ⟨w57, oN, oO⟩ := zz
   refine zg (oO ti166 (by exact rfl) (by exact rfl)) ?_
   refine nst oN fun s hO => ?_
   refine sln0 ?_
   refine au ?_
   refine lv [1, 3, 4, 7, 8, 9, 11, 46, 47, 48, 58, 59] hO (H gC.bd) (fun E (oP, y4_67) σ w => (fun Z => Lo A w0 σ w [(60, .int .i64 (oP : Int))] Z ∧ ISi (bl Z ++ A) w p30 c31 eU ∧ ISi (bl Z ++ A) w p48 c49 (ix a0.Next (ie : Int))) (E.set 0 (.blk B52 (.cells (icells .i64 y4_67).toArray 166 (0, 0))))) ⟨⟨agr, hO, fr⟩, dU.u, gC.u⟩ ?_
   refine fun X4 => p1 fun oP y4_67 => fun H hX4 σ w65 hk => d1 fun hL => d1 fun dU gC => d2 (fun hag hO hB => keep2 hk hag ?_) hL
   dsimp only [esets, sS, sZ] at hO hB dU gC
   dsimp only at H
   revert hO; repeat (rename Owns .. => q; clear q)
   intro hO; repeat (rename Sq .. => q; clear q)
   refine scm H (fun h68 H => ?_) fun h68 H => ?_
   ·refine sxl hO gC H.1 H.2.1 ?_
    refine au ?_
    have h69 := H.1
    have h70 := H.2.1
    replace H := H.2.2
    obtain ⟨h71, H⟩ := H
    refine zo (J06 rfl rfl (wrap_i64 h71)) ?_
    refine sxl hO dU H.1 H.2.1 ?_
    have h72 := H.1
    have h73 := H.2.1
    replace H := H.2.2
    obtain ⟨h74, H⟩ := H
    obtain ⟨h75, H⟩ := H
    obtain ⟨h76, H⟩ := H
    refine zo (J7I (n := 7) underlying166 ti3 rfl rfl h75 h76) ?_
    have zz := oarrSt (v := (ix eU (ix (ix a0.Next (ie : Int)) (oP : Int)))) 0 hO rfl h75 (arrLt h74 h76)
    obtain ⟨w77, fU, oQ⟩ := zz
    refine zg (oQ underlying3 rfl ti3 (by exact rfl) (by exact rfl)) ?_
    refine nst fU fun s hO => ?_
    refine sinc (natbd h68 gC.bd) ?_
    refine au ?_
    exact hX4 _ H _ _ agr ⟨⟨agr, hO, fr⟩, dU.u, gC.u⟩
   refine au ?_
   obtain ⟨h80, H⟩ := H
   refine zs (oarrLd 0 hO rfl h80 underlying166 rfl ti166 rfl) ?_
   by_cases h81 : mhas i7 ((toAN 7 y4_67)) = true
   ·refine zs (olookT (a := (toAN 7 y4_67)) (MK.arrN underlying166 underlying3 ti3) 2 hO rfl underlying164 rfl rfl h81) ?_
    refine six1 1 hO (ifp h81 H).1 (ifp h81 H).2.1 ?_
    refine sst (u := (mgt i7 ((toAN 7 y4_67)))) 1 hO (ifp h81 H).1 (ifp h81 H).2.1 fun w82 s hO => ?_
    refine sinc (natbd h47 cp.bd) ?_
    refine au ?_
    refine sdr [0] hO fun s hO => ?_
    exact hX3 _ (ifp h81 H).2.2 _ _ agr ⟨⟨agr, hO, fr⟩, dU.u⟩
   refine zs (olookF (a := (toAN 7 y4_67)) (MK.arrN underlying166 underlying3 ti3) 2 hO rfl underlying164 ti3 rfl rfl h81) ?_
   refine au ?_
   refine zs (omapLen 2 hO rfl underlying164 rfl) ?_
   refine au ?_
   replace H := (ifn h81 H)
   obtain ⟨h83, H⟩ := H
   refine zs (oarrLd 0 hO rfl h83 underlying166 rfl ti166 rfl) ?_
   refine au ?_
   have zz := omapUpd (MK.arrN underlying166 underlying3 ti3) 2 hO rfl underlying164 (toAN 7 y4_67) (i7.length : Int)
   obtain ⟨w84, Ec, Ed⟩ := zz
   refine zg (Ed (by exact rfl) (by exact rfl) (by exact rfl)) ?_
   refine nst Ec fun s hO => ?_
   refine six1 1 hO H.1 H.2.1 ?_
   refine sst (u := (i7.length : Int)) 1 hO H.1 H.2.1 fun w87 s hO => ?_
   refine sinc (natbd h47 cp.bd) ?_
   refine au ?_
   refine sdr [0] hO fun s hO => ?_
   exact hX3 _ H.2.2 _ _ agr ⟨⟨agr, hO, fr⟩, dU.u⟩
  refine au ?_
  refine zs (omapLen 1 hO rfl underlying164 rfl) ?_
  refine scm H (fun h88 H => ?_) fun h88 H => ?_
  ·refine au ?_
   refine sfz 0 hO fun s hO tQ tR => ?_
   refine Go1.ret1 func110 rfl ⟨_, _, _, ?_, frs, tQ.r, H⟩
   exact (congrArg (fun nn => Value.slice p41 nn eU.length) tR)
  refine au ?_
  refine zs (omapLen 1 hO rfl underlying164 rfl) ?_
  refine au ?_
  refine sfz 0 hO fun s hO La tS => ?_
  refine sdr [0] hO fun s hO => ?_
  exact hX2 _ H _ _ agr ⟨_, _, ⟨⟨(congrArg (fun nn => Value.slice p41 nn eU.length) tS), rfl, trivial⟩, hO, fr⟩, La.u⟩
 refine au ?_
 refine Go1.ret1 func110 rfl ⟨_, _, _, er, frs, (ISl.null _ _ _), H⟩
theorem body66 : Body prog 66 := ⟨f66, func66, rfl, by kernel_rfl⟩
theorem J3L {bT cz : Option Addr} {cg cA : Nat} {a0 : DFA} (hA : HA0 A w0) (ah : ISb A w0 bT cg a0.Final) (cp : ISs A w0 cz cA a0.Next) {K : DFA → List Int → Prop} (H : J0J a0 K) :
    CallsV prog 66 #[.agg (cDF a0 bT cg cz cA)] w0 (fun v w' => ∃ (r0 : DFA), ∃ (r1 : List Int), ∃ (aN : Option Addr), ∃ (aO : Nat), ∃ (bk : Option Addr), ∃ (bm : Nat), ∃ (fu : Option Addr), ∃ (fv : Nat), v = .tuple #[.agg (cDF r0 aN aO bk bm), .slice fu r1.length fv] ∧ Same w0 w' ∧ ISb A w' aN aO r0.Final ∧ ISs A w' bk bm r0.Next ∧ ISi A w' fu fv r1 ∧ K r0 r1) := by
 refine cal hA func66 ntmps66 fun hO hB => ?_
 unfold J0J at H
 refine sbx hO fun w1 B2 s hO => ?_
 refine sal hO fun w4 B5 s hO => ?_
 refine sag 1 hO ?_
 refine zcr (J01 body109 rfl (J50 hO.lt ah.u cp.u H)) fun _ w9 => e4 fun r7 r8 jL jM => e4 fun kY k8 oR oS => sc0 hO fun s hO => d3 fun cO dq eg H => ?_
 refine sal hO fun w10 B11 s hO => ?_
 refine sba 0 hO fun w13 s hO => ?_
 refine sag 0 hO ?_
 refine zcr (J01 body110 rfl (J3P hO.lt cO.u dq.u H)) fun _ w15 => e3 fun r14 oT oU => sc0 hO fun s hO => d1 fun dF H => ?_
 refine au ?_
 refine zo (J0a underlying25 ti25 (pl := [(0, 1), (1, 1), (2, 1), (3, 1)]) (vs := [(0, .int .i64 a0.Letters)]) (cs := #[.int .i64 a0.Letters, .int .i64 (0 : Int), .slice none 0 0, .slice none 0 0]) (by kernel_rfl) rfl (by kernel_rfl)) ?_
 refine sal hO fun w16 B17 s hO => ?_
 refine sba 0 hO fun w19 s hO => ?_
 refine sln0 ?_
 refine au ?_
 refine snil Fl.bool 4 hO fun s hO => ?_
 have Ee := Stp.nil (e := 31) (r := 1) hO
 refine nst Ee fun s hO => ?_
 have gY := elN (Rp.sl (Rp.int .i64)) hO
 refine lv [1, 2, 4, 5, 6, 7, 28, 29] hO (H dF.bd) (fun E (k1_25, oV, d_32) σ w => ∃ n31 p29 c30 oW n35 p33 c34, (fun Z => Lo A w0 σ w [(30, .int .i64 (k1_25 : Int))] Z ∧ Els (Rp.sl (Rp.int .i64)) (bl Z ++ A) w oW oV ∧ ISb (bl Z ++ A) w jL jM r7.Final ∧ ISs (bl Z ++ A) w kY k8 r7.Next ∧ ISi (bl Z ++ A) w oR oS r8 ∧ ISi (bl Z ++ A) w oT oU r14) (esets E [(0, .row 31 1 p29 n31 c30 oW), (1, t1 Fl.bool 4 p33 n35 c34 d_32), (2, .blk B17 (.cells #[.int .i64 a0.Letters, .int .i64 (0 : Int), .slice p33 n35 c34, .slice p29 n31 c30] 25 (0, 0)))])) ⟨_, _, _, _, _, _, _, ⟨agr, hO, fr⟩, gY.u, cO.u, dq.u, eg.u, dF.u⟩ ?_
 refine fun X1 => p2 fun k1_25 oV d_32 => fun H hX1 σ w24 hk => e4 fun n31 p29 c30 oW => e3 fun n35 p33 c34 => d1 fun hL => d4 fun iC cO dq eg dF => d2 (fun hag hO hB => keep2 hk hag ?_) hL
 dsimp only [esets, sS, sZ] at hO hB iC cO dq eg dF
 dsimp only at H
 revert hO; repeat (rename Owns .. => q; clear q)
 intro hO; repeat (rename Sq .. => q; clear q)
 refine scm H (fun h36 H => ?_) fun h36 H => ?_
 ·refine sxl hO dF H.1 H.2.1 ?_
  refine sln1 1 hO ?_
  have h37 := H.1
  have h38 := H.2.1
  refine scm H.2.2 (fun h39 H => ?_) fun h39 H => ?_
  ·refine sinc (natbd h36 dF.bd) ?_
   refine au ?_
   exact hX1 _ H _ _ agr ⟨_, _, _, _, _, _, _, ⟨agr, hO, fr⟩, iC, cO, dq, eg, dF⟩
  refine smk Fl.i H hO fun w40 p41 s hO => ?_
  refine sxls hO dq.u H.2.2.1 H.2.2.2.1 fun p43 c44 ig => ?_
  refine sln0 ?_
  refine au ?_
  refine lv [1, 2, 4, 5, 6, 7, 8, 10, 28, 29, 30, 47, 48] hO (H.2.2.2.2 ig.bd) (fun E (oX, d_48) σ w => (fun Z => Lo A w0 σ w [(49, .int .i64 (oX : Int))] Z ∧ Els (Rp.sl (Rp.int .i64)) (bl Z ++ A) w oW oV ∧ ISb (bl Z ++ A) w jL jM r7.Final ∧ ISs (bl Z ++ A) w kY k8 r7.Next ∧ ISi (bl Z ++ A) w oR oS r8 ∧ ISi (bl Z ++ A) w oT oU r14 ∧ ISi (bl Z ++ A) w p43 c44 (ix r7.Next (k1_25 : Int))) (E.set 0 (t1 Fl.i 3 p41 a0.Letters.toNat a0.Letters.toNat d_48))) ⟨⟨agr, hO, fr⟩, iC.u, cO.u, dq.u, eg.u, dF.u, ig.u⟩ ?_
  refine fun X2 => p1 fun oX d_48 => fun H hX2 σ w46 hk => d1 fun hL => d1 fun iC => d4 fun cO dq eg dF ig => d2 (fun hag hO hB => keep2 hk hag ?_) hL
  dsimp only [esets, sS, sZ] at hO hB iC cO dq eg dF ig
  dsimp only at H
  revert hO; repeat (rename Owns .. => q; clear q)
  intro hO; repeat (rename Sq .. => q; clear q)
  refine scm H (fun h49 H => ?_) fun h49 H => ?_
  ·refine sxl hO ig H.1 H.2.1 ?_
   refine sxl hO dF H.2.2.1 H.2.2.2.1 ?_
   refine six1 0 hO H.2.2.2.2.1 H.2.2.2.2.2.1 ?_
   refine sst (u := (ix r14 (ix (ix r7.Next (k1_25 : Int)) (oX : Int)))) 0 hO H.2.2.2.2.1 H.2.2.2.2.2.1 fun w50 s hO => ?_
   refine sinc (natbd h49 ig.bd) ?_
   refine au ?_
   exact hX2 _ H.2.2.2.2.2.2 _ _ agr ⟨⟨agr, hO, fr⟩, iC.u, cO.u, dq.u, eg.u, dF.u, ig.u⟩
  refine au ?_
  refine drs 4 [q0, q1, q0, q1, q0, q0, q1, q2, q3, q0, q3] hO fun w51 s hO => ?_
  refine sxl hO cO.u H.1 H.2.1 ?_
  refine sap1 (ix r7.Final (k1_25 : Int)) 2 hO H.2.2 fun _ w52 p53 c54 s hO => ?_
  refine sbs 3 hO fun w55 s hO => ?_
  refine au ?_
  refine sfz 0 hO fun s hO Lb Lc => ?_
  have zz := J1u (r := Rp.sl (Rp.int .i64)) (n := 1) (parts := [(0, .slice p41 a0.Letters.toNat a0.Letters.toNat)]) (vs := [.slice p41 a0.Letters.toNat a0.Letters.toNat]) (xs := [d_48]) rfl underlying23 ti31 hO (by decide) (by kernel_rfl) (Els.cons rfl ⟨p41, a0.Letters.toNat, congrArg some (congrArg (fun nn => Value.slice p41 nn a0.Letters.toNat) Lc), Lb.u⟩ (Els.nil _ _ _) (by simp [mx])) rfl
  obtain ⟨w58, p59, oY, tT, T5, Ef⟩ := zz
  refine zg (Ef rfl) ?_
  refine nst oY fun s hO => ?_
  refine sfzR 0 hO tT fun s hO tU tV => ?_
  have h67 := H.1
  have h68 := H.2.1
  replace H := H.2.2.2
  obtain ⟨h69, H⟩ := H
  have zz := oapp underlying23 ti31 rfl 0 hO rfl iC.u tU tV h69 (by decide)
  obtain ⟨w70, p71, c72, T6, Eg, y4, Eh⟩ := zz
  dsimp only [sS, sZ] at y4
  refine zg (Eh (by exact rfl) (by exact rfl)) ?_
  refine nst Eg fun s hO => ?_
  refine sbs 2 hO fun w78 s hO => ?_
  refine sinc (natbd h36 dF.bd) ?_
  refine au ?_
  exact hX1 _ H _ _ agr ⟨_, _, _, _, _, _, _, ⟨agr, hO, fr⟩, y4.u, cO.u, dq.u, eg.u, dF.u⟩
 refine sag 2 hO ?_
 refine sfz 1 hO fun s hO my o3 => ?_
 refine sfzR 0 hO iC.u fun s hO tW tX => ?_
 refine zcr (J01 body109 (by rw [o3, tX]; exact rfl) (J50 (d := (⟨a0.Letters, (0 : Int), d_32, oV⟩ : DFA)) hO.lt my.u tW H)) fun _ w85 => e4 fun r83 r84 nP nQ => e4 fun o4 o5 Ei Ej => sc0 hO fun s hO => d3 fun eH eV i8 H => ?_
 refine sal hO fun w86 B87 s hO => ?_
 refine sba 0 hO fun w89 s hO => ?_
 refine sln0 ?_
 refine smk Fl.i (H eg.bd) hO fun w90 p91 s hO => ?_
 refine sln0 ?_
 refine au ?_
 refine sdr [2, 2, 3] hO fun s hO => ?_
 refine lv [2, 6, 13, 14, 15, 87, 88] hO (H eg.bd).2.2 (fun E (o6, y5) σ w => (fun Z => Lo A w0 σ w [(89, .int .i64 (o6 : Int))] Z ∧ ISi (bl Z ++ A) w oR oS r8 ∧ ISi (bl Z ++ A) w oT oU r14 ∧ ISb (bl Z ++ A) w nP nQ r83.Final ∧ ISs (bl Z ++ A) w o4 o5 r83.Next ∧ ISi (bl Z ++ A) w Ei Ej r84) (E.set 0 (t1 Fl.i 3 p91 r8.length r8.length y5))) ⟨⟨agr, hO, fr⟩, eg.u, dF.u, eH.u, eV.u, i8.u⟩ ?_
 refine fun X3 => p1 fun o6 y5 => fun H hX3 σ w93 hk => d1 fun hL => d4 fun eg dF eH eV i8 => d2 (fun hag hO hB => keep2 hk hag ?_) hL
 dsimp only [esets, sS, sZ] at hO hB eg dF eH eV i8
 dsimp only at H
 revert hO; repeat (rename Owns .. => q; clear q)
 intro hO; repeat (rename Sq .. => q; clear q)
 refine scm H (fun h96 H => ?_) fun h96 H => ?_
 ·refine sxl hO eg H.1 H.2.1 ?_
  refine six1 0 hO H.2.2.1 H.2.2.2.1 ?_
  refine sst (u := (-1 : Int)) 0 hO H.2.2.1 H.2.2.2.1 fun w97 s hO => ?_
  refine au ?_
  have h98 := H.1
  have h99 := H.2.1
  have mz := H.2.2.1
  have mA := H.2.2.2.1
  refine scm H.2.2.2.2 (fun Ld H => ?_) fun Ld H => ?_
  ·refine sxl hO dF.u H.1 H.2.1 ?_
   refine sxl hO i8.u H.2.2.1 H.2.2.2.1 ?_
   refine six1 0 hO H.2.2.2.2.1 H.2.2.2.2.2.1 ?_
   refine sst (u := (ix r84 (ix r14 (ix r8 (o6 : Int))))) 0 hO H.2.2.2.2.1 H.2.2.2.2.2.1 fun y6 s hO => ?_
   refine sinc (natbd h96 eg.bd) ?_
   refine au ?_
   exact hX3 _ H.2.2.2.2.2.2 _ _ agr ⟨⟨agr, hO, fr⟩, eg.u, dF.u, eH.u, eV.u, i8.u⟩
  refine sinc (natbd h96 eg.bd) ?_
  refine au ?_
  exact hX3 _ H _ _ agr ⟨⟨agr, hO, fr⟩, eg.u, dF.u, eH.u, eV.u, i8.u⟩
 refine sag 1 hO ?_
 refine sba 2 hO fun o7 s hO => ?_
 refine au ?_
 refine sfz 0 hO fun s hO Ek El => ?_
 refine Go1.retC2 func66 rfl rfl (rlb 1 hO) ⟨((⟨r83.Letters, r83.Start, r83.Final, r83.Next⟩ : DFA)), _, _, _, _, _, _, _, ?_, frs, eH.r, eV.r, Ek.r, H⟩
 exact (congrArg (fun l => Value.tuple (List.toArray l)) (J02 rfl (J02 (congrArg (fun nn => Value.slice p91 nn r8.length) El) rfl)))
theorem body22 : Body prog 22 := ⟨f22, func22, rfl, by kernel_rfl⟩
theorem J3X {aF aV : Option Addr} {aG aW : Nat} {d : DFA} (hA : HA0 A w0) (aE : ISb A w0 aF aG d.Final) (bg : ISs A w0 aV aW d.Next) {K : DFA → Prop} (H : J0G d K) :
    CallsV prog 22 #[.agg (cDF d aF aG aV aW)] w0 (fun v w' => ∃ (r0 : DFA), ∃ (aN : Option Addr), ∃ (aO : Nat), ∃ (bk : Option Addr), ∃ (bm : Nat), v = .agg (cDF r0 aN aO bk bm) ∧ Same w0 w' ∧ ISb A w' aN aO r0.Final ∧ ISs A w' bk bm r0.Next ∧ K r0) := by
 refine cal hA func22 ntmps22 fun hO hB => ?_
 unfold J0G at H
 refine sbx hO fun w1 B2 s hO => ?_
 refine sal hO fun w4 B5 s hO => ?_
 refine sag 1 hO ?_
 refine zcr (J01 body61 rfl (J0X hO.lt aE.u bg.u H)) fun _ w8 => e1 fun r7 => sc0 hO fun s hO => fun H => ?_
 refine scm H (fun h9 H => ?_) fun h9 H => ?_
 ·refine sag 1 hO ?_
  refine zcr (J01 body66 rfl (J3L hO.lt aE.u bg.u H)) fun _ w12 => e4 fun r10 r11 nS nT => e4 fun o8 o9 Em En => sc0 hO fun s hO => d3 fun e9 ii Rm H => ?_
  refine sal hO fun w13 B14 s hO => ?_
  refine sba 0 hO fun w16 s hO => ?_
  refine sag 0 hO ?_
  refine sba 1 hO fun w17 s hO => ?_
  refine au ?_
  refine Go1.retC1 func22 rfl rfl (rlb 1 hO) ⟨((⟨r10.Letters, r10.Start, r10.Final, r10.Next⟩ : DFA)), _, _, _, _, er, frs, e9.r, ii.r, H⟩
 refine au ?_
 refine zo (J0a underlying25 ti25 (pl := [(0, 1), (1, 1), (2, 1), (3, 1)]) (vs := []) (cs := #[.int .i64 (0 : Int), .int .i64 (0 : Int), .slice none 0 0, .slice none 0 0]) (by kernel_rfl) rfl (by kernel_rfl)) ?_
 refine sba 0 hO fun w18 s hO => ?_
 refine au ?_
 refine Go1.retC1 func22 rfl rfl (rlb 0 hO) ⟨((⟨(0 : Int), (0 : Int), ([] : List Bool), ([] : List (List Int))⟩ : DFA)), _, _, _, _, er, frs, (ISl.null _ _ _), (ISl.null _ _ _), H⟩
theorem body154 : Body prog 154 := ⟨f154, func154, rfl, by kernel_rfl⟩
theorem J21 {p_f : Option Addr} {c_f : Nat} {f : List Int} (hA : HA0 A w0) (h_f : ISi A w0 p_f c_f f) {K : Bool → Prop} (H : J1O f K) :
    CallsV prog 154 #[.slice p_f f.length c_f] w0 (fun v w' => ∃ (r0 : Bool), v = .bool r0 ∧ Same w0 w' ∧ K r0) := by
 refine cal hA func154 ntmps154 fun hO hB => ?_
 unfold J1O at H
 refine sln0 ?_
 refine scm (H h_f.bd) (fun h1 H => ?_) fun h1 H => ?_
 ·refine au ?_
  refine Go1.ret1 func154 rfl ⟨_, er, frs, H⟩
 refine sln0 ?_
 refine scm H (fun h2 H => ?_) fun h2 H => ?_
 ·refine au ?_
  refine Go1.ret1 func154 rfl ⟨_, er, frs, H⟩
 refine sln0 ?_
 refine au ?_
 refine lv [0, 13, 14] hO H (fun E k1_4 σ w => Lo A w0 σ w [(15, .int .i64 (k1_4 : Int))] []) ⟨agr, hO, fr⟩ ?_
 refine fun X1 => fun k1_4 => fun H hX1 σ w3 hk => d2 fun hag hO hB => keep2 hk hag ?_
 refine scm H (fun h5 H => ?_) fun h5 H => ?_
 ·refine sxl hO h_f.u H.1 H.2.1 ?_
  refine au ?_
  have h6 := H.1
  have h7 := H.2.1
  refine scm H.2.2 (fun h8 H => ?_) fun h8 H => ?_
  ·refine au ?_
   refine Go1.ret1 func154 rfl ⟨_, er, frs, H⟩
  refine sln0 ?_
  refine scm H (fun h9 H => ?_) fun h9 H => ?_
  ·refine au ?_
   refine Go1.ret1 func154 rfl ⟨_, er, frs, H⟩
  refine sinc (natbd h5 h_f.bd) ?_
  refine au ?_
  exact hX1 _ H _ _ agr ⟨agr, hO, fr⟩
 refine au ?_
 refine Go1.ret1 func154 rfl ⟨_, er, frs, H⟩
theorem body86 : Body prog 86 := ⟨f86, func86, rfl, by kernel_rfl⟩
theorem J0t {ft : Option Addr} {gA : Nat} {s_ : List Int} (hA : HA0 A w0) (gB : ISi A w0 ft gA s_) {K : List Int → Prop} (H : J0l s_ K) :
    CallsV prog 86 #[.slice ft s_.length gA] w0 (fun v w' => ∃ (r0 : List Int), ∃ (eN : Nat), ∃ (p_r0 : Option Addr), ∃ (c_r0 : Nat), v = .slice p_r0 eN c_r0 ∧ Same w0 w' ∧ Owns w0.heap.size w' [t1 Fl.i 3 p_r0 eN c_r0 r0] A ∧ K r0) := by
 refine cal hA func86 ntmps86 fun hO hB => ?_
 unfold J0l at H
 refine au ?_
 replace H := H ft.isNone (fun h => gB.nilD h)
 by_cases hz2 : ft.isNone = true
 ·replace H := ifp hz2 H
  refine zo (fun w => opB (J2G underlying31 rfl rfl w) (hz2)) ?_
  refine au ?_
  refine snil Fl.i 3 hO fun s hO => ?_
  refine Go1.ret1 func86 rfl ⟨_, _, _, _, er, frs, hO, H⟩
 ·replace H := ifn hz2 H
  refine zo (fun w => opB (J2G underlying31 rfl rfl w) (Bool.eq_false_iff.2 hz2)) ?_
  refine sbu Fl.i 3 ([] : List Int) hO fun w4 p5 s hO => ?_
  refine sap 0 hO gB.u H fun w7 p8 c9 s hO => ?_
  refine au ?_
  refine Go1.ret1 func86 rfl ⟨_, _, _, _, er, frs, hO, H.2⟩
theorem body156 : Body prog 156 := ⟨f156, func156, rfl, by kernel_rfl⟩
theorem J4r {n : Int} (hA : HA0 A w0) {K : List Int → Prop} (H : J13 n K) :
    CallsV prog 156 #[.int .i64 n] w0 (fun v w' => ∃ (r0 : List Int), ∃ (p_r0 : Option Addr), ∃ (c_r0 : Nat), v = .slice p_r0 r0.length c_r0 ∧ Same w0 w' ∧ ISi A w' p_r0 c_r0 r0 ∧ K r0) := by
 refine cal hA func156 ntmps156 fun hO hB => ?_
 unfold J13 at H
 refine scm H (fun h1 H => ?_) fun h1 H => ?_
 ·refine au ?_
  refine Go1.ret1 func156 rfl ⟨_, _, _, er, frs, (ISl.null _ _ _), H⟩
 refine scm H (fun h2 H => ?_) fun h2 H => ?_
 ·refine au ?_
  refine Go1.ret1 func156 rfl ⟨_, _, _, er, frs, (ISl.null _ _ _), H⟩
 refine smk Fl.i H hO fun w3 p4 s hO => ?_
 refine sln1 0 hO ?_
 refine au ?_
 refine lv [3, 14] hO H.2.2 (fun E (bw, f1_8) σ w => Lo A w0 σ w [(15, .int .i64 (bw : Int))] [t1 Fl.i 3 p4 n.toNat n.toNat f1_8]) ⟨agr, hO, fr⟩ ?_
 refine fun X1 => p1 fun bw f1_8 => fun H hX1 σ w6 hk => d2 fun hag hO hB => keep2 hk hag ?_
 dsimp only at H
 revert hO; repeat (rename Owns .. => q; clear q)
 intro hO; repeat (rename Sq .. => q; clear q)
 refine scm H (fun h9 H => ?_) fun h9 H => ?_
 ·refine six1 0 hO H.1 H.2.1 ?_
  refine sst (u := (bw : Int)) 0 hO H.1 H.2.1 fun w10 s hO => ?_
  refine au ?_
  have h11 := H.1
  have h12 := H.2.1
  replace H := H.2.2
  obtain ⟨h13, H⟩ := H
  refine zo (J06 rfl rfl (wrap_i64 h13)) ?_
  refine au ?_
  exact hX1 _ H _ _ agr ⟨agr, hO, fr⟩
 refine au ?_
 refine sfz 0 hO fun s hO jp g5 => ?_
 refine Go1.ret1 func156 rfl ⟨_, _, _, ?_, frs, jp.r, H⟩
 exact (congrArg (fun nn => Value.slice p4 nn n.toNat) g5)
theorem body157 : Body prog 157 := ⟨f157, func157, rfl, by kernel_rfl⟩
theorem J0g {p_f : Option Addr} {c_f : Nat} {f : List Int} (hA : HA0 A w0) (h_f : ISi A w0 p_f c_f f) {K : Str → Prop} (H : J0h f K) :
    CallsV prog 157 #[.slice p_f f.length c_f] w0 (fun v w' => ∃ (r0 : Str), v = .string (gstr r0) ∧ Same w0 w' ∧ r0.length ≤ mx ∧ K r0) := by
 refine cal hA func157 ntmps157 fun hO hB => ?_
 unfold J0h at H
 refine sln0 ?_
 refine smk (Fl.int .u8) (H h_f.bd) hO fun w1 p4 s hO => ?_
 refine sln0 ?_
 refine au ?_
 refine lv [3, 9, 10] hO (H h_f.bd).2.2 (fun E (bw, y7) σ w => Lo A w0 σ w [(11, .int .i64 (bw : Int))] [t1 (Fl.int .u8) 5 p4 f.length f.length y7]) ⟨agr, hO, fr⟩ ?_
 refine fun X1 => p1 fun bw y7 => fun H hX1 σ w6 hk => d2 fun hag hO hB => keep2 hk hag ?_
 dsimp only at H
 revert hO; repeat (rename Owns .. => q; clear q)
 intro hO; repeat (rename Sq .. => q; clear q)
 refine scm H (fun h9 H => ?_) fun h9 H => ?_
 ·refine sxl hO h_f.u H.1 H.2.1 ?_
  refine au ?_
  refine zo (J3o underlying3 underlying5 rfl rfl) ?_
  refine six1 0 hO H.2.2.1 H.2.2.2.1 ?_
  refine sst (u := (IntKind.u8.wrap (ix f (bw : Int)))) 0 hO H.2.2.1 H.2.2.2.1 fun w10 s hO => ?_
  refine sinc (natbd h9 h_f.bd) ?_
  refine au ?_
  exact hX1 _ H.2.2.2.2 _ _ agr ⟨agr, hO, fr⟩
 refine au ?_
 refine op1 0 hO fun T7 s hO y8 => ?_
 have hle13 := J0v y8.bd
 refine zs (oldBytes 0 hO rfl y8.u underlying126 underlying5 underlying9 rfl) ?_
 refine au ?_
 refine Go1.ret1 func157 rfl ⟨_, er, frs, hle13, H⟩
theorem body155 : Body prog 155 := ⟨f155, func155, rfl, by kernel_rfl⟩
theorem body131 : Body prog 131 := ⟨f131, func131, rfl, by kernel_rfl⟩
theorem J4c {iD : Option Addr} {iE : Nat} {a0 : List (List Int)} {a1 : Bool} (hA : HA0 A w0) (eh : ISs A w0 iD iE a0) {K : Option run → Int → Prop} (H : J0S a0 a1 K) :
    CallsV prog 131 #[.slice iD a0.length iE, .bool a1] w0 (fun v w' => (∃ (r1 : Int), v = .tuple #[.pointer none, .int .i64 r1] ∧ Same w0 w' ∧ K none r1) ∨ (∃ (q : run), ∃ (r1 : Int), ∃ (b_q : Nat), ∃ (aH : Nat), ∃ (aI : Option Addr), ∃ (aJ : Nat), ∃ (bH : List Value), ∃ (av : Nat), ∃ (aw : Option Addr), ∃ (ax : Nat), ∃ (bE : List Value), ∃ (ao : Nat), ∃ (ap : Option Addr), ∃ (aq : Nat), ∃ (aK : Nat), ∃ (aL : Option Addr), ∃ (aM : Nat), ∃ (ay : Nat), ∃ (az : Option Addr), ∃ (aA : Nat), ∃ (bF : List Value), ∃ (aB : Nat), ∃ (aC : Option Addr), ∃ (aD : Nat), ∃ (dW : Nat), ∃ (bI : Nat), ∃ (bK : Option Addr), ∃ (bM : Nat), ∃ (bx : Nat), ∃ (bz : Option Addr), ∃ (bA : Nat), ∃ (bB : Nat), ∃ (bC : Option Addr), ∃ (bD : Nat), v = .tuple #[.pointer (some ⟨b_q, 0, none⟩), .int .i64 r1] ∧ Same w0 w' ∧ Owns w0.heap.size w' [.blk b_q (.cells #[.int .i64 q.Enum.Points, .bool q.Enum.Monoid, .slice aI aH aJ, .slice aw av ax, .slice ap ao aq, .slice aL aK aM, .slice az ay aA, .slice aC aB aD, .int .i64 q.Enum.Done, .map (some dW), .slice bK bI bM, .slice bz bx bA, .slice bC bB bD] 156 (0, 0)), .row 31 1 aI aH aJ bH, .row 31 1 aw av ax bE, t1 Fl.i 3 ap ao aq q.Enum.Prefix, t1 Fl.i 3 aL aK aM q.Enum.Last, .row 31 1 az ay aA bF, t1 (id Fl.fl : Fl rpRule) 185 aC aB aD q.Enum.Rules, t1 Fl.str 9 bK bI bM q.words, t1 Fl.i 3 bz bx bA q.behind, t1 Fl.i 3 bC bB bD q.single, .any (mapE (fun a : List UInt8 => Value.string (gstr a)) (fun a : Int => Value.int .i64 a) dW q.number)] A ∧ Els (Rp.sl (Rp.int .i64)) (bl [.blk b_q (.cells #[.int .i64 q.Enum.Points, .bool q.Enum.Monoid, .slice aI aH aJ, .slice aw av ax, .slice ap ao aq, .slice aL aK aM, .slice az ay aA, .slice aC aB aD, .int .i64 q.Enum.Done, .map (some dW), .slice bK bI bM, .slice bz bx bA, .slice bC bB bD] 156 (0, 0)), .row 31 1 aI aH aJ bH, .row 31 1 aw av ax bE, t1 Fl.i 3 ap ao aq q.Enum.Prefix, t1 Fl.i 3 aL aK aM q.Enum.Last, .row 31 1 az ay aA bF, t1 (id Fl.fl : Fl rpRule) 185 aC aB aD q.Enum.Rules, t1 Fl.str 9 bK bI bM q.words, t1 Fl.i 3 bz bx bA q.behind, t1 Fl.i 3 bC bB bD q.single, .any (mapE (fun a : List UInt8 => Value.string (gstr a)) (fun a : Int => Value.int .i64 a) dW q.number)] ++ A) w' bH q.Enum.Gens ∧ Els (Rp.sl (Rp.int .i64)) (bl [.blk b_q (.cells #[.int .i64 q.Enum.Points, .bool q.Enum.Monoid, .slice aI aH aJ, .slice aw av ax, .slice ap ao aq, .slice aL aK aM, .slice az ay aA, .slice aC aB aD, .int .i64 q.Enum.Done, .map (some dW), .slice bK bI bM, .slice bz bx bA, .slice bC bB bD] 156 (0, 0)), .row 31 1 aI aH aJ bH, .row 31 1 aw av ax bE, t1 Fl.i 3 ap ao aq q.Enum.Prefix, t1 Fl.i 3 aL aK aM q.Enum.Last, .row 31 1 az ay aA bF, t1 (id Fl.fl : Fl rpRule) 185 aC aB aD q.Enum.Rules, t1 Fl.str 9 bK bI bM q.words, t1 Fl.i 3 bz bx bA q.behind, t1 Fl.i 3 bC bB bD q.single, .any (mapE (fun a : List UInt8 => Value.string (gstr a)) (fun a : Int => Value.int .i64 a) dW q.number)] ++ A) w' bE q.Enum.Elems ∧ Els (Rp.sl (Rp.int .i64)) (bl [.blk b_q (.cells #[.int .i64 q.Enum.Points, .bool q.Enum.Monoid, .slice aI aH aJ, .slice aw av ax, .slice ap ao aq, .slice aL aK aM, .slice az ay aA, .slice aC aB aD, .int .i64 q.Enum.Done, .map (some dW), .slice bK bI bM, .slice bz bx bA, .slice bC bB bD] 156 (0, 0)), .row 31 1 aI aH aJ bH, .row 31 1 aw av ax bE, t1 Fl.i 3 ap ao aq q.Enum.Prefix, t1 Fl.i 3 aL aK aM q.Enum.Last, .row 31 1 az ay aA bF, t1 (id Fl.fl : Fl rpRule) 185 aC aB aD q.Enum.Rules, t1 Fl.str 9 bK bI bM q.words, t1 Fl.i 3 bz bx bA q.behind, t1 Fl.i 3 bC bB bD q.single, .any (mapE (fun a : List UInt8 => Value.string (gstr a)) (fun a : Int => Value.int .i64 a) dW q.number)] ++ A) w' bF q.Enum.Right ∧ K (some q) r1)) := by
 refine cal hA func131 ntmps131 fun hO hB => ?_
 unfold J0S at H
 refine sln0 ?_
 refine scm (H eh.bd) (fun h1 H => ?_) fun h1 H => ?_
 ·refine au ?_
  refine Go1.ret2 func131 rfl (Or.inl ⟨_, er, frs, H⟩)
 refine sln0 ?_
 refine scm H (fun h2 H => ?_) fun h2 H => ?_
 ·refine au ?_
  refine Go1.ret2 func131 rfl (Or.inl ⟨_, er, frs, H⟩)
 refine au ?_
 have zz := omakeMap (fun a : List UInt8 => Value.string (gstr a)) (fun a : Int => Value.int .i64 a) hO
 obtain ⟨w3, B4, mB, hs6, Le⟩ := zz
 refine zg Le ?_
 refine nst mB fun s hO => ?_
 refine zo (J0a underlying156 ti156 (pl := [(0, 9), (9, 1), (10, 1), (11, 1), (12, 1)]) (vs := [(1, .map (some B4))]) (cs := #[.int .i64 (0 : Int), .bool false, .slice none 0 0, .slice none 0 0, .slice none 0 0, .slice none 0 0, .slice none 0 0, .slice none 0 0, .int .i64 (0 : Int), .map (some B4), .slice none 0 0, .slice none 0 0, .slice none 0 0]) (by kernel_rfl) rfl (by kernel_rfl)) ?_
 refine sbx hO fun w9 B10 s hO => ?_
 refine sxls hO eh.u H.1 H.2.1 fun p12 c13 jp => ?_
 refine sln0 ?_
 refine sbs 0 hO fun w15 s hO => ?_
 refine sbs 0 hO fun w16 s hO => ?_
 refine sln0 ?_
 refine au ?_
 have Eo := Stp.nil (e := 31) (r := 1) hO
 refine nst Eo fun s hO => ?_
 have Lf := elN (Rp.sl (Rp.int .i64)) hO
 refine lv [1, 6, 39, 40] hO (H.2.2 jp.bd) (fun E (k1_21, d_22) σ w => ∃ n27 p25 c26 jq, (fun Z => Lo A w0 σ w [(41, .int .i64 (k1_21 : Int))] Z ∧ Els (Rp.sl (Rp.int .i64)) (bl Z ++ A) w jq d_22) (esets E [(0, .row 31 1 p25 n27 c26 jq), (1, .blk B10 (.cells #[.int .i64 ((ix a0 (0 : Int)).length : Int), .bool a1, .slice p25 n27 c26, .slice none 0 0, .slice none 0 0, .slice none 0 0, .slice none 0 0, .slice none 0 0, .int .i64 (0 : Int), .map (some B4), .slice none 0 0, .slice none 0 0, .slice none 0 0] 156 (0, 0)))])) ⟨_, _, _, _, ⟨agr, hO, fr⟩, Lf.u⟩ ?_
 refine fun X1 => p1 fun k1_21 d_22 => fun H hX1 σ w20 hk => e4 fun n27 p25 c26 jq => d1 fun hL => fun dH => d2 (fun hag hO hB => keep2 hk hag ?_) hL
 dsimp only [esets, sS, sZ] at hO hB dH
 dsimp only at H
 revert hO; repeat (rename Owns .. => q; clear q)
 intro hO; repeat (rename Sq .. => q; clear q)
 refine scm H (fun h28 H => ?_) fun h28 H => ?_
 ·refine sxls hO eh.u H.1 H.2.1 fun p29 c30 tY => ?_
  refine sln0 ?_
  refine au ?_
  have h32 := H.1
  have h33 := H.2.1
  refine scm (H.2.2 tY.bd) (fun h34 H => ?_) fun h34 H => ?_
  ·refine au ?_
   refine zcr (J01 body154 rfl (J21 hO.lt tY.u H)) fun _ w36 => e1 fun r35 => sc0 hO fun s hO => fun H => ?_
   cases r35
   ·refine au ?_
    refine Go1.ret2 func131 rfl (Or.inl ⟨_, er, frs, (iF H)⟩)
   refine au ?_
   refine drs 1 [q0, q0, q0, q0, q0, q1, q0, q2, q2, q3, q0, q0, q0, q3] hO fun w37 s hO => ?_
   refine au ?_
   refine zcq rfl (J01 body86 rfl (J0t hO.lt tY.u (iT H))) fun _ w40 => e4 fun r38 xv lH lI => sq1 hO fun s hO => fun H => ?_
   refine sfz 0 hO fun s hO Lg Lh => ?_
   have zz := J1u (r := Rp.sl (Rp.int .i64)) (n := 1) (parts := [(0, .slice lH xv lI)]) (vs := [.slice lH xv lI]) (xs := [r38]) rfl underlying23 ti31 hO (by decide) (by kernel_rfl) (Els.cons rfl ⟨lH, lI, congrArg some (congrArg (fun nn => Value.slice lH nn lI) Lh), Lg⟩ (Els.nil _ _ _) (by simp [mx])) rfl
   obtain ⟨w44, p45, jN, kE, Li, Ep⟩ := zz
   refine GoQ.loud rfl (Ep rfl) Li rfl rfl ?_
   refine nst jN fun s hO => ?_
   refine sfzR 0 hO kE fun s hO t5 t6 => ?_
   obtain ⟨h53, H⟩ := H
   have zz := oapp underlying23 ti31 rfl 0 hO rfl dH.u t5 t6 h53 (by decide)
   obtain ⟨w54, p55, c56, T8, oN, y9, Er⟩ := zz
   dsimp only [sS, sZ] at y9
   refine GoQ.last rfl (Er (by exact rfl) (by exact rfl)) rfl rfl ?_
   refine nst oN fun s hO => ?_
   refine sbs 1 hO fun w62 s hO => ?_
   refine sinc (natbd h28 eh.bd) ?_
   refine au ?_
   exact hX1 _ H _ _ agr ⟨_, _, _, _, ⟨agr, hO, fr⟩, y9.u⟩
  refine au ?_
  refine Go1.ret2 func131 rfl (Or.inl ⟨_, er, frs, H⟩)
 refine au ?_
 cases a1
 ·refine au ?_
  refine zo (J0F underlying23 rfl (Els.neqW dH.u hO 0 rfl)) ?_
  refine au ?_
  have Et := Stp.nil (e := 31) (r := 1) hO
  refine nst Et fun s hO => ?_
  have Lj := elN (Rp.sl (Rp.int .i64)) hO
  refine snil Fl.i 3 hO fun s hO => ?_
  refine snil Fl.i 3 hO fun s hO => ?_
  refine snil (id Fl.fl : Fl rpRule) 185 hO fun s hO => ?_
  refine snil Fl.str 9 hO fun s hO => ?_
  refine snil Fl.i 3 hO fun s hO => ?_
  refine snil Fl.i 3 hO fun s hO => ?_
  refine lv [6, 9, 85, 86] hO (iF H) (fun E (gx, t7, t8, d_82, d_86, t9, d_94, d_98, f5) σ w => ∃ n77 p75 c76 n81 p79 c80 n85 p83 c84 n89 p87 c88 n93 p91 c92 n97 p95 c96 ua ub uc ud, (fun Z => Lo A w0 σ w [(87, .int .i64 (gx : Int))] Z ∧ Els (Rp.sl (Rp.int .i64)) (bl Z ++ A) w ud d_98 ∧ Els (Rp.sl (Rp.int .i64)) (bl Z ++ A) w jq d_22) [t1 Fl.i 3 p75 n77 c76 t7, t1 Fl.i 3 p79 n81 c80 t8, t1 Fl.str 9 p83 n85 c84 d_82, t1 (id Fl.fl : Fl rpRule) 185 p87 n89 c88 d_86, t1 Fl.i 3 p91 n93 c92 t9, t1 Fl.i 3 p95 n97 c96 d_94, .row 31 1 ub ua uc ud, .row 31 1 p25 n27 c26 jq, .blk B10 (.cells #[.int .i64 ((ix a0 (0 : Int)).length : Int), .bool false, .slice p25 n27 c26, .slice ub ua uc, .slice p95 n97 c96, .slice p91 n93 c92, .slice none 0 0, .slice p87 n89 c88, .int .i64 (0 : Int), .map (some B4), .slice p83 n85 c84, .slice p79 n81 c80, .slice p75 n77 c76] 156 (0, 0)), .any (mapE (fun a : List UInt8 => Value.string (gstr a)) (fun a : Int => Value.int .i64 a) B4 f5)]) ⟨_, _, _, _, _, _, _, _, _, _, _, _, _, _, _, _, _, _, _, _, _, _, ⟨agr, hO, fr⟩, Lj.u, dH.u⟩ ?_
  refine fun X2 => p1 fun gx => p1 fun t7 => p1 fun t8 => p1 fun d_82 => p1 fun d_86 => p3 fun t9 d_94 d_98 f5 => fun H hX2 σ w72 hk => e4 fun n77 p75 c76 n81 => e4 fun p79 c80 n85 p83 => e4 fun c84 n89 p87 c88 => e4 fun n93 p91 c92 n97 => e4 fun p95 c96 ua ub => e2 fun uc ud => d1 fun hL => d1 fun gP dH => d2 (fun hag hO hB => keep2 hk hag ?_) hL
  dsimp only at H
  revert hO; repeat (rename Owns .. => q; clear q)
  intro hO; repeat (rename Sq .. => q; clear q)
  refine scm H (fun ue H => ?_) fun ue H => ?_
  ·refine au ?_
   obtain ⟨jm, H⟩ := H
   obtain ⟨mm, H⟩ := H
   refine zo (J0b underlying23 ti31 rfl rfl jm (ltn (Els.neqW dH hO 7 rfl) mm) (Els.psomeW dH hO 7 rfl jm mm)) ?_
   have zz := oldSl 7 hO rfl dH jm mm
   obtain ⟨Lk, T9, lJ, Eu⟩ := zz
   refine zs (Eu underlying31 rfl rfl) ?_
   refine au ?_
   obtain ⟨iB, H⟩ := H
   refine zo (J06 rfl rfl (wrap_i64 iB)) ?_
   refine zo (J3o underlying3 underlying21 rfl rfl) ?_
   obtain ⟨jo, H⟩ := H
   obtain ⟨Ll, H⟩ := H
   refine zo (J4H underlying21 underlying9 rfl jo Ll) ?_
   refine au ?_
   refine drs 0 [q0, q0, q0, q1, q0, q2, q1, q0, q0, q0, q0, q0] hO fun Ua s hO => ?_
   refine au ?_
   refine zcq rfl (J01 body157 rfl (J0g hO.lt lJ.u H)) fun _ mC => e1 fun iG => sq0 hO fun s hO => d1 fun Q4 H => ?_
   by_cases gv : mhas f5 iG = true
   ·refine GoQ.stable rfl (olookT (a := iG) (MK.str underlying9) 9 hO rfl underlying154 rfl rfl gv) rfl rfl ?_
    refine au ?_
    refine drs 5 [q0, q0, q0, q0, q0, q1, q0, q0, q0, q0, q1, q0, q0, q1, q0, q2, q3, q0, q0, q0, q3] hO fun tH s hO => ?_
    refine sxl1 2 hO (ifp gv H).1 (ifp gv H).2.1 ?_
    have hle120 := t1le 2 hO (ifp gv H).1 (ifp gv H).2.1
    refine GoQ.pure rfl (J0a underlying185 ti185 (pl := [(0, 1), (1, 1)]) (vs := [(0, .string (gstr (chr (IntKind.i32.wrap ((97 : Int) + (gx : Int)))))), (1, .string (gstr (ix d_82 (mgt f5 iG))))]) (cs := #[.string (gstr (chr (IntKind.i32.wrap ((97 : Int) + (gx : Int))))), .string (gstr (ix d_82 (mgt f5 iG)))]) (by kernel_rfl) rfl (by kernel_rfl)) rfl rfl ?_
    refine sapF (⟨(chr (IntKind.i32.wrap ((97 : Int) + (gx : Int)))), ix d_82 (mgt f5 iG)⟩ : Rule) 3 hO (ifp gv H).2.2 (fun _ pc Ub Uc s hO => ?_) (hok := by exact ⟨(J7V _), hle120⟩)
    refine sbs 8 hO fun Ud s hO => ?_
    refine au ?_
    refine sap1 ((mgt f5 iG)) 0 hO (ifp gv H).2.2.2 fun _ uf Ln Lr s hO => ?_
    refine sbs 8 hO fun zc s hO => ?_
    refine sinc (natbd ue dH.bd) ?_
    refine au ?_
    exact hX2 _ (ifp gv H).2.2.2.2 _ _ agr ⟨_, _, _, _, _, _, _, _, _, _, _, _, _, _, _, _, _, _, _, _, _, _, ⟨agr, hO, fr⟩, gP.u, dH.u⟩
   refine GoQ.stable rfl (olookF (a := iG) (MK.str underlying9) 9 hO rfl underlying154 ti3 rfl rfl gv) rfl rfl ?_
   refine au ?_
   refine zcr (J01 body86 rfl (J0t hO.lt lJ.u (ifn gv H))) fun _ Ue => e4 fun r129 mD iH iI => sc1 hO fun s hO => fun H => ?_
   refine au ?_
   refine GoR.inl (vs := [.pointer (some ⟨B10, 0, none⟩), .slice iH mD iI, .int .i64 (-1 : Int), .int .i64 (gx : Int), .string (gstr (chr (IntKind.i32.wrap ((97 : Int) + (gx : Int))))), .int .i64 (-1 : Int)]) (caps := []) rfl rfl body155 func155 rfl ntmps155 rfl rfl rfl ?_
   intro RhR133 hR133
   refine au ?_
   refine zo (J0F underlying23 rfl (Els.neqW gP.u hO 7 rfl)) ?_
   refine au ?_
   refine drw 1 [(0, q0), (1, q0), (2, q0), (3, q1), (4, q0), (6, q0), (5, q2), (7, q3)] hO fun zd s hO => ?_
   refine au ?_
   have Ev := t1lend 0 hO
   have pe := t1n 0 hO
   have hOc137 := hO.drop 0
   refine zcq rfl (J01 body157 (by rw [pe]; exact rfl) (J0g hOc137.lt Ev H)) fun _ Lt => e1 fun Lu => sq0 hO fun s hO => d1 fun Q5 H => ?_
   have zz := omapUpd (MK.str underlying9) 10 hO rfl underlying154 Lu (d_98.length : Int)
   obtain ⟨Lv, zh, zj⟩ := zz
   refine GoQ.last rfl (zj (by exact rfl) (by exact rfl) (by exact rfl)) rfl rfl ?_
   refine nst zh fun s hO => ?_
   refine au ?_
   refine sfz 0 hO fun s hO Ew jO => ?_
   have zz := J1u (r := Rp.sl (Rp.int .i64)) (n := 1) (parts := [(0, .slice iH mD iI)]) (vs := [.slice iH mD iI]) (xs := [r129]) rfl underlying23 ti31 hO (by decide) (by kernel_rfl) (Els.cons rfl ⟨iH, iI, congrArg some (congrArg (fun nn => Value.slice iH nn iI) jO), Ew⟩ (Els.nil _ _ _) (by simp [mx])) rfl
   obtain ⟨zl, Lw, zu, Ex, Rn, zw⟩ := zz
   refine zg (zw rfl) ?_
   refine nst zu fun s hO => ?_
   refine sfzR 0 hO Ex.u fun s hO Ey pg => ?_
   obtain ⟨Lx, H⟩ := H
   have zz := oapp underlying23 ti31 rfl 6 hO rfl gP.u Ey pg Lx (by decide)
   obtain ⟨yM, Ly, Lz, Ro, zx, ik, zy⟩ := zz
   dsimp only [sS, sZ] at ik
   refine zg (zy (by exact rfl) (by exact rfl)) ?_
   refine nst zx fun s hO => ?_
   refine sbs 8 hO fun K5 s hO => ?_
   refine au ?_
   refine sap1 ((-1 : Int)) 5 hO H fun _ ph Uf Ug s hO => ?_
   refine sbs 8 hO fun yN s hO => ?_
   refine au ?_
   refine sap1 ((gx : Int)) 4 hO H.2 fun _ ug LA Uh s hO => ?_
   refine sbs 8 hO fun tI s hO => ?_
   refine au ?_
   refine sap1 ((chr (IntKind.i32.wrap ((97 : Int) + (gx : Int))))) 2 hO H.2.2 (fun _ zA jr kF s hO => ?_) (hR := by exact fun _ _ => ⟨rfl, (J7V _)⟩)
   refine sbs 8 hO fun K7 s hO => ?_
   refine au ?_
   refine sap1 ((-1 : Int)) 1 hO H.2.2.2 fun _ yP Ui Uj s hO => ?_
   refine sbs 8 hO fun LB s hO => ?_
   refine au ?_
   refine Go1.ret1V func155 rfl (show _ = .int .i64 (d_98.length : Int) from rfl) ?_
   refine hR133 _ _ ?_
   refine au ?_
   refine sap1 ((d_98.length : Int)) 0 hO H.2.2.2.2 fun _ LD Uk Ul s hO => ?_
   refine sbs 8 hO fun tJ s hO => ?_
   refine sinc (natbd ue dH.bd) ?_
   refine au ?_
   exact hX2 _ H.2.2.2.2.2 _ _ agr ⟨_, _, _, _, _, _, _, _, _, _, _, _, _, _, _, _, _, _, _, _, _, _, ⟨agr, hO, fr⟩, ik.u, dH.u⟩
  refine au ?_
  have zB := Stp.nil (e := 31) (r := 1) hO
  refine nst zB fun s hO => ?_
  have Ez := elN (Rp.sl (Rp.int .i64)) hO
  refine sfr 10 hO fun s hO => ?_
  refine sfr 2 hO fun s hO => ?_
  refine sfr 3 hO fun s hO => ?_
  refine sfr 4 hO fun s hO => ?_
  refine sfr 5 hO fun s hO => ?_
  refine sfr 5 hO fun s hO => ?_
  refine sfr 6 hO fun s hO => ?_
  refine sfr 7 hO fun s hO => ?_
  refine sfr 8 hO fun s hO => ?_
  refine sfr 9 hO fun s hO => ?_
  refine sfr 10 hO fun s hO => ?_
  refine Go1.ret2 func131 rfl (Or.inr ⟨(⟨(⟨((ix a0 (0 : Int)).length : Int), false, d_22, d_98, d_94, t9, ([] : List (List Int)), d_86, (0 : Int)⟩ : Enum), f5, d_82, t8, t7⟩ : run), _, _, _, _, _, _, _, _, _, _, _, _, _, _, _, _, _, _, _, _, _, _, _, _, _, _, _, _, _, _, _, _, _, er, frs, hO, dH.u, gP.u, Ez.u, H⟩)
 refine au ?_
 refine zcr (J01 body156 rfl (J4r hO.lt (iT H))) fun _ yS => e3 fun r187 jP jQ => sc0 hO fun s hO => d1 fun sR H => ?_
 refine GoR.inl (vs := [.pointer (some ⟨B10, 0, none⟩), .slice jP r187.length jQ, .int .i64 (-1 : Int), .int .i64 (-1 : Int), .string (gstr (([] : Str))), .int .i64 (-1 : Int)]) (caps := []) rfl rfl body155 func155 rfl ntmps155 rfl rfl rfl ?_
 intro RhR189 hR189
 refine sln0 ?_
 refine au ?_
 refine drw 1 [(0, q0), (1, q0), (2, q0), (3, q1), (4, q0), (6, q0), (5, q2), (7, q3)] hO fun LE s hO => ?_
 refine au ?_
 refine zcq rfl (J01 body157 rfl (J0g hO.lt sR.u H)) fun _ Um => e1 fun r191 => sq0 hO fun s hO => d1 fun Q6 H => ?_
 have zz := omapUpd (MK.str underlying9) 2 hO rfl underlying154 r191 (0 : Int)
 obtain ⟨LF, zC, zD⟩ := zz
 refine GoQ.last rfl (zD (by exact rfl) (by exact rfl) (by exact rfl)) rfl rfl ?_
 refine nst zC fun s hO => ?_
 refine au ?_
 have zz := J1u (r := Rp.sl (Rp.int .i64)) (n := 1) (parts := [(0, .slice jP r187.length jQ)]) (vs := [.slice jP r187.length jQ]) (xs := [r187]) rfl underlying23 ti31 hO (by decide) (by kernel_rfl) (Els.cons rfl ⟨jP, jQ, rfl, sR.u⟩ (Els.nil _ _ _) (by simp [mx])) rfl
 obtain ⟨zE, zF, zG, EA, Rq, zH⟩ := zz
 refine zg (zH rfl) ?_
 refine nst zG fun s hO => ?_
 refine sfzR 0 hO EA fun s hO EB EC => ?_
 have zJ := Stp.nil (e := 31) (r := 1) hO
 refine nst zJ fun s hO => ?_
 have ED := elN (Rp.sl (Rp.int .i64)) hO
 obtain ⟨LG, H⟩ := H
 have zz := oapp underlying23 ti31 rfl 0 hO rfl ED EB.u EC LG (by decide)
 obtain ⟨LH, LI, LJ, Rr, zK, i9, mE⟩ := zz
 dsimp only [sS, sZ] at i9
 refine zg (mE (by exact rfl) (by exact rfl)) ?_
 refine nst zK fun s hO => ?_
 refine sbs 2 hO fun pk s hO => ?_
 refine au ?_
 refine snil Fl.i 3 hO fun s hO => ?_
 refine sap1 ((-1 : Int)) 0 hO H fun _ LK po pp s hO => ?_
 refine sbs 3 hO fun LN s hO => ?_
 refine au ?_
 refine snil Fl.i 3 hO fun s hO => ?_
 refine sap1 ((-1 : Int)) 0 hO H.2 fun _ Un Uo Up s hO => ?_
 refine sbs 4 hO fun zL s hO => ?_
 refine au ?_
 refine snil Fl.str 9 hO fun s hO => ?_
 refine sap1 ((([] : Str))) 0 hO H.2.2 (fun _ Uq Ur Us s hO => ?_) (hR := by exact fun _ _ => ⟨rfl, (by decide)⟩)
 refine sbs 5 hO fun Ut s hO => ?_
 refine au ?_
 refine snil Fl.i 3 hO fun s hO => ?_
 refine sap1 ((-1 : Int)) 0 hO H.2.2.2 fun _ zM Uu Uv s hO => ?_
 refine sbs 6 hO fun uh s hO => ?_
 refine au ?_
 refine Go1.ret1V func155 rfl (show _ = .int .i64 (0 : Int) from rfl) ?_
 refine hR189 _ _ ?_
 refine au ?_
 refine zo (J0F underlying23 rfl (Els.neqW dH.u hO 5 rfl)) ?_
 refine au ?_
 refine snil (id Fl.fl : Fl rpRule) 185 hO fun s hO => ?_
 refine snil Fl.i 3 hO fun s hO => ?_
 refine lv [6, 9, 85, 86] hO H.2.2.2.2 (fun E (fD, pq, d_246, pt, ja, d_258, pv, jb, f6) σ w => ∃ ui mF mG uj uk ul um uo uq ur ut uu uv uw ux uy uz uA uB uC uD lK, (fun Z => Lo A w0 σ w [(87, .int .i64 (fD : Int))] Z ∧ Els (Rp.sl (Rp.int .i64)) (bl Z ++ A) w lK jb ∧ Els (Rp.sl (Rp.int .i64)) (bl Z ++ A) w jq d_22) [t1 Fl.i 3 mF ui mG pq, t1 (id Fl.fl : Fl rpRule) 185 uk uj ul d_246, t1 Fl.i 3 uo um uq pt, t1 Fl.str 9 ut ur uu ja, t1 Fl.i 3 uw uv ux d_258, t1 Fl.i 3 uz uy uA pv, .row 31 1 uC uB uD lK, .row 31 1 p25 n27 c26 jq, .blk B10 (.cells #[.int .i64 ((ix a0 (0 : Int)).length : Int), .bool true, .slice p25 n27 c26, .slice uC uB uD, .slice uz uy uA, .slice uw uv ux, .slice none 0 0, .slice uk uj ul, .int .i64 (0 : Int), .map (some B4), .slice ut ur uu, .slice uo um uq, .slice mF ui mG] 156 (0, 0)), .any (mapE (fun a : List UInt8 => Value.string (gstr a)) (fun a : Int => Value.int .i64 a) B4 f6)]) ⟨_, _, _, _, _, _, _, _, _, _, _, _, _, _, _, _, _, _, _, _, _, _, ⟨agr, hO, fr⟩, i9.u, dH.u⟩ ?_
 refine fun X3 => p1 fun fD => p1 fun pq => p1 fun d_246 => p1 fun pt => p1 fun ja => p3 fun d_258 pv jb f6 => fun H hX3 σ Uw hk => e4 fun ui mF mG uj => e4 fun uk ul um uo => e4 fun uq ur ut uu => e4 fun uv uw ux uy => e4 fun uz uA uB uC => e2 fun uD lK => d1 fun hL => d1 fun fo dH => d2 (fun hag hO hB => keep2 hk hag ?_) hL
 dsimp only at H
 revert hO; repeat (rename Owns .. => q; clear q)
 intro hO; repeat (rename Sq .. => q; clear q)
 refine scm H (fun uE H => ?_) fun uE H => ?_
 ·refine au ?_
  obtain ⟨kG, H⟩ := H
  obtain ⟨pC, H⟩ := H
  refine zo (J0b underlying23 ti31 rfl rfl kG (ltn (Els.neqW dH hO 7 rfl) pC) (Els.psomeW dH hO 7 rfl kG pC)) ?_
  have zz := oldSl 7 hO rfl dH kG pC
  obtain ⟨LO, LP, xw, EE⟩ := zz
  refine zs (EE underlying31 rfl rfl) ?_
  refine au ?_
  obtain ⟨LQ, H⟩ := H
  refine zo (J06 rfl rfl (wrap_i64 LQ)) ?_
  refine zo (J3o underlying3 underlying21 rfl rfl) ?_
  obtain ⟨uF, H⟩ := H
  obtain ⟨LS, H⟩ := H
  refine zo (J4H underlying21 underlying9 rfl uF LS) ?_
  refine au ?_
  refine drs 0 [q0, q0, q0, q1, q0, q2, q1, q0, q0, q0, q0, q0] hO fun zN s hO => ?_
  refine au ?_
  refine zcq rfl (J01 body157 rfl (J0g hO.lt xw.u H)) fun _ LT => e1 fun jt => sq0 hO fun s hO => d1 fun Q7 H => ?_
  by_cases gD : mhas f6 jt = true
  ·refine GoQ.stable rfl (olookT (a := jt) (MK.str underlying9) 9 hO rfl underlying154 rfl rfl gD) rfl rfl ?_
   refine au ?_
   refine drs 5 [q0, q0, q0, q0, q0, q1, q0, q0, q0, q0, q1, q0, q0, q1, q0, q2, q3, q0, q0, q0, q3] hO fun Ux s hO => ?_
   refine sxl1 3 hO (ifp gD H).1 (ifp gD H).2.1 ?_
   have hle288 := t1le 3 hO (ifp gD H).1 (ifp gD H).2.1
   refine GoQ.pure rfl (J0a underlying185 ti185 (pl := [(0, 1), (1, 1)]) (vs := [(0, .string (gstr (chr (IntKind.i32.wrap ((97 : Int) + (fD : Int)))))), (1, .string (gstr (ix ja (mgt f6 jt))))]) (cs := #[.string (gstr (chr (IntKind.i32.wrap ((97 : Int) + (fD : Int))))), .string (gstr (ix ja (mgt f6 jt)))]) (by kernel_rfl) rfl (by kernel_rfl)) rfl rfl ?_
   refine sapF (⟨(chr (IntKind.i32.wrap ((97 : Int) + (fD : Int)))), ix ja (mgt f6 jt)⟩ : Rule) 1 hO (ifp gD H).2.2 (fun _ zO LU LV s hO => ?_) (hok := by exact ⟨(J7V _), hle288⟩)
   refine sbs 8 hO fun zP s hO => ?_
   refine au ?_
   refine sap1 ((mgt f6 jt)) 0 hO (ifp gD H).2.2.2 fun _ uG LX LY s hO => ?_
   refine sbs 8 hO fun Uy s hO => ?_
   refine sinc (natbd uE dH.bd) ?_
   refine au ?_
   exact hX3 _ (ifp gD H).2.2.2.2 _ _ agr ⟨_, _, _, _, _, _, _, _, _, _, _, _, _, _, _, _, _, _, _, _, _, _, ⟨agr, hO, fr⟩, fo.u, dH.u⟩
  refine GoQ.stable rfl (olookF (a := jt) (MK.str underlying9) 9 hO rfl underlying154 ti3 rfl rfl gD) rfl rfl ?_
  refine au ?_
  refine zcr (J01 body86 rfl (J0t hO.lt xw.u (ifn gD H))) fun _ zQ => e4 fun L5 mH iJ iK => sc1 hO fun s hO => fun H => ?_
  refine au ?_
  refine GoR.inl (vs := [.pointer (some ⟨B10, 0, none⟩), .slice iJ mH iK, .int .i64 (0 : Int), .int .i64 (fD : Int), .string (gstr (chr (IntKind.i32.wrap ((97 : Int) + (fD : Int))))), .int .i64 (0 : Int)]) (caps := []) rfl rfl body155 func155 rfl ntmps155 rfl rfl rfl ?_
  intro RhR301 hR301
  refine au ?_
  refine zo (J0F underlying23 rfl (Els.neqW fo.u hO 7 rfl)) ?_
  refine au ?_
  refine drw 1 [(0, q0), (1, q0), (2, q0), (3, q1), (4, q0), (6, q0), (5, q2), (7, q3)] hO fun Uz s hO => ?_
  refine au ?_
  have EF := t1lend 0 hO
  have EG := t1n 0 hO
  have hOc305 := hO.drop 0
  refine zcq rfl (J01 body157 (by rw [EG]; exact rfl) (J0g hOc305.lt EF H)) fun _ L6 => e1 fun r306 => sq0 hO fun s hO => d1 fun Q8 H => ?_
  have zz := omapUpd (MK.str underlying9) 10 hO rfl underlying154 r306 (jb.length : Int)
  obtain ⟨UA, zR, zS⟩ := zz
  refine GoQ.last rfl (zS (by exact rfl) (by exact rfl) (by exact rfl)) rfl rfl ?_
  refine nst zR fun s hO => ?_
  refine au ?_
  refine sfz 0 hO fun s hO EH EI => ?_
  have zz := J1u (r := Rp.sl (Rp.int .i64)) (n := 1) (parts := [(0, .slice iJ mH iK)]) (vs := [.slice iJ mH iK]) (xs := [L5]) rfl underlying23 ti31 hO (by decide) (by kernel_rfl) (Els.cons rfl ⟨iJ, iK, congrArg some (congrArg (fun nn => Value.slice iJ nn iK) EI), EH⟩ (Els.nil _ _ _) (by simp [mx])) rfl
  obtain ⟨pD, L7, zT, EJ, Rs, zU⟩ := zz
  refine zg (zU rfl) ?_
  refine nst zT fun s hO => ?_
  refine sfzR 0 hO EJ fun s hO EK EL => ?_
  obtain ⟨L8, H⟩ := H
  have zz := oapp underlying23 ti31 rfl 6 hO rfl fo.u EK EL L8 (by decide)
  obtain ⟨L9, Ma, Mc, Rt, zV, xz, zW⟩ := zz
  dsimp only [sS, sZ] at xz
  refine zg (zW (by exact rfl) (by exact rfl)) ?_
  refine nst zV fun s hO => ?_
  refine sbs 8 hO fun UB s hO => ?_
  refine au ?_
  refine sap1 ((0 : Int)) 5 hO H fun _ zX Me Mf s hO => ?_
  refine sbs 8 hO fun UC s hO => ?_
  refine au ?_
  refine sap1 ((fD : Int)) 4 hO H.2 fun _ Mg Mh UD s hO => ?_
  refine sbs 8 hO fun zY s hO => ?_
  refine au ?_
  refine sap1 ((chr (IntKind.i32.wrap ((97 : Int) + (fD : Int))))) 3 hO H.2.2 (fun _ z3 z4 UE s hO => ?_) (hR := by exact fun _ _ => ⟨rfl, (J7V _)⟩)
  refine sbs 8 hO fun z5 s hO => ?_
  refine au ?_
  refine sap1 ((0 : Int)) 2 hO H.2.2.2 fun _ UG UH UI s hO => ?_
  refine sbs 8 hO fun Mi s hO => ?_
  refine au ?_
  refine Go1.ret1V func155 rfl (show _ = .int .i64 (jb.length : Int) from rfl) ?_
  refine hR301 _ _ ?_
  refine au ?_
  refine sap1 ((jb.length : Int)) 0 hO H.2.2.2.2 fun _ Mj Mk Ml s hO => ?_
  refine sbs 8 hO fun Mm s hO => ?_
  refine sinc (natbd uE dH.bd) ?_
  refine au ?_
  exact hX3 _ H.2.2.2.2.2 _ _ agr ⟨_, _, _, _, _, _, _, _, _, _, _, _, _, _, _, _, _, _, _, _, _, _, ⟨agr, hO, fr⟩, xz.u, dH.u⟩
 refine au ?_
 have z6 := Stp.nil (e := 31) (r := 1) hO
 refine nst z6 fun s hO => ?_
 have EM := elN (Rp.sl (Rp.int .i64)) hO
 refine sfr 10 hO fun s hO => ?_
 refine sfr 2 hO fun s hO => ?_
 refine sfr 4 hO fun s hO => ?_
 refine sfr 5 hO fun s hO => ?_
 refine sfr 5 hO fun s hO => ?_
 refine sfr 5 hO fun s hO => ?_
 refine sfr 6 hO fun s hO => ?_
 refine sfr 7 hO fun s hO => ?_
 refine sfr 8 hO fun s hO => ?_
 refine sfr 9 hO fun s hO => ?_
 refine sfr 10 hO fun s hO => ?_
 refine Go1.ret2 func131 rfl (Or.inr ⟨(⟨(⟨((ix a0 (0 : Int)).length : Int), true, d_22, jb, pv, d_258, ([] : List (List Int)), d_246, (0 : Int)⟩ : Enum), f6, ja, pt, pq⟩ : run), _, _, _, _, _, _, _, _, _, _, _, _, _, _, _, _, _, _, _, _, _, _, _, _, _, _, _, _, _, _, _, _, _, er, frs, hO, dH.u, fo.u, EM.u, H⟩)
theorem body158 : Body prog 158 := ⟨f158, func158, rfl, by kernel_rfl⟩
theorem J53 {p_f p_g : Option Addr} {c_f c_g : Nat} {f g : List Int} (hA : HA0 A w0) (h_f : ISi A w0 p_f c_f f) (h_g : ISi A w0 p_g c_g g) {K : List Int → Prop} (H : J1E f g K) :
    CallsV prog 158 #[.slice p_f f.length c_f, .slice p_g g.length c_g] w0 (fun v w' => ∃ (r0 : List Int), ∃ (p_r0 : Option Addr), ∃ (c_r0 : Nat), v = .slice p_r0 r0.length c_r0 ∧ Same w0 w' ∧ ISi A w' p_r0 c_r0 r0 ∧ K r0) := by
 refine cal hA func158 ntmps158 fun hO hB => ?_
 unfold J1E at H
 refine sln0 ?_
 refine sln0 ?_
 refine scm ((H h_f.bd) h_g.bd) (fun h1 H => ?_) fun h1 H => ?_
 ·refine au ?_
  refine zcr (J01 body154 rfl (J21 hO.lt h_f.u H)) fun _ w3 => e1 fun r2 => sc0 hO fun s hO => fun H => ?_
  cases r2
  ·refine au ?_
   refine Go1.ret1 func158 rfl ⟨_, _, _, er, frs, (ISl.null _ _ _), (iF H)⟩
  refine au ?_
  refine zcr (J01 body154 rfl (J21 hO.lt h_g.u (iT H))) fun _ w5 => e1 fun r4 => sc0 hO fun s hO => fun H => ?_
  cases r4
  ·refine au ?_
   refine Go1.ret1 func158 rfl ⟨_, _, _, er, frs, (ISl.null _ _ _), (iF H)⟩
  refine sln0 ?_
  refine smk Fl.i (iT H) hO fun w6 p7 s hO => ?_
  refine sln0 ?_
  refine au ?_
  refine lv [1, 5, 26, 27] hO (iT H).2.2 (fun E (pE, xA) σ w => Lo A w0 σ w [(28, .int .i64 (pE : Int))] [t1 Fl.i 3 p7 f.length f.length xA]) ⟨agr, hO, fr⟩ ?_
  refine fun X1 => p1 fun pE xA => fun H hX1 σ w9 hk => d2 fun hag hO hB => keep2 hk hag ?_
  dsimp only at H
  revert hO; repeat (rename Owns .. => q; clear q)
  intro hO; repeat (rename Sq .. => q; clear q)
  refine scm H (fun h12 H => ?_) fun h12 H => ?_
  ·refine sxl hO h_f.u H.1 H.2.1 ?_
   refine sxl hO h_g.u H.2.2.1 H.2.2.2.1 ?_
   refine six1 0 hO H.2.2.2.2.1 H.2.2.2.2.2.1 ?_
   refine sst (u := (ix g (ix f (pE : Int)))) 0 hO H.2.2.2.2.1 H.2.2.2.2.2.1 fun w13 s hO => ?_
   refine sinc (natbd h12 h_f.bd) ?_
   refine au ?_
   exact hX1 _ H.2.2.2.2.2.2 _ _ agr ⟨agr, hO, fr⟩
  refine au ?_
  refine sfz 0 hO fun s hO jp g5 => ?_
  refine Go1.ret1 func158 rfl ⟨_, _, _, ?_, frs, jp.r, H⟩
  exact (congrArg (fun nn => Value.slice p7 nn f.length) g5)
 refine au ?_
 refine Go1.ret1 func158 rfl ⟨_, _, _, er, frs, (ISl.null _ _ _), H⟩
end Sg
