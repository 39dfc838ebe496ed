/- -/
import Derived.Test.YtlneebpmblkllaaVd
namespace Sg
open Go Go.RowKit Go.Proofs Try
set_option linter.unusedVariables false
set_option linter.unusedSimpArgs false
set_option maxRecDepth 100000
set_option maxHeartbeats 4000000
variable {A : List Nat} {w0 : World}
theorem body59 : Body prog 59 := ⟨f59, func59, rfl, by kernel_rfl⟩
theorem J2f {letters : Int} (hA : HA0 A w0) {K : Bool → Prop} (H : J0v letters K) :
    CallsV prog 59 #[.int .i64 letters] w0 (fun v w' => ∃ (r0 : Bool), v = .bool r0 ∧ Same w0 w' ∧ K r0) := by
 refine cal hA func59 ntmps59 fun hO hB => ?_
 unfold J0v at H
 refine scm H (fun h1 H => ?_) fun h1 H => ?_
 ·refine scm H (fun h2 H => ?_) fun h2 H => ?_
  ·refine au ?_
   refine Go1.ret1 func59 rfl ⟨_, er, frs, H⟩
  refine au ?_
  refine Go1.ret1 func59 rfl ⟨_, er, frs, H⟩
 refine au ?_
 refine Go1.ret1 func59 rfl ⟨_, er, frs, H⟩
theorem body16 : Body prog 16 := ⟨f16, func16, rfl, by kernel_rfl⟩
theorem J2Q {aL ba : Option Addr} {aM bc : Nat} {d : DFA} (hA : HA0 A w0) (aK : ISb A w0 aL aM d.Final) (bn : ISs A w0 ba bc d.Next) {K : Int → Prop} (H : J0U d K) :
    CallsV prog 16 #[.agg (cDF d aL aM ba bc)] w0 (fun v w' => ∃ (r0 : Int), v = .int .i64 r0 ∧ Same w0 w' ∧ K r0) := by
 refine cal hA func16 ntmps16 fun hO hB => ?_
 unfold J0U at H
 refine sbx hO fun w1 B2 s hO => ?_
 refine sln0 ?_
 refine au ?_
 refine zcr (J01 body59 rfl (J2f hO.lt (H aK.bd))) fun _ w5 => e1 fun r4 => sc0 hO fun s hO => fun H => ?_
 cases r4
 ·refine au ?_
  refine Go1.ret1 func16 rfl ⟨_, er, frs, (iF H)⟩
 refine scm (iT H) (fun h6 H => ?_) fun h6 H => ?_
 ·refine au ?_
  refine Go1.ret1 func16 rfl ⟨_, er, frs, H⟩
 refine scm H (fun h7 H => ?_) fun h7 H => ?_
 ·refine au ?_
  refine Go1.ret1 func16 rfl ⟨_, er, frs, H⟩
 refine sln0 ?_
 refine scm (H bn.bd) (fun h8 H => ?_) fun h8 H => ?_
 ·refine scm H (fun h9 H => ?_) fun h9 H => ?_
  ·refine au ?_
   refine Go1.ret1 func16 rfl ⟨_, er, frs, H⟩
  refine scm H (fun h10 H => ?_) fun h10 H => ?_
  ·refine au ?_
   refine Go1.ret1 func16 rfl ⟨_, er, frs, H⟩
  refine sln0 ?_
  refine au ?_
  refine lv [1, 3, 38, 39] hO H (fun E k1_12 σ w => Lo A w0 σ w [(40, .int .i64 (k1_12 : Int))] E) ⟨agr, hO, fr⟩ ?_
  refine fun X1 => fun k1_12 => fun H hX1 σ w11 hk => d2 fun hag hO hB => keep2 hk hag ?_
  revert hO; repeat (rename Owns .. => q; clear q)
  intro hO; repeat (rename Sq .. => q; clear q)
  refine scm H (fun h13 H => ?_) fun h13 H => ?_
  ·refine sxls hO bn.u H.1 H.2.1 fun p14 c15 ic => ?_
   refine sln0 ?_
   refine au ?_
   have h17 := H.1
   have h18 := H.2.1
   refine scm (H.2.2 ic.bd) (fun h19 H => ?_) fun h19 H => ?_
   ·refine sln0 ?_
    refine au ?_
    refine lv [1, 3, 38, 39, 40, 49, 50] hO H (fun E x9 σ w => (fun Z => Lo A w0 σ w [(51, .int .i64 (x9 : Int))] Z ∧ ISi (bl Z ++ A) w p14 c15 (ix d.Next (k1_12 : Int))) E) ⟨⟨agr, hO, fr⟩, ic.u⟩ ?_
    refine fun X2 => fun x9 => fun H hX2 σ w20 hk => d1 fun hL => fun ic => d2 (fun hag hO hB => keep2 hk hag ?_) hL
    revert hO; repeat (rename Owns .. => q; clear q)
    intro hO; repeat (rename Sq .. => q; clear q)
    refine scm H (fun h22 H => ?_) fun h22 H => ?_
    ·refine sxl hO ic H.1 H.2.1 ?_
     refine au ?_
     have h23 := H.1
     have h24 := H.2.1
     refine scm H.2.2 (fun h25 H => ?_) fun h25 H => ?_
     ·refine au ?_
      refine Go1.ret1 func16 rfl ⟨_, er, frs, H⟩
     refine scm H (fun h26 H => ?_) fun h26 H => ?_
     ·refine au ?_
      refine Go1.ret1 func16 rfl ⟨_, er, frs, H⟩
     refine sinc (natbd h22 ic.bd) ?_
     refine au ?_
     exact hX2 _ H _ _ agr ⟨⟨agr, hO, fr⟩, ic⟩
    refine sinc (natbd h13 bn.bd) ?_
    refine au ?_
    exact hX1 _ H _ _ agr ⟨agr, hO, fr⟩
   refine au ?_
   refine Go1.ret1 func16 rfl ⟨_, er, frs, H⟩
  refine au ?_
  refine Go1.ret1 func16 rfl ⟨_, er, frs, H⟩
 refine au ?_
 refine Go1.ret1 func16 rfl ⟨_, er, frs, H⟩
theorem body17 : Body prog 17 := ⟨f17, func17, rfl, by kernel_rfl⟩
theorem J42 {aL ba : Option Addr} {aM bc : Nat} {d : DFA} {most : Int} (hA : HA0 A w0) (aK : ISb A w0 aL aM d.Final) (bn : ISs A w0 ba bc d.Next) {K : Bool → Prop} (H : law21_small d most K) :
    CallsV prog 17 #[.agg (cDF d aL aM ba bc), .int .i64 most] w0 (fun v w' => ∃ (r0 : Bool), v = .bool r0 ∧ Same w0 w' ∧ K r0) := by
 refine cal hA func17 ntmps17 fun hO hB => ?_
 unfold law21_small at H
 refine sbx hO fun w1 B2 s hO => ?_
 refine sln0 ?_
 refine scm (H aK.bd) (fun h4 H => ?_) fun h4 H => ?_
 ·refine scm H (fun h5 H => ?_) fun h5 H => ?_
  ·refine sag 0 hO ?_
   refine zcr (J01 body16 rfl (J2Q hO.lt aK.u bn.u H)) fun _ w7 => e1 fun r6 => sc0 hO fun s hO => fun H => ?_
   refine scm H (fun h8 H => ?_) fun h8 H => ?_
   ·refine au ?_
    refine Go1.ret1 func17 rfl ⟨_, er, frs, H⟩
   refine au ?_
   refine Go1.ret1 func17 rfl ⟨_, er, frs, H⟩
  refine au ?_
  refine Go1.ret1 func17 rfl ⟨_, er, frs, H⟩
 refine au ?_
 refine Go1.ret1 func17 rfl ⟨_, er, frs, H⟩
theorem body60 : Body prog 60 := ⟨f60, func60, rfl, by kernel_rfl⟩
theorem J7m (hA : HA0 A w0) {K : DFA → Prop} (H : law21_ab  K) :
    CallsV prog 60 #[] w0 (fun v w' => ∃ (r0 : DFA), ∃ (aI : Option Addr), ∃ (aJ : Nat), ∃ (aT : Option Addr), ∃ (aU : Nat), v = .agg (cDF r0 aI aJ aT aU) ∧ Same w0 w' ∧ ISb A w' aI aJ r0.Final ∧ ISs A w' aT aU r0.Next ∧ K r0) := by
 refine cal hA func60 ntmps60 fun hO hB => ?_
 unfold law21_ab at H
 refine sal hO fun w1 B2 s hO => ?_
 refine sbu Fl.bool 4 [true, false, false] hO fun w4 p5 s hO => ?_
 refine sbu Fl.i 3 [(1 : Int), (2 : Int)] hO fun w7 p8 s hO => ?_
 refine sbu Fl.i 3 [(2 : Int), (0 : Int)] hO fun w10 p11 s hO => ?_
 refine sbu Fl.i 3 [(2 : Int), (2 : Int)] hO fun w13 p14 s hO => ?_
 refine sfz 2 hO fun s hO ic Lu => ?_
 refine sfz 1 hO fun s hO Lv Lw => ?_
 refine sfz 0 hO fun s hO Lx Ly => ?_
 have zz := J1P (r := Rp.sl (Rp.int .i64)) (n := 3) (parts := [(0, .slice p8 2 2), (1, .slice p11 2 2), (2, .slice p14 2 2)]) (vs := [.slice p8 2 2, .slice p11 2 2, .slice p14 2 2]) (xs := [[(1 : Int), (2 : Int)], [(2 : Int), (0 : Int)], [(2 : Int), (2 : Int)]]) rfl underlying23 ti31 hO (by decide) (by kernel_rfl) (Els.cons rfl ⟨p8, 2, congrArg some (congrArg (fun nn => Value.slice p8 nn 2) Lu), ic.u⟩ (Els.cons rfl ⟨p11, 2, congrArg some (congrArg (fun nn => Value.slice p11 nn 2) Lw), Lv.u⟩ (Els.cons rfl ⟨p14, 2, congrArg some (congrArg (fun nn => Value.slice p14 nn 2) Ly), Lx⟩ (Els.nil _ _ _) (by simp [mx])) (by simp [mx])) (by simp [mx])) rfl
 obtain ⟨w22, p23, pD, Lz, UB, pE⟩ := zz
 refine zg (pE rfl) ?_
 refine nst pD fun s hO => ?_
 refine zo (J04 underlying25 ti25 (pl := [(0, 1), (1, 1), (2, 1), (3, 1)]) (vs := [(0, .int .i64 (2 : Int)), (2, .slice p5 3 3), (3, .slice p23 3 3)]) (cs := #[.int .i64 (2 : Int), .int .i64 (0 : Int), .slice p5 3 3, .slice p23 3 3]) (by kernel_rfl) rfl (by kernel_rfl)) ?_
 refine sba 2 hO fun w29 s hO => ?_
 refine au ?_
 refine sfz 1 hO fun s hO iu uw => ?_
 refine sfzR 0 hO Lz.u fun s hO dJ LA => ?_
 refine Go1.retC1 func60 rfl rfl (rlb 0 hO) ⟨((⟨(2 : Int), (0 : Int), [true, false, false], [[(1 : Int), (2 : Int)], [(2 : Int), (0 : Int)], [(2 : Int), (2 : Int)]]⟩ : DFA)), _, _, _, _, ?_, frs, iu.r, dJ.r, H⟩
 exact (congrArg (fun l => Value.agg (List.toArray l)) (J02 rfl (J02 rfl (J02 (congrArg (fun nn => Value.slice p5 nn 3) uw) (J02 (congrArg (fun nn => Value.slice p23 nn 3) LA) rfl)))))
theorem body61 : Body prog 61 := ⟨f61, func61, rfl, by kernel_rfl⟩
theorem J0q {aL ba : Option Addr} {aM bc : Nat} {d : DFA} (hA : HA0 A w0) (aK : ISb A w0 aL aM d.Final) (bn : ISs A w0 ba bc d.Next) {K : Int → Prop} (H : J0p d K) :
    CallsV prog 61 #[.agg (cDF d aL aM ba bc)] w0 (fun v w' => ∃ (r0 : Int), v = .int .i64 r0 ∧ Same w0 w' ∧ K r0) := by
 refine cal hA func61 ntmps61 fun hO hB => ?_
 unfold J0p at H
 refine sbx hO fun w1 B2 s hO => ?_
 refine scm H (fun h4 H => ?_) fun h4 H => ?_
 ·refine au ?_
  refine Go1.ret1 func61 rfl ⟨_, er, frs, H⟩
 refine scm H (fun h5 H => ?_) fun h5 H => ?_
 ·refine au ?_
  refine Go1.ret1 func61 rfl ⟨_, er, frs, H⟩
 refine sln0 ?_
 refine scm (H aK.bd) (fun h6 H => ?_) fun h6 H => ?_
 ·refine au ?_
  refine Go1.ret1 func61 rfl ⟨_, er, frs, H⟩
 refine sln0 ?_
 refine scm (H bn.bd) (fun h7 H => ?_) fun h7 H => ?_
 ·refine scm H (fun h8 H => ?_) fun h8 H => ?_
  ·refine au ?_
   refine Go1.ret1 func61 rfl ⟨_, er, frs, H⟩
  refine scm H (fun h9 H => ?_) fun h9 H => ?_
  ·refine au ?_
   refine Go1.ret1 func61 rfl ⟨_, er, frs, H⟩
  refine sln0 ?_
  refine au ?_
  refine lv [1, 3, 38, 39] hO H (fun E k1_11 σ w => Lo A w0 σ w [(40, .int .i64 (k1_11 : Int))] E) ⟨agr, hO, fr⟩ ?_
  refine fun X1 => fun k1_11 => fun H hX1 σ w10 hk => d2 fun hag hO hB => keep2 hk hag ?_
  revert hO; repeat (rename Owns .. => q; clear q)
  intro hO; repeat (rename Sq .. => q; clear q)
  refine scm H (fun h12 H => ?_) fun h12 H => ?_
  ·refine sxls hO bn.u H.1 H.2.1 fun p13 c14 iO => ?_
   refine sln0 ?_
   refine au ?_
   have h16 := H.1
   have h17 := H.2.1
   refine scm (H.2.2 iO.bd) (fun h18 H => ?_) fun h18 H => ?_
   ·refine sln0 ?_
    refine au ?_
    refine lv [1, 3, 38, 39, 40, 49, 50] hO H (fun E ya σ w => (fun Z => Lo A w0 σ w [(51, .int .i64 (ya : Int))] Z ∧ ISi (bl Z ++ A) w p13 c14 (ix d.Next (k1_11 : Int))) E) ⟨⟨agr, hO, fr⟩, iO.u⟩ ?_
    refine fun X2 => fun ya => fun H hX2 σ w19 hk => d1 fun hL => fun iO => d2 (fun hag hO hB => keep2 hk hag ?_) hL
    revert hO; repeat (rename Owns .. => q; clear q)
    intro hO; repeat (rename Sq .. => q; clear q)
    refine scm H (fun h21 H => ?_) fun h21 H => ?_
    ·refine sxl hO iO H.1 H.2.1 ?_
     refine au ?_
     have h22 := H.1
     have h23 := H.2.1
     refine scm H.2.2 (fun h24 H => ?_) fun h24 H => ?_
     ·refine au ?_
      refine Go1.ret1 func61 rfl ⟨_, er, frs, H⟩
     refine scm H (fun h25 H => ?_) fun h25 H => ?_
     ·refine au ?_
      refine Go1.ret1 func61 rfl ⟨_, er, frs, H⟩
     refine sinc (natbd h21 iO.bd) ?_
     refine au ?_
     exact hX2 _ H _ _ agr ⟨⟨agr, hO, fr⟩, iO⟩
    refine sinc (natbd h12 bn.bd) ?_
    refine au ?_
    exact hX1 _ H _ _ agr ⟨agr, hO, fr⟩
   refine au ?_
   refine Go1.ret1 func61 rfl ⟨_, er, frs, H⟩
  refine au ?_
  refine Go1.ret1 func61 rfl ⟨_, er, frs, H⟩
 refine au ?_
 refine Go1.ret1 func61 rfl ⟨_, er, frs, H⟩
theorem body141 : Body prog 141 := ⟨f141, func141, rfl, by kernel_rfl⟩
theorem body140 : Body prog 140 := ⟨f140, func140, rfl, by kernel_rfl⟩
theorem body163 : Body prog 163 := ⟨f163, func163, rfl, by kernel_rfl⟩
theorem body139 : Body prog 139 := ⟨f139, func139, rfl, by kernel_rfl⟩
theorem body109 : Body prog 109 := ⟨f109, func109, rfl, by kernel_rfl⟩
theorem J5n {aL ba : Option Addr} {aM bc : Nat} {d : DFA} (hA : HA0 A w0) (aK : ISb A w0 aL aM d.Final) (bn : ISs A w0 ba bc d.Next) {K : DFA → List Int → Prop} (H : J4C d K) :
    CallsV prog 109 #[.agg (cDF d aL aM ba bc)] w0 (fun v w' => ∃ (r0 : DFA), ∃ (r1 : List Int), ∃ (aI : Option Addr), ∃ (aJ : Nat), ∃ (aT : Option Addr), ∃ (aU : Nat), ∃ (fq : Option Addr), ∃ (ft : Nat), v = .tuple #[.agg (cDF r0 aI aJ aT aU), .slice fq r1.length ft] ∧ Same w0 w' ∧ ISb A w' aI aJ r0.Final ∧ ISs A w' aT aU r0.Next ∧ ISi A w' fq ft r1 ∧ K r0 r1) := by
 refine cal hA func109 ntmps109 fun hO hB => ?_
 unfold J4C at H
 refine sbx hO fun w1 B2 s hO => ?_
 refine sal hO fun w4 B5 s hO => ?_
 refine sag 1 hO ?_
 refine zcr (J01 body61 rfl (J0q hO.lt aK.u bn.u H)) fun _ w8 => e1 fun r7 => sc0 hO fun s hO => fun H => ?_
 refine scm H (fun h9 H => ?_) fun h9 H => ?_
 ·refine au ?_
  refine zo (J2N (vs := [.pointer (some ⟨B2, 0, none⟩)]) rfl) ?_
  refine zo (J2N (vs := [.pointer (some ⟨B2, 0, none⟩)]) rfl) ?_
  refine GoR.inl (vs := [.int .i64 d.Letters, .int .i64 d.Start, .func (.func 140) #[] #[.pointer (some ⟨B2, 0, none⟩)], .func (.func 141) #[] #[.pointer (some ⟨B2, 0, none⟩)]]) (caps := []) rfl rfl body139 func139 rfl ntmps139 rfl rfl rfl ?_
  intro RhR10 hR10
  refine sal hO fun w11 B12 s hO => ?_
  refine sal hO fun w14 B15 s hO => ?_
  refine au ?_
  refine GoR.inl (vs := [.pointer (some ⟨B15, 0, none⟩), .int .i64 d.Start]) (caps := []) rfl rfl body163 func163 rfl ntmps163 rfl rfl rfl ?_
  intro RhR17 hR17
  refine au ?_
  refine zs (fun w _ => olookN (a := d.Start) (MK.int underlying3) underlying168 ti3 rfl rfl w) ?_
  refine au ?_
  refine zo (fun w => opB (J7T underlying168 rfl rfl w) rfl) ?_
  refine au ?_
  have zz := omakeMap (fun a : Int => Value.int .i64 a) (fun a : Int => Value.int .i64 a) hO
  obtain ⟨w18, B19, pF, UC, EH⟩ := zz
  refine zg EH ?_
  refine nst pF fun s hO => ?_
  refine sbs 1 hO fun w24 s hO => ?_
  refine sln0 ?_
  refine au ?_
  have zz := omapUpd (MK.int underlying3) 0 hO rfl underlying168 d.Start (0 : Int)
  obtain ⟨w25, EI, pE⟩ := zz
  refine zg (pE (by exact rfl) (by exact rfl) (by exact rfl)) ?_
  refine nst EI fun s hO => ?_
  refine au ?_
  refine snil Fl.i 3 hO fun s hO => ?_
  refine sap1 d.Start 0 hO H fun _ w29 p30 c31 s hO => ?_
  refine sbs 2 hO fun w32 s hO => ?_
  refine au ?_
  refine Go1.ret1V func163 rfl (show _ = .int .i64 (0 : Int) from rfl) ?_
  refine hR17 _ _ ?_
  refine au ?_
  refine zo (J04 underlying25 ti25 (pl := [(0, 1), (1, 1), (2, 1), (3, 1)]) (vs := [(0, .int .i64 d.Letters)]) (cs := #[.int .i64 d.Letters, .int .i64 (0 : Int), .slice none 0 0, .slice none 0 0]) (by kernel_rfl) rfl (by kernel_rfl)) ?_
  refine sal hO fun w33 B34 s hO => ?_
  refine sba 0 hO fun w36 s hO => ?_
  refine au ?_
  refine snil Fl.bool 4 hO fun s hO => ?_
  have EJ := Stp.nil (e := 31) (r := 1) hO
  refine nst EJ fun s hO => ?_
  have LB := elN (Rp.sl (Rp.int .i64)) hO
  refine lv [0, 2, 3, 8, 11, 12] hO H.2 (fun E (eB, d_43, d_49, eC, yb) σ w => ∃ n48 p46 c47 iP n52 p50 c51 n56 p54 c55, (fun Z => Lo A w0 σ w [(13, .int .i64 (eB : Int))] Z ∧ Els (Rp.sl (Rp.int .i64)) (bl Z ++ A) w iP d_43) (esets E [(0, .row 31 1 p46 n48 c47 iP), (1, t1 Fl.bool 4 p50 n52 c51 d_49), (2, .blk B34 (.cells #[.int .i64 d.Letters, .int .i64 (0 : Int), .slice p50 n52 c51, .slice p46 n48 c47] 25 (0, 0))), (3, t1 Fl.i 3 p54 n56 c55 eC), (4, .any (mapE (fun a : Int => Value.int .i64 a) (fun a : Int => Value.int .i64 a) B19 yb)), (5, .blk B15 (.cells #[.slice p54 n56 c55, .map (some B19)] 188 (0, 0)))])) ⟨_, _, _, _, _, _, _, _, _, _, ⟨agr, hO, fr⟩, LB.u⟩ ?_
  refine fun X1 => p1 fun eB => p3 fun d_43 d_49 eC yb => fun H hX1 σ w41 hk => e4 fun n48 p46 c47 iP => e4 fun n52 p50 c51 n56 => e2 fun p54 c55 => d1 fun hL => fun dq => d2 (fun hag hO hB => keep2 hk hag ?_) hL
  dsimp only [esets, sS, sZ] at hO hB dq
  dsimp only at H
  revert hO; repeat (rename Owns .. => q; clear q)
  intro hO; repeat (rename Sq .. => q; clear q)
  refine sln1 3 hO ?_
  refine scm H (fun h58 H => ?_) fun h58 H => ?_
  ·refine sxl1 3 hO H.1 H.2.1 ?_
   refine smk Fl.i H.2.2 hO fun w59 p60 s hO => ?_
   refine sln1 0 hO ?_
   refine au ?_
   refine lv [0, 2, 3, 8, 11, 12, 13, 14, 15, 36] hO H.2.2.2.2 (fun E (fh, gA, d_65, iB) σ w => ∃ n68 p66 c67, (fun Z => Lo A w0 σ w [(37, .int .i64 (fh : Int))] Z ∧ Els (Rp.sl (Rp.int .i64)) (bl Z ++ A) w iP d_43) (esets E [(0, t1 Fl.i 3 p60 d.Letters.toNat d.Letters.toNat gA), (4, t1 Fl.i 3 p66 n68 c67 d_65), (5, .any (mapE (fun a : Int => Value.int .i64 a) (fun a : Int => Value.int .i64 a) B19 iB)), (6, .blk B15 (.cells #[.slice p66 n68 c67, .map (some B19)] 188 (0, 0)))])) ⟨_, _, _, ⟨agr, hO, fr⟩, dq.u⟩ ?_
   refine fun X2 => p3 fun fh gA d_65 iB => fun H hX2 σ w62 hk => e3 fun n68 p66 c67 => d1 fun hL => fun dq => d2 (fun hag hO hB => keep2 hk hag ?_) hL
   dsimp only [esets, sS, sZ] at hO hB dq
   dsimp only at H
   revert hO; repeat (rename Owns .. => q; clear q)
   intro hO; repeat (rename Sq .. => q; clear q)
   refine scm H (fun h70 H => ?_) fun h70 H => ?_
   ·refine au ?_
    refine GoR.inl (vs := [.int .i64 (ix eC (eB : Int)), .int .i64 (fh : Int)]) (caps := [.pointer (some ⟨B2, 0, none⟩)]) rfl rfl body140 func140 rfl ntmps140 rfl rfl rfl ?_
    intro RhR71 hR71
    refine sxls hO bn.u H.1 H.2.1 fun p72 c73 LD => ?_
    refine sxl hO LD.u H.2.2.1 H.2.2.2.1 ?_
    refine au ?_
    refine Go1.ret1V func140 rfl (show _ = .int .i64 (ix (ix d.Next (ix eC (eB : Int))) (fh : Int)) from rfl) ?_
    refine hR71 _ _ ?_
    refine GoR.inl (vs := [.pointer (some ⟨B15, 0, none⟩), .int .i64 (ix (ix d.Next (ix eC (eB : Int))) (fh : Int))]) (caps := []) rfl rfl body163 func163 rfl ntmps163 rfl rfl rfl ?_
    intro RhR75 hR75
    refine au ?_
    replace H := H.2.2.2.2
    by_cases h76 : mhas iB ((ix (ix d.Next (ix eC (eB : Int))) (fh : Int))) = true
    ·refine zs (olookT (a := (ix (ix d.Next (ix eC (eB : Int))) (fh : Int))) (MK.int underlying3) 5 hO rfl underlying168 rfl rfl h76) ?_
     refine au ?_
     refine Go1.ret1V func163 rfl (show _ = .int .i64 (mgt iB ((ix (ix d.Next (ix eC (eB : Int))) (fh : Int)))) from rfl) ?_
     refine hR75 _ _ ?_
     refine six1 0 hO (ifp h76 H).1 (ifp h76 H).2.1 ?_
     refine sst (u := (mgt iB ((ix (ix d.Next (ix eC (eB : Int))) (fh : Int))))) 0 hO (ifp h76 H).1 (ifp h76 H).2.1 fun w77 s hO => ?_
     refine au ?_
     have h78 := (ifp h76 H).1
     have h79 := (ifp h76 H).2.1
     replace H := (ifp h76 H).2.2
     obtain ⟨h80, H⟩ := H
     refine zo (J03 rfl rfl (wrap_i64 h80)) ?_
     refine au ?_
     exact hX2 _ H _ _ agr ⟨_, _, _, ⟨agr, hO, fr⟩, dq.u⟩
    refine zs (olookF (a := (ix (ix d.Next (ix eC (eB : Int))) (fh : Int))) (MK.int underlying3) 5 hO rfl underlying168 ti3 rfl rfl h76) ?_
    refine au ?_
    refine zo (fun w => opB (J7T underlying168 rfl rfl w) rfl) ?_
    refine sln1 4 hO ?_
    refine au ?_
    have zz := omapUpd (MK.int underlying3) 5 hO rfl underlying168 (ix (ix d.Next (ix eC (eB : Int))) (fh : Int)) (d_65.length : Int)
    obtain ⟨w81, pG, pI⟩ := zz
    refine zg (pI (by exact rfl) (by exact rfl) (by exact rfl)) ?_
    refine nst pG fun s hO => ?_
    refine au ?_
    refine sap1 ((ix (ix d.Next (ix eC (eB : Int))) (fh : Int))) 4 hO (ifn h76 H) fun _ w84 p85 c86 s hO => ?_
    refine sbs 6 hO fun w87 s hO => ?_
    refine au ?_
    refine Go1.ret1V func163 rfl (show _ = .int .i64 (d_65.length : Int) from rfl) ?_
    refine hR75 _ _ ?_
    refine six1 0 hO (ifn h76 H).2.1 (ifn h76 H).2.2.1 ?_
    refine sst (u := (d_65.length : Int)) 0 hO (ifn h76 H).2.1 (ifn h76 H).2.2.1 fun w88 s hO => ?_
    refine au ?_
    have h89 := (ifn h76 H).2.1
    have h90 := (ifn h76 H).2.2.1
    replace H := (ifn h76 H).2.2.2
    obtain ⟨h91, H⟩ := H
    refine zo (J03 rfl rfl (wrap_i64 h91)) ?_
    refine au ?_
    exact hX2 _ H _ _ agr ⟨_, _, _, ⟨agr, hO, fr⟩, dq.u⟩
   refine sln1 4 hO ?_
   refine scm H (fun h92 H => ?_) fun h92 H => ?_
   ·refine au ?_
    refine zo (J04 underlying25 ti25 (pl := [(0, 1), (1, 1), (2, 1), (3, 1)]) (vs := []) (cs := #[.int .i64 (0 : Int), .int .i64 (0 : Int), .slice none 0 0, .slice none 0 0]) (by kernel_rfl) rfl (by kernel_rfl)) ?_
    refine sba 7 hO fun w93 s hO => ?_
    refine au ?_
    refine Go1.retC3V func139 rfl rfl (rlb 7 hO) (show _ = .slice none 0 0 from rfl) (show _ = .int .i64 (3 : Int) from rfl) ?_
    refine hR10 _ _ ?_
    refine sal hO fun w94 B95 s hO => ?_
    refine sba 0 hO fun w97 s hO => ?_
    refine sln0 ?_
    refine smk Fl.i (H aK.bd) hO fun w98 p99 s hO => ?_
    refine sln1 0 hO ?_
    refine au ?_
    refine sdr [2, 2, 2, 2, 2, 2, 2, 2, 3] hO fun s hO => ?_
    refine lv [2, 4, 5, 7, 31] hO (H aK.bd).2.2 (fun E (tH, number3_103) σ w => Lo A w0 σ w [(32, .int .i64 (tH : Int))] (E.set 0 (t1 Fl.i 3 p99 d.Final.length d.Final.length number3_103))) ⟨agr, hO, fr⟩ ?_
    refine fun X3 => p1 fun tH number3_103 => fun H hX3 σ ux hk => d2 fun hag hO hB => keep2 hk hag ?_
    dsimp only [esets, sS, sZ] at hO hB
    dsimp only at H
    revert hO; repeat (rename Owns .. => q; clear q)
    intro hO; repeat (rename Sq .. => q; clear q)
    refine scm H (fun LE H => ?_) fun LE H => ?_
    ·refine six1 0 hO H.1 H.2.1 ?_
     refine sst (u := (-1 : Int)) 0 hO H.1 H.2.1 fun pK s hO => ?_
     refine au ?_
     have jR := H.1
     have jQ := H.2.1
     replace H := H.2.2
     obtain ⟨zN, H⟩ := H
     refine zo (J03 rfl rfl (wrap_i64 zN)) ?_
     refine au ?_
     exact hX3 _ H _ _ agr ⟨agr, hO, fr⟩
    refine sln0 ?_
    refine au ?_
    refine lv [2, 4, 7, 39, 40] hO H (fun E tI σ w => Lo A w0 σ w [(41, .int .i64 (tI : Int))] E) ⟨agr, hO, fr⟩ ?_
    refine fun X4 => fun tI => fun H hX4 σ ur hk => d2 fun hag hO hB => keep2 hk hag ?_
    revert hO; repeat (rename Owns .. => q; clear q)
    intro hO; repeat (rename Sq .. => q; clear q)
    refine scm H (fun ns H => ?_) fun ns H => ?_
    ·refine au ?_
     obtain ⟨jS, H⟩ := H
     obtain ⟨jT, H⟩ := H
     refine zo (J05 underlying31 ti3 rfl rfl jS jT (absurd jT (by omega))) ?_
     exact absurd jT (by omega)
    refine sag 1 hO ?_
    refine sba 2 hO fun UD s hO => ?_
    refine au ?_
    refine sfz 0 hO fun s hO EK EL => ?_
    refine Go1.retC2 func109 rfl rfl (rlb 1 hO) ⟨((⟨(0 : Int), (0 : Int), ([] : List Bool), ([] : List (List Int))⟩ : DFA)), _, _, _, _, _, _, _, ?_, frs, (ISl.null _ _ _), (ISl.null _ _ _), EK.r, H⟩
    exact (congrArg (fun l => Value.tuple (List.toArray l)) (J02 rfl (J02 (congrArg (fun nn => Value.slice p99 nn d.Final.length) EL) rfl)))
   refine au ?_
   refine sfz 0 hO fun s hO pM yc => ?_
   have zz := J1P (r := Rp.sl (Rp.int .i64)) (n := 1) (parts := [(0, .slice p60 d.Letters.toNat d.Letters.toNat)]) (vs := [.slice p60 d.Letters.toNat d.Letters.toNat]) (xs := [gA]) rfl underlying23 ti31 hO (by decide) (by kernel_rfl) (Els.cons rfl ⟨p60, d.Letters.toNat, congrArg some (congrArg (fun nn => Value.slice p60 nn d.Letters.toNat) yc), pM⟩ (Els.nil _ _ _) (by simp [mx])) rfl
   obtain ⟨uy, LF, nt, EM, RN, nu⟩ := zz
   refine zg (nu rfl) ?_
   refine nst nt fun s hO => ?_
   refine sfzR 0 hO EM.u fun s hO pN pO => ?_
   obtain ⟨nk, H⟩ := H
   have zz := oapp underlying23 ti31 rfl 0 hO rfl dq.u pN pO nk (by decide)
   obtain ⟨LG, nw, pP, yd, zO, ye, zP⟩ := zz
   dsimp only [sS, sZ] at ye
   refine zg (zP (by exact rfl) (by exact rfl)) ?_
   refine nst zO fun s hO => ?_
   refine sbs 2 hO fun UE s hO => ?_
   refine au ?_
   refine Go1.drawT (ok := fun _ => True) (CSv.tr [(some ⟨B34, 2, none⟩)]) [6, 8] 9 (.qp 0 (.qs 1 (.qp 2 (.qp 3 (.alt 4 (.alt 5 (.alt 6 (.qp 7 (.alt 8 .nil .fin)) .fin) .fin) .fin))))) mixed (by kernel_rfl) ?_
   intro ny EO
   refine sm hO EO fun s hO => ?_
   refine au ?_
   refine GoT.stable rfl (loadV (.head _) rfl (J00 2 hO rfl rfl) underlying22 rfl rfl) rfl rfl ?_
   refine au ?_
   skip
   refine GoT.inl (vs := [.int .i64 (ix eC (eB : Int))]) (caps := [.pointer (some ⟨B2, 0, none⟩)]) rfl rfl rfl body141 func141 rfl ntmps141 rfl rfl rfl ?_
   intro RhR140 hR140
   have hOs141 := hO
   have hBs142 := (fr : Fr (bl []) w0 _ ny)
   have hB := Fr.refl (bl [.row 31 1 nw (n48 + 1) pP yd, t1 Fl.bool 4 p50 n52 c51 d_49, .blk B34 (.cells #[.int .i64 d.Letters, .int .i64 (0 : Int), .slice p50 n52 c51, .slice nw (n48 + 1) pP] 25 (0, 0)), t1 Fl.i 3 p66 n68 c67 d_65, .any (mapE (fun a : Int => Value.int .i64 a) (fun a : Int => Value.int .i64 a) B19 iB), .blk B15 (.cells #[.slice p66 n68 c67, .map (some B19)] 188 (0, 0)), .blk B12 (.cells #[.int .i64 (0 : Int), .int .i64 (0 : Int), .slice none 0 0, .slice none 0 0] 25 (0, 0)), .blk B5 (.cells #[.int .i64 (0 : Int), .int .i64 (0 : Int), .slice none 0 0, .slice none 0 0] 25 (0, 0)), .blk B2 (.cells (cDF d aL aM ba bc) 25 (0, 0))]) ny
   refine sxl hO aK.u H.1 H.2.1 ?_
   refine au ?_
   refine Go1.ret1V func141 rfl (show _ = .bool (ix d.Final (ix eC (eB : Int))) from rfl) ?_
   refine hR140 _ _ (CSv.cons (cs_eq (J00 2 hOs141 rfl rfl) (J00 2 hO rfl rfl)) (CSv.nil _ _)) ?_
   replace hB := hBs142.trans (fr : Fr (bl [.row 31 1 nw (n48 + 1) pP yd, t1 Fl.bool 4 p50 n52 c51 d_49, .blk B34 (.cells #[.int .i64 d.Letters, .int .i64 (0 : Int), .slice p50 n52 c51, .slice nw (n48 + 1) pP] 25 (0, 0)), t1 Fl.i 3 p66 n68 c67 d_65, .any (mapE (fun a : Int => Value.int .i64 a) (fun a : Int => Value.int .i64 a) B19 iB), .blk B15 (.cells #[.slice p66 n68 c67, .map (some B19)] 188 (0, 0)), .blk B12 (.cells #[.int .i64 (0 : Int), .int .i64 (0 : Int), .slice none 0 0, .slice none 0 0] 25 (0, 0)), .blk B5 (.cells #[.int .i64 (0 : Int), .int .i64 (0 : Int), .slice none 0 0, .slice none 0 0] 25 (0, 0)), .blk B2 (.cells (cDF d aL aM ba bc) 25 (0, 0))]) ny _ ny)
   replace H := H.2.2
   skip
   refine sbuQ Fl.bool 4 [ix d.Final (ix eC (eB : Int))] hO (fun LH LI s hO => ?_) (g := fun _ _ _ hv _ hst h => GoT.step rfl hv (CSv.cons (cs_eq (J00 2 hO rfl rfl) (J00 3 hst.own rfl rfl)) (CSv.nil _ _)) rfl rfl h)
   skip
   refine sfz 0 hO fun s hO EP yf => ?_
   refine sap 1 hO EP H fun UG UH UI s hO => ?_
   refine au ?_
   replace H := H.2
   skip
   refine sbs 2 hO fun LJ s hO => ?_
   refine au ?_
   obtain ⟨LK, H⟩ := H
   refine zo (J03 rfl rfl (wrap_i64 LK)) ?_
   refine au ?_
   exact hX1 _ H _ _ agr ⟨_, _, _, _, _, _, _, _, _, _, ⟨agr, hO, fr⟩, ye.u⟩
  refine au ?_
  refine Go1.drawT (ok := fun _ => True) Same.tr [3] 6 (.qs 0 (.qp 1 (.alt 2 (.alt 3 (.qp 4 (.qp 5 .nil)) .fin) (.alt 3 (.alt 2 (.qp 4 (.qp 5 .nil)) .fin) .fin)))) mixed (by kernel_rfl) ?_
  intro zQ EQ
  refine sm hO EQ fun s hO => ?_
  refine GoT.stable rfl (J6E (vs := [.int .i64 d.Letters, .int .i64 (0 : Int), .slice p50 n52 c51, .slice p46 n48 c47]) (i := 0) 2 hO rfl rfl underlying25 rfl ti25 rfl) rfl rfl ?_
  refine au ?_
  refine GoT.both ?_ ?_
  ·skip
   replace H := H.1
   refine sbl 5 ?_
   skip
   refine sba 6 hO fun zR s hO => ?_
   refine au ?_
   refine Go1.retC3V func139 rfl rfl (rlb 6 hO) (show _ = .slice p54 n56 c55 from rfl) (show _ = .int .i64 (0 : Int) from rfl) ?_
   refine hR10 _ _ ?_
   refine sal hO fun LN B157 s hO => ?_
   refine sba 0 hO fun Lt s hO => ?_
   refine sln0 ?_
   refine smk Fl.i (H aK.bd) hO fun LO pQ s hO => ?_
   refine sln1 0 hO ?_
   refine au ?_
   refine sdr [4, 5, 5, 5, 6] hO fun s hO => ?_
   refine lv [2, 4, 5, 7, 31] hO (H aK.bd).2.2 (fun E (tJ, number5_165) σ w => (fun Z => Lo A w0 σ w [(32, .int .i64 (tJ : Int))] Z ∧ Els (Rp.sl (Rp.int .i64)) (bl Z ++ A) w iP d_43) (E.set 0 (t1 Fl.i 3 pQ d.Final.length d.Final.length number5_165))) ⟨⟨agr, hO, fr⟩, dq.u⟩ ?_
   refine fun X5 => p1 fun tJ number5_165 => fun H hX5 σ LP hk => d1 fun hL => fun dq => d2 (fun hag hO hB => keep2 hk hag ?_) hL
   dsimp only [esets, sS, sZ] at hO hB dq
   dsimp only at H
   revert hO; repeat (rename Owns .. => q; clear q)
   intro hO; repeat (rename Sq .. => q; clear q)
   refine scm H (fun uz H => ?_) fun uz H => ?_
   ·refine six1 0 hO H.1 H.2.1 ?_
    refine sst (u := (-1 : Int)) 0 hO H.1 H.2.1 fun zS s hO => ?_
    refine au ?_
    have UJ := H.1
    have UK := H.2.1
    replace H := H.2.2
    obtain ⟨LQ, H⟩ := H
    refine zo (J03 rfl rfl (wrap_i64 LQ)) ?_
    refine au ?_
    exact hX5 _ H _ _ agr ⟨⟨agr, hO, fr⟩, dq.u⟩
   refine sln1 4 hO ?_
   refine au ?_
   refine lv [2, 4, 7, 39, 40] hO H (fun E (nA, number6_173) σ w => (fun Z => Lo A w0 σ w [(41, .int .i64 (nA : Int))] Z ∧ Els (Rp.sl (Rp.int .i64)) (bl Z ++ A) w iP d_43) (E.set 0 (t1 Fl.i 3 pQ d.Final.length d.Final.length number6_173))) ⟨⟨agr, hO, fr⟩, dq.u⟩ ?_
   refine fun X6 => p1 fun nA number6_173 => fun H hX6 σ zT hk => d1 fun hL => fun dq => d2 (fun hag hO hB => keep2 hk hag ?_) hL
   dsimp only [esets, sS, sZ] at hO hB dq
   dsimp only at H
   revert hO; repeat (rename Owns .. => q; clear q)
   intro hO; repeat (rename Sq .. => q; clear q)
   refine scm H (fun zU H => ?_) fun zU H => ?_
   ·refine sxl1 4 hO H.1 H.2.1 ?_
    refine six1 0 hO H.2.2.1 H.2.2.2.1 ?_
    refine sst (u := (nA : Int)) 0 hO H.2.2.1 H.2.2.2.1 fun LS s hO => ?_
    refine sinc (natbd zU (t1b 4 hO)) ?_
    refine au ?_
    exact hX6 _ H.2.2.2.2 _ _ agr ⟨⟨agr, hO, fr⟩, dq.u⟩
   refine sag 1 hO ?_
   refine sba 5 hO fun LT s hO => ?_
   refine au ?_
   refine sfz 3 hO fun s hO ER ES => ?_
   refine sfzR 2 hO dq.u fun s hO pS pT => ?_
   refine sfz 0 hO fun s hO ET EU => ?_
   refine Go1.retC2 func109 rfl rfl (rlb 2 hO) ⟨((⟨d.Letters, (0 : Int), d_49, d_43⟩ : DFA)), _, _, _, _, _, _, _, ?_, frs, ER.r, pS.r, ET.r, H⟩
   exact (congrArg (fun l => Value.tuple (List.toArray l)) (J02 (congrArg (fun l => Value.agg (List.toArray l)) (J02 rfl (J02 rfl (J02 (congrArg (fun nn => Value.slice p50 nn c51) ES) (J02 (congrArg (fun nn => Value.slice p46 nn c47) pT) rfl))))) (J02 (congrArg (fun nn => Value.slice pQ nn d.Final.length) EU) rfl)))
  replace H := H.2
  refine sba 6 hO fun zV s hO => ?_
  skip
  refine sbl 5 ?_
  refine au ?_
  refine Go1.retC3V func139 rfl rfl (rlb 6 hO) (show _ = .slice p54 n56 c55 from rfl) (show _ = .int .i64 (0 : Int) from rfl) ?_
  refine hR10 _ _ ?_
  refine sal hO fun LU B185 s hO => ?_
  refine sba 0 hO fun LV s hO => ?_
  refine sln0 ?_
  refine smk Fl.i (H aK.bd) hO fun zW pU s hO => ?_
  refine sln1 0 hO ?_
  refine au ?_
  refine sdr [4, 5, 5, 5, 6] hO fun s hO => ?_
  refine lv [2, 4, 5, 7, 31] hO (H aK.bd).2.2 (fun E (tK, number7_193) σ w => (fun Z => Lo A w0 σ w [(32, .int .i64 (tK : Int))] Z ∧ Els (Rp.sl (Rp.int .i64)) (bl Z ++ A) w iP d_43) (E.set 0 (t1 Fl.i 3 pU d.Final.length d.Final.length number7_193))) ⟨⟨agr, hO, fr⟩, dq.u⟩ ?_
  refine fun X7 => p1 fun tK number7_193 => fun H hX7 σ uA hk => d1 fun hL => fun dq => d2 (fun hag hO hB => keep2 hk hag ?_) hL
  dsimp only [esets, sS, sZ] at hO hB dq
  dsimp only at H
  revert hO; repeat (rename Owns .. => q; clear q)
  intro hO; repeat (rename Sq .. => q; clear q)
  refine scm H (fun LX H => ?_) fun LX H => ?_
  ·refine six1 0 hO H.1 H.2.1 ?_
   refine sst (u := (-1 : Int)) 0 hO H.1 H.2.1 fun zX s hO => ?_
   refine au ?_
   have zY := H.1
   have z3 := H.2.1
   replace H := H.2.2
   obtain ⟨uB, H⟩ := H
   refine zo (J03 rfl rfl (wrap_i64 uB)) ?_
   refine au ?_
   exact hX7 _ H _ _ agr ⟨⟨agr, hO, fr⟩, dq.u⟩
  refine sln1 4 hO ?_
  refine au ?_
  refine lv [2, 4, 7, 39, 40] hO H (fun E (nB, number8_201) σ w => (fun Z => Lo A w0 σ w [(41, .int .i64 (nB : Int))] Z ∧ Els (Rp.sl (Rp.int .i64)) (bl Z ++ A) w iP d_43) (E.set 0 (t1 Fl.i 3 pU d.Final.length d.Final.length number8_201))) ⟨⟨agr, hO, fr⟩, dq.u⟩ ?_
  refine fun X8 => p1 fun nB number8_201 => fun H hX8 σ z4 hk => d1 fun hL => fun dq => d2 (fun hag hO hB => keep2 hk hag ?_) hL
  dsimp only [esets, sS, sZ] at hO hB dq
  dsimp only at H
  revert hO; repeat (rename Owns .. => q; clear q)
  intro hO; repeat (rename Sq .. => q; clear q)
  refine scm H (fun z5 H => ?_) fun z5 H => ?_
  ·refine sxl1 4 hO H.1 H.2.1 ?_
   refine six1 0 hO H.2.2.1 H.2.2.2.1 ?_
   refine sst (u := (nB : Int)) 0 hO H.2.2.1 H.2.2.2.1 fun z6 s hO => ?_
   refine sinc (natbd z5 (t1b 4 hO)) ?_
   refine au ?_
   exact hX8 _ H.2.2.2.2 _ _ agr ⟨⟨agr, hO, fr⟩, dq.u⟩
  refine sag 1 hO ?_
  refine sba 5 hO fun LY s hO => ?_
  refine au ?_
  refine sfz 3 hO fun s hO EV EW => ?_
  refine sfzR 2 hO dq.u fun s hO pV yg => ?_
  refine sfz 0 hO fun s hO EX EY => ?_
  refine Go1.retC2 func109 rfl rfl (rlb 2 hO) ⟨((⟨d.Letters, (0 : Int), d_49, d_43⟩ : DFA)), _, _, _, _, _, _, _, ?_, frs, EV.r, pV.r, EX.r, H⟩
  exact (congrArg (fun l => Value.tuple (List.toArray l)) (J02 (congrArg (fun l => Value.agg (List.toArray l)) (J02 rfl (J02 rfl (J02 (congrArg (fun nn => Value.slice p50 nn c51) EW) (J02 (congrArg (fun nn => Value.slice p46 nn c47) yg) rfl))))) (J02 (congrArg (fun nn => Value.slice pU nn d.Final.length) EY) rfl)))
 refine au ?_
 refine zo (J04 underlying25 ti25 (pl := [(0, 1), (1, 1), (2, 1), (3, 1)]) (vs := []) (cs := #[.int .i64 (0 : Int), .int .i64 (0 : Int), .slice none 0 0, .slice none 0 0]) (by kernel_rfl) rfl (by kernel_rfl)) ?_
 refine sba 0 hO fun UL s hO => ?_
 refine au ?_
 refine Go1.retC2 func109 rfl rfl (rlb 0 hO) ⟨((⟨(0 : Int), (0 : Int), ([] : List Bool), ([] : List (List Int))⟩ : DFA)), _, _, _, _, _, _, _, er, frs, (ISl.null _ _ _), (ISl.null _ _ _), (ISl.null _ _ _), H⟩
theorem body110 : Body prog 110 := ⟨f110, func110, rfl, by kernel_rfl⟩
theorem J4b {ah ap : Option Addr} {aj aq : Nat} {a0 : DFA} (hA : HA0 A w0) (aa : ISb A w0 ah aj a0.Final) (ar : ISs A w0 ap aq a0.Next) {K : List Int → Prop} (H : J0S a0 K) :
    CallsV prog 110 #[.agg (cDF a0 ah aj ap aq)] w0 (fun v w' => ∃ (r0 : List Int), ∃ (p_r0 : Option Addr), ∃ (c_r0 : Nat), v = .slice p_r0 r0.length c_r0 ∧ Same w0 w' ∧ ISi A w' p_r0 c_r0 r0 ∧ K r0) := by
 refine cal hA func110 ntmps110 fun hO hB => ?_
 unfold J0S at H
 refine sbx hO fun w1 B2 s hO => ?_
 refine sag 0 hO ?_
 refine zcr (J01 body61 rfl (J0q hO.lt aa.u ar.u H)) fun _ w5 => e1 fun r4 => sc0 hO fun s hO => fun H => ?_
 refine scm H (fun h6 H => ?_) fun h6 H => ?_
 ·refine sln0 ?_
  refine smk Fl.i (H aa.bd) hO fun w7 p8 s hO => ?_
  refine sln0 ?_
  refine au ?_
  refine lv [1, 3, 24, 25] hO (H aa.bd).2.2 (fun E (k1_11, k1_12, d_13) σ w => Lo A w0 σ w [(4, .int .i64 k1_11), (26, .int .i64 (k1_12 : Int))] (E.set 0 (t1 Fl.i 3 p8 a0.Final.length a0.Final.length d_13))) ⟨agr, hO, fr⟩ ?_
  refine fun X1 => p2 fun k1_11 k1_12 d_13 => fun H hX1 σ w10 hk => d2 fun hag hO hB => keep2 hk hag ?_
  dsimp only [esets, sS, sZ] at hO hB
  dsimp only at H
  revert hO; repeat (rename Owns .. => q; clear q)
  intro hO; repeat (rename Sq .. => q; clear q)
  refine scm H (fun h14 H => ?_) fun h14 H => ?_
  ·refine au ?_
   have h15 := H.1
   have h16 := H.2.1
   refine sxb hO aa.u H.1 H.2.1 H.2.2 (fun h17 H => ?_) fun h17 H => ?_
   ·refine au ?_
    have h18 := H.1
    have h19 := H.2.1
    refine sxb hO aa.u H.1 H.2.1 H.2.2 (fun h20 H => ?_) fun h20 H => ?_
    ·refine zo (J19 underlying4 rfl rfl) ?_
     refine sinc (natbd h14 aa.bd) ?_
     refine au ?_
     exact hX1 _ H _ _ agr ⟨agr, hO, fr⟩
    refine zo (J19 underlying4 rfl rfl) ?_
    refine six1 0 hO H.1 H.2.1 ?_
    refine sst (u := (1 : Int)) 0 hO H.1 H.2.1 fun w21 s hO => ?_
    refine sinc (natbd h14 aa.bd) ?_
    refine au ?_
    exact hX1 _ H.2.2 _ _ agr ⟨agr, hO, fr⟩
   refine au ?_
   have h22 := H.1
   have h23 := H.2.1
   refine sxb hO aa.u H.1 H.2.1 H.2.2 (fun h24 H => ?_) fun h24 H => ?_
   ·refine zo (J19 underlying4 rfl rfl) ?_
    refine six1 0 hO H.1 H.2.1 ?_
    refine sst (u := (1 : Int)) 0 hO H.1 H.2.1 fun w25 s hO => ?_
    refine sinc (natbd h14 aa.bd) ?_
    refine au ?_
    exact hX1 _ H.2.2 _ _ agr ⟨agr, hO, fr⟩
   refine zo (J19 underlying4 rfl rfl) ?_
   refine sinc (natbd h14 aa.bd) ?_
   refine au ?_
   exact hX1 _ H _ _ agr ⟨agr, hO, fr⟩
  refine au ?_
  refine sfz 0 hO fun s hO uC L5 => ?_
  refine lv [1] hO H (fun E (eQ, k2_33) σ w => ∃ p30 c31, (fun Z => Lo A w0 σ w [(3, .slice p30 eQ.length c31), (4, .int .i64 k2_33)] Z ∧ ISi (bl Z ++ A) w p30 c31 eQ) E) ⟨_, _, ⟨⟨(congrArg (fun nn => Value.slice p8 nn a0.Final.length) L5), rfl, trivial⟩, hO, fr⟩, uC⟩ ?_
  refine fun X2 => p1 fun eQ k2_33 => fun H hX2 σ w28 hk => e2 fun p30 c31 => d1 fun hL => fun dJ => d2 (fun hag hO hB => keep2 hk hag ?_) hL
  dsimp only at H
  revert hO; repeat (rename Owns .. => q; clear q)
  intro hO; repeat (rename Sq .. => q; clear q)
  refine au ?_
  have zz := omakeMap (fun a : AN 7 => Value.agg (icells .i64 a.1).toArray) (fun a : Int => Value.int .i64 a) hO
  obtain ⟨w34, B35, E0, uD, E3⟩ := zz
  refine zg E3 ?_
  refine nst E0 fun s hO => ?_
  refine sln0 ?_
  refine smk Fl.i (H dJ.bd) hO fun w40 p41 s hO => ?_
  refine sln0 ?_
  refine au ?_
  refine lv [1, 3, 4, 7, 8, 46, 47] hO ((H dJ.bd).2.2 ar.bd) (fun E (iC, z7, jk) σ w => (fun Z => Lo A w0 σ w [(48, .int .i64 (iC : Int))] Z ∧ ISi (bl Z ++ A) w p30 c31 eQ) (esets E [(0, t1 Fl.i 3 p41 eQ.length eQ.length z7), (1, .any (mapE (fun a : AN 7 => Value.agg (icells .i64 a.1).toArray) (fun a : Int => Value.int .i64 a) B35 jk))])) ⟨⟨agr, hO, fr⟩, dJ.u⟩ ?_
  refine fun X3 => p2 fun iC z7 jk => fun H hX3 σ w43 hk => d1 fun hL => fun dJ => d2 (fun hag hO hB => keep2 hk hag ?_) hL
  dsimp only [esets, sS, sZ] at hO hB dJ
  dsimp only at H
  revert hO; repeat (rename Owns .. => q; clear q)
  intro hO; repeat (rename Sq .. => q; clear q)
  refine scm H (fun h47 H => ?_) fun h47 H => ?_
  ·refine sxls hO ar.u H.1 H.2.1 fun p48 c49 fC => ?_
   refine sxl hO dJ H.2.2.1 H.2.2.2.1 ?_
   refine zo (J33 underlying166 ti166 ti3 (vs := [(0, .int .i64 (ix eQ (iC : Int)))]) (cs := #[.int .i64 (ix eQ (iC : Int)), .int .i64 (0 : Int), .int .i64 (0 : Int), .int .i64 (0 : Int), .int .i64 (0 : Int), .int .i64 (0 : Int), .int .i64 (0 : Int)]) rfl (by kernel_rfl)) ?_
   have zz := oalloc (t := 166) (cs := (icells .i64 (([(0 : Int), (0 : Int), (0 : Int), (0 : Int), (0 : Int), (0 : Int), (0 : Int)] : List Int))).toArray) ti166 hO rfl
   obtain ⟨w51, B52, E4, z8, E5⟩ := zz
   refine zg E5 ?_
   refine nst E4 fun s hO => ?_
   have h60 := H.1
   have h61 := H.2.1
   have h62 := H.2.2.1
   have h63 := H.2.2.2.1
   replace H := H.2.2.2.2
   obtain ⟨h64, H⟩ := H
   have zz := oarrStA (M := [(ix eQ (iC : Int)), (0 : Int), (0 : Int), (0 : Int), (0 : Int), (0 : Int), (0 : Int)]) 0 hO rfl (by rw [h64]; rfl)
   obtain ⟨w57, pW, pX⟩ := zz
   refine zg (pX ti166 (by exact rfl) (by exact rfl)) ?_
   refine nst pW fun s hO => ?_
   refine sln0 ?_
   refine au ?_
   refine lv [1, 3, 4, 7, 8, 9, 11, 46, 47, 48, 58, 59] hO (H fC.bd) (fun E (pY, y4_67) σ w => (fun Z => Lo A w0 σ w [(60, .int .i64 (pY : Int))] Z ∧ ISi (bl Z ++ A) w p30 c31 eQ ∧ ISi (bl Z ++ A) w p48 c49 (ix a0.Next (iC : Int))) (E.set 0 (.blk B52 (.cells (icells .i64 y4_67).toArray 166 (0, 0))))) ⟨⟨agr, hO, fr⟩, dJ.u, fC.u⟩ ?_
   refine fun X4 => p1 fun pY y4_67 => fun H hX4 σ w65 hk => d1 fun hL => d1 fun dJ fC => d2 (fun hag hO hB => keep2 hk hag ?_) hL
   dsimp only [esets, sS, sZ] at hO hB dJ fC
   dsimp only at H
   revert hO; repeat (rename Owns .. => q; clear q)
   intro hO; repeat (rename Sq .. => q; clear q)
   refine scm H (fun h68 H => ?_) fun h68 H => ?_
   ·refine sxl hO fC H.1 H.2.1 ?_
    refine au ?_
    have h69 := H.1
    have h70 := H.2.1
    replace H := H.2.2
    obtain ⟨h71, H⟩ := H
    refine zo (J03 rfl rfl (wrap_i64 h71)) ?_
    refine sxl hO dJ H.1 H.2.1 ?_
    have h72 := H.1
    have h73 := H.2.1
    replace H := H.2.2
    obtain ⟨h74, H⟩ := H
    obtain ⟨h75, H⟩ := H
    obtain ⟨h76, H⟩ := H
    refine zo (J82 (n := 7) underlying166 ti3 rfl rfl h75 h76) ?_
    have zz := oarrSt (v := (ix eQ (ix (ix a0.Next (iC : Int)) (pY : Int)))) 0 hO rfl h75 (arrLt h74 h76)
    obtain ⟨w77, fV, qa⟩ := zz
    refine zg (qa underlying3 rfl ti3 (by exact rfl) (by exact rfl)) ?_
    refine nst fV fun s hO => ?_
    refine sinc (natbd h68 fC.bd) ?_
    refine au ?_
    exact hX4 _ H _ _ agr ⟨⟨agr, hO, fr⟩, dJ.u, fC.u⟩
   refine au ?_
   obtain ⟨h80, H⟩ := H
   refine zs (oarrLd 0 hO rfl h80 underlying166 rfl ti166 rfl) ?_
   by_cases h81 : mhas jk ((toAN 7 y4_67)) = true
   ·refine zs (olookT (a := (toAN 7 y4_67)) (MK.arrN underlying166 underlying3 ti3) 2 hO rfl underlying164 rfl rfl h81) ?_
    refine six1 1 hO (ifp h81 H).1 (ifp h81 H).2.1 ?_
    refine sst (u := (mgt jk ((toAN 7 y4_67)))) 1 hO (ifp h81 H).1 (ifp h81 H).2.1 fun w82 s hO => ?_
    refine sinc (natbd h47 ar.bd) ?_
    refine au ?_
    refine sdr [0] hO fun s hO => ?_
    exact hX3 _ (ifp h81 H).2.2 _ _ agr ⟨⟨agr, hO, fr⟩, dJ.u⟩
   refine zs (olookF (a := (toAN 7 y4_67)) (MK.arrN underlying166 underlying3 ti3) 2 hO rfl underlying164 ti3 rfl rfl h81) ?_
   refine au ?_
   refine zs (omapLen 2 hO rfl underlying164 rfl) ?_
   refine au ?_
   replace H := (ifn h81 H)
   obtain ⟨h83, H⟩ := H
   refine zs (oarrLd 0 hO rfl h83 underlying166 rfl ti166 rfl) ?_
   refine au ?_
   have zz := omapUpd (MK.arrN underlying166 underlying3 ti3) 2 hO rfl underlying164 (toAN 7 y4_67) (jk.length : Int)
   obtain ⟨w84, E6, E7⟩ := zz
   refine zg (E7 (by exact rfl) (by exact rfl) (by exact rfl)) ?_
   refine nst E6 fun s hO => ?_
   refine six1 1 hO H.1 H.2.1 ?_
   refine sst (u := (jk.length : Int)) 1 hO H.1 H.2.1 fun w87 s hO => ?_
   refine sinc (natbd h47 ar.bd) ?_
   refine au ?_
   refine sdr [0] hO fun s hO => ?_
   exact hX3 _ H.2.2 _ _ agr ⟨⟨agr, hO, fr⟩, dJ.u⟩
  refine au ?_
  refine zs (omapLen 1 hO rfl underlying164 rfl) ?_
  refine scm H (fun h88 H => ?_) fun h88 H => ?_
  ·refine au ?_
   refine sfz 0 hO fun s hO uE L6 => ?_
   refine Go1.ret1 func110 rfl ⟨_, _, _, ?_, frs, uE.r, H⟩
   exact (congrArg (fun nn => Value.slice p41 nn eQ.length) L6)
  refine au ?_
  refine zs (omapLen 1 hO rfl underlying164 rfl) ?_
  refine au ?_
  refine sfz 0 hO fun s hO L7 uF => ?_
  refine sdr [0] hO fun s hO => ?_
  exact hX2 _ H _ _ agr ⟨_, _, ⟨⟨(congrArg (fun nn => Value.slice p41 nn eQ.length) uF), rfl, trivial⟩, hO, fr⟩, L7.u⟩
 refine au ?_
 refine Go1.ret1 func110 rfl ⟨_, _, _, er, frs, (ISl.null _ _ _), H⟩
theorem body66 : Body prog 66 := ⟨f66, func66, rfl, by kernel_rfl⟩
theorem J4x {ah ap : Option Addr} {aj aq : Nat} {a0 : DFA} (hA : HA0 A w0) (aa : ISb A w0 ah aj a0.Final) (ar : ISs A w0 ap aq a0.Next) {K : DFA → List Int → Prop} (H : J0R a0 K) :
    CallsV prog 66 #[.agg (cDF a0 ah aj ap aq)] w0 (fun v w' => ∃ (r0 : DFA), ∃ (r1 : List Int), ∃ (aI : Option Addr), ∃ (aJ : Nat), ∃ (aT : Option Addr), ∃ (aU : Nat), ∃ (fq : Option Addr), ∃ (ft : Nat), v = .tuple #[.agg (cDF r0 aI aJ aT aU), .slice fq r1.length ft] ∧ Same w0 w' ∧ ISb A w' aI aJ r0.Final ∧ ISs A w' aT aU r0.Next ∧ ISi A w' fq ft r1 ∧ K r0 r1) := by
 refine cal hA func66 ntmps66 fun hO hB => ?_
 unfold J0R at H
 refine sbx hO fun w1 B2 s hO => ?_
 refine sal hO fun w4 B5 s hO => ?_
 refine sag 1 hO ?_
 refine zcr (J01 body109 rfl (J5n hO.lt aa.u ar.u H)) fun _ w9 => e4 fun r7 r8 kM kN => e4 fun mf mg ce cf => sc0 hO fun s hO => d3 fun cI cX d7 H => ?_
 refine sal hO fun w10 B11 s hO => ?_
 refine sba 0 hO fun w13 s hO => ?_
 refine sag 0 hO ?_
 refine zcr (J01 body110 rfl (J4b hO.lt cI.u cX.u H)) fun _ w15 => e3 fun r14 qb qc => sc0 hO fun s hO => d1 fun dp H => ?_
 refine au ?_
 refine zo (J04 underlying25 ti25 (pl := [(0, 1), (1, 1), (2, 1), (3, 1)]) (vs := [(0, .int .i64 a0.Letters)]) (cs := #[.int .i64 a0.Letters, .int .i64 (0 : Int), .slice none 0 0, .slice none 0 0]) (by kernel_rfl) rfl (by kernel_rfl)) ?_
 refine sal hO fun w16 B17 s hO => ?_
 refine sba 0 hO fun w19 s hO => ?_
 refine sln0 ?_
 refine au ?_
 refine snil Fl.bool 4 hO fun s hO => ?_
 have ph := Stp.nil (e := 31) (r := 1) hO
 refine nst ph fun s hO => ?_
 have ie := elN (Rp.sl (Rp.int .i64)) hO
 refine lv [1, 2, 4, 5, 6, 7, 28, 29] hO (H dp.bd) (fun E (k1_25, qd, d_32) σ w => ∃ n31 p29 c30 qe n35 p33 c34, (fun Z => Lo A w0 σ w [(30, .int .i64 (k1_25 : Int))] Z ∧ Els (Rp.sl (Rp.int .i64)) (bl Z ++ A) w qe qd ∧ ISb (bl Z ++ A) w kM kN r7.Final ∧ ISs (bl Z ++ A) w mf mg r7.Next ∧ ISi (bl Z ++ A) w ce cf r8 ∧ ISi (bl Z ++ A) w qb qc r14) (esets E [(0, .row 31 1 p29 n31 c30 qe), (1, t1 Fl.bool 4 p33 n35 c34 d_32), (2, .blk B17 (.cells #[.int .i64 a0.Letters, .int .i64 (0 : Int), .slice p33 n35 c34, .slice p29 n31 c30] 25 (0, 0)))])) ⟨_, _, _, _, _, _, _, ⟨agr, hO, fr⟩, ie.u, cI.u, cX.u, d7.u, dp.u⟩ ?_
 refine fun X1 => p2 fun k1_25 qd d_32 => fun H hX1 σ w24 hk => e4 fun n31 p29 c30 qe => e3 fun n35 p33 c34 => d1 fun hL => d4 fun iQ cI cX d7 dp => d2 (fun hag hO hB => keep2 hk hag ?_) hL
 dsimp only [esets, sS, sZ] at hO hB iQ cI cX d7 dp
 dsimp only at H
 revert hO; repeat (rename Owns .. => q; clear q)
 intro hO; repeat (rename Sq .. => q; clear q)
 refine scm H (fun h36 H => ?_) fun h36 H => ?_
 ·refine sxl hO dp H.1 H.2.1 ?_
  refine sln1 1 hO ?_
  have h37 := H.1
  have h38 := H.2.1
  refine scm H.2.2 (fun h39 H => ?_) fun h39 H => ?_
  ·refine sinc (natbd h36 dp.bd) ?_
   refine au ?_
   exact hX1 _ H _ _ agr ⟨_, _, _, _, _, _, _, ⟨agr, hO, fr⟩, iQ, cI, cX, d7, dp⟩
  refine smk Fl.i H hO fun w40 p41 s hO => ?_
  refine sxls hO cX.u H.2.2.1 H.2.2.2.1 fun p43 c44 iD => ?_
  refine sln0 ?_
  refine au ?_
  refine lv [1, 2, 4, 5, 6, 7, 8, 10, 28, 29, 30, 47, 48] hO (H.2.2.2.2 iD.bd) (fun E (qf, d_48) σ w => (fun Z => Lo A w0 σ w [(49, .int .i64 (qf : Int))] Z ∧ Els (Rp.sl (Rp.int .i64)) (bl Z ++ A) w qe qd ∧ ISb (bl Z ++ A) w kM kN r7.Final ∧ ISs (bl Z ++ A) w mf mg r7.Next ∧ ISi (bl Z ++ A) w ce cf r8 ∧ ISi (bl Z ++ A) w qb qc r14 ∧ ISi (bl Z ++ A) w p43 c44 (ix r7.Next (k1_25 : Int))) (E.set 0 (t1 Fl.i 3 p41 a0.Letters.toNat a0.Letters.toNat d_48))) ⟨⟨agr, hO, fr⟩, iQ.u, cI.u, cX.u, d7.u, dp.u, iD.u⟩ ?_
  refine fun X2 => p1 fun qf d_48 => fun H hX2 σ w46 hk => d1 fun hL => d1 fun iQ => d4 fun cI cX d7 dp iD => d2 (fun hag hO hB => keep2 hk hag ?_) hL
  dsimp only [esets, sS, sZ] at hO hB iQ cI cX d7 dp iD
  dsimp only at H
  revert hO; repeat (rename Owns .. => q; clear q)
  intro hO; repeat (rename Sq .. => q; clear q)
  refine scm H (fun h49 H => ?_) fun h49 H => ?_
  ·refine sxl hO iD H.1 H.2.1 ?_
   refine sxl hO dp H.2.2.1 H.2.2.2.1 ?_
   refine six1 0 hO H.2.2.2.2.1 H.2.2.2.2.2.1 ?_
   refine sst (u := (ix r14 (ix (ix r7.Next (k1_25 : Int)) (qf : Int)))) 0 hO H.2.2.2.2.1 H.2.2.2.2.2.1 fun w50 s hO => ?_
   refine sinc (natbd h49 iD.bd) ?_
   refine au ?_
   exact hX2 _ H.2.2.2.2.2.2 _ _ agr ⟨⟨agr, hO, fr⟩, iQ.u, cI.u, cX.u, d7.u, dp.u, iD.u⟩
  refine au ?_
  refine drs 4 [q0, q1, q0, q1, q0, q0, q1, q2, q3, q0, q3] hO fun w51 s hO => ?_
  refine sxl hO cI.u H.1 H.2.1 ?_
  refine sap1 (ix r7.Final (k1_25 : Int)) 2 hO H.2.2 fun _ w52 p53 c54 s hO => ?_
  refine sbs 3 hO fun w55 s hO => ?_
  refine au ?_
  refine sfz 0 hO fun s hO L8 L9 => ?_
  have zz := J1P (r := Rp.sl (Rp.int .i64)) (n := 1) (parts := [(0, .slice p41 a0.Letters.toNat a0.Letters.toNat)]) (vs := [.slice p41 a0.Letters.toNat a0.Letters.toNat]) (xs := [d_48]) rfl underlying23 ti31 hO (by decide) (by kernel_rfl) (Els.cons rfl ⟨p41, a0.Letters.toNat, congrArg some (congrArg (fun nn => Value.slice p41 nn a0.Letters.toNat) L9), L8.u⟩ (Els.nil _ _ _) (by simp [mx])) rfl
  obtain ⟨w58, p59, qg, uG, UM, E8⟩ := zz
  refine zg (E8 rfl) ?_
  refine nst qg fun s hO => ?_
  refine sfzR 0 hO uG fun s hO uH uI => ?_
  have h67 := H.1
  have h68 := H.2.1
  replace H := H.2.2.2
  obtain ⟨h69, H⟩ := H
  have zz := oapp underlying23 ti31 rfl 0 hO rfl iQ.u uH uI h69 (by decide)
  obtain ⟨w70, p71, c72, UO, E9, z9, Fa⟩ := zz
  dsimp only [sS, sZ] at z9
  refine zg (Fa (by exact rfl) (by exact rfl)) ?_
  refine nst E9 fun s hO => ?_
  refine sbs 2 hO fun w78 s hO => ?_
  refine sinc (natbd h36 dp.bd) ?_
  refine au ?_
  exact hX1 _ H _ _ agr ⟨_, _, _, _, _, _, _, ⟨agr, hO, fr⟩, z9.u, cI.u, cX.u, d7.u, dp.u⟩
 refine sag 2 hO ?_
 refine sfz 1 hO fun s hO nC qh => ?_
 refine sfzR 0 hO iQ.u fun s hO uJ uK => ?_
 refine zcr (J01 body109 (by rw [qh, uK]; exact rfl) (J5n (d := (⟨a0.Letters, (0 : Int), d_32, qd⟩ : DFA)) hO.lt nC.u uJ H)) fun _ w85 => e4 fun r83 r84 oR oS => e4 fun qi qj Fb Fc => sc0 hO fun s hO => d3 fun eH eU jl H => ?_
 refine sal hO fun w86 B87 s hO => ?_
 refine sba 0 hO fun w89 s hO => ?_
 refine sln0 ?_
 refine smk Fl.i (H d7.bd) hO fun w90 p91 s hO => ?_
 refine sln0 ?_
 refine au ?_
 refine sdr [2, 2, 3] hO fun s hO => ?_
 refine lv [2, 6, 13, 14, 15, 87, 88] hO (H d7.bd).2.2 (fun E (qk, Aa) σ w => (fun Z => Lo A w0 σ w [(89, .int .i64 (qk : Int))] Z ∧ ISi (bl Z ++ A) w ce cf r8 ∧ ISi (bl Z ++ A) w qb qc r14 ∧ ISb (bl Z ++ A) w oR oS r83.Final ∧ ISs (bl Z ++ A) w qi qj r83.Next ∧ ISi (bl Z ++ A) w Fb Fc r84) (E.set 0 (t1 Fl.i 3 p91 r8.length r8.length Aa))) ⟨⟨agr, hO, fr⟩, d7.u, dp.u, eH.u, eU.u, jl.u⟩ ?_
 refine fun X3 => p1 fun qk Aa => fun H hX3 σ w93 hk => d1 fun hL => d4 fun d7 dp eH eU jl => d2 (fun hag hO hB => keep2 hk hag ?_) hL
 dsimp only [esets, sS, sZ] at hO hB d7 dp eH eU jl
 dsimp only at H
 revert hO; repeat (rename Owns .. => q; clear q)
 intro hO; repeat (rename Sq .. => q; clear q)
 refine scm H (fun h96 H => ?_) fun h96 H => ?_
 ·refine sxl hO d7 H.1 H.2.1 ?_
  refine six1 0 hO H.2.2.1 H.2.2.2.1 ?_
  refine sst (u := (-1 : Int)) 0 hO H.2.2.1 H.2.2.2.1 fun w97 s hO => ?_
  refine au ?_
  have h98 := H.1
  have h99 := H.2.1
  have nE := H.2.2.1
  have uL := H.2.2.2.1
  refine scm H.2.2.2.2 (fun Ma H => ?_) fun Ma H => ?_
  ·refine sxl hO dp.u H.1 H.2.1 ?_
   refine sxl hO jl.u H.2.2.1 H.2.2.2.1 ?_
   refine six1 0 hO H.2.2.2.2.1 H.2.2.2.2.2.1 ?_
   refine sst (u := (ix r84 (ix r14 (ix r8 (qk : Int))))) 0 hO H.2.2.2.2.1 H.2.2.2.2.2.1 fun Mc s hO => ?_
   refine sinc (natbd h96 d7.bd) ?_
   refine au ?_
   exact hX3 _ H.2.2.2.2.2.2 _ _ agr ⟨⟨agr, hO, fr⟩, d7.u, dp.u, eH.u, eU.u, jl.u⟩
  refine sinc (natbd h96 d7.bd) ?_
  refine au ?_
  exact hX3 _ H _ _ agr ⟨⟨agr, hO, fr⟩, d7.u, dp.u, eH.u, eU.u, jl.u⟩
 refine sag 1 hO ?_
 refine sba 2 hO fun uM s hO => ?_
 refine au ?_
 refine sfz 0 hO fun s hO Fd Fe => ?_
 refine Go1.retC2 func66 rfl rfl (rlb 1 hO) ⟨((⟨r83.Letters, r83.Start, r83.Final, r83.Next⟩ : DFA)), _, _, _, _, _, _, _, ?_, frs, eH.r, eU.r, Fd.r, H⟩
 exact (congrArg (fun l => Value.tuple (List.toArray l)) (J02 rfl (J02 (congrArg (fun nn => Value.slice p91 nn r8.length) Fe) rfl)))
theorem body22 : Body prog 22 := ⟨f22, func22, rfl, by kernel_rfl⟩
theorem J4h {aL ba : Option Addr} {aM bc : Nat} {d : DFA} (hA : HA0 A w0) (aK : ISb A w0 aL aM d.Final) (bn : ISs A w0 ba bc d.Next) {K : DFA → Prop} (H : J0O d K) :
    CallsV prog 22 #[.agg (cDF d aL aM ba bc)] w0 (fun v w' => ∃ (r0 : DFA), ∃ (aI : Option Addr), ∃ (aJ : Nat), ∃ (aT : Option Addr), ∃ (aU : Nat), v = .agg (cDF r0 aI aJ aT aU) ∧ Same w0 w' ∧ ISb A w' aI aJ r0.Final ∧ ISs A w' aT aU r0.Next ∧ K r0) := by
 refine cal hA func22 ntmps22 fun hO hB => ?_
 unfold J0O at H
 refine sbx hO fun w1 B2 s hO => ?_
 refine sal hO fun w4 B5 s hO => ?_
 refine sag 1 hO ?_
 refine zcr (J01 body61 rfl (J0q hO.lt aK.u bn.u H)) fun _ w8 => e1 fun r7 => sc0 hO fun s hO => fun H => ?_
 refine scm H (fun h9 H => ?_) fun h9 H => ?_
 ·refine sag 1 hO ?_
  refine zcr (J01 body66 rfl (J4x hO.lt aK.u bn.u H)) fun _ w12 => e4 fun r10 r11 jz jA => e4 fun kx kz Ff Fg => sc0 hO fun s hO => d3 fun dY fB RO H => ?_
  refine sal hO fun w13 B14 s hO => ?_
  refine sba 0 hO fun w16 s hO => ?_
  refine sag 0 hO ?_
  refine sba 1 hO fun w17 s hO => ?_
  refine au ?_
  refine Go1.retC1 func22 rfl rfl (rlb 1 hO) ⟨((⟨r10.Letters, r10.Start, r10.Final, r10.Next⟩ : DFA)), _, _, _, _, er, frs, dY.r, fB.r, H⟩
 refine au ?_
 refine zo (J04 underlying25 ti25 (pl := [(0, 1), (1, 1), (2, 1), (3, 1)]) (vs := []) (cs := #[.int .i64 (0 : Int), .int .i64 (0 : Int), .slice none 0 0, .slice none 0 0]) (by kernel_rfl) rfl (by kernel_rfl)) ?_
 refine sba 0 hO fun w18 s hO => ?_
 refine au ?_
 refine Go1.retC1 func22 rfl rfl (rlb 0 hO) ⟨((⟨(0 : Int), (0 : Int), ([] : List Bool), ([] : List (List Int))⟩ : DFA)), _, _, _, _, er, frs, (ISl.null _ _ _), (ISl.null _ _ _), H⟩
theorem body154 : Body prog 154 := ⟨f154, func154, rfl, by kernel_rfl⟩
theorem J2g {p_f : Option Addr} {c_f : Nat} {f : List Int} (hA : HA0 A w0) (h_f : ISi A w0 p_f c_f f) {K : Bool → Prop} (H : J1X f K) :
    CallsV prog 154 #[.slice p_f f.length c_f] w0 (fun v w' => ∃ (r0 : Bool), v = .bool r0 ∧ Same w0 w' ∧ K r0) := by
 refine cal hA func154 ntmps154 fun hO hB => ?_
 unfold J1X at H
 refine sln0 ?_
 refine scm (H h_f.bd) (fun h1 H => ?_) fun h1 H => ?_
 ·refine au ?_
  refine Go1.ret1 func154 rfl ⟨_, er, frs, H⟩
 refine sln0 ?_
 refine scm H (fun h2 H => ?_) fun h2 H => ?_
 ·refine au ?_
  refine Go1.ret1 func154 rfl ⟨_, er, frs, H⟩
 refine sln0 ?_
 refine au ?_
 refine lv [0, 13, 14] hO H (fun E k1_4 σ w => Lo A w0 σ w [(15, .int .i64 (k1_4 : Int))] []) ⟨agr, hO, fr⟩ ?_
 refine fun X1 => fun k1_4 => fun H hX1 σ w3 hk => d2 fun hag hO hB => keep2 hk hag ?_
 refine scm H (fun h5 H => ?_) fun h5 H => ?_
 ·refine sxl hO h_f.u H.1 H.2.1 ?_
  refine au ?_
  have h6 := H.1
  have h7 := H.2.1
  refine scm H.2.2 (fun h8 H => ?_) fun h8 H => ?_
  ·refine au ?_
   refine Go1.ret1 func154 rfl ⟨_, er, frs, H⟩
  refine sln0 ?_
  refine scm H (fun h9 H => ?_) fun h9 H => ?_
  ·refine au ?_
   refine Go1.ret1 func154 rfl ⟨_, er, frs, H⟩
  refine sinc (natbd h5 h_f.bd) ?_
  refine au ?_
  exact hX1 _ H _ _ agr ⟨agr, hO, fr⟩
 refine au ?_
 refine Go1.ret1 func154 rfl ⟨_, er, frs, H⟩
theorem body86 : Body prog 86 := ⟨f86, func86, rfl, by kernel_rfl⟩
theorem J0z {fo : Option Addr} {gI : Nat} {s_ : List Int} (hA : HA0 A w0) (gJ : ISi A w0 fo gI s_) {K : List Int → Prop} (H : J0i s_ K) :
    CallsV prog 86 #[.slice fo s_.length gI] w0 (fun v w' => ∃ (r0 : List Int), ∃ (d6 : Nat), ∃ (p_r0 : Option Addr), ∃ (c_r0 : Nat), v = .slice p_r0 d6 c_r0 ∧ Same w0 w' ∧ Owns w0.heap.size w' [t1 Fl.i 3 p_r0 d6 c_r0 r0] A ∧ K r0) := by
 refine cal hA func86 ntmps86 fun hO hB => ?_
 unfold J0i at H
 refine au ?_
 replace H := H fo.isNone (fun h => gJ.nilD h)
 by_cases hz2 : fo.isNone = true
 ·replace H := ifp hz2 H
  refine zo (fun w => opB (J2R underlying31 rfl rfl w) (hz2)) ?_
  refine au ?_
  refine snil Fl.i 3 hO fun s hO => ?_
  refine Go1.ret1 func86 rfl ⟨_, _, _, _, er, frs, hO, H⟩
 ·replace H := ifn hz2 H
  refine zo (fun w => opB (J2R underlying31 rfl rfl w) (Bool.eq_false_iff.2 hz2)) ?_
  refine sbu Fl.i 3 ([] : List Int) hO fun w4 p5 s hO => ?_
  refine sap 0 hO gJ.u H fun w7 p8 c9 s hO => ?_
  refine au ?_
  refine Go1.ret1 func86 rfl ⟨_, _, _, _, er, frs, hO, H.2⟩
theorem body156 : Body prog 156 := ⟨f156, func156, rfl, by kernel_rfl⟩
theorem J4N {n : Int} (hA : HA0 A w0) {K : List Int → Prop} (H : J1c n K) :
    CallsV prog 156 #[.int .i64 n] w0 (fun v w' => ∃ (r0 : List Int), ∃ (p_r0 : Option Addr), ∃ (c_r0 : Nat), v = .slice p_r0 r0.length c_r0 ∧ Same w0 w' ∧ ISi A w' p_r0 c_r0 r0 ∧ K r0) := by
 refine cal hA func156 ntmps156 fun hO hB => ?_
 unfold J1c at H
 refine scm H (fun h1 H => ?_) fun h1 H => ?_
 ·refine au ?_
  refine Go1.ret1 func156 rfl ⟨_, _, _, er, frs, (ISl.null _ _ _), H⟩
 refine scm H (fun h2 H => ?_) fun h2 H => ?_
 ·refine au ?_
  refine Go1.ret1 func156 rfl ⟨_, _, _, er, frs, (ISl.null _ _ _), H⟩
 refine smk Fl.i H hO fun w3 p4 s hO => ?_
 refine sln1 0 hO ?_
 refine au ?_
 refine lv [3, 14] hO H.2.2 (fun E (bB, f1_8) σ w => Lo A w0 σ w [(15, .int .i64 (bB : Int))] [t1 Fl.i 3 p4 n.toNat n.toNat f1_8]) ⟨agr, hO, fr⟩ ?_
 refine fun X1 => p1 fun bB f1_8 => fun H hX1 σ w6 hk => d2 fun hag hO hB => keep2 hk hag ?_
 dsimp only at H
 revert hO; repeat (rename Owns .. => q; clear q)
 intro hO; repeat (rename Sq .. => q; clear q)
 refine scm H (fun h9 H => ?_) fun h9 H => ?_
 ·refine six1 0 hO H.1 H.2.1 ?_
  refine sst (u := (bB : Int)) 0 hO H.1 H.2.1 fun w10 s hO => ?_
  refine au ?_
  have h11 := H.1
  have h12 := H.2.1
  replace H := H.2.2
  obtain ⟨h13, H⟩ := H
  refine zo (J03 rfl rfl (wrap_i64 h13)) ?_
  refine au ?_
  exact hX1 _ H _ _ agr ⟨agr, hO, fr⟩
 refine au ?_
 refine sfz 0 hO fun s hO jU ig => ?_
 refine Go1.ret1 func156 rfl ⟨_, _, _, ?_, frs, jU.r, H⟩
 exact (congrArg (fun nn => Value.slice p4 nn n.toNat) ig)
theorem body157 : Body prog 157 := ⟨f157, func157, rfl, by kernel_rfl⟩
theorem J09 {p_f : Option Addr} {c_f : Nat} {f : List Int} (hA : HA0 A w0) (h_f : ISi A w0 p_f c_f f) {K : Str → Prop} (H : J0d f K) :
    CallsV prog 157 #[.slice p_f f.length c_f] w0 (fun v w' => ∃ (r0 : Str), v = .string (gstr r0) ∧ Same w0 w' ∧ r0.length ≤ mx ∧ K r0) := by
 refine cal hA func157 ntmps157 fun hO hB => ?_
 unfold J0d at H
 refine sln0 ?_
 refine smk (Fl.int .u8) (H h_f.bd) hO fun w1 p4 s hO => ?_
 refine sln0 ?_
 refine au ?_
 refine lv [3, 9, 10] hO (H h_f.bd).2.2 (fun E (bB, Ab) σ w => Lo A w0 σ w [(11, .int .i64 (bB : Int))] [t1 (Fl.int .u8) 5 p4 f.length f.length Ab]) ⟨agr, hO, fr⟩ ?_
 refine fun X1 => p1 fun bB Ab => fun H hX1 σ w6 hk => d2 fun hag hO hB => keep2 hk hag ?_
 dsimp only at H
 revert hO; repeat (rename Owns .. => q; clear q)
 intro hO; repeat (rename Sq .. => q; clear q)
 refine scm H (fun h9 H => ?_) fun h9 H => ?_
 ·refine sxl hO h_f.u H.1 H.2.1 ?_
  refine au ?_
  refine zo (J3M underlying3 underlying5 rfl rfl) ?_
  refine six1 0 hO H.2.2.1 H.2.2.2.1 ?_
  refine sst (u := (IntKind.u8.wrap (ix f (bB : Int)))) 0 hO H.2.2.1 H.2.2.2.1 fun w10 s hO => ?_
  refine sinc (natbd h9 h_f.bd) ?_
  refine au ?_
  exact hX1 _ H.2.2.2.2 _ _ agr ⟨agr, hO, fr⟩
 refine au ?_
 refine op1 0 hO fun UP s hO Ac => ?_
 have hle13 := J0x Ac.bd
 refine zs (oldBytes 0 hO rfl Ac.u underlying126 underlying5 underlying9 rfl) ?_
 refine au ?_
 refine Go1.ret1 func157 rfl ⟨_, er, frs, hle13, H⟩
theorem body155 : Body prog 155 := ⟨f155, func155, rfl, by kernel_rfl⟩
theorem body131 : Body prog 131 := ⟨f131, func131, rfl, by kernel_rfl⟩
theorem J4D {iR : Option Addr} {iU : Nat} {a0 : List (List Int)} {a1 : Bool} (hA : HA0 A w0) (d8 : ISs A w0 iR iU a0) {K : Option run → Int → Prop} (H : J10 a0 a1 K) :
    CallsV prog 131 #[.slice iR a0.length iU, .bool a1] w0 (fun v w' => (∃ (r1 : Int), v = .tuple #[.pointer none, .int .i64 r1] ∧ Same w0 w' ∧ K none r1) ∨ (∃ (q : run), ∃ (r1 : Int), ∃ (b_q : Nat), ∃ (aN : Nat), ∃ (aO : Option Addr), ∃ (aP : Nat), ∃ (bM : List Value), ∃ (az : Nat), ∃ (aA : Option Addr), ∃ (aB : Nat), ∃ (bI : List Value), ∃ (av : Nat), ∃ (aw : Option Addr), ∃ (ax : Nat), ∃ (aQ : Nat), ∃ (aR : Option Addr), ∃ (aS : Nat), ∃ (aC : Nat), ∃ (aD : Option Addr), ∃ (aE : Nat), ∃ (bK : List Value), ∃ (aF : Nat), ∃ (aG : Option Addr), ∃ (aH : Nat), ∃ (dM : Nat), ∃ (bN : Nat), ∃ (bO : Option Addr), ∃ (bP : Nat), ∃ (bC : Nat), ∃ (bD : Option Addr), ∃ (bE : Nat), ∃ (bF : Nat), ∃ (bG : Option Addr), ∃ (bH : Nat), v = .tuple #[.pointer (some ⟨b_q, 0, none⟩), .int .i64 r1] ∧ Same w0 w' ∧ Owns w0.heap.size w' [.blk b_q (.cells #[.int .i64 q.Enum.Points, .bool q.Enum.Monoid, .slice aO aN aP, .slice aA az aB, .slice aw av ax, .slice aR aQ aS, .slice aD aC aE, .slice aG aF aH, .int .i64 q.Enum.Done, .map (some dM), .slice bO bN bP, .slice bD bC bE, .slice bG bF bH] 156 (0, 0)), .row 31 1 aO aN aP bM, .row 31 1 aA az aB bI, t1 Fl.i 3 aw av ax q.Enum.Prefix, t1 Fl.i 3 aR aQ aS q.Enum.Last, .row 31 1 aD aC aE bK, t1 (id Fl.fl : Fl rpRule) 185 aG aF aH q.Enum.Rules, t1 Fl.str 9 bO bN bP q.words, t1 Fl.i 3 bD bC bE q.behind, t1 Fl.i 3 bG bF bH q.single, .any (mapE (fun a : List UInt8 => Value.string (gstr a)) (fun a : Int => Value.int .i64 a) dM q.number)] A ∧ Els (Rp.sl (Rp.int .i64)) (bl [.blk b_q (.cells #[.int .i64 q.Enum.Points, .bool q.Enum.Monoid, .slice aO aN aP, .slice aA az aB, .slice aw av ax, .slice aR aQ aS, .slice aD aC aE, .slice aG aF aH, .int .i64 q.Enum.Done, .map (some dM), .slice bO bN bP, .slice bD bC bE, .slice bG bF bH] 156 (0, 0)), .row 31 1 aO aN aP bM, .row 31 1 aA az aB bI, t1 Fl.i 3 aw av ax q.Enum.Prefix, t1 Fl.i 3 aR aQ aS q.Enum.Last, .row 31 1 aD aC aE bK, t1 (id Fl.fl : Fl rpRule) 185 aG aF aH q.Enum.Rules, t1 Fl.str 9 bO bN bP q.words, t1 Fl.i 3 bD bC bE q.behind, t1 Fl.i 3 bG bF bH q.single, .any (mapE (fun a : List UInt8 => Value.string (gstr a)) (fun a : Int => Value.int .i64 a) dM q.number)] ++ A) w' bM q.Enum.Gens ∧ Els (Rp.sl (Rp.int .i64)) (bl [.blk b_q (.cells #[.int .i64 q.Enum.Points, .bool q.Enum.Monoid, .slice aO aN aP, .slice aA az aB, .slice aw av ax, .slice aR aQ aS, .slice aD aC aE, .slice aG aF aH, .int .i64 q.Enum.Done, .map (some dM), .slice bO bN bP, .slice bD bC bE, .slice bG bF bH] 156 (0, 0)), .row 31 1 aO aN aP bM, .row 31 1 aA az aB bI, t1 Fl.i 3 aw av ax q.Enum.Prefix, t1 Fl.i 3 aR aQ aS q.Enum.Last, .row 31 1 aD aC aE bK, t1 (id Fl.fl : Fl rpRule) 185 aG aF aH q.Enum.Rules, t1 Fl.str 9 bO bN bP q.words, t1 Fl.i 3 bD bC bE q.behind, t1 Fl.i 3 bG bF bH q.single, .any (mapE (fun a : List UInt8 => Value.string (gstr a)) (fun a : Int => Value.int .i64 a) dM q.number)] ++ A) w' bI q.Enum.Elems ∧ Els (Rp.sl (Rp.int .i64)) (bl [.blk b_q (.cells #[.int .i64 q.Enum.Points, .bool q.Enum.Monoid, .slice aO aN aP, .slice aA az aB, .slice aw av ax, .slice aR aQ aS, .slice aD aC aE, .slice aG aF aH, .int .i64 q.Enum.Done, .map (some dM), .slice bO bN bP, .slice bD bC bE, .slice bG bF bH] 156 (0, 0)), .row 31 1 aO aN aP bM, .row 31 1 aA az aB bI, t1 Fl.i 3 aw av ax q.Enum.Prefix, t1 Fl.i 3 aR aQ aS q.Enum.Last, .row 31 1 aD aC aE bK, t1 (id Fl.fl : Fl rpRule) 185 aG aF aH q.Enum.Rules, t1 Fl.str 9 bO bN bP q.words, t1 Fl.i 3 bD bC bE q.behind, t1 Fl.i 3 bG bF bH q.single, .any (mapE (fun a : List UInt8 => Value.string (gstr a)) (fun a : Int => Value.int .i64 a) dM q.number)] ++ A) w' bK q.Enum.Right ∧ K (some q) r1)) := by
 refine cal hA func131 ntmps131 fun hO hB => ?_
 unfold J10 at H
 refine sln0 ?_
 refine scm (H d8.bd) (fun h1 H => ?_) fun h1 H => ?_
 ·refine au ?_
  refine Go1.ret2 func131 rfl (Or.inl ⟨_, er, frs, H⟩)
 refine sln0 ?_
 refine scm H (fun h2 H => ?_) fun h2 H => ?_
 ·refine au ?_
  refine Go1.ret2 func131 rfl (Or.inl ⟨_, er, frs, H⟩)
 refine au ?_
 have zz := omakeMap (fun a : List UInt8 => Value.string (gstr a)) (fun a : Int => Value.int .i64 a) hO
 obtain ⟨w3, B4, nF, hs6, Me⟩ := zz
 refine zg Me ?_
 refine nst nF fun s hO => ?_
 refine zo (J04 underlying156 ti156 (pl := [(0, 9), (9, 1), (10, 1), (11, 1), (12, 1)]) (vs := [(1, .map (some B4))]) (cs := #[.int .i64 (0 : Int), .bool false, .slice none 0 0, .slice none 0 0, .slice none 0 0, .slice none 0 0, .slice none 0 0, .slice none 0 0, .int .i64 (0 : Int), .map (some B4), .slice none 0 0, .slice none 0 0, .slice none 0 0]) (by kernel_rfl) rfl (by kernel_rfl)) ?_
 refine sbx hO fun w9 B10 s hO => ?_
 refine sxls hO d8.u H.1 H.2.1 fun p12 c13 jU => ?_
 refine sln0 ?_
 refine sbs 0 hO fun w15 s hO => ?_
 refine sbs 0 hO fun w16 s hO => ?_
 refine sln0 ?_
 refine au ?_
 have Fh := Stp.nil (e := 31) (r := 1) hO
 refine nst Fh fun s hO => ?_
 have Mf := elN (Rp.sl (Rp.int .i64)) hO
 refine lv [1, 6, 39, 40] hO (H.2.2 jU.bd) (fun E (k1_21, d_22) σ w => ∃ n27 p25 c26 jV, (fun Z => Lo A w0 σ w [(41, .int .i64 (k1_21 : Int))] Z ∧ Els (Rp.sl (Rp.int .i64)) (bl Z ++ A) w jV d_22) (esets E [(0, .row 31 1 p25 n27 c26 jV), (1, .blk B10 (.cells #[.int .i64 ((ix a0 (0 : Int)).length : Int), .bool a1, .slice p25 n27 c26, .slice none 0 0, .slice none 0 0, .slice none 0 0, .slice none 0 0, .slice none 0 0, .int .i64 (0 : Int), .map (some B4), .slice none 0 0, .slice none 0 0, .slice none 0 0] 156 (0, 0)))])) ⟨_, _, _, _, ⟨agr, hO, fr⟩, Mf.u⟩ ?_
 refine fun X1 => p1 fun k1_21 d_22 => fun H hX1 σ w20 hk => e4 fun n27 p25 c26 jV => d1 fun hL => fun dr => d2 (fun hag hO hB => keep2 hk hag ?_) hL
 dsimp only [esets, sS, sZ] at hO hB dr
 dsimp only at H
 revert hO; repeat (rename Owns .. => q; clear q)
 intro hO; repeat (rename Sq .. => q; clear q)
 refine scm H (fun h28 H => ?_) fun h28 H => ?_
 ·refine sxls hO d8.u H.1 H.2.1 fun p29 c30 uN => ?_
  refine sln0 ?_
  refine au ?_
  have h32 := H.1
  have h33 := H.2.1
  refine scm (H.2.2 uN.bd) (fun h34 H => ?_) fun h34 H => ?_
  ·refine au ?_
   refine zcr (J01 body154 rfl (J2g hO.lt uN.u H)) fun _ w36 => e1 fun r35 => sc0 hO fun s hO => fun H => ?_
   cases r35
   ·refine au ?_
    refine Go1.ret2 func131 rfl (Or.inl ⟨_, er, frs, (iF H)⟩)
   refine au ?_
   refine drs 1 [q0, q0, q0, q0, q0, q1, q0, q2, q2, q3, q0, q0, q0, q3] hO fun w37 s hO => ?_
   refine au ?_
   refine zcq rfl (J01 body86 rfl (J0z hO.lt uN.u (iT H))) fun _ w40 => e4 fun r38 yh mC mD => sq1 hO fun s hO => fun H => ?_
   refine sfz 0 hO fun s hO Mg Mh => ?_
   have zz := J1P (r := Rp.sl (Rp.int .i64)) (n := 1) (parts := [(0, .slice mC yh mD)]) (vs := [.slice mC yh mD]) (xs := [r38]) rfl underlying23 ti31 hO (by decide) (by kernel_rfl) (Els.cons rfl ⟨mC, mD, congrArg some (congrArg (fun nn => Value.slice mC nn mD) Mh), Mg⟩ (Els.nil _ _ _) (by simp [mx])) rfl
   obtain ⟨w44, p45, kO, lN, uj, Fi⟩ := zz
   refine GoQ.loud rfl (Fi rfl) uj rfl rfl ?_
   refine nst kO fun s hO => ?_
   refine sfzR 0 hO lN fun s hO uO uP => ?_
   obtain ⟨h53, H⟩ := H
   have zz := oapp underlying23 ti31 rfl 0 hO rfl dr.u uO uP h53 (by decide)
   obtain ⟨w54, p55, c56, UQ, pW, Ad, Fj⟩ := zz
   dsimp only [sS, sZ] at Ad
   refine GoQ.last rfl (Fj (by exact rfl) (by exact rfl)) rfl rfl ?_
   refine nst pW fun s hO => ?_
   refine sbs 1 hO fun w62 s hO => ?_
   refine sinc (natbd h28 d8.bd) ?_
   refine au ?_
   exact hX1 _ H _ _ agr ⟨_, _, _, _, ⟨agr, hO, fr⟩, Ad.u⟩
  refine au ?_
  refine Go1.ret2 func131 rfl (Or.inl ⟨_, er, frs, H⟩)
 refine au ?_
 cases a1
 ·refine au ?_
  refine zo (J0M underlying23 rfl (Els.neqW dr.u hO 0 rfl)) ?_
  refine au ?_
  have Fk := Stp.nil (e := 31) (r := 1) hO
  refine nst Fk fun s hO => ?_
  have Mi := elN (Rp.sl (Rp.int .i64)) hO
  refine snil Fl.i 3 hO fun s hO => ?_
  refine snil Fl.i 3 hO fun s hO => ?_
  refine snil (id Fl.fl : Fl rpRule) 185 hO fun s hO => ?_
  refine snil Fl.str 9 hO fun s hO => ?_
  refine snil Fl.i 3 hO fun s hO => ?_
  refine snil Fl.i 3 hO fun s hO => ?_
  refine lv [6, 9, 85, 86] hO (iF H) (fun E (gB, uR, uS, d_82, d_86, uT, d_94, d_98, gf) σ w => ∃ n77 p75 c76 n81 p79 c80 n85 p83 c84 n89 p87 c88 n93 p91 c92 n97 p95 c96 uU uV uW uX, (fun Z => Lo A w0 σ w [(87, .int .i64 (gB : Int))] Z ∧ Els (Rp.sl (Rp.int .i64)) (bl Z ++ A) w uX d_98 ∧ Els (Rp.sl (Rp.int .i64)) (bl Z ++ A) w jV d_22) [t1 Fl.i 3 p75 n77 c76 uR, t1 Fl.i 3 p79 n81 c80 uS, t1 Fl.str 9 p83 n85 c84 d_82, t1 (id Fl.fl : Fl rpRule) 185 p87 n89 c88 d_86, t1 Fl.i 3 p91 n93 c92 uT, t1 Fl.i 3 p95 n97 c96 d_94, .row 31 1 uV uU uW uX, .row 31 1 p25 n27 c26 jV, .blk B10 (.cells #[.int .i64 ((ix a0 (0 : Int)).length : Int), .bool false, .slice p25 n27 c26, .slice uV uU uW, .slice p95 n97 c96, .slice p91 n93 c92, .slice none 0 0, .slice p87 n89 c88, .int .i64 (0 : Int), .map (some B4), .slice p83 n85 c84, .slice p79 n81 c80, .slice p75 n77 c76] 156 (0, 0)), .any (mapE (fun a : List UInt8 => Value.string (gstr a)) (fun a : Int => Value.int .i64 a) B4 gf)]) ⟨_, _, _, _, _, _, _, _, _, _, _, _, _, _, _, _, _, _, _, _, _, _, ⟨agr, hO, fr⟩, Mi.u, dr.u⟩ ?_
  refine fun X2 => p1 fun gB => p1 fun uR => p1 fun uS => p1 fun d_82 => p1 fun d_86 => p3 fun uT d_94 d_98 gf => fun H hX2 σ w72 hk => e4 fun n77 p75 c76 n81 => e4 fun p79 c80 n85 p83 => e4 fun c84 n89 p87 c88 => e4 fun n93 p91 c92 n97 => e4 fun p95 c96 uU uV => e2 fun uW uX => d1 fun hL => d1 fun g5 dr => d2 (fun hag hO hB => keep2 hk hag ?_) hL
  dsimp only at H
  revert hO; repeat (rename Owns .. => q; clear q)
  intro hO; repeat (rename Sq .. => q; clear q)
  refine scm H (fun uY H => ?_) fun uY H => ?_
  ·refine au ?_
   obtain ⟨jR, H⟩ := H
   obtain ⟨jQ, H⟩ := H
   refine zo (J05 underlying23 ti31 rfl rfl jR (ltn (Els.neqW dr hO 7 rfl) jQ) (Els.psomeW dr hO 7 rfl jR jQ)) ?_
   have zz := oldSl 7 hO rfl dr jR jQ
   obtain ⟨Mj, UR, mE, Fm⟩ := zz
   refine zs (Fm underlying31 rfl rfl) ?_
   refine au ?_
   obtain ⟨jS, H⟩ := H
   refine zo (J03 rfl rfl (wrap_i64 jS)) ?_
   refine zo (J3M underlying3 underlying21 rfl rfl) ?_
   obtain ⟨jT, H⟩ := H
   obtain ⟨Mk, H⟩ := H
   refine zo (J5o underlying21 underlying9 rfl jT Mk) ?_
   refine au ?_
   refine drs 0 [q0, q0, q0, q1, q0, q2, q1, q0, q0, q0, q0, q0] hO fun US s hO => ?_
   refine au ?_
   refine zcq rfl (J01 body157 rfl (J09 hO.lt mE.u H)) fun _ ql => e1 fun jW => sq0 hO fun s hO => d1 fun Rh H => ?_
   by_cases gH : mhas gf jW = true
   ·refine GoQ.stable rfl (olookT (a := jW) (MK.str underlying9) 9 hO rfl underlying154 rfl rfl gH) rfl rfl ?_
    refine au ?_
    refine drs 5 [q0, q0, q0, q0, q0, q1, q0, q0, q0, q0, q1, q0, q0, q1, q0, q2, q3, q0, q0, q0, q3] hO fun uy s hO => ?_
    refine sxl1 2 hO (ifp gH H).1 (ifp gH H).2.1 ?_
    have hle120 := t1le 2 hO (ifp gH H).1 (ifp gH H).2.1
    refine GoQ.pure rfl (J04 underlying185 ti185 (pl := [(0, 1), (1, 1)]) (vs := [(0, .string (gstr (chr (IntKind.i32.wrap ((97 : Int) + (gB : Int)))))), (1, .string (gstr (ix d_82 (mgt gf jW))))]) (cs := #[.string (gstr (chr (IntKind.i32.wrap ((97 : Int) + (gB : Int))))), .string (gstr (ix d_82 (mgt gf jW)))]) (by kernel_rfl) rfl (by kernel_rfl)) rfl rfl ?_
    refine sapF (⟨(chr (IntKind.i32.wrap ((97 : Int) + (gB : Int)))), ix d_82 (mgt gf jW)⟩ : Rule) 3 hO (ifp gH H).2.2 (fun _ nj Li Lj s hO => ?_) (hok := by exact ⟨(J8t _), hle120⟩)
    refine sbs 8 hO fun UT s hO => ?_
    refine au ?_
    refine sap1 ((mgt gf jW)) 0 hO (ifp gH H).2.2.2 fun _ Ae UU UV s hO => ?_
    refine sbs 8 hO fun Ml s hO => ?_
    refine sinc (natbd uY dr.bd) ?_
    refine au ?_
    exact hX2 _ (ifp gH H).2.2.2.2 _ _ agr ⟨_, _, _, _, _, _, _, _, _, _, _, _, _, _, _, _, _, _, _, _, _, _, ⟨agr, hO, fr⟩, g5.u, dr.u⟩
   refine GoQ.stable rfl (olookF (a := jW) (MK.str underlying9) 9 hO rfl underlying154 ti3 rfl rfl gH) rfl rfl ?_
   refine au ?_
   refine zcr (J01 body86 rfl (J0z hO.lt mE.u (ifn gH H))) fun _ UW => e4 fun r129 nG iV iW => sc1 hO fun s hO => fun H => ?_
   refine au ?_
   refine GoR.inl (vs := [.pointer (some ⟨B10, 0, none⟩), .slice iV nG iW, .int .i64 (-1 : Int), .int .i64 (gB : Int), .string (gstr (chr (IntKind.i32.wrap ((97 : Int) + (gB : Int))))), .int .i64 (-1 : Int)]) (caps := []) rfl rfl body155 func155 rfl ntmps155 rfl rfl rfl ?_
   intro RhR133 hR133
   refine au ?_
   refine zo (J0M underlying23 rfl (Els.neqW g5.u hO 7 rfl)) ?_
   refine au ?_
   refine drw 1 [(0, q0), (1, q0), (2, q0), (3, q1), (4, q0), (6, q0), (5, q2), (7, q3)] hO fun Mm s hO => ?_
   refine au ?_
   have Fo := t1lend 0 hO
   have qm := t1n 0 hO
   have hOc137 := hO.drop 0
   refine zcq rfl (J01 body157 (by rw [qm]; exact rfl) (J09 hOc137.lt Fo H)) fun _ Mn => e1 fun Mo => sq0 hO fun s hO => d1 fun Ri H => ?_
   have zz := omapUpd (MK.str underlying9) 10 hO rfl underlying154 Mo (d_98.length : Int)
   obtain ⟨UX, Af, Ag⟩ := zz
   refine GoQ.last rfl (Ag (by exact rfl) (by exact rfl) (by exact rfl)) rfl rfl ?_
   refine nst Af fun s hO => ?_
   refine au ?_
   refine sfz 0 hO fun s hO Fp qn => ?_
   have zz := J1P (r := Rp.sl (Rp.int .i64)) (n := 1) (parts := [(0, .slice iV nG iW)]) (vs := [.slice iV nG iW]) (xs := [r129]) rfl underlying23 ti31 hO (by decide) (by kernel_rfl) (Els.cons rfl ⟨iV, iW, congrArg some (congrArg (fun nn => Value.slice iV nn iW) qn), Fp⟩ (Els.nil _ _ _) (by simp [mx])) rfl
   obtain ⟨Ah, Mp, Ai, Fq, RQ, Aj⟩ := zz
   refine zg (Aj rfl) ?_
   refine nst Ai fun s hO => ?_
   refine sfzR 0 hO Fq.u fun s hO Fs qo => ?_
   obtain ⟨Mq, H⟩ := H
   have zz := oapp underlying23 ti31 rfl 6 hO rfl g5.u Fs qo Mq (by decide)
   obtain ⟨zR, Mu, Mv, RR, Ak, iE, Am⟩ := zz
   dsimp only [sS, sZ] at iE
   refine zg (Am (by exact rfl) (by exact rfl)) ?_
   refine nst Ak fun s hO => ?_
   refine sbs 8 hO fun LP s hO => ?_
   refine au ?_
   refine sap1 ((-1 : Int)) 5 hO H fun _ pt UY U1 s hO => ?_
   refine sbs 8 hO fun zS s hO => ?_
   refine au ?_
   refine sap1 ((gB : Int)) 4 hO H.2 fun _ u0 Mw U3 s hO => ?_
   refine sbs 8 hO fun zT s hO => ?_
   refine au ?_
   refine sap1 ((chr (IntKind.i32.wrap ((97 : Int) + (gB : Int))))) 2 hO H.2.2 (fun _ Ao jX lO s hO => ?_) (hR := by exact fun _ _ => ⟨rfl, (J8t _)⟩)
   refine sbs 8 hO fun LS s hO => ?_
   refine au ?_
   refine sap1 ((-1 : Int)) 1 hO H.2.2.2 fun _ LT U4 U5 s hO => ?_
   refine sbs 8 hO fun Mx s hO => ?_
   refine au ?_
   refine Go1.ret1V func155 rfl (show _ = .int .i64 (d_98.length : Int) from rfl) ?_
   refine hR133 _ _ ?_
   refine au ?_
   refine sap1 ((d_98.length : Int)) 0 hO H.2.2.2.2 fun _ U6 U7 U8 s hO => ?_
   refine sbs 8 hO fun zV s hO => ?_
   refine sinc (natbd uY dr.bd) ?_
   refine au ?_
   exact hX2 _ H.2.2.2.2.2 _ _ agr ⟨_, _, _, _, _, _, _, _, _, _, _, _, _, _, _, _, _, _, _, _, _, _, ⟨agr, hO, fr⟩, iE.u, dr.u⟩
  refine au ?_
  have Ap := Stp.nil (e := 31) (r := 1) hO
  refine nst Ap fun s hO => ?_
  have Ft := elN (Rp.sl (Rp.int .i64)) hO
  refine sfr 10 hO fun s hO => ?_
  refine sfr 2 hO fun s hO => ?_
  refine sfr 3 hO fun s hO => ?_
  refine sfr 4 hO fun s hO => ?_
  refine sfr 5 hO fun s hO => ?_
  refine sfr 5 hO fun s hO => ?_
  refine sfr 6 hO fun s hO => ?_
  refine sfr 7 hO fun s hO => ?_
  refine sfr 8 hO fun s hO => ?_
  refine sfr 9 hO fun s hO => ?_
  refine sfr 10 hO fun s hO => ?_
  refine Go1.ret2 func131 rfl (Or.inr ⟨(⟨(⟨((ix a0 (0 : Int)).length : Int), false, d_22, d_98, d_94, uT, ([] : List (List Int)), d_86, (0 : Int)⟩ : Enum), gf, d_82, uS, uR⟩ : run), _, _, _, _, _, _, _, _, _, _, _, _, _, _, _, _, _, _, _, _, _, _, _, _, _, _, _, _, _, _, _, _, _, er, frs, hO, dr.u, g5.u, Ft.u, H⟩)
 refine au ?_
 refine zcr (J01 body156 rfl (J4N hO.lt (iT H))) fun _ zW => e3 fun r187 kP kQ => sc0 hO fun s hO => d1 fun tL H => ?_
 refine GoR.inl (vs := [.pointer (some ⟨B10, 0, none⟩), .slice kP r187.length kQ, .int .i64 (-1 : Int), .int .i64 (-1 : Int), .string (gstr (([] : Str))), .int .i64 (-1 : Int)]) (caps := []) rfl rfl body155 func155 rfl ntmps155 rfl rfl rfl ?_
 intro RhR189 hR189
 refine sln0 ?_
 refine au ?_
 refine drw 1 [(0, q0), (1, q0), (2, q0), (3, q1), (4, q0), (6, q0), (5, q2), (7, q3)] hO fun My s hO => ?_
 refine au ?_
 refine zcq rfl (J01 body157 rfl (J09 hO.lt tL.u H)) fun _ U9 => e1 fun r191 => sq0 hO fun s hO => d1 fun Rj H => ?_
 have zz := omapUpd (MK.str underlying9) 2 hO rfl underlying154 r191 (0 : Int)
 obtain ⟨Ve, Aq, Ar⟩ := zz
 refine GoQ.last rfl (Ar (by exact rfl) (by exact rfl) (by exact rfl)) rfl rfl ?_
 refine nst Aq fun s hO => ?_
 refine au ?_
 have zz := J1P (r := Rp.sl (Rp.int .i64)) (n := 1) (parts := [(0, .slice kP r187.length kQ)]) (vs := [.slice kP r187.length kQ]) (xs := [r187]) rfl underlying23 ti31 hO (by decide) (by kernel_rfl) (Els.cons rfl ⟨kP, kQ, rfl, tL.u⟩ (Els.nil _ _ _) (by simp [mx])) rfl
 obtain ⟨Mz, MA, At, Fu, RS, Au⟩ := zz
 refine zg (Au rfl) ?_
 refine nst At fun s hO => ?_
 refine sfzR 0 hO Fu fun s hO Fv Fw => ?_
 have Aw := Stp.nil (e := 31) (r := 1) hO
 refine nst Aw fun s hO => ?_
 have Fx := elN (Rp.sl (Rp.int .i64)) hO
 obtain ⟨MB, H⟩ := H
 have zz := oapp underlying23 ti31 rfl 0 hO rfl Fx Fv.u Fw MB (by decide)
 obtain ⟨MC, MD, ME, RT, Ax, jm, nH⟩ := zz
 dsimp only [sS, sZ] at jm
 refine zg (nH (by exact rfl) (by exact rfl)) ?_
 refine nst Ax fun s hO => ?_
 refine sbs 2 hO fun u4 s hO => ?_
 refine au ?_
 refine snil Fl.i 3 hO fun s hO => ?_
 refine sap1 ((-1 : Int)) 0 hO H fun _ MF qr qt s hO => ?_
 refine sbs 3 hO fun Vf s hO => ?_
 refine au ?_
 refine snil Fl.i 3 hO fun s hO => ?_
 refine sap1 ((-1 : Int)) 0 hO H.2 fun _ Vg Vh Vi s hO => ?_
 refine sbs 4 hO fun MG s hO => ?_
 refine au ?_
 refine snil Fl.str 9 hO fun s hO => ?_
 refine sap1 ((([] : Str))) 0 hO H.2.2 (fun _ Vj Vk Vl s hO => ?_) (hR := by exact fun _ _ => ⟨rfl, (by decide)⟩)
 refine sbs 5 hO fun Vm s hO => ?_
 refine au ?_
 refine snil Fl.i 3 hO fun s hO => ?_
 refine sap1 ((-1 : Int)) 0 hO H.2.2.2 fun _ MH Vn Vo s hO => ?_
 refine sbs 6 hO fun Ay s hO => ?_
 refine au ?_
 refine Go1.ret1V func155 rfl (show _ = .int .i64 (0 : Int) from rfl) ?_
 refine hR189 _ _ ?_
 refine au ?_
 refine zo (J0M underlying23 rfl (Els.neqW dr.u hO 5 rfl)) ?_
 refine au ?_
 refine snil (id Fl.fl : Fl rpRule) 185 hO fun s hO => ?_
 refine snil Fl.i 3 hO fun s hO => ?_
 refine lv [6, 9, 85, 86] hO H.2.2.2.2 (fun E (fD, qu, d_246, qv, jo, d_258, qw, jp, gh) σ w => ∃ u5 qz qA u6 u7 u9 vb vc vd ve vg vh vi vj vk vm vn vo vr vu vw mF, (fun Z => Lo A w0 σ w [(87, .int .i64 (fD : Int))] Z ∧ Els (Rp.sl (Rp.int .i64)) (bl Z ++ A) w mF jp ∧ Els (Rp.sl (Rp.int .i64)) (bl Z ++ A) w jV d_22) [t1 Fl.i 3 qz u5 qA qu, t1 (id Fl.fl : Fl rpRule) 185 u7 u6 u9 d_246, t1 Fl.i 3 vc vb vd qv, t1 Fl.str 9 vg ve vh jo, t1 Fl.i 3 vj vi vk d_258, t1 Fl.i 3 vn vm vo qw, .row 31 1 vu vr vw mF, .row 31 1 p25 n27 c26 jV, .blk B10 (.cells #[.int .i64 ((ix a0 (0 : Int)).length : Int), .bool true, .slice p25 n27 c26, .slice vu vr vw, .slice vn vm vo, .slice vj vi vk, .slice none 0 0, .slice u7 u6 u9, .int .i64 (0 : Int), .map (some B4), .slice vg ve vh, .slice vc vb vd, .slice qz u5 qA] 156 (0, 0)), .any (mapE (fun a : List UInt8 => Value.string (gstr a)) (fun a : Int => Value.int .i64 a) B4 gh)]) ⟨_, _, _, _, _, _, _, _, _, _, _, _, _, _, _, _, _, _, _, _, _, _, ⟨agr, hO, fr⟩, jm.u, dr.u⟩ ?_
 refine fun X3 => p1 fun fD => p1 fun qu => p1 fun d_246 => p1 fun qv => p1 fun jo => p3 fun d_258 qw jp gh => fun H hX3 σ Vp hk => e4 fun u5 qz qA u6 => e4 fun u7 u9 vb vc => e4 fun vd ve vg vh => e4 fun vi vj vk vm => e4 fun vn vo vr vu => e2 fun vw mF => d1 fun hL => d1 fun fk dr => d2 (fun hag hO hB => keep2 hk hag ?_) hL
 dsimp only at H
 revert hO; repeat (rename Owns .. => q; clear q)
 intro hO; repeat (rename Sq .. => q; clear q)
 refine scm H (fun vy H => ?_) fun vy H => ?_
 ·refine au ?_
  obtain ⟨nI, H⟩ := H
  obtain ⟨vz, H⟩ := H
  refine zo (J05 underlying23 ti31 rfl rfl nI (ltn (Els.neqW dr hO 7 rfl) vz) (Els.psomeW dr hO 7 rfl nI vz)) ?_
  have zz := oldSl 7 hO rfl dr nI vz
  obtain ⟨MJ, ML, yj, Fy⟩ := zz
  refine zs (Fy underlying31 rfl rfl) ?_
  refine au ?_
  obtain ⟨MM, H⟩ := H
  refine zo (J03 rfl rfl (wrap_i64 MM)) ?_
  refine zo (J3M underlying3 underlying21 rfl rfl) ?_
  obtain ⟨MO, H⟩ := H
  obtain ⟨MP, H⟩ := H
  refine zo (J5o underlying21 underlying9 rfl MO MP) ?_
  refine au ?_
  refine drs 0 [q0, q0, q0, q1, q0, q2, q1, q0, q0, q0, q0, q0] hO fun MQ s hO => ?_
  refine au ?_
  refine zcq rfl (J01 body157 rfl (J09 hO.lt yj.u H)) fun _ Vq => e1 fun jY => sq0 hO fun s hO => d1 fun Rk H => ?_
  by_cases gK : mhas gh jY = true
  ·refine GoQ.stable rfl (olookT (a := jY) (MK.str underlying9) 9 hO rfl underlying154 rfl rfl gK) rfl rfl ?_
   refine au ?_
   refine drs 5 [q0, q0, q0, q0, q0, q1, q0, q0, q0, q0, q1, q0, q0, q1, q0, q2, q3, q0, q0, q0, q3] hO fun Vr s hO => ?_
   refine sxl1 3 hO (ifp gK H).1 (ifp gK H).2.1 ?_
   have hle288 := t1le 3 hO (ifp gK H).1 (ifp gK H).2.1
   refine GoQ.pure rfl (J04 underlying185 ti185 (pl := [(0, 1), (1, 1)]) (vs := [(0, .string (gstr (chr (IntKind.i32.wrap ((97 : Int) + (fD : Int)))))), (1, .string (gstr (ix jo (mgt gh jY))))]) (cs := #[.string (gstr (chr (IntKind.i32.wrap ((97 : Int) + (fD : Int))))), .string (gstr (ix jo (mgt gh jY)))]) (by kernel_rfl) rfl (by kernel_rfl)) rfl rfl ?_
   refine sapF (⟨(chr (IntKind.i32.wrap ((97 : Int) + (fD : Int)))), ix jo (mgt gh jY)⟩ : Rule) 1 hO (ifp gK H).2.2 (fun _ Az MR MS s hO => ?_) (hok := by exact ⟨(J8t _), hle288⟩)
   refine sbs 8 hO fun MT s hO => ?_
   refine au ?_
   refine sap1 ((mgt gh jY)) 0 hO (ifp gK H).2.2.2 fun _ vA MU MV s hO => ?_
   refine sbs 8 hO fun Vt s hO => ?_
   refine sinc (natbd vy dr.bd) ?_
   refine au ?_
   exact hX3 _ (ifp gK H).2.2.2.2 _ _ agr ⟨_, _, _, _, _, _, _, _, _, _, _, _, _, _, _, _, _, _, _, _, _, _, ⟨agr, hO, fr⟩, fk.u, dr.u⟩
  refine GoQ.stable rfl (olookF (a := jY) (MK.str underlying9) 9 hO rfl underlying154 ti3 rfl rfl gK) rfl rfl ?_
  refine au ?_
  refine zcr (J01 body86 rfl (J0z hO.lt yj.u (ifn gK H))) fun _ AA => e4 fun MW nJ iX iY => sc1 hO fun s hO => fun H => ?_
  refine au ?_
  refine GoR.inl (vs := [.pointer (some ⟨B10, 0, none⟩), .slice iX nJ iY, .int .i64 (0 : Int), .int .i64 (fD : Int), .string (gstr (chr (IntKind.i32.wrap ((97 : Int) + (fD : Int))))), .int .i64 (0 : Int)]) (caps := []) rfl rfl body155 func155 rfl ntmps155 rfl rfl rfl ?_
  intro RhR301 hR301
  refine au ?_
  refine zo (J0M underlying23 rfl (Els.neqW fk.u hO 7 rfl)) ?_
  refine au ?_
  refine drw 1 [(0, q0), (1, q0), (2, q0), (3, q1), (4, q0), (6, q0), (5, q2), (7, q3)] hO fun Vu s hO => ?_
  refine au ?_
  have Fz := t1lend 0 hO
  have FA := t1n 0 hO
  have hOc305 := hO.drop 0
  refine zcq rfl (J01 body157 (by rw [FA]; exact rfl) (J09 hOc305.lt Fz H)) fun _ MX => e1 fun r306 => sq0 hO fun s hO => d1 fun Rl H => ?_
  have zz := omapUpd (MK.str underlying9) 10 hO rfl underlying154 r306 (jp.length : Int)
  obtain ⟨Vv, AB, AC⟩ := zz
  refine GoQ.last rfl (AC (by exact rfl) (by exact rfl) (by exact rfl)) rfl rfl ?_
  refine nst AB fun s hO => ?_
  refine au ?_
  refine sfz 0 hO fun s hO FB FC => ?_
  have zz := J1P (r := Rp.sl (Rp.int .i64)) (n := 1) (parts := [(0, .slice iX nJ iY)]) (vs := [.slice iX nJ iY]) (xs := [MW]) rfl underlying23 ti31 hO (by decide) (by kernel_rfl) (Els.cons rfl ⟨iX, iY, congrArg some (congrArg (fun nn => Value.slice iX nn iY) FC), FB⟩ (Els.nil _ _ _) (by simp [mx])) rfl
  obtain ⟨vB, MY, AD, FD, RU, AE⟩ := zz
  refine zg (AE rfl) ?_
  refine nst AD fun s hO => ?_
  refine sfzR 0 hO FD fun s hO FE FF => ?_
  obtain ⟨M0, H⟩ := H
  have zz := oapp underlying23 ti31 rfl 6 hO rfl fk.u FE FF M0 (by decide)
  obtain ⟨M1, M2, M3, RV, AF, yk, AG⟩ := zz
  dsimp only [sS, sZ] at yk
  refine zg (AG (by exact rfl) (by exact rfl)) ?_
  refine nst AF fun s hO => ?_
  refine sbs 8 hO fun Vw s hO => ?_
  refine au ?_
  refine sap1 ((0 : Int)) 5 hO H fun _ AH M4 M5 s hO => ?_
  refine sbs 8 hO fun Vx s hO => ?_
  refine au ?_
  refine sap1 ((fD : Int)) 4 hO H.2 fun _ M6 M7 Vy s hO => ?_
  refine sbs 8 hO fun M8 s hO => ?_
  refine au ?_
  refine sap1 ((chr (IntKind.i32.wrap ((97 : Int) + (fD : Int))))) 3 hO H.2.2 (fun _ AI AJ Vz s hO => ?_) (hR := by exact fun _ _ => ⟨rfl, (J8t _)⟩)
  refine sbs 8 hO fun AK s hO => ?_
  refine au ?_
  refine sap1 ((0 : Int)) 2 hO H.2.2.2 fun _ VA VB VC s hO => ?_
  refine sbs 8 hO fun M9 s hO => ?_
  refine au ?_
  refine Go1.ret1V func155 rfl (show _ = .int .i64 (jp.length : Int) from rfl) ?_
  refine hR301 _ _ ?_
  refine au ?_
  refine sap1 ((jp.length : Int)) 0 hO H.2.2.2.2 fun _ Na Nb Nc s hO => ?_
  refine sbs 8 hO fun Nd s hO => ?_
  refine sinc (natbd vy dr.bd) ?_
  refine au ?_
  exact hX3 _ H.2.2.2.2.2 _ _ agr ⟨_, _, _, _, _, _, _, _, _, _, _, _, _, _, _, _, _, _, _, _, _, _, ⟨agr, hO, fr⟩, yk.u, dr.u⟩
 refine au ?_
 have AM := Stp.nil (e := 31) (r := 1) hO
 refine nst AM fun s hO => ?_
 have FG := elN (Rp.sl (Rp.int .i64)) hO
 refine sfr 10 hO fun s hO => ?_
 refine sfr 2 hO fun s hO => ?_
 refine sfr 4 hO fun s hO => ?_
 refine sfr 5 hO fun s hO => ?_
 refine sfr 5 hO fun s hO => ?_
 refine sfr 5 hO fun s hO => ?_
 refine sfr 6 hO fun s hO => ?_
 refine sfr 7 hO fun s hO => ?_
 refine sfr 8 hO fun s hO => ?_
 refine sfr 9 hO fun s hO => ?_
 refine sfr 10 hO fun s hO => ?_
 refine Go1.ret2 func131 rfl (Or.inr ⟨(⟨(⟨((ix a0 (0 : Int)).length : Int), true, d_22, jp, qw, d_258, ([] : List (List Int)), d_246, (0 : Int)⟩ : Enum), gh, jo, qv, qu⟩ : run), _, _, _, _, _, _, _, _, _, _, _, _, _, _, _, _, _, _, _, _, _, _, _, _, _, _, _, _, _, _, _, _, _, er, frs, hO, dr.u, fk.u, FG.u, H⟩)
theorem body158 : Body prog 158 := ⟨f158, func158, rfl, by kernel_rfl⟩
theorem J5r {p_f p_g : Option Addr} {c_f c_g : Nat} {f g : List Int} (hA : HA0 A w0) (h_f : ISi A w0 p_f c_f f) (h_g : ISi A w0 p_g c_g g) {K : List Int → Prop} (H : J1N f g K) :
    CallsV prog 158 #[.slice p_f f.length c_f, .slice p_g g.length c_g] w0 (fun v w' => ∃ (r0 : List Int), ∃ (p_r0 : Option Addr), ∃ (c_r0 : Nat), v = .slice p_r0 r0.length c_r0 ∧ Same w0 w' ∧ ISi A w' p_r0 c_r0 r0 ∧ K r0) := by
 refine cal hA func158 ntmps158 fun hO hB => ?_
 unfold J1N at H
 refine sln0 ?_
 refine sln0 ?_
 refine scm ((H h_f.bd) h_g.bd) (fun h1 H => ?_) fun h1 H => ?_
 ·refine au ?_
  refine zcr (J01 body154 rfl (J2g hO.lt h_f.u H)) fun _ w3 => e1 fun r2 => sc0 hO fun s hO => fun H => ?_
  cases r2
  ·refine au ?_
   refine Go1.ret1 func158 rfl ⟨_, _, _, er, frs, (ISl.null _ _ _), (iF H)⟩
  refine au ?_
  refine zcr (J01 body154 rfl (J2g hO.lt h_g.u (iT H))) fun _ w5 => e1 fun r4 => sc0 hO fun s hO => fun H => ?_
  cases r4
  ·refine au ?_
   refine Go1.ret1 func158 rfl ⟨_, _, _, er, frs, (ISl.null _ _ _), (iF H)⟩
  refine sln0 ?_
  refine smk Fl.i (iT H) hO fun w6 p7 s hO => ?_
  refine sln0 ?_
  refine au ?_
  refine lv [1, 5, 26, 27] hO (iT H).2.2 (fun E (qB, yl) σ w => Lo A w0 σ w [(28, .int .i64 (qB : Int))] [t1 Fl.i 3 p7 f.length f.length yl]) ⟨agr, hO, fr⟩ ?_
  refine fun X1 => p1 fun qB yl => fun H hX1 σ w9 hk => d2 fun hag hO hB => keep2 hk hag ?_
  dsimp only at H
  revert hO; repeat (rename Owns .. => q; clear q)
  intro hO; repeat (rename Sq .. => q; clear q)
  refine scm H (fun h12 H => ?_) fun h12 H => ?_
  ·refine sxl hO h_f.u H.1 H.2.1 ?_
   refine sxl hO h_g.u H.2.2.1 H.2.2.2.1 ?_
   refine six1 0 hO H.2.2.2.2.1 H.2.2.2.2.2.1 ?_
   refine sst (u := (ix g (ix f (qB : Int)))) 0 hO H.2.2.2.2.1 H.2.2.2.2.2.1 fun w13 s hO => ?_
   refine sinc (natbd h12 h_f.bd) ?_
   refine au ?_
   exact hX1 _ H.2.2.2.2.2.2 _ _ agr ⟨agr, hO, fr⟩
  refine au ?_
  refine sfz 0 hO fun s hO jU ig => ?_
  refine Go1.ret1 func158 rfl ⟨_, _, _, ?_, frs, jU.r, H⟩
  exact (congrArg (fun nn => Value.slice p7 nn f.length) ig)
 refine au ?_
 refine Go1.ret1 func158 rfl ⟨_, _, _, er, frs, (ISl.null _ _ _), H⟩
end Sg
