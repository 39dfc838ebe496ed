/- -/
import Derived.Test.YtlneebpmblkllaaVd
import Derived.Test.YtlneebpmblkllaaWSyntacticMonoidsc
namespace Sg
open Go Go.RowKit Go.Proofs
set_option linter.unusedVariables false
set_option linter.unusedSimpArgs false
set_option maxRecDepth 100000
set_option maxHeartbeats 4000000
theorem body113 : Body Try.prog 113 := ⟨Try.f113, Try.func113, rfl, by kernel_rfl⟩
theorem J4m {A : List Nat} {w0 : World} {ag : Option Addr} {ah : Nat} {ai : Option Addr} {aj : Nat} {a0 : DFA} (hA : ∀ b ∈ A, b < w0.heap.size) (am : ISl (Rp.bool) A w0 ag ah a0.Final) (cI : ISl (Rp.sl (Rp.int .i64)) A w0 ai aj a0.Next) {K : List Int → List Str → Prop} (H : J1A a0 K) :
    CallsV Try.prog 113 #[.agg #[.int .i64 a0.Letters, .int .i64 a0.Start, .slice ag a0.Final.length ah, .slice ai a0.Next.length aj]] w0 (fun v w' => ∃ (r0 : List Int), ∃ (r1 : List Str), ∃ (bS : Option Addr), ∃ (bT : Nat), ∃ (fh : Option Addr), ∃ (fk : Nat), v = .tuple #[.slice bS r0.length bT, .slice fh r1.length fk] ∧ Same w0 w' ∧ ISl (Rp.int .i64) A w' bS bT r0 ∧ ISl (Rp.str) A w' fh fk r1 ∧ K r0 r1) := by
 refine CallsV.of (l := [.agg #[.int .i64 a0.Letters, .int .i64 a0.Start, .slice ag a0.Final.length ah, .slice ai a0.Next.length aj]]) Try.func113 rfl Try.ntmps113 rfl ?_
 have hO := Owns.start hA
 have hB := Fr.refl (bl []) w0
 unfold J1A at H
 refine au ?_
 refine sbx hO fun w1 B2 s hO => ?_
 refine au ?_
 refine sbu Fl.i 3 [a0.Start] hO fun w4 p5 s hO => ?_
 refine sbu Fl.str 9 [(([] : Str))] hO (fun w7 p8 s hO => ?_) (hE := fun _ _ => (Els.cons rfl ⟨rfl, (by decide)⟩ (Els.nil _ _ _) (by simp [mx])))
 refine au ?_
 refine sln0 ?_
 refine smk Fl.bool (H am.bd) hO fun w10 p11 s hO => ?_
 refine au ?_
 refine six1 0 hO (H am.bd).2.2.1 (H am.bd).2.2.2.1 ?_
 refine sst (u := true) 0 hO (H am.bd).2.2.1 (H am.bd).2.2.2.1 fun w13 s hO => ?_
 refine au ?_
 refine lw (H am.bd).2.2.2.2 (fun (k1_15, d_16, AI, jV) σ w => ∃ n20 p18 c19 n24 p22 c23, (fun Z => agrees σ [(1, .pointer (some ⟨B2, 0, none⟩)), (4, .slice p22 n24 c23), (5, .slice p18 n20 c19), (6, .slice p11 a0.Final.length a0.Final.length), (7, .int .i64 (k1_15 : Int))] ∧ Owns w0.heap.size w Z A ∧ Fr (bl []) w0 (bl Z) w) [t1 Fl.bool 4 p11 a0.Final.length a0.Final.length d_16, t1 Fl.str 9 p18 n20 c19 AI, t1 Fl.i 3 p22 n24 c23 jV, .blk B2 (.cells #[.int .i64 a0.Letters, .int .i64 a0.Start, .slice ag a0.Final.length ah, .slice ai a0.Next.length aj] 25 (0, 0))]) ⟨_, _, _, _, _, _, agr, hO, fr⟩ ?_
 refine fun X1 => p3 fun k1_15 d_16 AI jV => fun H hX1 σ w14 => e4 fun n20 p18 c19 n24 => e2 fun p22 c23 => d2 fun hag hO hB => ?_
 dsimp only at H
 refine Go1.keep _ hag ?_
 revert hO; repeat (rename Owns _ _ _ _ => q; clear q)
 intro hO; repeat (rename Sq _ _ _ _ _ _ => q; clear q)
 refine au ?_
 refine sln1 2 hO ?_
 refine scm H (fun h25 H => ?_) fun h25 H => ?_
 ·refine au ?_
  refine lw H (fun (k2_27, d_28, d_29, gG) σ w => ∃ n32 p30 c31 n36 p34 c35, (fun Z => agrees σ [(1, .pointer (some ⟨B2, 0, none⟩)), (4, .slice p34 n36 c35), (5, .slice p30 n32 c31), (6, .slice p11 a0.Final.length a0.Final.length), (7, .int .i64 (k1_15 : Int)), (8, .int .i64 (k2_27 : Int))] ∧ Owns w0.heap.size w Z A ∧ Fr (bl []) w0 (bl Z) w) [t1 Fl.bool 4 p11 a0.Final.length a0.Final.length d_28, t1 Fl.str 9 p30 n32 c31 d_29, t1 Fl.i 3 p34 n36 c35 gG, .blk B2 (.cells #[.int .i64 a0.Letters, .int .i64 a0.Start, .slice ag a0.Final.length ah, .slice ai a0.Next.length aj] 25 (0, 0))]) ⟨_, _, _, _, _, _, agr, hO, fr⟩ ?_
  refine fun X2 => p3 fun k2_27 d_28 d_29 gG => fun H hX2 σ w26 => e4 fun n32 p30 c31 n36 => e2 fun p34 c35 => d2 fun hag hO hB => ?_
  dsimp only at H
  refine Go1.keep _ hag ?_
  revert hO; repeat (rename Owns _ _ _ _ => q; clear q)
  intro hO; repeat (rename Sq _ _ _ _ _ _ => q; clear q)
  refine au ?_
  refine scm H (fun h37 H => ?_) fun h37 H => ?_
  ·refine au ?_
   refine drw 0 [(0, .pure), (1, .stable), (2, .pure), (3, .pure), (4, .pure), (5, .stable), (6, .pure), (7, .stable), (8, .pure), (9, .pure), (10, .stable), (11, .pure)] hO fun w38 s hO => ?_
   refine au ?_
   refine sxl1 2 hO H.1 H.2.1 ?_
   refine sxls hO cI.u H.2.2.1 H.2.2.2.1 fun p39 c40 nH => ?_
   refine au ?_
   refine sxl hO nH.u H.2.2.2.2.1 H.2.2.2.2.2.1 ?_
   refine au ?_
   have h42 := H.1
   have h43 := H.2.1
   have h44 := H.2.2.1
   have h45 := H.2.2.2.1
   have h46 := H.2.2.2.2.1
   have h47 := H.2.2.2.2.2.1
   have h48 := H.2.2.2.2.2.2.1
   have h49 := H.2.2.2.2.2.2.2.1
   refine sxb1 0 hO H.2.2.2.2.2.2.1 H.2.2.2.2.2.2.2.1 H.2.2.2.2.2.2.2.2 (fun h50 H => ?_) fun h50 H => ?_
   ·refine au ?_
    obtain ⟨h51, H⟩ := H
    refine zo (J04 rfl rfl (wrap_i64 h51)) ?_
    refine au ?_
    exact hX2 _ H _ _ ⟨_, _, _, _, _, _, agr, hO, fr⟩
   refine au ?_
   refine six1 0 hO H.1 H.2.1 ?_
   refine sst (u := true) 0 hO H.1 H.2.1 fun w52 s hO => ?_
   refine au ?_
   refine Go1.drawT (ok := fun _ => True) Same.tr [3, 16] 19 (.qp 0 (.qp 1 (.qp 4 (.qp 5 (.qp 6 (.qp 7 (.qp 9 (.qp 10 (.qp 11 (.alt 2 (.alt 3 (.alt 8 (.alt 12 (.alt 13 (.qp 14 (.alt 15 (.alt 16 (.qp 17 (.qp 18 .nil)) .fin) .fin)) .fin) .fin) (.alt 12 (.alt 8 (.alt 13 (.qp 14 (.alt 15 (.alt 16 (.qp 17 (.qp 18 .nil)) .fin) .fin)) .fin) (.alt 13 (.alt 8 (.qp 14 (.alt 15 (.alt 16 (.qp 17 (.qp 18 .nil)) .fin) .fin)) .fin) .fin)) .fin)) (.alt 8 (.alt 3 (.alt 12 (.alt 13 (.qp 14 (.alt 15 (.alt 16 (.qp 17 (.qp 18 .nil)) .fin) .fin)) .fin) .fin) (.alt 12 (.alt 3 (.alt 13 (.qp 14 (.alt 15 (.alt 16 (.qp 17 (.qp 18 .nil)) .fin) .fin)) .fin) (.alt 13 (.qp 14 (.alt 3 (.alt 15 (.alt 16 (.qp 17 (.qp 18 .nil)) .fin) .fin) (.alt 15 (.alt 3 (.alt 16 (.qp 17 (.qp 18 .nil)) .fin) .fin) .fin))) .fin)) .fin)) (.alt 12 (.alt 3 (.alt 8 (.alt 13 (.qp 14 (.alt 15 (.alt 16 (.qp 17 (.qp 18 .nil)) .fin) .fin)) .fin) (.alt 13 (.alt 8 (.qp 14 (.alt 15 (.alt 16 (.qp 17 (.qp 18 .nil)) .fin) .fin)) .fin) .fin)) (.alt 8 (.alt 3 (.alt 13 (.qp 14 (.alt 15 (.alt 16 (.qp 17 (.qp 18 .nil)) .fin) .fin)) .fin) (.alt 13 (.qp 14 (.alt 3 (.alt 15 (.alt 16 (.qp 17 (.qp 18 .nil)) .fin) .fin) (.alt 15 (.alt 3 (.alt 16 (.qp 17 (.qp 18 .nil)) .fin) .fin) .fin))) .fin)) (.alt 13 (.alt 3 (.alt 8 (.qp 14 (.alt 15 (.alt 16 (.qp 17 (.qp 18 .nil)) .fin) .fin)) .fin) (.alt 8 (.qp 14 (.alt 3 (.alt 15 (.alt 16 (.qp 17 (.qp 18 .nil)) .fin) .fin) (.alt 15 (.alt 3 (.alt 16 (.qp 17 (.qp 18 .nil)) .fin) .fin) .fin))) .fin)) .fin))) .fin))) (.alt 8 (.alt 2 (.alt 3 (.alt 12 (.alt 13 (.qp 14 (.alt 15 (.alt 16 (.qp 17 (.qp 18 .nil)) .fin) .fin)) .fin) .fin) (.alt 12 (.alt 3 (.alt 13 (.qp 14 (.alt 15 (.alt 16 (.qp 17 (.qp 18 .nil)) .fin) .fin)) .fin) (.alt 13 (.qp 14 (.alt 3 (.alt 15 (.alt 16 (.qp 17 (.qp 18 .nil)) .fin) .fin) (.alt 15 (.alt 3 (.alt 16 (.qp 17 (.qp 18 .nil)) .fin) .fin) .fin))) .fin)) .fin)) (.alt 12 (.alt 2 (.alt 3 (.alt 13 (.qp 14 (.alt 15 (.alt 16 (.qp 17 (.qp 18 .nil)) .fin) .fin)) .fin) (.alt 13 (.qp 14 (.alt 3 (.alt 15 (.alt 16 (.qp 17 (.qp 18 .nil)) .fin) .fin) (.alt 15 (.alt 3 (.alt 16 (.qp 17 (.qp 18 .nil)) .fin) .fin) .fin))) .fin)) (.alt 13 (.qp 14 (.alt 2 (.alt 3 (.alt 15 (.alt 16 (.qp 17 (.qp 18 .nil)) .fin) .fin) (.alt 15 (.alt 3 (.alt 16 (.qp 17 (.qp 18 .nil)) .fin) .fin) .fin)) (.alt 15 (.alt 2 (.alt 3 (.alt 16 (.qp 17 (.qp 18 .nil)) .fin) .fin) .fin) .fin))) .fin)) .fin)) (.alt 12 (.alt 2 (.alt 3 (.alt 8 (.alt 13 (.qp 14 (.alt 15 (.alt 16 (.qp 17 (.qp 18 .nil)) .fin) .fin)) .fin) (.alt 13 (.alt 8 (.qp 14 (.alt 15 (.alt 16 (.qp 17 (.qp 18 .nil)) .fin) .fin)) .fin) .fin)) (.alt 8 (.alt 3 (.alt 13 (.qp 14 (.alt 15 (.alt 16 (.qp 17 (.qp 18 .nil)) .fin) .fin)) .fin) (.alt 13 (.qp 14 (.alt 3 (.alt 15 (.alt 16 (.qp 17 (.qp 18 .nil)) .fin) .fin) (.alt 15 (.alt 3 (.alt 16 (.qp 17 (.qp 18 .nil)) .fin) .fin) .fin))) .fin)) (.alt 13 (.alt 3 (.alt 8 (.qp 14 (.alt 15 (.alt 16 (.qp 17 (.qp 18 .nil)) .fin) .fin)) .fin) (.alt 8 (.qp 14 (.alt 3 (.alt 15 (.alt 16 (.qp 17 (.qp 18 .nil)) .fin) .fin) (.alt 15 (.alt 3 (.alt 16 (.qp 17 (.qp 18 .nil)) .fin) .fin) .fin))) .fin)) .fin))) (.alt 8 (.alt 2 (.alt 3 (.alt 13 (.qp 14 (.alt 15 (.alt 16 (.qp 17 (.qp 18 .nil)) .fin) .fin)) .fin) (.alt 13 (.qp 14 (.alt 3 (.alt 15 (.alt 16 (.qp 17 (.qp 18 .nil)) .fin) .fin) (.alt 15 (.alt 3 (.alt 16 (.qp 17 (.qp 18 .nil)) .fin) .fin) .fin))) .fin)) (.alt 13 (.qp 14 (.alt 2 (.alt 3 (.alt 15 (.alt 16 (.qp 17 (.qp 18 .nil)) .fin) .fin) (.alt 15 (.alt 3 (.alt 16 (.qp 17 (.qp 18 .nil)) .fin) .fin) .fin)) (.alt 15 (.alt 2 (.alt 3 (.alt 16 (.qp 17 (.qp 18 .nil)) .fin) .fin) .fin) .fin))) .fin)) (.alt 13 (.alt 2 (.alt 3 (.alt 8 (.qp 14 (.alt 15 (.alt 16 (.qp 17 (.qp 18 .nil)) .fin) .fin)) .fin) (.alt 8 (.qp 14 (.alt 3 (.alt 15 (.alt 16 (.qp 17 (.qp 18 .nil)) .fin) .fin) (.alt 15 (.alt 3 (.alt 16 (.qp 17 (.qp 18 .nil)) .fin) .fin) .fin))) .fin)) (.alt 8 (.qp 14 (.alt 2 (.alt 3 (.alt 15 (.alt 16 (.qp 17 (.qp 18 .nil)) .fin) .fin) (.alt 15 (.alt 3 (.alt 16 (.qp 17 (.qp 18 .nil)) .fin) .fin) .fin)) (.alt 15 (.alt 2 (.alt 3 (.alt 16 (.qp 17 (.qp 18 .nil)) .fin) .fin) .fin) .fin))) .fin)) .fin))) .fin)))))))))))) mixed (by kernel_rfl) ?_
   intro w53 yw
   refine sm hO yw fun s hO => ?_
   refine au ?_
   refine six1 1 hO H.2.2.1 H.2.2.2.1 ?_
   refine au ?_
   have h55 := H.1
   have h56 := H.2.1
   have h57 := H.2.2.1
   have h58 := H.2.2.2.1
   replace H := H.2.2.2.2
   obtain ⟨h59, H⟩ := H
   refine GoT.pure rfl (J04 rfl rfl (wrap_i64 h59)) rfl rfl ?_
   refine GoT.pure rfl (J2H Try.underlying3 Try.underlying5 rfl rfl) rfl rfl ?_
   refine GoT.both ?_ ?_
   ·skip
    skip
    refine sbu Fl.i 3 [(ix (ix a0.Next (ix gG (k1_15 : Int))) (k2_27 : Int))] hO fun w60 p61 s hO => ?_
    refine GoT.both ?_ ?_
    ·skip
     skip
     refine sfz 0 hO fun s hO KV SX => ?_
     refine sap 2 hO KV.u H fun w65 p66 c67 s hO => ?_
     replace H := H.2
     refine GoT.both ?_ ?_
     ·skip
      skip
      refine sld1 1 hO h57 h58 ?_
      have hle68 := t1le 1 hO h57 h58
      skip
      refine sbu (Fl.int .u8) 5 [(IntKind.u8.wrap ((97 : Int) + (k2_27 : Int)))] hO fun w69 p70 s hO => ?_
      skip
      refine op1 0 hO fun SY s hO wb => ?_
      have hle74 := J0p wb.bd
      refine GoT.step rfl ((oldBytes 0 hO rfl wb.u Try.underlying126 Try.underlying5 Try.underlying9 rfl) _ (Same.refl _)) (Same.refl _) rfl rfl ?_
      obtain ⟨h75, H⟩ := H
      refine GoT.pure rfl (J0a rfl rfl h75) rfl rfl ?_
      skip
      refine sbu Fl.str 9 [((ix d_29 (k1_15 : Int)) ++ (byt ([(IntKind.u8.wrap ((97 : Int) + (k2_27 : Int)))])))] hO (fun w76 p77 s hO => ?_) (hE := fun _ _ => (Els.cons rfl ⟨rfl, (lenApp h75)⟩ (Els.nil _ _ _) (by simp [mx])))
      skip
      refine sfz 0 hO fun s hO m7 qI => ?_
      refine sap 2 hO m7 H fun w81 p82 c83 s hO => ?_
      refine au ?_
      replace H := H.2
      obtain ⟨h84, H⟩ := H
      refine zo (J04 rfl rfl (wrap_i64 h84)) ?_
      refine au ?_
      refine cl1 (Fl.int .u8) 0 hO wb.u fun s hO => ?_
      refine sdr [0] hO fun s hO => ?_
      exact hX2 _ H _ _ ⟨_, _, _, _, _, _, agr, hO, fr⟩
     skip
     refine sbu (Fl.int .u8) 5 [(IntKind.u8.wrap ((97 : Int) + (k2_27 : Int)))] hO fun w85 p86 s hO => ?_
     refine GoT.both ?_ ?_
     ·skip
      skip
      refine sld1 2 hO h57 h58 ?_
      have hle88 := t1le 2 hO h57 h58
      skip
      refine op1 0 hO fun S0 s hO l7 => ?_
      have hle91 := J0p l7.bd
      refine GoT.step rfl ((oldBytes 0 hO rfl l7.u Try.underlying126 Try.underlying5 Try.underlying9 rfl) _ (Same.refl _)) (Same.refl _) rfl rfl ?_
      obtain ⟨h92, H⟩ := H
      refine GoT.pure rfl (J0a rfl rfl h92) rfl rfl ?_
      skip
      refine sbu Fl.str 9 [((ix d_29 (k1_15 : Int)) ++ (byt ([(IntKind.u8.wrap ((97 : Int) + (k2_27 : Int)))])))] hO (fun w93 p94 s hO => ?_) (hE := fun _ _ => (Els.cons rfl ⟨rfl, (lenApp h92)⟩ (Els.nil _ _ _) (by simp [mx])))
      skip
      refine sfz 0 hO fun s hO od KW => ?_
      refine sap 2 hO od H fun w98 p99 KX s hO => ?_
      refine au ?_
      replace H := H.2
      obtain ⟨uE, H⟩ := H
      refine zo (J04 rfl rfl (wrap_i64 uE)) ?_
      refine au ?_
      refine cl1 (Fl.int .u8) 0 hO l7.u fun s hO => ?_
      refine sdr [0] hO fun s hO => ?_
      exact hX2 _ H _ _ ⟨_, _, _, _, _, _, agr, hO, fr⟩
     skip
     refine op1 0 hO fun Og s hO jl => ?_
     have hle104 := J0p jl.bd
     refine GoT.step rfl ((oldBytes 0 hO rfl jl.u Try.underlying126 Try.underlying5 Try.underlying9 rfl) _ (Same.refl _)) (Same.refl _) rfl rfl ?_
     skip
     refine sld1 2 hO h57 h58 ?_
     have hle105 := t1le 2 hO h57 h58
     obtain ⟨kB, H⟩ := H
     refine GoT.pure rfl (J0a rfl rfl kB) rfl rfl ?_
     skip
     refine sbu Fl.str 9 [((ix d_29 (k1_15 : Int)) ++ (byt ([(IntKind.u8.wrap ((97 : Int) + (k2_27 : Int)))])))] hO (fun S1 IX s hO => ?_) (hE := fun _ _ => (Els.cons rfl ⟨rfl, (lenApp kB)⟩ (Els.nil _ _ _) (by simp [mx])))
     skip
     refine sfz 0 hO fun s hO ms Oh => ?_
     refine sap 2 hO ms.u H fun Kk Kl Km s hO => ?_
     refine au ?_
     replace H := H.2
     obtain ⟨uX, H⟩ := H
     refine zo (J04 rfl rfl (wrap_i64 uX)) ?_
     refine au ?_
     refine cl1 (Fl.int .u8) 0 hO jl.u fun s hO => ?_
     refine sdr [0] hO fun s hO => ?_
     exact hX2 _ H _ _ ⟨_, _, _, _, _, _, agr, hO, fr⟩
    refine GoT.both ?_ ?_
    ·skip
     skip
     refine sld1 2 hO h57 h58 ?_
     have hle116 := t1le 2 hO h57 h58
     refine GoT.both ?_ ?_
     ·skip
      skip
      refine sfz 0 hO fun s hO qo wW => ?_
      refine sap 2 hO qo H fun uq Iq S3 s hO => ?_
      replace H := H.2
      skip
      refine sbu (Fl.int .u8) 5 [(IntKind.u8.wrap ((97 : Int) + (k2_27 : Int)))] hO fun zY S4 s hO => ?_
      skip
      refine op1 0 hO fun Oi s hO lA => ?_
      have hle127 := J0p lA.bd
      refine GoT.step rfl ((oldBytes 0 hO rfl lA.u Try.underlying126 Try.underlying5 Try.underlying9 rfl) _ (Same.refl _)) (Same.refl _) rfl rfl ?_
      obtain ⟨qu, H⟩ := H
      refine GoT.pure rfl (J0a rfl rfl qu) rfl rfl ?_
      skip
      refine sbu Fl.str 9 [((ix d_29 (k1_15 : Int)) ++ (byt ([(IntKind.u8.wrap ((97 : Int) + (k2_27 : Int)))])))] hO (fun Ir mW s hO => ?_) (hE := fun _ _ => (Els.cons rfl ⟨rfl, (lenApp qu)⟩ (Els.nil _ _ _) (by simp [mx])))
      skip
      refine sfz 0 hO fun s hO Ec Oj => ?_
      refine sap 2 hO Ec H fun I0 rO rP s hO => ?_
      refine au ?_
      replace H := H.2
      obtain ⟨KY, H⟩ := H
      refine zo (J04 rfl rfl (wrap_i64 KY)) ?_
      refine au ?_
      refine cl1 (Fl.int .u8) 0 hO lA.u fun s hO => ?_
      refine sdr [0] hO fun s hO => ?_
      exact hX2 _ H _ _ ⟨_, _, _, _, _, _, agr, hO, fr⟩
     skip
     refine sbu (Fl.int .u8) 5 [(IntKind.u8.wrap ((97 : Int) + (k2_27 : Int)))] hO fun mX S5 s hO => ?_
     refine GoT.both ?_ ?_
     ·skip
      skip
      refine sfz 1 hO fun s hO Ed Ok => ?_
      refine sap 3 hO Ed H fun Iu Iv S6 s hO => ?_
      replace H := H.2
      skip
      refine op1 0 hO fun Ol s hO rQ => ?_
      have hle148 := J0p rQ.bd
      refine GoT.step rfl ((oldBytes 0 hO rfl rQ.u Try.underlying126 Try.underlying5 Try.underlying9 rfl) _ (Same.refl _)) (Same.refl _) rfl rfl ?_
      obtain ⟨AJ, H⟩ := H
      refine GoT.pure rfl (J0a rfl rfl AJ) rfl rfl ?_
      skip
      refine sbu Fl.str 9 [((ix d_29 (k1_15 : Int)) ++ (byt ([(IntKind.u8.wrap ((97 : Int) + (k2_27 : Int)))])))] hO (fun JQ JR s hO => ?_) (hE := fun _ _ => (Els.cons rfl ⟨rfl, (lenApp AJ)⟩ (Els.nil _ _ _) (by simp [mx])))
      skip
      refine sfz 0 hO fun s hO Ee Om => ?_
      refine sap 2 hO Ee H fun ye I4 I5 s hO => ?_
      refine au ?_
      replace H := H.2
      obtain ⟨K1, H⟩ := H
      refine zo (J04 rfl rfl (wrap_i64 K1)) ?_
      refine au ?_
      refine cl1 (Fl.int .u8) 0 hO rQ.u fun s hO => ?_
      refine sdr [0] hO fun s hO => ?_
      exact hX2 _ H _ _ ⟨_, _, _, _, _, _, agr, hO, fr⟩
     replace H := (And.intro H.2.1 (And.intro H.1 (And.intro H.2.2.1 (And.intro H.2.2.2.1 H.2.2.2.2))))
     refine op1 0 hO fun Oo s hO jg => ?_
     have hle161 := J0p jg.bd
     refine GoT.step rfl ((oldBytes 0 hO rfl jg.u Try.underlying126 Try.underlying5 Try.underlying9 rfl) _ (Same.refl _)) (Same.refl _) rfl rfl ?_
     obtain ⟨wc, H⟩ := H
     refine GoT.pure rfl (J0a rfl rfl wc) rfl rfl ?_
     refine GoT.both ?_ ?_
     ·skip
      skip
      refine sfz 1 hO fun s hO q9 Oq => ?_
      refine sap 3 hO q9.u H fun S7 S8 S9 s hO => ?_
      replace H := H.2
      skip
      refine sbu Fl.str 9 [((ix d_29 (k1_15 : Int)) ++ (byt ([(IntKind.u8.wrap ((97 : Int) + (k2_27 : Int)))])))] hO (fun uM I6 s hO => ?_) (hE := fun _ _ => (Els.cons rfl ⟨rfl, (lenApp wc)⟩ (Els.nil _ _ _) (by simp [mx])))
      skip
      refine sfz 0 hO fun s hO Ef Os => ?_
      refine sap 2 hO Ef H fun nJ Ta Tc s hO => ?_
      refine au ?_
      replace H := H.2
      obtain ⟨K2, H⟩ := H
      refine zo (J04 rfl rfl (wrap_i64 K2)) ?_
      refine au ?_
      refine cl1 (Fl.int .u8) 0 hO jg.u fun s hO => ?_
      refine sdr [0] hO fun s hO => ?_
      exact hX2 _ H _ _ ⟨_, _, _, _, _, _, agr, hO, fr⟩
     skip
     refine sbu Fl.str 9 [((ix d_29 (k1_15 : Int)) ++ (byt ([(IntKind.u8.wrap ((97 : Int) + (k2_27 : Int)))])))] hO (fun Td Te s hO => ?_) (hE := fun _ _ => (Els.cons rfl ⟨rfl, (lenApp wc)⟩ (Els.nil _ _ _) (by simp [mx])))
     skip
     refine sfz 2 hO fun s hO Eg Ot => ?_
     refine sap 4 hO Eg H fun JV iB iC s hO => ?_
     replace H := H.2
     skip
     refine sfz 0 hO fun s hO Eh Ou => ?_
     refine sap 2 hO Eh H fun IF Tf Tg s hO => ?_
     refine au ?_
     replace H := H.2
     obtain ⟨K3, H⟩ := H
     refine zo (J04 rfl rfl (wrap_i64 K3)) ?_
     refine au ?_
     refine cl1 (Fl.int .u8) 0 hO jg.u fun s hO => ?_
     refine sdr [0] hO fun s hO => ?_
     exact hX2 _ H _ _ ⟨_, _, _, _, _, _, agr, hO, fr⟩
    skip
    refine sbu (Fl.int .u8) 5 [(IntKind.u8.wrap ((97 : Int) + (k2_27 : Int)))] hO fun ut JW s hO => ?_
    refine GoT.both ?_ ?_
    ·skip
     skip
     refine sfz 1 hO fun s hO Ei Ov => ?_
     refine sap 3 hO Ei H fun yR I9 Th s hO => ?_
     replace H := H.2
     refine GoT.both ?_ ?_
     ·skip
      skip
      refine sld1 2 hO h57 h58 ?_
      have hle199 := t1le 2 hO h57 h58
      skip
      refine op1 0 hO fun Ow s hO rR => ?_
      have hle202 := J0p rR.bd
      refine GoT.step rfl ((oldBytes 0 hO rfl rR.u Try.underlying126 Try.underlying5 Try.underlying9 rfl) _ (Same.refl _)) (Same.refl _) rfl rfl ?_
      obtain ⟨AK, H⟩ := H
      refine GoT.pure rfl (J0a rfl rfl AK) rfl rfl ?_
      skip
      refine sbu Fl.str 9 [((ix d_29 (k1_15 : Int)) ++ (byt ([(IntKind.u8.wrap ((97 : Int) + (k2_27 : Int)))])))] hO (fun IH Tj s hO => ?_) (hE := fun _ _ => (Els.cons rfl ⟨rfl, (lenApp AK)⟩ (Els.nil _ _ _) (by simp [mx])))
      skip
      refine sfz 0 hO fun s hO qA xb => ?_
      refine sap 2 hO qA H fun Jb Jc Jd s hO => ?_
      refine au ?_
      replace H := H.2
      obtain ⟨K4, H⟩ := H
      refine zo (J04 rfl rfl (wrap_i64 K4)) ?_
      refine au ?_
      refine cl1 (Fl.int .u8) 0 hO rR.u fun s hO => ?_
      refine sdr [0] hO fun s hO => ?_
      exact hX2 _ H _ _ ⟨_, _, _, _, _, _, agr, hO, fr⟩
     skip
     refine op1 0 hO fun xH s hO kh => ?_
     have hle215 := J0p kh.bd
     refine GoT.step rfl ((oldBytes 0 hO rfl kh.u Try.underlying126 Try.underlying5 Try.underlying9 rfl) _ (Same.refl _)) (Same.refl _) rfl rfl ?_
     skip
     refine sld1 2 hO h57 h58 ?_
     have hle216 := t1le 2 hO h57 h58
     obtain ⟨AM, H⟩ := H
     refine GoT.pure rfl (J0a rfl rfl AM) rfl rfl ?_
     skip
     refine sbu Fl.str 9 [((ix d_29 (k1_15 : Int)) ++ (byt ([(IntKind.u8.wrap ((97 : Int) + (k2_27 : Int)))])))] hO (fun Tk Tl s hO => ?_) (hE := fun _ _ => (Els.cons rfl ⟨rfl, (lenApp AM)⟩ (Els.nil _ _ _) (by simp [mx])))
     skip
     refine sfz 0 hO fun s hO Ej Ox => ?_
     refine sap 2 hO Ej.u H fun Tm Tn To s hO => ?_
     refine au ?_
     replace H := H.2
     obtain ⟨vC, H⟩ := H
     refine zo (J04 rfl rfl (wrap_i64 vC)) ?_
     refine au ?_
     refine cl1 (Fl.int .u8) 0 hO kh.u fun s hO => ?_
     refine sdr [0] hO fun s hO => ?_
     exact hX2 _ H _ _ ⟨_, _, _, _, _, _, agr, hO, fr⟩
    refine GoT.both ?_ ?_
    ·skip
     skip
     refine sld1 3 hO h57 h58 ?_
     have hle227 := t1le 3 hO h57 h58
     refine GoT.both ?_ ?_
     ·skip
      skip
      refine sfz 1 hO fun s hO Ek Oy => ?_
      refine sap 3 hO Ek H fun u5 K5 Tp s hO => ?_
      replace H := H.2
      skip
      refine op1 0 hO fun Oz s hO rS => ?_
      have hle235 := J0p rS.bd
      refine GoT.step rfl ((oldBytes 0 hO rfl rS.u Try.underlying126 Try.underlying5 Try.underlying9 rfl) _ (Same.refl _)) (Same.refl _) rfl rfl ?_
      obtain ⟨AO, H⟩ := H
      refine GoT.pure rfl (J0a rfl rfl AO) rfl rfl ?_
      skip
      refine sbu Fl.str 9 [((ix d_29 (k1_15 : Int)) ++ (byt ([(IntKind.u8.wrap ((97 : Int) + (k2_27 : Int)))])))] hO (fun yW Tq s hO => ?_) (hE := fun _ _ => (Els.cons rfl ⟨rfl, (lenApp AO)⟩ (Els.nil _ _ _) (by simp [mx])))
      skip
      refine sfz 0 hO fun s hO El OA => ?_
      refine sap 2 hO El H fun Ky lX lY s hO => ?_
      refine au ?_
      replace H := H.2
      obtain ⟨K6, H⟩ := H
      refine zo (J04 rfl rfl (wrap_i64 K6)) ?_
      refine au ?_
      refine cl1 (Fl.int .u8) 0 hO rS.u fun s hO => ?_
      refine sdr [0] hO fun s hO => ?_
      exact hX2 _ H _ _ ⟨_, _, _, _, _, _, agr, hO, fr⟩
     replace H := (And.intro H.2.1 (And.intro H.1 (And.intro H.2.2.1 (And.intro H.2.2.2.1 H.2.2.2.2))))
     refine op1 0 hO fun OB s hO mB => ?_
     have hle248 := J0p mB.bd
     refine GoT.step rfl ((oldBytes 0 hO rfl mB.u Try.underlying126 Try.underlying5 Try.underlying9 rfl) _ (Same.refl _)) (Same.refl _) rfl rfl ?_
     obtain ⟨we, H⟩ := H
     refine GoT.pure rfl (J0a rfl rfl we) rfl rfl ?_
     refine GoT.both ?_ ?_
     ·skip
      skip
      refine sfz 1 hO fun s hO Em OC => ?_
      refine sap 3 hO Em.u H fun Ts Tt Tv s hO => ?_
      replace H := H.2
      skip
      refine sbu Fl.str 9 [((ix d_29 (k1_15 : Int)) ++ (byt ([(IntKind.u8.wrap ((97 : Int) + (k2_27 : Int)))])))] hO (fun vD Tw s hO => ?_) (hE := fun _ _ => (Els.cons rfl ⟨rfl, (lenApp we)⟩ (Els.nil _ _ _) (by simp [mx])))
      skip
      refine sfz 0 hO fun s hO En OD => ?_
      refine sap 2 hO En H fun Tx Ty Tz s hO => ?_
      refine au ?_
      replace H := H.2
      obtain ⟨vE, H⟩ := H
      refine zo (J04 rfl rfl (wrap_i64 vE)) ?_
      refine au ?_
      refine cl1 (Fl.int .u8) 0 hO mB.u fun s hO => ?_
      refine sdr [0] hO fun s hO => ?_
      exact hX2 _ H _ _ ⟨_, _, _, _, _, _, agr, hO, fr⟩
     skip
     refine sbu Fl.str 9 [((ix d_29 (k1_15 : Int)) ++ (byt ([(IntKind.u8.wrap ((97 : Int) + (k2_27 : Int)))])))] hO (fun KB KC s hO => ?_) (hE := fun _ _ => (Els.cons rfl ⟨rfl, (lenApp we)⟩ (Els.nil _ _ _) (by simp [mx])))
     skip
     refine sfz 2 hO fun s hO Eo OE => ?_
     refine sap 4 hO Eo H fun AP TA TB s hO => ?_
     replace H := H.2
     skip
     refine sfz 0 hO fun s hO rT mC => ?_
     refine sap 2 hO rT H fun TC TD TE s hO => ?_
     refine au ?_
     replace H := H.2
     obtain ⟨K7, H⟩ := H
     refine zo (J04 rfl rfl (wrap_i64 K7)) ?_
     refine au ?_
     refine cl1 (Fl.int .u8) 0 hO mB.u fun s hO => ?_
     refine sdr [0] hO fun s hO => ?_
     exact hX2 _ H _ _ ⟨_, _, _, _, _, _, agr, hO, fr⟩
    skip
    refine op1 0 hO fun rU s hO lF => ?_
    have hle280 := J0p lF.bd
    refine GoT.step rfl ((oldBytes 0 hO rfl lF.u Try.underlying126 Try.underlying5 Try.underlying9 rfl) _ (Same.refl _)) (Same.refl _) rfl rfl ?_
    refine GoT.both ?_ ?_
    ·skip
     skip
     refine sfz 1 hO fun s hO rC xK => ?_
     refine sap 3 hO rC H fun Jl TF TG s hO => ?_
     replace H := H.2
     skip
     refine sld1 2 hO h57 h58 ?_
     have hle286 := t1le 2 hO h57 h58
     obtain ⟨rD, H⟩ := H
     refine GoT.pure rfl (J0a rfl rfl rD) rfl rfl ?_
     skip
     refine sbu Fl.str 9 [((ix d_29 (k1_15 : Int)) ++ (byt ([(IntKind.u8.wrap ((97 : Int) + (k2_27 : Int)))])))] hO (fun Ae TH s hO => ?_) (hE := fun _ _ => (Els.cons rfl ⟨rfl, (lenApp rD)⟩ (Els.nil _ _ _) (by simp [mx])))
     skip
     refine sfz 0 hO fun s hO Ep OF => ?_
     refine sap 2 hO Ep.u H fun uS Jq Jr s hO => ?_
     refine au ?_
     replace H := H.2
     obtain ⟨nK, H⟩ := H
     refine zo (J04 rfl rfl (wrap_i64 nK)) ?_
     refine au ?_
     refine cl1 (Fl.int .u8) 0 hO lF.u fun s hO => ?_
     refine sdr [0] hO fun s hO => ?_
     exact hX2 _ H _ _ ⟨_, _, _, _, _, _, agr, hO, fr⟩
    replace H := (And.intro H.2.1 (And.intro H.1 (And.intro H.2.2.1 (And.intro H.2.2.2.1 H.2.2.2.2))))
    refine sld1 3 hO h57 h58 ?_
    have hle297 := t1le 3 hO h57 h58
    obtain ⟨wg, H⟩ := H
    refine GoT.pure rfl (J0a rfl rfl wg) rfl rfl ?_
    refine GoT.both ?_ ?_
    ·skip
     skip
     refine sfz 1 hO fun s hO Er OG => ?_
     refine sap 3 hO Er.u H fun TJ TK TL s hO => ?_
     replace H := H.2
     skip
     refine sbu Fl.str 9 [((ix d_29 (k1_15 : Int)) ++ (byt ([(IntKind.u8.wrap ((97 : Int) + (k2_27 : Int)))])))] hO (fun TM TN s hO => ?_) (hE := fun _ _ => (Els.cons rfl ⟨rfl, (lenApp wg)⟩ (Els.nil _ _ _) (by simp [mx])))
     skip
     refine sfz 0 hO fun s hO Et OH => ?_
     refine sap 2 hO Et H fun KF TO TP s hO => ?_
     refine au ?_
     replace H := H.2
     obtain ⟨rE, H⟩ := H
     refine zo (J04 rfl rfl (wrap_i64 rE)) ?_
     refine au ?_
     refine cl1 (Fl.int .u8) 0 hO lF.u fun s hO => ?_
     refine sdr [0] hO fun s hO => ?_
     exact hX2 _ H _ _ ⟨_, _, _, _, _, _, agr, hO, fr⟩
    skip
    refine sbu Fl.str 9 [((ix d_29 (k1_15 : Int)) ++ (byt ([(IntKind.u8.wrap ((97 : Int) + (k2_27 : Int)))])))] hO (fun uT Jt s hO => ?_) (hE := fun _ _ => (Els.cons rfl ⟨rfl, (lenApp wg)⟩ (Els.nil _ _ _) (by simp [mx])))
    skip
    refine sfz 2 hO fun s hO rV Eu => ?_
    refine sap 4 hO rV H fun K8 K9 La s hO => ?_
    replace H := H.2
    skip
    refine sfz 0 hO fun s hO Ev OI => ?_
    refine sap 2 hO Ev H fun Jv Jw Jx s hO => ?_
    refine au ?_
    replace H := H.2
    obtain ⟨Aj, H⟩ := H
    refine zo (J04 rfl rfl (wrap_i64 Aj)) ?_
    refine au ?_
    refine cl1 (Fl.int .u8) 0 hO lF.u fun s hO => ?_
    refine sdr [0] hO fun s hO => ?_
    exact hX2 _ H _ _ ⟨_, _, _, _, _, _, agr, hO, fr⟩
   refine GoT.both ?_ ?_
   ·skip
    skip
    refine sld1 1 hO h57 h58 ?_
    have hle327 := t1le 1 hO h57 h58
    refine GoT.both ?_ ?_
    ·skip
     skip
     refine sbu Fl.i 3 [(ix (ix a0.Next (ix gG (k1_15 : Int))) (k2_27 : Int))] hO fun Lb TQ s hO => ?_
     refine GoT.both ?_ ?_
     ·skip
      skip
      refine sfz 0 hO fun s hO Ew OJ => ?_
      refine sap 2 hO Ew H fun Ak TS TT s hO => ?_
      replace H := H.2
      skip
      refine sbu (Fl.int .u8) 5 [(IntKind.u8.wrap ((97 : Int) + (k2_27 : Int)))] hO fun Jy Jz s hO => ?_
      skip
      refine op1 0 hO fun OK s hO rW => ?_
      have hle341 := J0p rW.bd
      refine GoT.step rfl ((oldBytes 0 hO rfl rW.u Try.underlying126 Try.underlying5 Try.underlying9 rfl) _ (Same.refl _)) (Same.refl _) rfl rfl ?_
      obtain ⟨AQ, H⟩ := H
      refine GoT.pure rfl (J0a rfl rfl AQ) rfl rfl ?_
      skip
      refine sbu Fl.str 9 [((ix d_29 (k1_15 : Int)) ++ (byt ([(IntKind.u8.wrap ((97 : Int) + (k2_27 : Int)))])))] hO (fun zj Lc s hO => ?_) (hE := fun _ _ => (Els.cons rfl ⟨rfl, (lenApp AQ)⟩ (Els.nil _ _ _) (by simp [mx])))
      skip
      refine sfz 0 hO fun s hO Ex OL => ?_
      refine sap 2 hO Ex H fun JC JD JE s hO => ?_
      refine au ?_
      replace H := H.2
      obtain ⟨AR, H⟩ := H
      refine zo (J04 rfl rfl (wrap_i64 AR)) ?_
      refine au ?_
      refine cl1 (Fl.int .u8) 0 hO rW.u fun s hO => ?_
      refine sdr [0] hO fun s hO => ?_
      exact hX2 _ H _ _ ⟨_, _, _, _, _, _, agr, hO, fr⟩
     skip
     refine sbu (Fl.int .u8) 5 [(IntKind.u8.wrap ((97 : Int) + (k2_27 : Int)))] hO fun TU TV s hO => ?_
     refine GoT.both ?_ ?_
     ·skip
      skip
      refine sfz 1 hO fun s hO Ey OM => ?_
      refine sap 3 hO Ey H fun TW TX TY s hO => ?_
      replace H := H.2
      skip
      refine op1 0 hO fun ON s hO rX => ?_
      have hle362 := J0p rX.bd
      refine GoT.step rfl ((oldBytes 0 hO rfl rX.u Try.underlying126 Try.underlying5 Try.underlying9 rfl) _ (Same.refl _)) (Same.refl _) rfl rfl ?_
      obtain ⟨AT, H⟩ := H
      refine GoT.pure rfl (J0a rfl rfl AT) rfl rfl ?_
      skip
      refine sbu Fl.str 9 [((ix d_29 (k1_15 : Int)) ++ (byt ([(IntKind.u8.wrap ((97 : Int) + (k2_27 : Int)))])))] hO (fun T0 T3 s hO => ?_) (hE := fun _ _ => (Els.cons rfl ⟨rfl, (lenApp AT)⟩ (Els.nil _ _ _) (by simp [mx])))
      skip
      refine sfz 0 hO fun s hO Ez OO => ?_
      refine sap 2 hO Ez H fun Ld Le Lf s hO => ?_
      refine au ?_
      replace H := H.2
      obtain ⟨Lg, H⟩ := H
      refine zo (J04 rfl rfl (wrap_i64 Lg)) ?_
      refine au ?_
      refine cl1 (Fl.int .u8) 0 hO rX.u fun s hO => ?_
      refine sdr [0] hO fun s hO => ?_
      exact hX2 _ H _ _ ⟨_, _, _, _, _, _, agr, hO, fr⟩
     replace H := (And.intro H.2.1 (And.intro H.1 (And.intro H.2.2.1 (And.intro H.2.2.2.1 H.2.2.2.2))))
     refine op1 0 hO fun OP s hO mD => ?_
     have hle375 := J0p mD.bd
     refine GoT.step rfl ((oldBytes 0 hO rfl mD.u Try.underlying126 Try.underlying5 Try.underlying9 rfl) _ (Same.refl _)) (Same.refl _) rfl rfl ?_
     obtain ⟨rF, H⟩ := H
     refine GoT.pure rfl (J0a rfl rfl rF) rfl rfl ?_
     refine GoT.both ?_ ?_
     ·skip
      skip
      refine sfz 1 hO fun s hO EA OQ => ?_
      refine sap 3 hO EA.u H fun T4 T5 T6 s hO => ?_
      replace H := H.2
      skip
      refine sbu Fl.str 9 [((ix d_29 (k1_15 : Int)) ++ (byt ([(IntKind.u8.wrap ((97 : Int) + (k2_27 : Int)))])))] hO (fun Lh T7 s hO => ?_) (hE := fun _ _ => (Els.cons rfl ⟨rfl, (lenApp rF)⟩ (Els.nil _ _ _) (by simp [mx])))
      skip
      refine sfz 0 hO fun s hO EB OR => ?_
      refine sap 2 hO EB H fun T8 T9 Ua s hO => ?_
      refine au ?_
      replace H := H.2
      obtain ⟨Li, H⟩ := H
      refine zo (J04 rfl rfl (wrap_i64 Li)) ?_
      refine au ?_
      refine cl1 (Fl.int .u8) 0 hO mD.u fun s hO => ?_
      refine sdr [0] hO fun s hO => ?_
      exact hX2 _ H _ _ ⟨_, _, _, _, _, _, agr, hO, fr⟩
     skip
     refine sbu Fl.str 9 [((ix d_29 (k1_15 : Int)) ++ (byt ([(IntKind.u8.wrap ((97 : Int) + (k2_27 : Int)))])))] hO (fun Ub Uc s hO => ?_) (hE := fun _ _ => (Els.cons rfl ⟨rfl, (lenApp rF)⟩ (Els.nil _ _ _) (by simp [mx])))
     skip
     refine sfz 2 hO fun s hO EC OS => ?_
     refine sap 4 hO EC H fun Lj Ud Ue s hO => ?_
     replace H := H.2
     skip
     refine sfz 0 hO fun s hO lG mE => ?_
     refine sap 2 hO lG H fun Uf Ug Uh s hO => ?_
     refine au ?_
     replace H := H.2
     obtain ⟨Lk, H⟩ := H
     refine zo (J04 rfl rfl (wrap_i64 Lk)) ?_
     refine au ?_
     refine cl1 (Fl.int .u8) 0 hO mD.u fun s hO => ?_
     refine sdr [0] hO fun s hO => ?_
     exact hX2 _ H _ _ ⟨_, _, _, _, _, _, agr, hO, fr⟩
    skip
    refine sbu (Fl.int .u8) 5 [(IntKind.u8.wrap ((97 : Int) + (k2_27 : Int)))] hO fun Ui Uj s hO => ?_
    refine GoT.both ?_ ?_
    ·skip
     skip
     refine sbu Fl.i 3 [(ix (ix a0.Next (ix gG (k1_15 : Int))) (k2_27 : Int))] hO fun Uk Ul s hO => ?_
     refine GoT.both ?_ ?_
     ·skip
      skip
      refine sfz 0 hO fun s hO ED OT => ?_
      refine sap 3 hO ED H fun KK Um Un s hO => ?_
      replace H := H.2
      skip
      refine op1 0 hO fun OU s hO rY => ?_
      have hle418 := J0p rY.bd
      refine GoT.step rfl ((oldBytes 0 hO rfl rY.u Try.underlying126 Try.underlying5 Try.underlying9 rfl) _ (Same.refl _)) (Same.refl _) rfl rfl ?_
      obtain ⟨AU, H⟩ := H
      refine GoT.pure rfl (J0a rfl rfl AU) rfl rfl ?_
      skip
      refine sbu Fl.str 9 [((ix d_29 (k1_15 : Int)) ++ (byt ([(IntKind.u8.wrap ((97 : Int) + (k2_27 : Int)))])))] hO (fun Uo Up s hO => ?_) (hE := fun _ _ => (Els.cons rfl ⟨rfl, (lenApp AU)⟩ (Els.nil _ _ _) (by simp [mx])))
      skip
      refine sfz 0 hO fun s hO EE OV => ?_
      refine sap 2 hO EE H fun Uq Ur Us s hO => ?_
      refine au ?_
      replace H := H.2
      obtain ⟨Ll, H⟩ := H
      refine zo (J04 rfl rfl (wrap_i64 Ll)) ?_
      refine au ?_
      refine cl1 (Fl.int .u8) 0 hO rY.u fun s hO => ?_
      refine sdr [0] hO fun s hO => ?_
      exact hX2 _ H _ _ ⟨_, _, _, _, _, _, agr, hO, fr⟩
     replace H := (And.intro H.2.1 (And.intro H.1 (And.intro H.2.2.1 (And.intro H.2.2.2.1 H.2.2.2.2))))
     refine op1 1 hO fun OW s hO mF => ?_
     have hle431 := J0p mF.bd
     refine GoT.step rfl ((oldBytes 1 hO rfl mF.u Try.underlying126 Try.underlying5 Try.underlying9 rfl) _ (Same.refl _)) (Same.refl _) rfl rfl ?_
     obtain ⟨wh, H⟩ := H
     refine GoT.pure rfl (J0a rfl rfl wh) rfl rfl ?_
     refine GoT.both ?_ ?_
     ·skip
      skip
      refine sfz 0 hO fun s hO rG OX => ?_
      refine sap 3 hO rG.u H fun Ut Uu Uv s hO => ?_
      replace H := H.2
      skip
      refine sbu Fl.str 9 [((ix d_29 (k1_15 : Int)) ++ (byt ([(IntKind.u8.wrap ((97 : Int) + (k2_27 : Int)))])))] hO (fun Uw Ux s hO => ?_) (hE := fun _ _ => (Els.cons rfl ⟨rfl, (lenApp wh)⟩ (Els.nil _ _ _) (by simp [mx])))
      skip
      refine sfz 0 hO fun s hO EF OY => ?_
      refine sap 2 hO EF H fun KM Uy Uz s hO => ?_
      refine au ?_
      replace H := H.2
      obtain ⟨Lm, H⟩ := H
      refine zo (J04 rfl rfl (wrap_i64 Lm)) ?_
      refine au ?_
      refine cl1 (Fl.int .u8) 0 hO mF.u fun s hO => ?_
      refine sdr [0] hO fun s hO => ?_
      exact hX2 _ H _ _ ⟨_, _, _, _, _, _, agr, hO, fr⟩
     skip
     refine sbu Fl.str 9 [((ix d_29 (k1_15 : Int)) ++ (byt ([(IntKind.u8.wrap ((97 : Int) + (k2_27 : Int)))])))] hO (fun KN UA s hO => ?_) (hE := fun _ _ => (Els.cons rfl ⟨rfl, (lenApp wh)⟩ (Els.nil _ _ _) (by simp [mx])))
     skip
     refine sfz 1 hO fun s hO EG O0 => ?_
     refine sap 4 hO EG H fun UB UC UD s hO => ?_
     replace H := H.2
     skip
     refine sfz 0 hO fun s hO rJ xJ => ?_
     refine sap 2 hO rJ H fun UE UF UG s hO => ?_
     refine au ?_
     replace H := H.2
     obtain ⟨Ln, H⟩ := H
     refine zo (J04 rfl rfl (wrap_i64 Ln)) ?_
     refine au ?_
     refine cl1 (Fl.int .u8) 0 hO mF.u fun s hO => ?_
     refine sdr [0] hO fun s hO => ?_
     exact hX2 _ H _ _ ⟨_, _, _, _, _, _, agr, hO, fr⟩
    replace H := (And.intro H.2.1 (And.intro H.1 (And.intro H.2.2.1 (And.intro H.2.2.2.1 H.2.2.2.2))))
    refine op1 0 hO fun O1 s hO lH => ?_
    have hle463 := J0p lH.bd
    refine GoT.step rfl ((oldBytes 0 hO rfl lH.u Try.underlying126 Try.underlying5 Try.underlying9 rfl) _ (Same.refl _)) (Same.refl _) rfl rfl ?_
    obtain ⟨sb, H⟩ := H
    refine GoT.pure rfl (J0a rfl rfl sb) rfl rfl ?_
    refine GoT.both ?_ ?_
    ·skip
     skip
     refine sbu Fl.i 3 [(ix (ix a0.Next (ix gG (k1_15 : Int))) (k2_27 : Int))] hO fun UH UI s hO => ?_
     refine GoT.both ?_ ?_
     ·skip
      skip
      refine sfz 0 hO fun s hO EH O2 => ?_
      refine sap 3 hO EH.u H fun KO UJ UK s hO => ?_
      replace H := H.2
      skip
      refine sbu Fl.str 9 [((ix d_29 (k1_15 : Int)) ++ (byt ([(IntKind.u8.wrap ((97 : Int) + (k2_27 : Int)))])))] hO (fun UL UM s hO => ?_) (hE := fun _ _ => (Els.cons rfl ⟨rfl, (lenApp sb)⟩ (Els.nil _ _ _) (by simp [mx])))
      skip
      refine sfz 0 hO fun s hO EI O3 => ?_
      refine sap 2 hO EI H fun UO UP UQ s hO => ?_
      refine au ?_
      replace H := H.2
      obtain ⟨Lo, H⟩ := H
      refine zo (J04 rfl rfl (wrap_i64 Lo)) ?_
      refine au ?_
      refine cl1 (Fl.int .u8) 0 hO lH.u fun s hO => ?_
      refine sdr [0] hO fun s hO => ?_
      exact hX2 _ H _ _ ⟨_, _, _, _, _, _, agr, hO, fr⟩
     skip
     refine sbu Fl.str 9 [((ix d_29 (k1_15 : Int)) ++ (byt ([(IntKind.u8.wrap ((97 : Int) + (k2_27 : Int)))])))] hO (fun UR US s hO => ?_) (hE := fun _ _ => (Els.cons rfl ⟨rfl, (lenApp sb)⟩ (Els.nil _ _ _) (by simp [mx])))
     skip
     refine sfz 1 hO fun s hO EJ O4 => ?_
     refine sap 4 hO EJ H fun UT UU UV s hO => ?_
     replace H := H.2
     skip
     refine sfz 0 hO fun s hO EK O5 => ?_
     refine sap 2 hO EK H fun UW UX UY s hO => ?_
     refine au ?_
     replace H := H.2
     obtain ⟨Lp, H⟩ := H
     refine zo (J04 rfl rfl (wrap_i64 Lp)) ?_
     refine au ?_
     refine cl1 (Fl.int .u8) 0 hO lH.u fun s hO => ?_
     refine sdr [0] hO fun s hO => ?_
     exact hX2 _ H _ _ ⟨_, _, _, _, _, _, agr, hO, fr⟩
    skip
    refine sbu Fl.str 9 [((ix d_29 (k1_15 : Int)) ++ (byt ([(IntKind.u8.wrap ((97 : Int) + (k2_27 : Int)))])))] hO (fun U0 U1 s hO => ?_) (hE := fun _ _ => (Els.cons rfl ⟨rfl, (lenApp sb)⟩ (Els.nil _ _ _) (by simp [mx])))
    skip
    refine sbu Fl.i 3 [(ix (ix a0.Next (ix gG (k1_15 : Int))) (k2_27 : Int))] hO fun U2 U3 s hO => ?_
    skip
    refine sfz 0 hO fun s hO EL O6 => ?_
    refine sap 4 hO EL H fun U4 U5 U6 s hO => ?_
    replace H := H.2
    skip
    refine sfz 0 hO fun s hO EM O7 => ?_
    refine sap 2 hO EM H fun U7 U8 U9 s hO => ?_
    refine au ?_
    replace H := H.2
    obtain ⟨Lr, H⟩ := H
    refine zo (J04 rfl rfl (wrap_i64 Lr)) ?_
    refine au ?_
    refine cl1 (Fl.int .u8) 0 hO lH.u fun s hO => ?_
    refine sdr [0] hO fun s hO => ?_
    exact hX2 _ H _ _ ⟨_, _, _, _, _, _, agr, hO, fr⟩
   skip
   refine sbu (Fl.int .u8) 5 [(IntKind.u8.wrap ((97 : Int) + (k2_27 : Int)))] hO fun Ve Vf s hO => ?_
   refine GoT.both ?_ ?_
   ·skip
    skip
    refine sbu Fl.i 3 [(ix (ix a0.Next (ix gG (k1_15 : Int))) (k2_27 : Int))] hO fun Vg Vh s hO => ?_
    refine GoT.both ?_ ?_
    ·skip
     skip
     refine sfz 0 hO fun s hO EO O8 => ?_
     refine sap 3 hO EO H fun Vi Vj Vk s hO => ?_
     replace H := H.2
     refine GoT.both ?_ ?_
     ·skip
      skip
      refine sld1 2 hO h57 h58 ?_
      have hle524 := t1le 2 hO h57 h58
      skip
      refine op1 0 hO fun O9 s hO sd => ?_
      have hle527 := J0p sd.bd
      refine GoT.step rfl ((oldBytes 0 hO rfl sd.u Try.underlying126 Try.underlying5 Try.underlying9 rfl) _ (Same.refl _)) (Same.refl _) rfl rfl ?_
      obtain ⟨AV, H⟩ := H
      refine GoT.pure rfl (J0a rfl rfl AV) rfl rfl ?_
      skip
      refine sbu Fl.str 9 [((ix d_29 (k1_15 : Int)) ++ (byt ([(IntKind.u8.wrap ((97 : Int) + (k2_27 : Int)))])))] hO (fun Vl Vm s hO => ?_) (hE := fun _ _ => (Els.cons rfl ⟨rfl, (lenApp AV)⟩ (Els.nil _ _ _) (by simp [mx])))
      skip
      refine sfz 0 hO fun s hO EP Pa => ?_
      refine sap 2 hO EP H fun Vn Vo Vp s hO => ?_
      refine au ?_
      replace H := H.2
      obtain ⟨Lt, H⟩ := H
      refine zo (J04 rfl rfl (wrap_i64 Lt)) ?_
      refine au ?_
      refine cl1 (Fl.int .u8) 0 hO sd.u fun s hO => ?_
      refine sdr [0] hO fun s hO => ?_
      exact hX2 _ H _ _ ⟨_, _, _, _, _, _, agr, hO, fr⟩
     skip
     refine op1 0 hO fun Pb s hO se => ?_
     have hle540 := J0p se.bd
     refine GoT.step rfl ((oldBytes 0 hO rfl se.u Try.underlying126 Try.underlying5 Try.underlying9 rfl) _ (Same.refl _)) (Same.refl _) rfl rfl ?_
     skip
     refine sld1 2 hO h57 h58 ?_
     have hle541 := t1le 2 hO h57 h58
     obtain ⟨AW, H⟩ := H
     refine GoT.pure rfl (J0a rfl rfl AW) rfl rfl ?_
     skip
     refine sbu Fl.str 9 [((ix d_29 (k1_15 : Int)) ++ (byt ([(IntKind.u8.wrap ((97 : Int) + (k2_27 : Int)))])))] hO (fun Vq Vr s hO => ?_) (hE := fun _ _ => (Els.cons rfl ⟨rfl, (lenApp AW)⟩ (Els.nil _ _ _) (by simp [mx])))
     skip
     refine sfz 0 hO fun s hO EQ Pc => ?_
     refine sap 2 hO EQ.u H fun Vt Vu Vv s hO => ?_
     refine au ?_
     replace H := H.2
     obtain ⟨Lu, H⟩ := H
     refine zo (J04 rfl rfl (wrap_i64 Lu)) ?_
     refine au ?_
     refine cl1 (Fl.int .u8) 0 hO se.u fun s hO => ?_
     refine sdr [0] hO fun s hO => ?_
     exact hX2 _ H _ _ ⟨_, _, _, _, _, _, agr, hO, fr⟩
    refine GoT.both ?_ ?_
    ·skip
     skip
     refine sld1 3 hO h57 h58 ?_
     have hle552 := t1le 3 hO h57 h58
     refine GoT.both ?_ ?_
     ·skip
      skip
      refine sfz 0 hO fun s hO ER Pd => ?_
      refine sap 3 hO ER H fun Vw Vx Vy s hO => ?_
      replace H := H.2
      skip
      refine op1 0 hO fun Pe s hO sf => ?_
      have hle560 := J0p sf.bd
      refine GoT.step rfl ((oldBytes 0 hO rfl sf.u Try.underlying126 Try.underlying5 Try.underlying9 rfl) _ (Same.refl _)) (Same.refl _) rfl rfl ?_
      obtain ⟨AX, H⟩ := H
      refine GoT.pure rfl (J0a rfl rfl AX) rfl rfl ?_
      skip
      refine sbu Fl.str 9 [((ix d_29 (k1_15 : Int)) ++ (byt ([(IntKind.u8.wrap ((97 : Int) + (k2_27 : Int)))])))] hO (fun Vz VA s hO => ?_) (hE := fun _ _ => (Els.cons rfl ⟨rfl, (lenApp AX)⟩ (Els.nil _ _ _) (by simp [mx])))
      skip
      refine sfz 0 hO fun s hO ES Pg => ?_
      refine sap 2 hO ES H fun VB VC VD s hO => ?_
      refine au ?_
      replace H := H.2
      obtain ⟨Lv, H⟩ := H
      refine zo (J04 rfl rfl (wrap_i64 Lv)) ?_
      refine au ?_
      refine cl1 (Fl.int .u8) 0 hO sf.u fun s hO => ?_
      refine sdr [0] hO fun s hO => ?_
      exact hX2 _ H _ _ ⟨_, _, _, _, _, _, agr, hO, fr⟩
     replace H := (And.intro H.2.1 (And.intro H.1 (And.intro H.2.2.1 (And.intro H.2.2.2.1 H.2.2.2.2))))
     refine op1 1 hO fun Ph s hO mG => ?_
     have hle573 := J0p mG.bd
     refine GoT.step rfl ((oldBytes 1 hO rfl mG.u Try.underlying126 Try.underlying5 Try.underlying9 rfl) _ (Same.refl _)) (Same.refl _) rfl rfl ?_
     obtain ⟨wi, H⟩ := H
     refine GoT.pure rfl (J0a rfl rfl wi) rfl rfl ?_
     refine GoT.both ?_ ?_
     ·skip
      skip
      refine sfz 0 hO fun s hO ET Pi => ?_
      refine sap 3 hO ET.u H fun VE VG VH s hO => ?_
      replace H := H.2
      skip
      refine sbu Fl.str 9 [((ix d_29 (k1_15 : Int)) ++ (byt ([(IntKind.u8.wrap ((97 : Int) + (k2_27 : Int)))])))] hO (fun VI VJ s hO => ?_) (hE := fun _ _ => (Els.cons rfl ⟨rfl, (lenApp wi)⟩ (Els.nil _ _ _) (by simp [mx])))
      skip
      refine sfz 0 hO fun s hO EU Pj => ?_
      refine sap 2 hO EU H fun VK VL VM s hO => ?_
      refine au ?_
      replace H := H.2
      obtain ⟨Lw, H⟩ := H
      refine zo (J04 rfl rfl (wrap_i64 Lw)) ?_
      refine au ?_
      refine cl1 (Fl.int .u8) 0 hO mG.u fun s hO => ?_
      refine sdr [0] hO fun s hO => ?_
      exact hX2 _ H _ _ ⟨_, _, _, _, _, _, agr, hO, fr⟩
     skip
     refine sbu Fl.str 9 [((ix d_29 (k1_15 : Int)) ++ (byt ([(IntKind.u8.wrap ((97 : Int) + (k2_27 : Int)))])))] hO (fun VN VO s hO => ?_) (hE := fun _ _ => (Els.cons rfl ⟨rfl, (lenApp wi)⟩ (Els.nil _ _ _) (by simp [mx])))
     skip
     refine sfz 1 hO fun s hO EV Pk => ?_
     refine sap 4 hO EV H fun VP VQ VR s hO => ?_
     replace H := H.2
     skip
     refine sfz 0 hO fun s hO EW Pl => ?_
     refine sap 2 hO EW H fun VU VV VW s hO => ?_
     refine au ?_
     replace H := H.2
     obtain ⟨Lx, H⟩ := H
     refine zo (J04 rfl rfl (wrap_i64 Lx)) ?_
     refine au ?_
     refine cl1 (Fl.int .u8) 0 hO mG.u fun s hO => ?_
     refine sdr [0] hO fun s hO => ?_
     exact hX2 _ H _ _ ⟨_, _, _, _, _, _, agr, hO, fr⟩
    skip
    refine op1 1 hO fun Pm s hO lI => ?_
    have hle605 := J0p lI.bd
    refine GoT.step rfl ((oldBytes 1 hO rfl lI.u Try.underlying126 Try.underlying5 Try.underlying9 rfl) _ (Same.refl _)) (Same.refl _) rfl rfl ?_
    refine GoT.both ?_ ?_
    ·skip
     skip
     refine sfz 0 hO fun s hO EX Pn => ?_
     refine sap 3 hO EX H fun VX VY V0 s hO => ?_
     replace H := H.2
     skip
     refine sld1 2 hO h57 h58 ?_
     have hle611 := t1le 2 hO h57 h58
     obtain ⟨AY, H⟩ := H
     refine GoT.pure rfl (J0a rfl rfl AY) rfl rfl ?_
     skip
     refine sbu Fl.str 9 [((ix d_29 (k1_15 : Int)) ++ (byt ([(IntKind.u8.wrap ((97 : Int) + (k2_27 : Int)))])))] hO (fun V1 V2 s hO => ?_) (hE := fun _ _ => (Els.cons rfl ⟨rfl, (lenApp AY)⟩ (Els.nil _ _ _) (by simp [mx])))
     skip
     refine sfz 0 hO fun s hO EY Po => ?_
     refine sap 2 hO EY.u H fun V3 V4 V5 s hO => ?_
     refine au ?_
     replace H := H.2
     obtain ⟨Ly, H⟩ := H
     refine zo (J04 rfl rfl (wrap_i64 Ly)) ?_
     refine au ?_
     refine cl1 (Fl.int .u8) 0 hO lI.u fun s hO => ?_
     refine sdr [0] hO fun s hO => ?_
     exact hX2 _ H _ _ ⟨_, _, _, _, _, _, agr, hO, fr⟩
    replace H := (And.intro H.2.1 (And.intro H.1 (And.intro H.2.2.1 (And.intro H.2.2.2.1 H.2.2.2.2))))
    refine sld1 3 hO h57 h58 ?_
    have hle622 := t1le 3 hO h57 h58
    obtain ⟨wj, H⟩ := H
    refine GoT.pure rfl (J0a rfl rfl wj) rfl rfl ?_
    refine GoT.both ?_ ?_
    ·skip
     skip
     refine sfz 0 hO fun s hO E0 Pp => ?_
     refine sap 3 hO E0.u H fun V6 V7 V8 s hO => ?_
     replace H := H.2
     skip
     refine sbu Fl.str 9 [((ix d_29 (k1_15 : Int)) ++ (byt ([(IntKind.u8.wrap ((97 : Int) + (k2_27 : Int)))])))] hO (fun V9 Wa s hO => ?_) (hE := fun _ _ => (Els.cons rfl ⟨rfl, (lenApp wj)⟩ (Els.nil _ _ _) (by simp [mx])))
     skip
     refine sfz 0 hO fun s hO E3 Pq => ?_
     refine sap 2 hO E3 H fun Wb Wc Wd s hO => ?_
     refine au ?_
     replace H := H.2
     obtain ⟨Lz, H⟩ := H
     refine zo (J04 rfl rfl (wrap_i64 Lz)) ?_
     refine au ?_
     refine cl1 (Fl.int .u8) 0 hO lI.u fun s hO => ?_
     refine sdr [0] hO fun s hO => ?_
     exact hX2 _ H _ _ ⟨_, _, _, _, _, _, agr, hO, fr⟩
    skip
    refine sbu Fl.str 9 [((ix d_29 (k1_15 : Int)) ++ (byt ([(IntKind.u8.wrap ((97 : Int) + (k2_27 : Int)))])))] hO (fun We Wf s hO => ?_) (hE := fun _ _ => (Els.cons rfl ⟨rfl, (lenApp wj)⟩ (Els.nil _ _ _) (by simp [mx])))
    skip
    refine sfz 1 hO fun s hO E4 Pr => ?_
    refine sap 4 hO E4 H fun Wg Wh Wi s hO => ?_
    replace H := H.2
    skip
    refine sfz 0 hO fun s hO E5 Ps => ?_
    refine sap 2 hO E5 H fun Wj Wk Wl s hO => ?_
    refine au ?_
    replace H := H.2
    obtain ⟨LA, H⟩ := H
    refine zo (J04 rfl rfl (wrap_i64 LA)) ?_
    refine au ?_
    refine cl1 (Fl.int .u8) 0 hO lI.u fun s hO => ?_
    refine sdr [0] hO fun s hO => ?_
    exact hX2 _ H _ _ ⟨_, _, _, _, _, _, agr, hO, fr⟩
   refine GoT.both ?_ ?_
   ·skip
    skip
    refine sld1 2 hO h57 h58 ?_
    have hle652 := t1le 2 hO h57 h58
    refine GoT.both ?_ ?_
    ·skip
     skip
     refine sbu Fl.i 3 [(ix (ix a0.Next (ix gG (k1_15 : Int))) (k2_27 : Int))] hO fun Wm Wn s hO => ?_
     refine GoT.both ?_ ?_
     ·skip
      skip
      refine sfz 0 hO fun s hO E6 Pt => ?_
      refine sap 3 hO E6 H fun Wo Wp Wq s hO => ?_
      replace H := H.2
      skip
      refine op1 0 hO fun Pu s hO sj => ?_
      have hle663 := J0p sj.bd
      refine GoT.step rfl ((oldBytes 0 hO rfl sj.u Try.underlying126 Try.underlying5 Try.underlying9 rfl) _ (Same.refl _)) (Same.refl _) rfl rfl ?_
      obtain ⟨A4, H⟩ := H
      refine GoT.pure rfl (J0a rfl rfl A4) rfl rfl ?_
      skip
      refine sbu Fl.str 9 [((ix d_29 (k1_15 : Int)) ++ (byt ([(IntKind.u8.wrap ((97 : Int) + (k2_27 : Int)))])))] hO (fun Ws Wt s hO => ?_) (hE := fun _ _ => (Els.cons rfl ⟨rfl, (lenApp A4)⟩ (Els.nil _ _ _) (by simp [mx])))
      skip
      refine sfz 0 hO fun s hO E7 Pv => ?_
      refine sap 2 hO E7 H fun Wu Wv Ww s hO => ?_
      refine au ?_
      replace H := H.2
      obtain ⟨LB, H⟩ := H
      refine zo (J04 rfl rfl (wrap_i64 LB)) ?_
      refine au ?_
      refine cl1 (Fl.int .u8) 0 hO sj.u fun s hO => ?_
      refine sdr [0] hO fun s hO => ?_
      exact hX2 _ H _ _ ⟨_, _, _, _, _, _, agr, hO, fr⟩
     replace H := (And.intro H.2.1 (And.intro H.1 (And.intro H.2.2.1 (And.intro H.2.2.2.1 H.2.2.2.2))))
     refine op1 1 hO fun Pw s hO mH => ?_
     have hle676 := J0p mH.bd
     refine GoT.step rfl ((oldBytes 1 hO rfl mH.u Try.underlying126 Try.underlying5 Try.underlying9 rfl) _ (Same.refl _)) (Same.refl _) rfl rfl ?_
     obtain ⟨wk, H⟩ := H
     refine GoT.pure rfl (J0a rfl rfl wk) rfl rfl ?_
     refine GoT.both ?_ ?_
     ·skip
      skip
      refine sfz 0 hO fun s hO E8 Px => ?_
      refine sap 3 hO E8.u H fun Wx Wy Wz s hO => ?_
      replace H := H.2
      skip
      refine sbu Fl.str 9 [((ix d_29 (k1_15 : Int)) ++ (byt ([(IntKind.u8.wrap ((97 : Int) + (k2_27 : Int)))])))] hO (fun WA WB s hO => ?_) (hE := fun _ _ => (Els.cons rfl ⟨rfl, (lenApp wk)⟩ (Els.nil _ _ _) (by simp [mx])))
      skip
      refine sfz 0 hO fun s hO E9 Py => ?_
      refine sap 2 hO E9 H fun WC WD WE s hO => ?_
      refine au ?_
      replace H := H.2
      obtain ⟨LD, H⟩ := H
      refine zo (J04 rfl rfl (wrap_i64 LD)) ?_
      refine au ?_
      refine cl1 (Fl.int .u8) 0 hO mH.u fun s hO => ?_
      refine sdr [0] hO fun s hO => ?_
      exact hX2 _ H _ _ ⟨_, _, _, _, _, _, agr, hO, fr⟩
     skip
     refine sbu Fl.str 9 [((ix d_29 (k1_15 : Int)) ++ (byt ([(IntKind.u8.wrap ((97 : Int) + (k2_27 : Int)))])))] hO (fun WF WG s hO => ?_) (hE := fun _ _ => (Els.cons rfl ⟨rfl, (lenApp wk)⟩ (Els.nil _ _ _) (by simp [mx])))
     skip
     refine sfz 1 hO fun s hO Fa Pz => ?_
     refine sap 4 hO Fa H fun WH WI WJ s hO => ?_
     replace H := H.2
     skip
     refine sfz 0 hO fun s hO Fb PA => ?_
     refine sap 2 hO Fb H fun WK WL WM s hO => ?_
     refine au ?_
     replace H := H.2
     obtain ⟨LE, H⟩ := H
     refine zo (J04 rfl rfl (wrap_i64 LE)) ?_
     refine au ?_
     refine cl1 (Fl.int .u8) 0 hO mH.u fun s hO => ?_
     refine sdr [0] hO fun s hO => ?_
     exact hX2 _ H _ _ ⟨_, _, _, _, _, _, agr, hO, fr⟩
    replace H := (And.intro H.2.1 (And.intro H.1 (And.intro H.2.2.1 (And.intro H.2.2.2.1 H.2.2.2.2))))
    refine op1 0 hO fun PB s hO lJ => ?_
    have hle708 := J0p lJ.bd
    refine GoT.step rfl ((oldBytes 0 hO rfl lJ.u Try.underlying126 Try.underlying5 Try.underlying9 rfl) _ (Same.refl _)) (Same.refl _) rfl rfl ?_
    obtain ⟨sk, H⟩ := H
    refine GoT.pure rfl (J0a rfl rfl sk) rfl rfl ?_
    refine GoT.both ?_ ?_
    ·skip
     skip
     refine sbu Fl.i 3 [(ix (ix a0.Next (ix gG (k1_15 : Int))) (k2_27 : Int))] hO fun WN WO s hO => ?_
     refine GoT.both ?_ ?_
     ·skip
      skip
      refine sfz 0 hO fun s hO Fc PC => ?_
      refine sap 3 hO Fc.u H fun WP WQ WR s hO => ?_
      replace H := H.2
      skip
      refine sbu Fl.str 9 [((ix d_29 (k1_15 : Int)) ++ (byt ([(IntKind.u8.wrap ((97 : Int) + (k2_27 : Int)))])))] hO (fun WS WT s hO => ?_) (hE := fun _ _ => (Els.cons rfl ⟨rfl, (lenApp sk)⟩ (Els.nil _ _ _) (by simp [mx])))
      skip
      refine sfz 0 hO fun s hO Fd PD => ?_
      refine sap 2 hO Fd H fun WU WW WX s hO => ?_
      refine au ?_
      replace H := H.2
      obtain ⟨LF, H⟩ := H
      refine zo (J04 rfl rfl (wrap_i64 LF)) ?_
      refine au ?_
      refine cl1 (Fl.int .u8) 0 hO lJ.u fun s hO => ?_
      refine sdr [0] hO fun s hO => ?_
      exact hX2 _ H _ _ ⟨_, _, _, _, _, _, agr, hO, fr⟩
     skip
     refine sbu Fl.str 9 [((ix d_29 (k1_15 : Int)) ++ (byt ([(IntKind.u8.wrap ((97 : Int) + (k2_27 : Int)))])))] hO (fun WY W0 s hO => ?_) (hE := fun _ _ => (Els.cons rfl ⟨rfl, (lenApp sk)⟩ (Els.nil _ _ _) (by simp [mx])))
     skip
     refine sfz 1 hO fun s hO Fe PE => ?_
     refine sap 4 hO Fe H fun W1 W2 W3 s hO => ?_
     replace H := H.2
     skip
     refine sfz 0 hO fun s hO Ff PF => ?_
     refine sap 2 hO Ff H fun W4 W5 W6 s hO => ?_
     refine au ?_
     replace H := H.2
     obtain ⟨LG, H⟩ := H
     refine zo (J04 rfl rfl (wrap_i64 LG)) ?_
     refine au ?_
     refine cl1 (Fl.int .u8) 0 hO lJ.u fun s hO => ?_
     refine sdr [0] hO fun s hO => ?_
     exact hX2 _ H _ _ ⟨_, _, _, _, _, _, agr, hO, fr⟩
    skip
    refine sbu Fl.str 9 [((ix d_29 (k1_15 : Int)) ++ (byt ([(IntKind.u8.wrap ((97 : Int) + (k2_27 : Int)))])))] hO (fun W7 W8 s hO => ?_) (hE := fun _ _ => (Els.cons rfl ⟨rfl, (lenApp sk)⟩ (Els.nil _ _ _) (by simp [mx])))
    skip
    refine sbu Fl.i 3 [(ix (ix a0.Next (ix gG (k1_15 : Int))) (k2_27 : Int))] hO fun W9 Xa s hO => ?_
    skip
    refine sfz 0 hO fun s hO Fg PG => ?_
    refine sap 4 hO Fg H fun Xb Xc Xd s hO => ?_
    replace H := H.2
    skip
    refine sfz 0 hO fun s hO Fh PH => ?_
    refine sap 2 hO Fh H fun Xe Xf Xg s hO => ?_
    refine au ?_
    replace H := H.2
    obtain ⟨LH, H⟩ := H
    refine zo (J04 rfl rfl (wrap_i64 LH)) ?_
    refine au ?_
    refine cl1 (Fl.int .u8) 0 hO lJ.u fun s hO => ?_
    refine sdr [0] hO fun s hO => ?_
    exact hX2 _ H _ _ ⟨_, _, _, _, _, _, agr, hO, fr⟩
   skip
   refine op1 0 hO fun PJ s hO iP => ?_
   have hle760 := J0p iP.bd
   refine GoT.step rfl ((oldBytes 0 hO rfl iP.u Try.underlying126 Try.underlying5 Try.underlying9 rfl) _ (Same.refl _)) (Same.refl _) rfl rfl ?_
   refine GoT.both ?_ ?_
   ·skip
    skip
    refine sbu Fl.i 3 [(ix (ix a0.Next (ix gG (k1_15 : Int))) (k2_27 : Int))] hO fun Xh Xi s hO => ?_
    refine GoT.both ?_ ?_
    ·skip
     skip
     refine sfz 0 hO fun s hO Fi PK => ?_
     refine sap 3 hO Fi H fun Xj Xk Xl s hO => ?_
     replace H := H.2
     skip
     refine sld1 2 hO h57 h58 ?_
     have hle769 := t1le 2 hO h57 h58
     obtain ⟨A5, H⟩ := H
     refine GoT.pure rfl (J0a rfl rfl A5) rfl rfl ?_
     skip
     refine sbu Fl.str 9 [((ix d_29 (k1_15 : Int)) ++ (byt ([(IntKind.u8.wrap ((97 : Int) + (k2_27 : Int)))])))] hO (fun Xm Xn s hO => ?_) (hE := fun _ _ => (Els.cons rfl ⟨rfl, (lenApp A5)⟩ (Els.nil _ _ _) (by simp [mx])))
     skip
     refine sfz 0 hO fun s hO Fj PM => ?_
     refine sap 2 hO Fj.u H fun Xo Xp Xq s hO => ?_
     refine au ?_
     replace H := H.2
     obtain ⟨LI, H⟩ := H
     refine zo (J04 rfl rfl (wrap_i64 LI)) ?_
     refine au ?_
     refine cl1 (Fl.int .u8) 0 hO iP.u fun s hO => ?_
     refine sdr [0] hO fun s hO => ?_
     exact hX2 _ H _ _ ⟨_, _, _, _, _, _, agr, hO, fr⟩
    replace H := (And.intro H.2.1 (And.intro H.1 (And.intro H.2.2.1 (And.intro H.2.2.2.1 H.2.2.2.2))))
    refine sld1 3 hO h57 h58 ?_
    have hle780 := t1le 3 hO h57 h58
    obtain ⟨wm, H⟩ := H
    refine GoT.pure rfl (J0a rfl rfl wm) rfl rfl ?_
    refine GoT.both ?_ ?_
    ·skip
     skip
     refine sfz 0 hO fun s hO Fk PO => ?_
     refine sap 3 hO Fk.u H fun Xr Xs Xt s hO => ?_
     replace H := H.2
     skip
     refine sbu Fl.str 9 [((ix d_29 (k1_15 : Int)) ++ (byt ([(IntKind.u8.wrap ((97 : Int) + (k2_27 : Int)))])))] hO (fun Xu Xv s hO => ?_) (hE := fun _ _ => (Els.cons rfl ⟨rfl, (lenApp wm)⟩ (Els.nil _ _ _) (by simp [mx])))
     skip
     refine sfz 0 hO fun s hO Fm PP => ?_
     refine sap 2 hO Fm H fun Xw Xx Xy s hO => ?_
     refine au ?_
     replace H := H.2
     obtain ⟨LJ, H⟩ := H
     refine zo (J04 rfl rfl (wrap_i64 LJ)) ?_
     refine au ?_
     refine cl1 (Fl.int .u8) 0 hO iP.u fun s hO => ?_
     refine sdr [0] hO fun s hO => ?_
     exact hX2 _ H _ _ ⟨_, _, _, _, _, _, agr, hO, fr⟩
    skip
    refine sbu Fl.str 9 [((ix d_29 (k1_15 : Int)) ++ (byt ([(IntKind.u8.wrap ((97 : Int) + (k2_27 : Int)))])))] hO (fun Xz XA s hO => ?_) (hE := fun _ _ => (Els.cons rfl ⟨rfl, (lenApp wm)⟩ (Els.nil _ _ _) (by simp [mx])))
    skip
    refine sfz 1 hO fun s hO Fo PQ => ?_
    refine sap 4 hO Fo H fun XB XC XD s hO => ?_
    replace H := H.2
    skip
    refine sfz 0 hO fun s hO Fp PR => ?_
    refine sap 2 hO Fp H fun XE XF XG s hO => ?_
    refine au ?_
    replace H := H.2
    obtain ⟨LK, H⟩ := H
    refine zo (J04 rfl rfl (wrap_i64 LK)) ?_
    refine au ?_
    refine cl1 (Fl.int .u8) 0 hO iP.u fun s hO => ?_
    refine sdr [0] hO fun s hO => ?_
    exact hX2 _ H _ _ ⟨_, _, _, _, _, _, agr, hO, fr⟩
   replace H := (And.intro H.2.1 (And.intro H.1 (And.intro H.2.2.1 (And.intro H.2.2.2.1 H.2.2.2.2))))
   refine sld1 2 hO h57 h58 ?_
   have hle810 := t1le 2 hO h57 h58
   obtain ⟨sn, H⟩ := H
   refine GoT.pure rfl (J0a rfl rfl sn) rfl rfl ?_
   refine GoT.both ?_ ?_
   ·skip
    skip
    refine sbu Fl.i 3 [(ix (ix a0.Next (ix gG (k1_15 : Int))) (k2_27 : Int))] hO fun XH XJ s hO => ?_
    refine GoT.both ?_ ?_
    ·skip
     skip
     refine sfz 0 hO fun s hO Fq PS => ?_
     refine sap 3 hO Fq.u H fun XK XL XM s hO => ?_
     replace H := H.2
     skip
     refine sbu Fl.str 9 [((ix d_29 (k1_15 : Int)) ++ (byt ([(IntKind.u8.wrap ((97 : Int) + (k2_27 : Int)))])))] hO (fun XN XO s hO => ?_) (hE := fun _ _ => (Els.cons rfl ⟨rfl, (lenApp sn)⟩ (Els.nil _ _ _) (by simp [mx])))
     skip
     refine sfz 0 hO fun s hO Fs PT => ?_
     refine sap 2 hO Fs H fun XP XQ XR s hO => ?_
     refine au ?_
     replace H := H.2
     obtain ⟨LN, H⟩ := H
     refine zo (J04 rfl rfl (wrap_i64 LN)) ?_
     refine au ?_
     refine cl1 (Fl.int .u8) 0 hO iP.u fun s hO => ?_
     refine sdr [0] hO fun s hO => ?_
     exact hX2 _ H _ _ ⟨_, _, _, _, _, _, agr, hO, fr⟩
    skip
    refine sbu Fl.str 9 [((ix d_29 (k1_15 : Int)) ++ (byt ([(IntKind.u8.wrap ((97 : Int) + (k2_27 : Int)))])))] hO (fun XS XT s hO => ?_) (hE := fun _ _ => (Els.cons rfl ⟨rfl, (lenApp sn)⟩ (Els.nil _ _ _) (by simp [mx])))
    skip
    refine sfz 1 hO fun s hO Ft PU => ?_
    refine sap 4 hO Ft H fun XU XV XW s hO => ?_
    replace H := H.2
    skip
    refine sfz 0 hO fun s hO Fu PV => ?_
    refine sap 2 hO Fu H fun XX XY X0 s hO => ?_
    refine au ?_
    replace H := H.2
    obtain ⟨LO, H⟩ := H
    refine zo (J04 rfl rfl (wrap_i64 LO)) ?_
    refine au ?_
    refine cl1 (Fl.int .u8) 0 hO iP.u fun s hO => ?_
    refine sdr [0] hO fun s hO => ?_
    exact hX2 _ H _ _ ⟨_, _, _, _, _, _, agr, hO, fr⟩
   skip
   refine sbu Fl.str 9 [((ix d_29 (k1_15 : Int)) ++ (byt ([(IntKind.u8.wrap ((97 : Int) + (k2_27 : Int)))])))] hO (fun Ya Yb s hO => ?_) (hE := fun _ _ => (Els.cons rfl ⟨rfl, (lenApp sn)⟩ (Els.nil _ _ _) (by simp [mx])))
   skip
   refine sbu Fl.i 3 [(ix (ix a0.Next (ix gG (k1_15 : Int))) (k2_27 : Int))] hO fun Yc Yd s hO => ?_
   skip
   refine sfz 0 hO fun s hO Fv PW => ?_
   refine sap 4 hO Fv H fun Ye Yf Yg s hO => ?_
   replace H := H.2
   skip
   refine sfz 0 hO fun s hO Fw PX => ?_
   refine sap 2 hO Fw H fun Yh Yi Yj s hO => ?_
   refine au ?_
   replace H := H.2
   obtain ⟨LP, H⟩ := H
   refine zo (J04 rfl rfl (wrap_i64 LP)) ?_
   refine au ?_
   refine cl1 (Fl.int .u8) 0 hO iP.u fun s hO => ?_
   refine sdr [0] hO fun s hO => ?_
   exact hX2 _ H _ _ ⟨_, _, _, _, _, _, agr, hO, fr⟩
  refine au ?_
  obtain ⟨LQ, H⟩ := H
  refine zo (J04 rfl rfl (wrap_i64 LQ)) ?_
  refine au ?_
  exact hX1 _ H _ _ ⟨_, _, _, _, _, _, agr, hO, fr⟩
 refine au ?_
 refine sfz 2 hO fun s hO Fx Fy => ?_
 refine sfz 1 hO fun s hO Fz FA => ?_
 refine Go1.ret2 Try.func113 rfl ⟨_, _, _, _, _, _, ?_, frs, Fx.r, Fz.r, H⟩
 exact (congrArg (fun l => Value.tuple (List.toArray l)) (J01 (congrArg (fun nn => Value.slice p22 nn c23) Fy) (J01 (congrArg (fun nn => Value.slice p18 nn c19) FA) rfl)))
theorem body68 : Body Try.prog 68 := ⟨Try.f68, Try.func68, rfl, by kernel_rfl⟩
theorem J5a {A : List Nat} {w0 : World} {ag : Option Addr} {ah : Nat} {ai : Option Addr} {aj : Nat} {a0 : DFA} (hA : ∀ b ∈ A, b < w0.heap.size) (am : ISl (Rp.bool) A w0 ag ah a0.Final) (cI : ISl (Rp.sl (Rp.int .i64)) A w0 ai aj a0.Next) {K : DFA → List Int → Prop} (H : J2z a0 K) :
    CallsV Try.prog 68 #[.agg #[.int .i64 a0.Letters, .int .i64 a0.Start, .slice ag a0.Final.length ah, .slice ai a0.Next.length aj]] w0 (fun v w' => ∃ (r0 : DFA), ∃ (r1 : List Int), ∃ (b8 : Option Addr), ∃ (b9 : Nat), ∃ (cz : Option Addr), ∃ (cA : Nat), ∃ (fh : Option Addr), ∃ (fk : Nat), v = .tuple #[.agg #[.int .i64 r0.Letters, .int .i64 r0.Start, .slice b8 r0.Final.length b9, .slice cz r0.Next.length cA], .slice fh r1.length fk] ∧ Same w0 w' ∧ ISl (Rp.bool) A w' b8 b9 r0.Final ∧ ISl (Rp.sl (Rp.int .i64)) A w' cz cA r0.Next ∧ ISl (Rp.int .i64) A w' fh fk r1 ∧ K r0 r1) := by
 refine CallsV.of (l := [.agg #[.int .i64 a0.Letters, .int .i64 a0.Start, .slice ag a0.Final.length ah, .slice ai a0.Next.length aj]]) Try.func68 rfl Try.ntmps68 rfl ?_
 have hO := Owns.start hA
 have hB := Fr.refl (bl []) w0
 unfold J2z at H
 refine au ?_
 refine sbx hO fun w1 B2 s hO => ?_
 refine sal hO fun w4 B5 s hO => ?_
 refine au ?_
 refine zs (J05 (vs := [.int .i64 a0.Letters, .int .i64 a0.Start, .slice ag a0.Final.length ah, .slice ai a0.Next.length aj]) (i := 0) 1 hO rfl rfl Try.underlying25 rfl ti25 rfl) ?_
 refine zcr (J02 body113 rfl (J4m hO.lt am.u cI.u H)) fun _ w9 => e4 fun r7 r8 fW fX => e2 fun kE kF => sc0 hO fun s hO => d2 fun cR fB H => ?_
 refine au ?_
 refine sln0 ?_
 refine smk Fl.i (H am.bd) hO fun w10 p11 s hO => ?_
 refine au ?_
 refine sln1 0 hO ?_
 refine au ?_
 refine lw (H am.bd).2.2 (fun (k1_14, kN) σ w => (fun Z => agrees σ [(1, .pointer (some ⟨B2, 0, none⟩)), (2, .pointer (some ⟨B5, 0, none⟩)), (4, .slice fW r7.length fX), (6, .slice p11 a0.Final.length a0.Final.length), (26, .int .i64 ((List.replicate a0.Final.length ((0 : Int))).length : Int)), (27, .int .i64 (k1_14 : Int))] ∧ Owns w0.heap.size w Z A ∧ ISl (Rp.int .i64) (bl Z ++ A) w fW fX r7 ∧ Fr (bl []) w0 (bl Z) w) [t1 Fl.i 3 p11 a0.Final.length a0.Final.length kN, .blk B5 (.cells #[.int .i64 (0 : Int), .int .i64 (0 : Int), .slice none 0 0, .slice none 0 0] 25 (0, 0)), .blk B2 (.cells #[.int .i64 a0.Letters, .int .i64 a0.Start, .slice ag a0.Final.length ah, .slice ai a0.Next.length aj] 25 (0, 0))]) ⟨agr, hO, cR.u, fr⟩ ?_
 refine fun X1 => p1 fun k1_14 kN => fun H hX1 σ w13 => d3 fun hag hO cR hB => ?_
 dsimp only at H
 refine Go1.keep _ hag ?_
 revert hO; repeat (rename Owns _ _ _ _ => q; clear q)
 intro hO; repeat (rename Sq _ _ _ _ _ _ => q; clear q)
 refine au ?_
 refine scm H (fun h16 H => ?_) fun h16 H => ?_
 ·refine au ?_
  refine six1 0 hO H.1 H.2.1 ?_
  refine sst (u := (-1 : Int)) 0 hO H.1 H.2.1 fun w17 s hO => ?_
  refine au ?_
  have h18 := H.1
  have h19 := H.2.1
  replace H := H.2.2
  obtain ⟨h20, H⟩ := H
  refine zo (J04 rfl rfl (wrap_i64 h20)) ?_
  refine au ?_
  exact hX1 _ H _ _ ⟨agr, hO, cR.u, fr⟩
 refine au ?_
 refine sln0 ?_
 refine au ?_
 refine lw (H cR.bd) (fun (sq, gN) σ w => (fun Z => agrees σ [(1, .pointer (some ⟨B2, 0, none⟩)), (2, .pointer (some ⟨B5, 0, none⟩)), (4, .slice fW r7.length fX), (6, .slice p11 a0.Final.length a0.Final.length), (34, .slice fW r7.length fX), (35, .int .i64 (r7.length : Int)), (36, .int .i64 (sq : Int))] ∧ Owns w0.heap.size w Z A ∧ ISl (Rp.int .i64) (bl Z ++ A) w fW fX r7 ∧ Fr (bl []) w0 (bl Z) w) [t1 Fl.i 3 p11 a0.Final.length a0.Final.length gN, .blk B5 (.cells #[.int .i64 (0 : Int), .int .i64 (0 : Int), .slice none 0 0, .slice none 0 0] 25 (0, 0)), .blk B2 (.cells #[.int .i64 a0.Letters, .int .i64 a0.Start, .slice ag a0.Final.length ah, .slice ai a0.Next.length aj] 25 (0, 0))]) ⟨agr, hO, cR.u, fr⟩ ?_
 refine fun X2 => p1 fun sq gN => fun H hX2 σ w21 => d3 fun hag hO cR hB => ?_
 dsimp only at H
 refine Go1.keep _ hag ?_
 revert hO; repeat (rename Owns _ _ _ _ => q; clear q)
 intro hO; repeat (rename Sq _ _ _ _ _ _ => q; clear q)
 refine au ?_
 refine scm H (fun h24 H => ?_) fun h24 H => ?_
 ·refine au ?_
  refine sxl hO cR H.1 H.2.1 ?_
  refine au ?_
  refine six1 0 hO H.2.2.1 H.2.2.2.1 ?_
  refine sst (u := (sq : Int)) 0 hO H.2.2.1 H.2.2.2.1 fun w25 s hO => ?_
  refine au ?_
  refine sinc (natbd h24 cR.bd) ?_
  refine au ?_
  exact hX2 _ H.2.2.2.2 _ _ ⟨agr, hO, cR.u, fr⟩
 refine au ?_
 refine zo (J06 Try.underlying25 ti25 (pl := [(0, 1), (1, 1), (2, 1), (3, 1)]) (vs := [(0, .int .i64 a0.Letters)]) (cs := #[.int .i64 a0.Letters, .int .i64 (0 : Int), .slice none 0 0, .slice none 0 0]) (by kernel_rfl) rfl (by kernel_rfl)) ?_
 refine sal hO fun w26 B27 s hO => ?_
 refine sba 0 hO fun w29 s hO => ?_
 refine au ?_
 refine sln0 ?_
 refine au ?_
 refine snil Fl.bool 4 hO fun s hO => ?_
 have FB := Stp.nil (e := 31) (r := 1) hO
 refine nst FB fun s hO => ?_
 have LS := Els.nil (Rp.sl (Rp.int .i64)) (bl (.row 31 1 none 0 0 [] :: [t1 Fl.bool 4 none 0 0 (([] : List Bool)), .blk B27 (.cells #[.int .i64 a0.Letters, .int .i64 (0 : Int), .slice none 0 0, .slice none 0 0] 25 (0, 0)), t1 Fl.i 3 p11 a0.Final.length a0.Final.length gN, .blk B5 (.cells #[.int .i64 (0 : Int), .int .i64 (0 : Int), .slice none 0 0, .slice none 0 0] 25 (0, 0)), .blk B2 (.cells #[.int .i64 a0.Letters, .int .i64 a0.Start, .slice ag a0.Final.length ah, .slice ai a0.Next.length aj] 25 (0, 0))]) ++ A) w29
 refine lw H (fun (fA, dM, d_42) σ w => ∃ n41 p39 c40 l8 n45 p43 c44, (fun Z => agrees σ [(1, .pointer (some ⟨B2, 0, none⟩)), (2, .pointer (some ⟨B5, 0, none⟩)), (6, .slice p11 a0.Final.length a0.Final.length), (10, .pointer (some ⟨B27, 0, none⟩)), (49, .slice fW r7.length fX), (50, .int .i64 (r7.length : Int)), (51, .int .i64 (fA : Int))] ∧ Owns w0.heap.size w Z A ∧ Els (Rp.sl (Rp.int .i64)) (bl Z ++ A) w l8 dM ∧ ISl (Rp.int .i64) (bl Z ++ A) w fW fX r7 ∧ Fr (bl []) w0 (bl Z) w) [.row 31 1 p39 n41 c40 l8, t1 Fl.bool 4 p43 n45 c44 d_42, .blk B27 (.cells #[.int .i64 a0.Letters, .int .i64 (0 : Int), .slice p43 n45 c44, .slice p39 n41 c40] 25 (0, 0)), t1 Fl.i 3 p11 a0.Final.length a0.Final.length gN, .blk B5 (.cells #[.int .i64 (0 : Int), .int .i64 (0 : Int), .slice none 0 0, .slice none 0 0] 25 (0, 0)), .blk B2 (.cells #[.int .i64 a0.Letters, .int .i64 a0.Start, .slice ag a0.Final.length ah, .slice ai a0.Next.length aj] 25 (0, 0))]) ⟨_, _, _, _, _, _, _, agr, hO, LS.u, cR.u, fr⟩ ?_
 refine fun X3 => p2 fun fA dM d_42 => fun H hX3 σ w34 => e4 fun n41 p39 c40 l8 => e3 fun n45 p43 c44 => d4 fun hag hO oe cR hB => ?_
 dsimp only at H
 refine Go1.keep _ hag ?_
 revert hO; repeat (rename Owns _ _ _ _ => q; clear q)
 intro hO; repeat (rename Sq _ _ _ _ _ _ => q; clear q)
 refine au ?_
 refine scm H (fun h46 H => ?_) fun h46 H => ?_
 ·refine au ?_
  refine sxl hO cR H.1 H.2.1 ?_
  refine au ?_
  refine sxls hO cI.u H.2.2.1 H.2.2.2.1 fun p47 c48 jU => ?_
  refine sln0 ?_
  refine au ?_
  refine snil Fl.i 3 hO fun s hO => ?_
  refine lw (H.2.2.2.2 jU.bd) (fun (sr, dE) σ w => ∃ n56 p54 c55, (fun Z => agrees σ [(1, .pointer (some ⟨B2, 0, none⟩)), (2, .pointer (some ⟨B5, 0, none⟩)), (6, .slice p11 a0.Final.length a0.Final.length), (10, .pointer (some ⟨B27, 0, none⟩)), (12, .int .i64 (ix r7 (fA : Int))), (13, .slice p54 n56 c55), (49, .slice fW r7.length fX), (50, .int .i64 (r7.length : Int)), (51, .int .i64 (fA : Int)), (59, .slice p47 ((ix a0.Next (ix r7 (fA : Int))).length) c48), (60, .int .i64 ((ix a0.Next (ix r7 (fA : Int))).length : Int)), (61, .int .i64 (sr : Int))] ∧ Owns w0.heap.size w Z A ∧ Els (Rp.sl (Rp.int .i64)) (bl Z ++ A) w l8 dM ∧ ISl (Rp.int .i64) (bl Z ++ A) w fW fX r7 ∧ ISl (Rp.int .i64) (bl Z ++ A) w p47 c48 (ix a0.Next (ix r7 (fA : Int))) ∧ Fr (bl []) w0 (bl Z) w) [t1 Fl.i 3 p54 n56 c55 dE, .row 31 1 p39 n41 c40 l8, t1 Fl.bool 4 p43 n45 c44 d_42, .blk B27 (.cells #[.int .i64 a0.Letters, .int .i64 (0 : Int), .slice p43 n45 c44, .slice p39 n41 c40] 25 (0, 0)), t1 Fl.i 3 p11 a0.Final.length a0.Final.length gN, .blk B5 (.cells #[.int .i64 (0 : Int), .int .i64 (0 : Int), .slice none 0 0, .slice none 0 0] 25 (0, 0)), .blk B2 (.cells #[.int .i64 a0.Letters, .int .i64 a0.Start, .slice ag a0.Final.length ah, .slice ai a0.Next.length aj] 25 (0, 0))]) ⟨_, _, _, agr, hO, oe.u, cR.u, jU.u, fr⟩ ?_
  refine fun X4 => p1 fun sr dE => fun H hX4 σ w51 => e3 fun n56 p54 c55 => d1 fun hag => d4 fun hO oe cR jU hB => ?_
  dsimp only at H
  refine Go1.keep _ hag ?_
  revert hO; repeat (rename Owns _ _ _ _ => q; clear q)
  intro hO; repeat (rename Sq _ _ _ _ _ _ => q; clear q)
  refine au ?_
  refine scm H (fun h57 H => ?_) fun h57 H => ?_
  ·refine au ?_
   refine sxl hO jU H.1 H.2.1 ?_
   refine au ?_
   refine sxl1 4 hO H.2.2.1 H.2.2.2.1 ?_
   refine sap1 ((ix gN (ix (ix a0.Next (ix r7 (fA : Int))) (sr : Int)))) 0 hO H.2.2.2.2 fun _ w58 p59 c60 s hO => ?_
   refine au ?_
   refine sinc (natbd h57 jU.bd) ?_
   refine au ?_
   exact hX4 _ H.2.2.2.2.2 _ _ ⟨_, _, _, agr, hO, oe.u, cR.u, jU.u, fr⟩
  refine au ?_
  refine drA (CSv.tr [(some ⟨B27, 3, none⟩), (some ⟨B27, 2, none⟩), (some ⟨B2, 2, none⟩), (padd ag ((ix r7 (fA : Int)).toNat * (Rp.bool).sz + 0))]) 5 [(0, .pure), (1, .stable), (2, .pure), (5, .pure), (6, .stable), (7, .pure), (8, .stable), (9, .pure), (10, .pure), (11, .stable), (3, .alloc), (4, .loud), (14, .pure), (12, .alloc), (13, .loud), (15, .last), (16, .pure), (17, .last)] hO fun w61 s hO => ?_
  have ss := hO.le
  have hw63 := (fr : Fr (bl []) w0 _ w61).ch.size
  refine au ?_
  refine GoQA.stable rfl (loadV (.head _) rfl (J00 3 hO rfl rfl) Try.underlying23 rfl rfl) rfl rfl ?_
  refine au ?_
  refine au ?_
  refine GoQA.stable rfl (loadV (.tail _ (.head _)) rfl (J00 3 hO rfl rfl) Try.underlying22 rfl rfl) rfl rfl ?_
  refine au ?_
  refine GoQA.stable rfl (loadV (.tail _ (.tail _ (.head _))) rfl (J00 6 hO rfl rfl) Try.underlying22 rfl rfl) rfl rfl ?_
  refine au ?_
  refine six am H.1 H.2.1 ?_
  have h64 := H.1
  have h65 := H.2.1
  refine GoQA.stable rfl (loadV (.tail _ (.tail _ (.tail _ (.head _)))) (J65 (am.some_ h64 h65)) (ldBoolC am.u h64 h65) Try.underlying4 rfl rfl) rfl rfl ?_
  refine sfz 0 hO fun s hO LT LU => ?_
  refine GoQA.alloc rfl rfl (alBuild (n := 1) (parts := [(0, .slice p54 n56 c55)]) (vs := [.slice p54 n56 c55]) Try.underlying23 ti31 (by decide) (by decide) (by decide) (by kernel_rfl) rfl rfl) ?_
  intro w67 A68 b69 A70 LV LX hd73 hnb74 hh75
  refine sgw LV hO fun s hO => ?_
  have wn : Els (Rp.sl (Rp.int .i64)) (bl [.row 31 1 p39 n41 c40 l8, t1 Fl.bool 4 p43 n45 c44 d_42, .blk B27 (.cells #[.int .i64 a0.Letters, .int .i64 (0 : Int), .slice p43 n45 c44, .slice p39 n41 c40] 25 (0, 0)), t1 Fl.i 3 p11 a0.Final.length a0.Final.length gN, .blk B5 (.cells #[.int .i64 (0 : Int), .int .i64 (0 : Int), .slice none 0 0, .slice none 0 0] 25 (0, 0)), .blk B2 (.cells #[.int .i64 a0.Letters, .int .i64 a0.Start, .slice ag a0.Final.length ah, .slice ai a0.Next.length aj] 25 (0, 0))] ++ A68) w67 [.slice p54 n56 c55] [dE] := (Els.cons rfl ⟨p54, c55, congrArg some (congrArg (fun nn => Value.slice p54 nn c55) LU), LT.u⟩ (Els.nil _ _ _) (by simp [mx]))
  refine sgn (e := .row 31 1 (some ⟨b69, 0, none⟩) 1 1 [.slice p54 n56 c55]) LX hO ss hw63 hnb74 rfl hh75 hd73 (fr : Fr (bl []) w0 _ w67) fun s hO hB => ?_
  replace wn := wn.ch s.ch
  refine GoQA.loudI rfl rfl fun w79 A80 LY => ?_
  refine sgw LY hO fun s hO => ?_
  refine sfzR 0 hO wn.u fun s hO L1 L5 => ?_
  replace H := H.2.2
  obtain ⟨h84, H⟩ := H
  have zz := oapp Try.underlying23 ti31 rfl 0 hO rfl oe.u L1 L5 h84 (by decide)
  obtain ⟨w85, p86, c87, L6, kr, l7, FC⟩ := zz
  dsimp only [sS, sZ] at l7
  refine GoAt.step (FC (by exact rfl) (by exact rfl)) (fun _ => (CSv.cons (cs_eq (J00 2 hO rfl rfl) (J00 2 kr.own rfl rfl)) (CSv.cons (cs_eq (J00 2 hO rfl rfl) (J00 2 kr.own rfl rfl)) (CSv.cons (cs_eq (J00 5 hO rfl rfl) (J00 5 kr.own rfl rfl)) (CSv.cons (cskC kr.ch am.u h64 h65) (CSv.nil _ _)))))) (Stp.kp hO kr) rfl ?_
  refine nst kr fun s hO => ?_
  refine au ?_
  refine GoQA.alloc rfl rfl (alBuild (n := 1) (parts := [(0, .bool (ix a0.Final (ix r7 (fA : Int))))]) (vs := [.bool (ix a0.Final (ix r7 (fA : Int)))]) Try.underlying22 ti4 (by decide) (by decide) (by decide) (by kernel_rfl) rfl rfl) ?_
  intro w94 A95 b96 A97 L7 L8 hd100 hnb101 hh102
  refine sgw L7 hO fun s hO => ?_
  have jl : Els (Rp.bool) (bl [.row 31 1 p86 (n41 + 1) c87 L6, t1 Fl.bool 4 p43 n45 c44 d_42, .blk B27 (.cells #[.int .i64 a0.Letters, .int .i64 (0 : Int), .slice p43 n45 c44, .slice p39 n41 c40] 25 (0, 0)), t1 Fl.i 3 p11 a0.Final.length a0.Final.length gN, .blk B5 (.cells #[.int .i64 (0 : Int), .int .i64 (0 : Int), .slice none 0 0, .slice none 0 0] 25 (0, 0)), .blk B2 (.cells #[.int .i64 a0.Letters, .int .i64 a0.Start, .slice ag a0.Final.length ah, .slice ai a0.Next.length aj] 25 (0, 0))] ++ A95) w94 [.bool (ix a0.Final (ix r7 (fA : Int)))] [ix a0.Final (ix r7 (fA : Int))] := (Els.cons rfl rfl (Els.nil _ _ _) (by simp [mx]))
  refine sgn (e := .row 4 1 (some ⟨b96, 0, none⟩) 1 1 [.bool (ix a0.Final (ix r7 (fA : Int)))]) L8 hO ss hw63 hnb101 rfl hh102 hd100 (fr : Fr (bl []) w0 _ w94) fun s hO hB => ?_
  replace jl := jl.ch s.ch
  refine cl1 Fl.bool 0 hO jl.u fun s hO => ?_
  refine GoQA.loudI rfl rfl fun uF A105 FD => ?_
  refine sgw FD hO fun s hO => ?_
  refine sfz 0 hO fun s hO FE PY => ?_
  have hu112 := uAt hO am
  refine sapQ 1 hO FE H (fun ya Yk Yl s hO => ?_) (g := fun _ _ _ _ hv hst h => GoAt.step hv (fun _ => (CSv.cons (cs_eq (J00 2 hO rfl rfl) (J00 2 hst.own rfl rfl)) (CSv.cons (cs_eq (J00 2 hO rfl rfl) (J00 2 hst.own rfl rfl)) (CSv.cons (cs_eq (J00 5 hO rfl rfl) (J00 5 hst.own rfl rfl)) (CSv.cons (cskC hst.ch hu112 h64 h65) (CSv.nil _ _)))))) (Stp.kp hO hst) rfl h)
  refine GoQA.lastI rfl rfl fun L9 A114 FF => ?_
  refine sgw FF hO fun s hO => ?_
  refine sbs 2 hO fun Ym s hO => ?_
  refine au ?_
  refine GoQA.lastI rfl rfl fun qQ A118 su => ?_
  refine sgw su hO fun s hO => ?_
  refine sbs 2 hO fun qX s hO => ?_
  refine GoQA.nil fun qR A122 sv sw => ?_
  refine sgw sv hO fun s hO => ?_
  refine spm sw hO fun s hO => ?_
  refine au ?_
  refine sinc (natbd h46 cR.bd) ?_
  refine au ?_
  exact hX3 _ H.2 _ _ ⟨_, _, _, _, _, _, _, agr, hO, l7.u, cR.u, fr⟩
 refine au ?_
 refine zs (J05 (vs := [.int .i64 a0.Letters, .int .i64 (0 : Int), .slice p43 n45 c44, .slice p39 n41 c40]) (i := 0) 2 hO rfl rfl Try.underlying25 rfl ti25 rfl) ?_
 refine au ?_
 refine sba 4 hO fun yE s hO => ?_
 refine au ?_
 refine sfz 1 hO fun s hO qr qt => ?_
 refine sfzR 0 hO oe.u fun s hO FG FH => ?_
 refine sfz 1 hO fun s hO qY q8 => ?_
 refine Go1.retC2 Try.func68 rfl rfl (J03 (vs := [.int .i64 a0.Letters, .int .i64 (0 : Int), .slice p43 n45 c44, .slice p39 n41 c40]) 1 hO rfl rfl Try.underlying25 rfl ti25) ⟨((⟨a0.Letters, (0 : Int), d_42, dM⟩ : DFA)), _, _, _, _, _, _, _, ?_, frs, qr.r, FG.r, qY.r, H⟩
 exact (congrArg (fun l => Value.tuple (List.toArray l)) (J01 (congrArg (fun l => Value.agg (List.toArray l)) (J01 rfl (J01 rfl (J01 (congrArg (fun nn => Value.slice p43 nn c44) qt) (J01 (congrArg (fun nn => Value.slice p39 nn c40) FH) rfl))))) (J01 (congrArg (fun nn => Value.slice p11 nn a0.Final.length) q8) rfl)))
theorem body23 : Body Try.prog 23 := ⟨Try.f23, Try.func23, rfl, by kernel_rfl⟩
theorem J3W {A : List Nat} {w0 : World} {ag : Option Addr} {ah : Nat} {ai : Option Addr} {aj : Nat} {a0 : DFA} (hA : ∀ b ∈ A, b < w0.heap.size) (am : ISl (Rp.bool) A w0 ag ah a0.Final) (cI : ISl (Rp.sl (Rp.int .i64)) A w0 ai aj a0.Next) {K : DFA → Prop} (H : J1g a0 K) :
    CallsV Try.prog 23 #[.agg #[.int .i64 a0.Letters, .int .i64 a0.Start, .slice ag a0.Final.length ah, .slice ai a0.Next.length aj]] w0 (fun v w' => ∃ (r0 : DFA), ∃ (b8 : Option Addr), ∃ (b9 : Nat), ∃ (cz : Option Addr), ∃ (cA : Nat), v = .agg #[.int .i64 r0.Letters, .int .i64 r0.Start, .slice b8 r0.Final.length b9, .slice cz r0.Next.length cA] ∧ Same w0 w' ∧ ISl (Rp.bool) A w' b8 b9 r0.Final ∧ ISl (Rp.sl (Rp.int .i64)) A w' cz cA r0.Next ∧ K r0) := by
 refine CallsV.of (l := [.agg #[.int .i64 a0.Letters, .int .i64 a0.Start, .slice ag a0.Final.length ah, .slice ai a0.Next.length aj]]) Try.func23 rfl Try.ntmps23 rfl ?_
 have hO := Owns.start hA
 have hB := Fr.refl (bl []) w0
 unfold J1g at H
 refine au ?_
 refine sbx hO fun w1 B2 s hO => ?_
 refine sal hO fun w4 B5 s hO => ?_
 refine au ?_
 refine zs (J05 (vs := [.int .i64 a0.Letters, .int .i64 a0.Start, .slice ag a0.Final.length ah, .slice ai a0.Next.length aj]) (i := 0) 1 hO rfl rfl Try.underlying25 rfl ti25 rfl) ?_
 refine zcr (J02 body67 rfl (J3R hO.lt am.u cI.u H)) fun _ w8 => e3 fun r7 fW fX => sc0 hO fun s hO => d1 fun cR H => ?_
 refine au ?_
 refine drw 1 [(0, .pure), (1, .stable), (2, .pure), (3, .pure), (4, .stable), (5, .pure), (6, .stable), (7, .pure), (8, .loud), (9, .last)] hO fun w9 s hO => ?_
 refine au ?_
 refine sxl hO cR.u H.1 H.2.1 ?_
 refine GoQ.pure rfl (J06 Try.underlying25 ti25 (pl := [(0, 1), (1, 1), (2, 1), (3, 1)]) (vs := [(0, .int .i64 a0.Letters), (1, .int .i64 (ix r7 a0.Start))]) (cs := #[.int .i64 a0.Letters, .int .i64 (ix r7 a0.Start), .slice none 0 0, .slice none 0 0]) (by kernel_rfl) rfl (by kernel_rfl)) rfl rfl ?_
 refine sal hO fun w10 B11 s hO => ?_
 refine sba 0 hO fun w13 s hO => ?_
 refine au ?_
 refine sln0 ?_
 refine au ?_
 refine snil Fl.bool 4 hO fun s hO => ?_
 have FI := Stp.nil (e := 31) (r := 1) hO
 refine nst FI fun s hO => ?_
 have Ma := Els.nil (Rp.sl (Rp.int .i64)) (bl (.row 31 1 none 0 0 [] :: [t1 Fl.bool 4 none 0 0 (([] : List Bool)), .blk B11 (.cells #[.int .i64 a0.Letters, .int .i64 (ix r7 a0.Start), .slice none 0 0, .slice none 0 0] 25 (0, 0)), .blk B5 (.cells #[.int .i64 (0 : Int), .int .i64 (0 : Int), .slice none 0 0, .slice none 0 0] 25 (0, 0)), .blk B2 (.cells #[.int .i64 a0.Letters, .int .i64 a0.Start, .slice ag a0.Final.length ah, .slice ai a0.Next.length aj] 25 (0, 0))]) ++ A) w13
 refine lw (H.2.2 cR.bd) (fun (k1_19, k1_20, jV, d_27) σ w => ∃ n26 p24 c25 l9 n30 p28 c29, (fun Z => agrees σ [(1, .pointer (some ⟨B2, 0, none⟩)), (2, .pointer (some ⟨B5, 0, none⟩)), (3, .slice fW r7.length fX), (4, .pointer (some ⟨B11, 0, none⟩)), (5, .int .i64 (k1_19 : Int)), (21, .slice fW r7.length fX), (22, .int .i64 (r7.length : Int)), (23, .int .i64 (k1_20 : Int))] ∧ Owns w0.heap.size w Z A ∧ Els (Rp.sl (Rp.int .i64)) (bl Z ++ A) w l9 jV ∧ ISl (Rp.int .i64) (bl Z ++ A) w fW fX r7 ∧ Fr (bl []) w0 (bl Z) w) [.row 31 1 p24 n26 c25 l9, t1 Fl.bool 4 p28 n30 c29 d_27, .blk B11 (.cells #[.int .i64 a0.Letters, .int .i64 (ix r7 a0.Start), .slice p28 n30 c29, .slice p24 n26 c25] 25 (0, 0)), .blk B5 (.cells #[.int .i64 (0 : Int), .int .i64 (0 : Int), .slice none 0 0, .slice none 0 0] 25 (0, 0)), .blk B2 (.cells #[.int .i64 a0.Letters, .int .i64 a0.Start, .slice ag a0.Final.length ah, .slice ai a0.Next.length aj] 25 (0, 0))]) ⟨_, _, _, _, _, _, _, agr, hO, Ma.u, cR.u, fr⟩ ?_
 refine fun X1 => p3 fun k1_19 k1_20 jV d_27 => fun H hX1 σ w18 => e4 fun n26 p24 c25 l9 => e3 fun n30 p28 c29 => d4 fun hag hO jN cR hB => ?_
 dsimp only at H
 refine Go1.keep _ hag ?_
 revert hO; repeat (rename Owns _ _ _ _ => q; clear q)
 intro hO; repeat (rename Sq _ _ _ _ _ _ => q; clear q)
 refine au ?_
 refine scm H (fun h31 H => ?_) fun h31 H => ?_
 ·refine au ?_
  refine sxl hO cR H.1 H.2.1 ?_
  refine au ?_
  have h32 := H.1
  have h33 := H.2.1
  refine scm H.2.2 (fun h34 H => ?_) fun h34 H => ?_
  ·refine au ?_
   obtain ⟨h35, H⟩ := H
   refine zo (J04 rfl rfl (wrap_i64 h35)) ?_
   refine au ?_
   refine sxls hO cI.u H.1 H.2.1 fun p36 c37 ma => ?_
   refine sln0 ?_
   refine au ?_
   refine snil Fl.i 3 hO fun s hO => ?_
   refine lw (H.2.2 ma.bd) (fun (sx, d_42) σ w => ∃ n45 p43 c44, (fun Z => agrees σ [(1, .pointer (some ⟨B2, 0, none⟩)), (2, .pointer (some ⟨B5, 0, none⟩)), (3, .slice fW r7.length fX), (4, .pointer (some ⟨B11, 0, none⟩)), (5, .int .i64 (k1_19 + 1 : Int)), (6, .int .i64 (k1_20 : Int)), (8, .slice p43 n45 c44), (21, .slice fW r7.length fX), (22, .int .i64 (r7.length : Int)), (23, .int .i64 (k1_20 : Int)), (37, .slice p36 ((ix a0.Next (k1_20 : Int)).length) c37), (38, .int .i64 ((ix a0.Next (k1_20 : Int)).length : Int)), (39, .int .i64 (sx : Int))] ∧ Owns w0.heap.size w Z A ∧ Els (Rp.sl (Rp.int .i64)) (bl Z ++ A) w l9 jV ∧ ISl (Rp.int .i64) (bl Z ++ A) w fW fX r7 ∧ ISl (Rp.int .i64) (bl Z ++ A) w p36 c37 (ix a0.Next (k1_20 : Int)) ∧ Fr (bl []) w0 (bl Z) w) [t1 Fl.i 3 p43 n45 c44 d_42, .row 31 1 p24 n26 c25 l9, t1 Fl.bool 4 p28 n30 c29 d_27, .blk B11 (.cells #[.int .i64 a0.Letters, .int .i64 (ix r7 a0.Start), .slice p28 n30 c29, .slice p24 n26 c25] 25 (0, 0)), .blk B5 (.cells #[.int .i64 (0 : Int), .int .i64 (0 : Int), .slice none 0 0, .slice none 0 0] 25 (0, 0)), .blk B2 (.cells #[.int .i64 a0.Letters, .int .i64 a0.Start, .slice ag a0.Final.length ah, .slice ai a0.Next.length aj] 25 (0, 0))]) ⟨_, _, _, agr, hO, jN.u, cR.u, ma.u, fr⟩ ?_
   refine fun X2 => p1 fun sx d_42 => fun H hX2 σ w40 => e3 fun n45 p43 c44 => d1 fun hag => d4 fun hO jN cR ma hB => ?_
   dsimp only at H
   refine Go1.keep _ hag ?_
   revert hO; repeat (rename Owns _ _ _ _ => q; clear q)
   intro hO; repeat (rename Sq _ _ _ _ _ _ => q; clear q)
   refine au ?_
   refine scm H (fun h46 H => ?_) fun h46 H => ?_
   ·refine au ?_
    refine sxl hO ma H.1 H.2.1 ?_
    refine au ?_
    refine sxl hO cR H.2.2.1 H.2.2.2.1 ?_
    refine sap1 ((ix r7 (ix (ix a0.Next (k1_20 : Int)) (sx : Int)))) 0 hO H.2.2.2.2 fun _ w47 p48 c49 s hO => ?_
    refine au ?_
    refine sinc (natbd h46 ma.bd) ?_
    refine au ?_
    exact hX2 _ H.2.2.2.2.2 _ _ ⟨_, _, _, agr, hO, jN.u, cR.u, ma.u, fr⟩
   refine au ?_
   refine drA (CSv.tr [(some ⟨B11, 3, none⟩), (some ⟨B11, 2, none⟩), (some ⟨B2, 2, none⟩), (padd ag ((k1_20 : Int).toNat * (Rp.bool).sz + 0))]) 5 [(0, .pure), (1, .stable), (2, .pure), (5, .pure), (6, .stable), (7, .pure), (8, .stable), (9, .pure), (10, .pure), (11, .stable), (3, .alloc), (4, .loud), (14, .pure), (12, .alloc), (13, .loud), (15, .last), (16, .pure), (17, .last)] hO fun w50 s hO => ?_
   have sy := hO.le
   have hw52 := (fr : Fr (bl []) w0 _ w50).ch.size
   refine au ?_
   refine GoQA.stable rfl (loadV (.head _) rfl (J00 3 hO rfl rfl) Try.underlying23 rfl rfl) rfl rfl ?_
   refine au ?_
   refine au ?_
   refine GoQA.stable rfl (loadV (.tail _ (.head _)) rfl (J00 3 hO rfl rfl) Try.underlying22 rfl rfl) rfl rfl ?_
   refine au ?_
   refine GoQA.stable rfl (loadV (.tail _ (.tail _ (.head _))) rfl (J00 5 hO rfl rfl) Try.underlying22 rfl rfl) rfl rfl ?_
   refine au ?_
   refine six am H.1 H.2.1 ?_
   have h53 := H.1
   have h54 := H.2.1
   refine GoQA.stable rfl (loadV (.tail _ (.tail _ (.tail _ (.head _)))) (J65 (am.some_ h53 h54)) (ldBoolC am.u h53 h54) Try.underlying4 rfl rfl) rfl rfl ?_
   refine sfz 0 hO fun s hO uA uB => ?_
   refine GoQA.alloc rfl rfl (alBuild (n := 1) (parts := [(0, .slice p43 n45 c44)]) (vs := [.slice p43 n45 c44]) Try.underlying23 ti31 (by decide) (by decide) (by decide) (by kernel_rfl) rfl rfl) ?_
   intro w56 A57 b58 A59 Mc Me hd62 hnb63 hh64
   refine sgw Mc hO fun s hO => ?_
   have wo : Els (Rp.sl (Rp.int .i64)) (bl [.row 31 1 p24 n26 c25 l9, t1 Fl.bool 4 p28 n30 c29 d_27, .blk B11 (.cells #[.int .i64 a0.Letters, .int .i64 (ix r7 a0.Start), .slice p28 n30 c29, .slice p24 n26 c25] 25 (0, 0)), .blk B5 (.cells #[.int .i64 (0 : Int), .int .i64 (0 : Int), .slice none 0 0, .slice none 0 0] 25 (0, 0)), .blk B2 (.cells #[.int .i64 a0.Letters, .int .i64 a0.Start, .slice ag a0.Final.length ah, .slice ai a0.Next.length aj] 25 (0, 0))] ++ A57) w56 [.slice p43 n45 c44] [d_42] := (Els.cons rfl ⟨p43, c44, congrArg some (congrArg (fun nn => Value.slice p43 nn c44) uB), uA.u⟩ (Els.nil _ _ _) (by simp [mx]))
   refine sgn (e := .row 31 1 (some ⟨b58, 0, none⟩) 1 1 [.slice p43 n45 c44]) Me hO sy hw52 hnb63 rfl hh64 hd62 (fr : Fr (bl []) w0 _ w56) fun s hO hB => ?_
   replace wo := wo.ch s.ch
   refine GoQA.loudI rfl rfl fun w68 A69 Mf => ?_
   refine sgw Mf hO fun s hO => ?_
   refine sfzR 0 hO wo.u fun s hO wq Mg => ?_
   replace H := H.2.2
   obtain ⟨h73, H⟩ := H
   have zz := oapp Try.underlying23 ti31 rfl 0 hO rfl jN.u wq Mg h73 (by decide)
   obtain ⟨w74, p75, c76, Mh, gQ, A6, FJ⟩ := zz
   dsimp only [sS, sZ] at A6
   refine GoAt.step (FJ (by exact rfl) (by exact rfl)) (fun _ => (CSv.cons (cs_eq (J00 2 hO rfl rfl) (J00 2 gQ.own rfl rfl)) (CSv.cons (cs_eq (J00 2 hO rfl rfl) (J00 2 gQ.own rfl rfl)) (CSv.cons (cs_eq (J00 4 hO rfl rfl) (J00 4 gQ.own rfl rfl)) (CSv.cons (cskC gQ.ch am.u h53 h54) (CSv.nil _ _)))))) (Stp.kp hO gQ) rfl ?_
   refine nst gQ fun s hO => ?_
   refine au ?_
   refine GoQA.alloc rfl rfl (alBuild (n := 1) (parts := [(0, .bool (ix a0.Final (k1_20 : Int)))]) (vs := [.bool (ix a0.Final (k1_20 : Int))]) Try.underlying22 ti4 (by decide) (by decide) (by decide) (by kernel_rfl) rfl rfl) ?_
   intro w83 A84 b85 A86 Mi Mj hd89 hnb90 hh91
   refine sgw Mi hO fun s hO => ?_
   have wr : Els (Rp.bool) (bl [.row 31 1 p75 (n26 + 1) c76 Mh, t1 Fl.bool 4 p28 n30 c29 d_27, .blk B11 (.cells #[.int .i64 a0.Letters, .int .i64 (ix r7 a0.Start), .slice p28 n30 c29, .slice p24 n26 c25] 25 (0, 0)), .blk B5 (.cells #[.int .i64 (0 : Int), .int .i64 (0 : Int), .slice none 0 0, .slice none 0 0] 25 (0, 0)), .blk B2 (.cells #[.int .i64 a0.Letters, .int .i64 a0.Start, .slice ag a0.Final.length ah, .slice ai a0.Next.length aj] 25 (0, 0))] ++ A84) w83 [.bool (ix a0.Final (k1_20 : Int))] [ix a0.Final (k1_20 : Int)] := (Els.cons rfl rfl (Els.nil _ _ _) (by simp [mx]))
   refine sgn (e := .row 4 1 (some ⟨b85, 0, none⟩) 1 1 [.bool (ix a0.Final (k1_20 : Int))]) Mj hO sy hw52 hnb90 rfl hh91 hd89 (fr : Fr (bl []) w0 _ w83) fun s hO hB => ?_
   replace wr := wr.ch s.ch
   refine cl1 Fl.bool 0 hO wr.u fun s hO => ?_
   refine GoQA.loudI rfl rfl fun w93 A94 ws => ?_
   refine sgw ws hO fun s hO => ?_
   refine sfz 0 hO fun s hO od KW => ?_
   have hu101 := uAt hO am
   refine sapQ 1 hO od H (fun w98 p99 KX s hO => ?_) (g := fun _ _ _ _ hv hst h => GoAt.step hv (fun _ => (CSv.cons (cs_eq (J00 2 hO rfl rfl) (J00 2 hst.own rfl rfl)) (CSv.cons (cs_eq (J00 2 hO rfl rfl) (J00 2 hst.own rfl rfl)) (CSv.cons (cs_eq (J00 4 hO rfl rfl) (J00 4 hst.own rfl rfl)) (CSv.cons (cskC hst.ch hu101 h53 h54) (CSv.nil _ _)))))) (Stp.kp hO hst) rfl h)
   refine GoQA.lastI rfl rfl fun uW A103 FK => ?_
   refine sgw FK hO fun s hO => ?_
   refine sbs 2 hO fun qn s hO => ?_
   refine au ?_
   refine GoQA.lastI rfl rfl fun A7 A107 FL => ?_
   refine sgw FL hO fun s hO => ?_
   refine sbs 2 hO fun ya s hO => ?_
   refine GoQA.nil fun wt A111 sA sB => ?_
   refine sgw sA hO fun s hO => ?_
   refine spm sB hO fun s hO => ?_
   refine au ?_
   refine sinc (natbd h31 cR.bd) ?_
   refine au ?_
   exact hX1 _ H.2 _ _ ⟨_, _, _, _, _, _, _, agr, hO, A6.u, cR.u, fr⟩
  refine au ?_
  refine sinc (natbd h31 cR.bd) ?_
  refine au ?_
  exact hX1 _ H _ _ ⟨_, _, _, _, _, _, _, agr, hO, jN.u, cR.u, fr⟩
 refine au ?_
 refine zs (J05 (vs := [.int .i64 a0.Letters, .int .i64 (ix r7 a0.Start), .slice p28 n30 c29, .slice p24 n26 c25]) (i := 0) 2 hO rfl rfl Try.underlying25 rfl ti25 rfl) ?_
 refine sfz 1 hO fun s hO FM FN => ?_
 refine sfzR 0 hO jN.u fun s hO FO FP => ?_
 refine zcr (J02 body68 (show ([.agg #[.int .i64 a0.Letters, .int .i64 (ix r7 a0.Start), .slice p28 n30 c29, .slice p24 n26 c25]] : List Value) = [.agg #[.int .i64 a0.Letters, .int .i64 (ix r7 a0.Start), .slice p28 d_27.length c29, .slice p24 jV.length c25]] from by rw [← FN, ← FP]) (J5a (a0 := (⟨a0.Letters, (ix r7 a0.Start), d_27, jV⟩ : DFA)) hO.lt FM.u FO H)) fun _ qX => e4 fun gE Yn jW jX => e4 fun kz kA NL NM => sc0 hO fun s hO => d3 fun og o9 NN H => ?_
 refine au ?_
 refine sba 0 hO fun qR s hO => ?_
 refine au ?_
 refine zs (J05 (vs := [.int .i64 gE.Letters, .int .i64 gE.Start, .slice jW gE.Final.length jX, .slice kz gE.Next.length kA]) (i := 0) 0 hO rfl rfl Try.underlying25 rfl ti25 rfl) ?_
 refine sba 1 hO fun zY s hO => ?_
 refine au ?_
 refine Go1.retC1 Try.func23 rfl rfl (J03 (vs := [.int .i64 gE.Letters, .int .i64 gE.Start, .slice jW gE.Final.length jX, .slice kz gE.Next.length kA]) 1 hO rfl rfl Try.underlying25 rfl ti25) ⟨((⟨gE.Letters, gE.Start, gE.Final, gE.Next⟩ : DFA)), _, _, _, _, ?_, frs, og.r, o9.r, H⟩
 exact rfl
theorem body65 : Body Try.prog 65 := ⟨Try.f65, Try.func65, rfl, by kernel_rfl⟩
theorem J4J {A : List Nat} {w0 : World} {aa : Option Addr} {ad : Nat} {ae : Option Addr} {af : Nat} {d : DFA} (hA : ∀ b ∈ A, b < w0.heap.size) (aq : ISl (Rp.bool) A w0 aa ad d.Final) (aA : ISl (Rp.sl (Rp.int .i64)) A w0 ae af d.Next) {K : List (List Int) → Prop} (H : J24 d K) :
    CallsV Try.prog 65 #[.agg #[.int .i64 d.Letters, .int .i64 d.Start, .slice aa d.Final.length ad, .slice ae d.Next.length af]] w0 (fun v w' => ∃ (r0 : List (List Int)), ∃ (bS : Option Addr), ∃ (bT : Nat), v = .slice bS r0.length bT ∧ Same w0 w' ∧ ISl (Rp.sl (Rp.int .i64)) A w' bS bT r0 ∧ K r0) := by
 refine CallsV.of (l := [.agg #[.int .i64 d.Letters, .int .i64 d.Start, .slice aa d.Final.length ad, .slice ae d.Next.length af]]) Try.func65 rfl Try.ntmps65 rfl ?_
 have hO := Owns.start hA
 have hB := Fr.refl (bl []) w0
 unfold J24 at H
 refine au ?_
 refine sbx hO fun w1 B2 s hO => ?_
 refine au ?_
 have m9 := Stp.nil (e := 31) (r := 1) hO
 refine nst m9 fun s hO => ?_
 have hE6 := Els.nil (Rp.sl (Rp.int .i64)) (bl (.row 31 1 none 0 0 [] :: [.blk B2 (.cells #[.int .i64 d.Letters, .int .i64 d.Start, .slice aa d.Final.length ad, .slice ae d.Next.length af] 25 (0, 0))]) ++ A) w1
 refine lw H (fun (sC, out1_9) σ w => ∃ n14 p12 c13 fC, (fun Z => agrees σ [(1, .pointer (some ⟨B2, 0, none⟩)), (3, .slice p12 n14 c13), (4, .int .i64 (sC : Int))] ∧ Owns w0.heap.size w Z A ∧ Els (Rp.sl (Rp.int .i64)) (bl Z ++ A) w fC out1_9 ∧ Fr (bl []) w0 (bl Z) w) [.row 31 1 p12 n14 c13 fC, .blk B2 (.cells #[.int .i64 d.Letters, .int .i64 d.Start, .slice aa d.Final.length ad, .slice ae d.Next.length af] 25 (0, 0))]) ⟨_, _, _, _, agr, hO, hE6.u, fr⟩ ?_
 refine fun X1 => p1 fun sC out1_9 => fun H hX1 σ w7 => e4 fun n14 p12 c13 fC => d3 fun hag hO cM hB => ?_
 dsimp only at H
 refine Go1.keep _ hag ?_
 revert hO; repeat (rename Owns _ _ _ _ => q; clear q)
 intro hO; repeat (rename Sq _ _ _ _ _ _ => q; clear q)
 refine au ?_
 refine scm H (fun h15 H => ?_) fun h15 H => ?_
 ·refine au ?_
  refine sln0 ?_
  refine au ?_
  refine snil Fl.i 3 hO fun s hO => ?_
  refine lw (H aA.bd) (fun (jm, f2_19) σ w => ∃ n22 p20 c21, (fun Z => agrees σ [(1, .pointer (some ⟨B2, 0, none⟩)), (3, .slice p12 n14 c13), (4, .int .i64 (sC : Int)), (5, .slice p20 n22 c21), (15, .int .i64 (d.Next.length : Int)), (16, .int .i64 (jm : Int))] ∧ Owns w0.heap.size w Z A ∧ Els (Rp.sl (Rp.int .i64)) (bl Z ++ A) w fC out1_9 ∧ Fr (bl []) w0 (bl Z) w) [t1 Fl.i 3 p20 n22 c21 f2_19, .row 31 1 p12 n14 c13 fC, .blk B2 (.cells #[.int .i64 d.Letters, .int .i64 d.Start, .slice aa d.Final.length ad, .slice ae d.Next.length af] 25 (0, 0))]) ⟨_, _, _, agr, hO, cM.u, fr⟩ ?_
  refine fun X2 => p1 fun jm f2_19 => fun H hX2 σ w17 => e3 fun n22 p20 c21 => d3 fun hag hO cM hB => ?_
  dsimp only at H
  refine Go1.keep _ hag ?_
  revert hO; repeat (rename Owns _ _ _ _ => q; clear q)
  intro hO; repeat (rename Sq _ _ _ _ _ _ => q; clear q)
  refine au ?_
  refine scm H (fun h23 H => ?_) fun h23 H => ?_
  ·refine au ?_
   refine sxls hO aA.u H.1 H.2.1 fun p24 c25 uv => ?_
   refine au ?_
   refine sxl hO uv.u H.2.2.1 H.2.2.2.1 ?_
   refine sap1 ((ix (ix d.Next (jm : Int)) (sC : Int))) 0 hO H.2.2.2.2 fun _ w27 p28 c29 s hO => ?_
   refine au ?_
   refine sinc (natbd h23 aA.bd) ?_
   refine au ?_
   exact hX2 _ H.2.2.2.2.2 _ _ ⟨_, _, _, agr, hO, cM.u, fr⟩
  refine au ?_
  refine sfz 0 hO fun s hO ul um => ?_
  have zz := J1l (r := Rp.sl (Rp.int .i64)) (n := 1) (parts := [(0, .slice p20 n22 c21)]) (vs := [.slice p20 n22 c21]) (xs := [f2_19]) rfl Try.underlying23 ti31 hO (by decide) (by kernel_rfl) (Els.cons rfl ⟨p20, c21, congrArg some (congrArg (fun nn => Value.slice p20 nn c21) um), ul⟩ (Els.nil _ _ _) (by simp [mx])) rfl
  obtain ⟨w32, p33, FQ, Mk, Yo, FS⟩ := zz
  refine zg (FS rfl) ?_
  refine nst FQ fun s hO => ?_
  refine sfzR 0 hO Mk fun s hO Ml Mm => ?_
  obtain ⟨h41, H⟩ := H
  have zz := oapp Try.underlying23 ti31 rfl 0 hO rfl cM.u Ml Mm h41 (by decide)
  obtain ⟨w42, p43, c44, Yp, qK, qL, sD⟩ := zz
  dsimp only [sS, sZ] at qL
  refine zg (sD (by exact rfl) (by exact rfl)) ?_
  refine nst qK fun s hO => ?_
  refine au ?_
  obtain ⟨h50, H⟩ := H
  refine zo (J04 rfl rfl (wrap_i64 h50)) ?_
  refine au ?_
  exact hX1 _ H _ _ ⟨_, _, _, _, agr, hO, qL, fr⟩
 refine au ?_
 refine sfzR 0 hO cM.u fun s hO uH uI => ?_
 refine Go1.ret1 Try.func65 rfl ⟨_, _, _, ?_, frs, uH.r, H⟩
 exact (congrArg (fun nn => Value.slice p12 nn c13) uI)
theorem body170 : Body Try.prog 170 := ⟨Try.f170, Try.func170, rfl, by kernel_rfl⟩
theorem J4F {A : List Nat} {w0 : World} {p_f : Option Addr} {c_f : Nat} {f : List Int} (hA : ∀ b ∈ A, b < w0.heap.size) (h_f : ISl (Rp.int .i64) A w0 p_f c_f f) {K : Bool → Prop} (H : J1U f K) :
    CallsV Try.prog 170 #[.slice p_f f.length c_f] w0 (fun v w' => ∃ (r0 : Bool), v = .bool r0 ∧ Same w0 w' ∧ K r0) := by
 refine CallsV.of (l := [.slice p_f f.length c_f]) Try.func170 rfl Try.ntmps170 rfl ?_
 have hO := Owns.start hA
 have hB := Fr.refl (bl []) w0
 unfold J1U at H
 refine au ?_
 refine sln0 ?_
 refine scm (H h_f.bd) (fun h1 H => ?_) fun h1 H => ?_
 ·refine au ?_
  refine Go1.ret1 Try.func170 rfl ⟨_, ?_, frs, H⟩
  exact rfl
 refine au ?_
 refine sln0 ?_
 refine scm H (fun h2 H => ?_) fun h2 H => ?_
 ·refine au ?_
  refine Go1.ret1 Try.func170 rfl ⟨_, ?_, frs, H⟩
  exact rfl
 refine au ?_
 refine sln0 ?_
 refine au ?_
 refine lw H (fun k1_4 σ w => (fun Z => agrees σ [(0, .slice p_f f.length c_f), (13, .slice p_f f.length c_f), (14, .int .i64 (f.length : Int)), (15, .int .i64 (k1_4 : Int))] ∧ Owns w0.heap.size w Z A ∧ Fr (bl []) w0 (bl Z) w) []) ⟨agr, hO, fr⟩ ?_
 refine fun X1 => fun k1_4 => fun H hX1 σ w3 => d2 fun hag hO hB => ?_
 refine Go1.keep _ hag ?_
 refine au ?_
 refine scm H (fun h5 H => ?_) fun h5 H => ?_
 ·refine au ?_
  refine sxl hO h_f.u H.1 H.2.1 ?_
  refine au ?_
  have h6 := H.1
  have h7 := H.2.1
  refine scm H.2.2 (fun h8 H => ?_) fun h8 H => ?_
  ·refine au ?_
   refine Go1.ret1 Try.func170 rfl ⟨_, ?_, frs, H⟩
   exact rfl
  refine au ?_
  refine sln0 ?_
  refine scm H (fun h9 H => ?_) fun h9 H => ?_
  ·refine au ?_
   refine Go1.ret1 Try.func170 rfl ⟨_, ?_, frs, H⟩
   exact rfl
  refine au ?_
  refine sinc (natbd h5 h_f.bd) ?_
  refine au ?_
  exact hX1 _ H _ _ ⟨agr, hO, fr⟩
 refine au ?_
 refine Go1.ret1 Try.func170 rfl ⟨_, ?_, frs, H⟩
 exact rfl
end Sg
