/- -/
import Derived.Test.YtlneebpmblkllaaVd
import Derived.Test.YtlneebpmblkllaaWSyntacticJoint
import Derived.Test.YtlneebpmblkllaaWSyntacticMonoids
import Derived.Test.YtlneebpmblkllaaWSyntacticMonoidsb
import Derived.Test.YtlneebpmblkllaaWSyntacticMonoidsc
namespace Sg
open Go Go.RowKit Go.Proofs
set_option linter.unusedVariables false
set_option linter.unusedSimpArgs false
set_option maxRecDepth 100000
set_option maxHeartbeats 4000000
theorem body25 : Body Try.prog 25 := ⟨Try.f25, Try.func25, rfl, by kernel_rfl⟩
theorem J3S {A : List Nat} {w0 : World} {eG : Option Addr} {eH : Nat} {a0 : List DFA} (hA : ∀ b ∈ A, b < w0.heap.size) (dj : ISl (rpDFA) A w0 eG eH a0) {K : Syntactic → List (List Bool) → Int → Prop} (H : J0W a0 K) :
    CallsV Try.prog 25 #[.slice eG a0.length eH] w0 (fun v w' => ∃ (r0 : Syntactic) (r1 : List (List Bool)) (r2 : Int) (fP : Option Addr) (fQ : Nat) (fR : Option Addr) (fS : Nat) (fB : Option Addr) (fC : Nat) (fD : Option Addr) (fE : Nat) (gy : Option Addr) (gz : Nat) (iN : Option Addr) (iO : Nat), v = .tuple #[.agg #[.int .i64 r0.Letters, .slice fP r0.Table.length fQ, .slice fR r0.Words.length fS, .slice fB r0.Images.length fC, .slice fD r0.Accept.length fE, .slice gy r0.Plus.length gz], .slice iN r1.length iO, .int .i64 r2] ∧ Same w0 w' ∧ ISl (Rp.sl (Rp.int .i64)) A w' fP fQ r0.Table ∧ ISl (Rp.str) A w' fR fS r0.Words ∧ ISl (Rp.int .i64) A w' fB fC r0.Images ∧ ISl (Rp.bool) A w' fD fE r0.Accept ∧ ISl (Rp.bool) A w' gy gz r0.Plus ∧ ISl (Rp.sl (Rp.bool)) A w' iN iO r1 ∧ K r0 r1 r2) := by
 refine CallsV.of (l := [.slice eG a0.length eH]) Try.func25 rfl Try.ntmps25 rfl ?_
 have hO := Owns.start hA
 have hB := Fr.refl (bl []) w0
 unfold J0W at H
 refine sal hO fun w1 B2 s hO => ?_
 refine sln0 ?_
 refine scm (H dj.bd) (fun h4 H => ?_) fun h4 H => ?_
 ·refine au ?_
  refine zo (J06 Try.underlying33 ti33 (pl := [(0, 1), (1, 1), (2, 1), (3, 1), (4, 1), (5, 1)]) (vs := []) (cs := #[.int .i64 (0 : Int), .slice none 0 0, .slice none 0 0, .slice none 0 0, .slice none 0 0, .slice none 0 0]) (by kernel_rfl) rfl (by kernel_rfl)) ?_
  refine sba 0 hO fun w5 s hO => ?_
  refine au ?_
  refine Go1.retC3 Try.func25 rfl rfl (rlb 0 hO) ⟨((⟨(0 : Int), ([] : List (List Int)), ([] : List Str), ([] : List Int), ([] : List Bool), ([] : List Bool)⟩ : Syntactic)), _, _, _, _, _, _, _, _, _, _, _, _, _, _, ?_, frs, (ISl.null _ _ _), (ISl.null _ _ _), (ISl.null _ _ _), (ISl.null _ _ _), (ISl.null _ _ _), (ISl.null _ _ _), H⟩
  exact rfl
 refine sln0 ?_
 refine au ?_
 refine lw H (fun a9 σ w => (fun Z => agrees σ [(0, .slice eG a0.length eH), (2, .pointer (some ⟨B2, 0, none⟩)), (21, .slice eG a0.length eH), (22, .int .i64 (a0.length : Int)), (23, .int .i64 (a9 : Int))] ∧ Owns w0.heap.size w Z A ∧ Fr (bl []) w0 (bl Z) w) [.blk B2 (.cells #[.int .i64 (0 : Int), .slice none 0 0, .slice none 0 0, .slice none 0 0, .slice none 0 0, .slice none 0 0] 33 (0, 0))]) ⟨agr, hO, fr⟩ ?_
 refine fun X1 => fun a9 => fun H hX1 σ w6 => d2 fun hag hO hB => ?_
 refine Go1.keep _ hag ?_
 revert hO; repeat (rename Owns _ _ _ _ => q; clear q)
 intro hO; repeat (rename Sq _ _ _ _ _ _ => q; clear q)
 refine scm H (fun h8 H => ?_) fun h8 H => ?_
 ·refine six dj H.1 H.2.1 ?_
  have h15 := H.1
  have h16 := H.2.1
  replace H := H.2.2
  have hm9 := ldAggR (r := rpDFA) (dj.o hO) h15 h16
  obtain ⟨Ig, DG, hR12, yh⟩ := hm9
  replace hR12 := J4E DG hR12
  obtain ⟨p17, c18, p20, c21, hcs14, DH, ol⟩ := hR12
  subst hcs14
  refine zs (yh Try.underlying25 rfl ti25 rfl) ?_
  refine sal hO fun w23 B24 s hO => ?_
  refine sba 0 hO fun w26 s hO => ?_
  refine sag 0 hO ?_
  refine zcr (J00 body61 rfl (J0s (d := (⟨((ix a0 (a9 : Int)).Letters), ((ix a0 (a9 : Int)).Start), (ix a0 (a9 : Int)).Final, (ix a0 (a9 : Int)).Next⟩ : DFA)) hO.lt DH.u ol.u H)) fun _ w28 => e1 fun r27 => sc0 hO fun s hO => fun H => ?_
  refine scm H (fun h29 H => ?_) fun h29 H => ?_
  ·refine sinc (natbd h8 dj.bd) ?_
   refine au ?_
   refine sdr [0] hO fun s hO => ?_
   exact hX1 _ H _ _ ⟨agr, hO, fr⟩
  refine au ?_
  refine zo (J06 Try.underlying33 ti33 (pl := [(0, 1), (1, 1), (2, 1), (3, 1), (4, 1), (5, 1)]) (vs := []) (cs := #[.int .i64 (0 : Int), .slice none 0 0, .slice none 0 0, .slice none 0 0, .slice none 0 0, .slice none 0 0]) (by kernel_rfl) rfl (by kernel_rfl)) ?_
  refine sba 1 hO fun w30 s hO => ?_
  refine au ?_
  refine Go1.retC3 Try.func25 rfl rfl (rlb 1 hO) ⟨((⟨(0 : Int), ([] : List (List Int)), ([] : List Str), ([] : List Int), ([] : List Bool), ([] : List Bool)⟩ : Syntactic)), _, _, _, _, _, _, _, _, _, _, _, _, _, _, ?_, frs, (ISl.null _ _ _), (ISl.null _ _ _), (ISl.null _ _ _), (ISl.null _ _ _), (ISl.null _ _ _), (ISl.null _ _ _), H⟩
  exact rfl
 refine sln0 ?_
 refine au ?_
 refine lw H (fun k2_32 σ w => (fun Z => agrees σ [(0, .slice eG a0.length eH), (2, .pointer (some ⟨B2, 0, none⟩)), (34, .slice eG a0.length eH), (35, .int .i64 (a0.length : Int)), (36, .int .i64 (k2_32 : Int))] ∧ Owns w0.heap.size w Z A ∧ Fr (bl []) w0 (bl Z) w) [.blk B2 (.cells #[.int .i64 (0 : Int), .slice none 0 0, .slice none 0 0, .slice none 0 0, .slice none 0 0, .slice none 0 0] 33 (0, 0))]) ⟨agr, hO, fr⟩ ?_
 refine fun X2 => fun k2_32 => fun H hX2 σ w31 => d2 fun hag hO hB => ?_
 refine Go1.keep _ hag ?_
 revert hO; repeat (rename Owns _ _ _ _ => q; clear q)
 intro hO; repeat (rename Sq _ _ _ _ _ _ => q; clear q)
 refine scm H (fun h33 H => ?_) fun h33 H => ?_
 ·refine six dj H.1 H.2.1 ?_
  have h40 := H.1
  have h41 := H.2.1
  replace H := H.2.2
  have DJ := ldAggR (r := rpDFA) (dj.o hO) h40 h41
  obtain ⟨Ih, DK, hR37, my⟩ := DJ
  replace hR37 := J4E DK hR37
  obtain ⟨p42, c43, p45, c46, hcs39, Ii, tP⟩ := hR37
  subst hcs39
  refine zs (my Try.underlying25 rfl ti25 rfl) ?_
  refine sal hO fun w48 B49 s hO => ?_
  refine sba 0 hO fun w51 s hO => ?_
  refine au ?_
  refine drw 0 [(0, .pure), (1, .stable), (2, .pure), (3, .pure), (4, .pure), (5, .stable), (6, .pure)] hO fun w52 s hO => ?_
  refine six dj H.1 H.2.1 ?_
  have h53 := H.1
  have h54 := H.2.1
  replace H := H.2.2
  refine GoQ.pure rfl (J63 Try.underlying25 rfl ti3 rfl (ISl.spotR dj.u h53 h54) (by decide)) rfl rfl ?_
  have DL := ldCellR (r := rpDFA) (dj.o hO) h53 h54 (o := 0) (by decide)
  obtain ⟨Ij, DN, hR58, mz⟩ := DL
  replace hR58 := J4E DN hR58
  obtain ⟨p61, c62, p64, c65, hcs60, Ik, Il⟩ := hR58
  subst hcs60
  refine GoQ.stable rfl (mz rfl Try.underlying3 rfl rfl) rfl rfl ?_
  refine scm H (fun h67 H => ?_) fun h67 H => ?_
  ·refine sinc (natbd h33 dj.bd) ?_
   refine au ?_
   refine sdr [0] hO fun s hO => ?_
   exact hX2 _ H _ _ ⟨agr, hO, fr⟩
  refine au ?_
  refine zo (J06 Try.underlying33 ti33 (pl := [(0, 1), (1, 1), (2, 1), (3, 1), (4, 1), (5, 1)]) (vs := []) (cs := #[.int .i64 (0 : Int), .slice none 0 0, .slice none 0 0, .slice none 0 0, .slice none 0 0, .slice none 0 0]) (by kernel_rfl) rfl (by kernel_rfl)) ?_
  refine sba 1 hO fun w68 s hO => ?_
  refine au ?_
  refine Go1.retC3 Try.func25 rfl rfl (rlb 1 hO) ⟨((⟨(0 : Int), ([] : List (List Int)), ([] : List Str), ([] : List Int), ([] : List Bool), ([] : List Bool)⟩ : Syntactic)), _, _, _, _, _, _, _, _, _, _, _, _, _, _, ?_, frs, (ISl.null _ _ _), (ISl.null _ _ _), (ISl.null _ _ _), (ISl.null _ _ _), (ISl.null _ _ _), (ISl.null _ _ _), H⟩
  exact rfl
 refine sal hO fun w69 B70 s hO => ?_
 refine sln0 ?_
 refine au ?_
 have yj := t2nil (e := 31) (e' := 3) Fl.i hO
 refine nst yj fun s hO => ?_
 have yk := Stp.nil (e := 120) (r := 3) hO
 refine nst yk fun s hO => ?_
 have DO := elN (rppart) hO
 refine lw H (fun (iY, aK, d_80, d_86, z3_91) σ w => ∃ n85 p83 c84 dh n89 p87 c88 tQ, (fun Z => agrees σ [(2, .pointer (some ⟨B2, 0, none⟩)), (10, .pointer (some ⟨B70, 0, none⟩)), (49, .slice eG a0.length eH), (50, .int .i64 (a0.length : Int)), (51, .int .i64 (iY : Int))] ∧ Owns w0.heap.size w Z A ∧ Els (rppart) (bl Z ++ A) w dh d_80 ∧ p87.isNone = z3_91 ∧ Fr (bl []) w0 (bl Z) w) [.row 120 3 p83 n85 c84 dh, t2 Fl.i 31 3 p87 n89 c88 tQ d_86, .blk B70 (.cells #[.slice p87 n89 c88, .slice p83 n85 c84, .int .i64 aK] 83 (0, 0)), .blk B2 (.cells #[.int .i64 (0 : Int), .slice none 0 0, .slice none 0 0, .slice none 0 0, .slice none 0 0, .slice none 0 0] 33 (0, 0))]) ⟨_, _, _, _, _, _, _, _, agr, hO, DO.u, rfl, fr⟩ ?_
 refine fun X3 => p1 fun iY => p3 fun aK d_80 d_86 z3_91 => fun H hX3 σ w77 => e4 fun n85 p83 c84 dh => e4 fun n89 p87 c88 tQ => d4 fun hag hO cz hz92 hB => ?_
 dsimp only at H
 refine Go1.keep _ hag ?_
 revert hO; repeat (rename Owns _ _ _ _ => q; clear q)
 intro hO; repeat (rename Sq _ _ _ _ _ _ => q; clear q)
 refine scm H (fun h93 H => ?_) fun h93 H => ?_
 ·refine six dj H.1 H.2.1 ?_
  have j9 := H.1
  have tR := H.2.1
  replace H := H.2.2
  have DP := ldAggR (r := rpDFA) (dj.o hO) j9 tR
  obtain ⟨Im, DR, hR97, yl⟩ := DP
  replace hR97 := J4E DR hR97
  obtain ⟨C4, C5, Io, Ip, hcs99, kx, ym⟩ := hR97
  subst hcs99
  refine zs (yl Try.underlying25 rfl ti25 rfl) ?_
  refine sal hO fun DS B109 s hO => ?_
  refine sba 0 hO fun C6 s hO => ?_
  refine sag 0 hO ?_
  refine zcr (J00 body22 rfl (J1P (d := (⟨((ix a0 (iY : Int)).Letters), ((ix a0 (iY : Int)).Start), (ix a0 (iY : Int)).Final, (ix a0 (iY : Int)).Next⟩ : DFA)) hO.lt kx.u ym.u H)) fun _ Iq => e4 fun r112 ai aj cA => e1 fun cB => sc0 hO fun s hO => d2 fun aq bK H => ?_
  refine GoR.inl (vs := [.pointer (some ⟨B70, 0, none⟩), .agg #[.int .i64 r112.Letters, .int .i64 r112.Start, .slice ai r112.Final.length aj, .slice cA r112.Next.length cB]]) (caps := []) rfl rfl body62 Try.func62 rfl Try.ntmps62 rfl rfl rfl ?_
  intro RhR114 hR114
  refine sbx hO fun DT B116 s hO => ?_
  refine sln0 ?_
  refine au ?_
  replace H := (H aq.bd)
  obtain ⟨gD, H⟩ := H
  refine zo (J0i rfl rfl (wrap_i64 gD)) ?_
  refine scm H (fun DU H => ?_) fun DU H => ?_
  ·refine au ?_
   refine Go1.ret1V Try.func62 rfl (show _ = .int .i64 (3 : Int) from rfl) ?_
   refine hR114 _ _ ?_
   refine au ?_
   refine zo (fun w => opB (J2W rfl rfl w) (ndF (by decide))) ?_
   refine au ?_
   refine zo (J06 Try.underlying33 ti33 (pl := [(0, 1), (1, 1), (2, 1), (3, 1), (4, 1), (5, 1)]) (vs := []) (cs := #[.int .i64 (0 : Int), .slice none 0 0, .slice none 0 0, .slice none 0 0, .slice none 0 0, .slice none 0 0]) (by kernel_rfl) rfl (by kernel_rfl)) ?_
   refine sba 5 hO fun DW s hO => ?_
   refine au ?_
   refine Go1.retC3 Try.func25 rfl rfl (rlb 5 hO) ⟨((⟨(0 : Int), ([] : List (List Int)), ([] : List Str), ([] : List Int), ([] : List Bool), ([] : List Bool)⟩ : Syntactic)), _, _, _, _, _, _, _, _, _, _, _, _, _, _, ?_, frs, (ISl.null _ _ _), (ISl.null _ _ _), (ISl.null _ _ _), (ISl.null _ _ _), (ISl.null _ _ _), (ISl.null _ _ _), H⟩
   exact rfl
  refine au ?_
  cases z3_91
  ·refine zo (fun w => opB (J1b Try.underlying23 rfl rfl w) (hz92)) ?_
   refine au ?_
   refine zo (J0E Try.underlying23 rfl (t2neq 3 hO rfl)) ?_
   refine au ?_
   refine sdr [1] hO fun s hO => ?_
   refine lw (iF H) (fun (de, d_123) σ w => ∃ rE, (fun Z => agrees σ [(0, .pointer (some ⟨B70, 0, none⟩)), (3, .pointer (some ⟨B116, 0, none⟩)), (5, .int .i64 (r112.Final.length : Int)), (33, .int .i64 (d_86.length : Int)), (34, .int .i64 (de : Int))] ∧ Owns w0.heap.size w Z A ∧ Els (rppart) (bl Z ++ A) w dh d_80 ∧ ISl (Rp.bool) (bl Z ++ A) w ai aj r112.Final ∧ ISl (Rp.sl (Rp.int .i64)) (bl Z ++ A) w cA cB r112.Next ∧ Fr (bl []) w0 (bl Z) w) [.blk B116 (.cells #[.int .i64 r112.Letters, .int .i64 r112.Start, .slice ai r112.Final.length aj, .slice cA r112.Next.length cB] 25 (0, 0)), .row 120 3 p83 n85 c84 dh, t2 Fl.i 31 3 p87 n89 c88 rE d_123, .blk B70 (.cells #[.slice p87 n89 c88, .slice p83 n85 c84, .int .i64 aK] 83 (0, 0)), .blk B2 (.cells #[.int .i64 (0 : Int), .slice none 0 0, .slice none 0 0, .slice none 0 0, .slice none 0 0, .slice none 0 0] 33 (0, 0))]) ⟨_, agr, hO, cz.u, aq.u, bK.u, fr⟩ ?_
   refine fun X4 => p1 fun de d_123 => fun H hX4 σ tz => e1 fun rE => d1 fun hag => d4 fun hO cz aq bK hB => ?_
   dsimp only at H
   refine Go1.keep _ hag ?_
   revert hO; repeat (rename Owns _ _ _ _ => q; clear q)
   intro hO; repeat (rename Sq _ _ _ _ _ _ => q; clear q)
   refine scm H (fun om H => ?_) fun om H => ?_
   ·refine au ?_
    refine lw H (fun (gO, gX) σ w => ∃ fT, (fun Z => agrees σ [(0, .pointer (some ⟨B70, 0, none⟩)), (3, .pointer (some ⟨B116, 0, none⟩)), (5, .int .i64 (r112.Final.length : Int)), (6, .int .i64 (de : Int)), (33, .int .i64 (d_86.length : Int)), (34, .int .i64 (de : Int)), (37, .int .i64 (r112.Final.length : Int)), (38, .int .i64 (gO : Int))] ∧ Owns w0.heap.size w Z A ∧ Els (rppart) (bl Z ++ A) w dh d_80 ∧ ISl (Rp.bool) (bl Z ++ A) w ai aj r112.Final ∧ ISl (Rp.sl (Rp.int .i64)) (bl Z ++ A) w cA cB r112.Next ∧ Fr (bl []) w0 (bl Z) w) [.blk B116 (.cells #[.int .i64 r112.Letters, .int .i64 r112.Start, .slice ai r112.Final.length aj, .slice cA r112.Next.length cB] 25 (0, 0)), .row 120 3 p83 n85 c84 dh, t2 Fl.i 31 3 p87 n89 c88 fT gX, .blk B70 (.cells #[.slice p87 n89 c88, .slice p83 n85 c84, .int .i64 aK] 83 (0, 0)), .blk B2 (.cells #[.int .i64 (0 : Int), .slice none 0 0, .slice none 0 0, .slice none 0 0, .slice none 0 0, .slice none 0 0] 33 (0, 0))]) ⟨_, agr, hO, cz, aq, bK, fr⟩ ?_
    refine fun X5 => p1 fun gO gX => fun H hX5 σ tS => e1 fun fT => d1 fun hag => d4 fun hO cz aq bK hB => ?_
    dsimp only at H
    refine Go1.keep _ hag ?_
    revert hO; repeat (rename Owns _ _ _ _ => q; clear q)
    intro hO; repeat (rename Sq _ _ _ _ _ _ => q; clear q)
    refine scm H (fun mA H => ?_) fun mA H => ?_
    ·refine au ?_
     refine Go1.drawT (ok := fun _ => True) Same.tr [26, 28] 29 (.qp 0 (.qp 1 (.qp 2 (.qp 4 (.qp 5 (.qp 6 (.qp 7 (.qs 8 (.qp 9 (.qp 10 (.qs 11 (.qp 12 (.qp 13 (.qp 14 (.qs 15 (.qp 16 (.qs 17 (.qp 18 (.qp 19 (.qs 20 (.qp 21 (.qp 22 (.qs 23 (.qp 24 (.alt 3 (.alt 25 (.alt 26 (.qp 27 (.alt 28 .nil .fin)) .fin) .fin) (.alt 25 (.alt 3 (.alt 26 (.qp 27 (.alt 28 .nil .fin)) .fin) (.alt 26 (.alt 3 (.qp 27 (.alt 28 .nil .fin)) .fin) .fin)) .fin)))))))))))))))))))))))))) mixed (by kernel_rfl) ?_
     intro tD mB
     refine sm hO mB fun s hO => ?_
     refine sbl 3 ?_
     refine au ?_
     obtain ⟨iP, H⟩ := H
     obtain ⟨kc, H⟩ := H
     refine GoT.pure rfl (J01 Try.underlying23 ti31 rfl rfl iP (ltn (t2neq 2 hO rfl) kc) (t2some 2 hO rfl iP kc)) rfl rfl ?_
     refine GoT.stable rfl (t2head 2 hO rfl iP kc Try.underlying31 rfl rfl) rfl rfl ?_
     refine sbl 3 ?_
     refine sbl 0 ?_
     refine sxls hO bK.u H.1 H.2.1 fun DX DY yo => ?_
     refine sxl hO yo.u H.2.2.1 H.2.2.2.1 ?_
     have Ir := H.1
     have tF := H.2.1
     have tT := H.2.2.1
     have Iu := H.2.2.2.1
     replace H := H.2.2.2.2
     obtain ⟨D3, H⟩ := H
     refine GoT.pure rfl (J0i rfl rfl (wrap_i64 D3)) rfl rfl ?_
     refine GoT.both ?_ ?_
     ·skip
      skip
      refine sbl 3 ?_
      skip
      refine sbu Fl.i 3 [(aK + (ix (ix r112.Next (gO : Int)) (de : Int)))] hO fun tH tU s hO => ?_
      skip
      refine sfr 3 hO fun s hO => ?_
      have zz := t2take (hf := Fl.i) hO iP kc
      obtain ⟨yr, kV, mC⟩ := zz
      refine nst kV fun s hO => ?_
      have yu := mC (bl [.row 3 1 (fT (de : Int).toNat).1 ((ix gX (de : Int)).length) ((fT (de : Int).toNat).2) yr, t2h Fl.i 31 3 p87 n89 c88 fT gX (de : Int).toNat, t1 Fl.i 3 tU 1 1 [(aK + (ix (ix r112.Next (gO : Int)) (de : Int)))], .blk B116 (.cells #[.int .i64 r112.Letters, .int .i64 r112.Start, .slice ai r112.Final.length aj, .slice cA r112.Next.length cB] 25 (0, 0)), .row 120 3 p83 n85 c84 dh, .blk B70 (.cells #[.slice p87 n89 c88, .slice p83 n85 c84, .int .i64 aK] 83 (0, 0)), .blk B2 (.cells #[.int .i64 (0 : Int), .slice none 0 0, .slice none 0 0, .slice none 0 0, .slice none 0 0, .slice none 0 0] 33 (0, 0))] ++ A)
      refine sfz 2 hO fun s hO yv yw => ?_
      obtain ⟨D4, H⟩ := H
      have zz := oapp Try.underlying31 ti3 rfl 0 hO rfl yu.u yv yw D4 (by decide)
      obtain ⟨D5, D6, D7, G4, tV, rF, tW⟩ := zz
      dsimp only [sS, sZ] at rF
      refine GoT.stepX rfl (tW (by exact rfl) (by exact rfl)) rfl rfl rfl ?_
      refine nst tV fun s hO => ?_
      obtain ⟨mv, H⟩ := H
      obtain ⟨kU, H⟩ := H
      refine GoT.pure rfl (J01 Try.underlying23 ti31 rfl rfl mv (ltn (t2neqH 1 hO rfl) kU) (t2someH 1 hO rfl mv kU)) rfl rfl ?_
      skip
      refine sfr 1 hO fun s hO => ?_
      refine sfr 1 hO fun s hO => ?_
      have zz := t2fix (hf := Fl.i) hO rF.u mv kU rfl
      obtain ⟨tX, tY, t5⟩ := zz
      refine GoT.stepX rfl (t5 Try.underlying31 rfl ti31 (by exact rfl) (by exact rfl)) rfl rfl rfl ?_
      refine nst tY fun s hO => ?_
      refine sinc (natbd mA aq.bd) ?_
      refine au ?_
      refine sfr 4 hO fun s hO => ?_
      refine sfr 4 hO fun s hO => ?_
      refine sfr 2 hO fun s hO => ?_
      refine sfr 4 hO fun s hO => ?_
      refine sfr 4 hO fun s hO => ?_
      exact hX5 _ H _ _ ⟨_, agr, hO, cz.u, aq.u, bK.u, fr⟩
     skip
     refine sbu Fl.i 3 [(aK + (ix (ix r112.Next (gO : Int)) (de : Int)))] hO fun oo t6 s hO => ?_
     refine GoT.both ?_ ?_
     ·skip
      skip
      refine sbl 4 ?_
      skip
      refine sfr 3 hO fun s hO => ?_
      have zz := t2take (hf := Fl.i) hO iP kc
      obtain ⟨yz, t7, yA⟩ := zz
      refine nst t7 fun s hO => ?_
      have yB := yA (bl [.row 3 1 (fT (de : Int).toNat).1 ((ix gX (de : Int)).length) ((fT (de : Int).toNat).2) yz, t2h Fl.i 31 3 p87 n89 c88 fT gX (de : Int).toNat, t1 Fl.i 3 t6 1 1 [(aK + (ix (ix r112.Next (gO : Int)) (de : Int)))], .blk B116 (.cells #[.int .i64 r112.Letters, .int .i64 r112.Start, .slice ai r112.Final.length aj, .slice cA r112.Next.length cB] 25 (0, 0)), .row 120 3 p83 n85 c84 dh, .blk B70 (.cells #[.slice p87 n89 c88, .slice p83 n85 c84, .int .i64 aK] 83 (0, 0)), .blk B2 (.cells #[.int .i64 (0 : Int), .slice none 0 0, .slice none 0 0, .slice none 0 0, .slice none 0 0, .slice none 0 0] 33 (0, 0))] ++ A)
      refine sfz 2 hO fun s hO yC yD => ?_
      obtain ⟨od, H⟩ := H
      have zz := oapp Try.underlying31 ti3 rfl 0 hO rfl yB.u yC yD od (by decide)
      obtain ⟨Iv, Iw, Ix, G5, t8, rG, t9⟩ := zz
      dsimp only [sS, sZ] at rG
      refine GoT.stepX rfl (t9 (by exact rfl) (by exact rfl)) rfl rfl rfl ?_
      refine nst t8 fun s hO => ?_
      obtain ⟨mD, H⟩ := H
      obtain ⟨oq, H⟩ := H
      refine GoT.pure rfl (J01 Try.underlying23 ti31 rfl rfl mD (ltn (t2neqH 1 hO rfl) oq) (t2someH 1 hO rfl mD oq)) rfl rfl ?_
      skip
      refine sfr 1 hO fun s hO => ?_
      refine sfr 1 hO fun s hO => ?_
      have zz := t2fix (hf := Fl.i) hO rG.u mD oq rfl
      obtain ⟨oe, ua, ub⟩ := zz
      refine GoT.stepX rfl (ub Try.underlying31 rfl ti31 (by exact rfl) (by exact rfl)) rfl rfl rfl ?_
      refine nst ua fun s hO => ?_
      refine sinc (natbd mA aq.bd) ?_
      refine au ?_
      refine sfr 4 hO fun s hO => ?_
      refine sfr 4 hO fun s hO => ?_
      refine sfr 2 hO fun s hO => ?_
      refine sfr 4 hO fun s hO => ?_
      refine sfr 4 hO fun s hO => ?_
      exact hX5 _ H _ _ ⟨_, agr, hO, cz.u, aq.u, bK.u, fr⟩
     skip
     refine sfr 3 hO fun s hO => ?_
     have zz := t2take (hf := Fl.i) hO iP kc
     obtain ⟨yE, uc, yF⟩ := zz
     refine nst uc fun s hO => ?_
     have yG := yF (bl [.row 3 1 (fT (de : Int).toNat).1 ((ix gX (de : Int)).length) ((fT (de : Int).toNat).2) yE, t2h Fl.i 31 3 p87 n89 c88 fT gX (de : Int).toNat, t1 Fl.i 3 t6 1 1 [(aK + (ix (ix r112.Next (gO : Int)) (de : Int)))], .blk B116 (.cells #[.int .i64 r112.Letters, .int .i64 r112.Start, .slice ai r112.Final.length aj, .slice cA r112.Next.length cB] 25 (0, 0)), .row 120 3 p83 n85 c84 dh, .blk B70 (.cells #[.slice p87 n89 c88, .slice p83 n85 c84, .int .i64 aK] 83 (0, 0)), .blk B2 (.cells #[.int .i64 (0 : Int), .slice none 0 0, .slice none 0 0, .slice none 0 0, .slice none 0 0, .slice none 0 0] 33 (0, 0))] ++ A)
     refine sfz 2 hO fun s hO yH yI => ?_
     obtain ⟨jl, H⟩ := H
     have zz := oapp Try.underlying31 ti3 rfl 0 hO rfl yG.u yH yI jl (by decide)
     obtain ⟨ud, D8, D9, G6, ue, rH, uf⟩ := zz
     dsimp only [sS, sZ] at rH
     refine GoT.stepX rfl (uf (by exact rfl) (by exact rfl)) rfl rfl rfl ?_
     refine nst ue fun s hO => ?_
     skip
     refine sbl 4 ?_
     obtain ⟨ot, H⟩ := H
     obtain ⟨kW, H⟩ := H
     refine GoT.pure rfl (J01 Try.underlying23 ti31 rfl rfl ot (ltn (t2neqH 1 hO rfl) kW) (t2someH 1 hO rfl ot kW)) rfl rfl ?_
     skip
     refine sfr 1 hO fun s hO => ?_
     refine sfr 1 hO fun s hO => ?_
     have zz := t2fix (hf := Fl.i) hO rH.u ot kW rfl
     obtain ⟨tO, ug, uh⟩ := zz
     refine GoT.stepX rfl (uh Try.underlying31 rfl ti31 (by exact rfl) (by exact rfl)) rfl rfl rfl ?_
     refine nst ug fun s hO => ?_
     refine sinc (natbd mA aq.bd) ?_
     refine au ?_
     refine sfr 4 hO fun s hO => ?_
     refine sfr 4 hO fun s hO => ?_
     refine sfr 2 hO fun s hO => ?_
     refine sfr 4 hO fun s hO => ?_
     refine sfr 4 hO fun s hO => ?_
     exact hX5 _ H _ _ ⟨_, agr, hO, cz.u, aq.u, bK.u, fr⟩
    refine au ?_
    obtain ⟨Ea, H⟩ := H
    refine zo (J0i rfl rfl (wrap_i64 Ea)) ?_
    refine au ?_
    exact hX4 _ H _ _ ⟨_, agr, hO, cz.u, aq.u, bK.u, fr⟩
   refine au ?_
   refine drw 4 [(0, .pure), (1, .pure), (2, .pure), (3, .pure), (4, .stable), (5, .pure), (6, .pure), (7, .pure), (8, .stable), (9, .pure), (10, .stable), (11, .pure), (12, .pure), (13, .stable), (14, .pure), (15, .pure), (16, .pure), (17, .stable), (18, .pure), (19, .loud), (20, .last), (21, .pure), (22, .pure), (23, .last)] hO fun Iy s hO => ?_
   refine au ?_
   obtain ⟨Eb, H⟩ := H
   refine GoQ.pure rfl (J0i rfl rfl (wrap_i64 Eb)) rfl rfl ?_
   refine au ?_
   refine GoQ.pure rfl (J06 Try.underlying120 ti120 (pl := [(0, 1), (1, 1), (2, 1)]) (vs := [(0, .int .i64 (aK + r112.Start)), (1, .slice ai r112.Final.length aj), (2, .int .i64 aK)]) (cs := #[.int .i64 (aK + r112.Start), .slice ai r112.Final.length aj, .int .i64 aK]) (by kernel_rfl) rfl (by kernel_rfl)) rfl rfl ?_
   have zz := obuildN (r := rppart) (n := 1) (parts := [(0, .agg #[.int .i64 (aK + r112.Start), .slice ai r112.Final.length aj, .int .i64 aK])]) (vs := [.int .i64 (aK + r112.Start), .slice ai r112.Final.length aj, .int .i64 aK]) (xs := [(⟨aK + r112.Start, r112.Final, aK⟩ : part)]) Try.underlying81 ti120 hO (by decide) (by decide) (by kernel_rfl) (Els.consR (us := [.int .i64 (aK + r112.Start), .slice ai r112.Final.length aj, .int .i64 aK]) rfl ⟨rfl, ⟨ai, aj, rfl, aq.u⟩, rfl⟩ (Els.nil _ _ _) (by simp [mx])) rfl
   obtain ⟨Iz, IA, ui, yJ, yK, uj⟩ := zz
   refine GoQ.loud rfl (uj rfl) yK rfl rfl ?_
   refine nst ui fun s hO => ?_
   refine sfzR 0 hO yJ fun s hO yL yM => ?_
   obtain ⟨Ec, H⟩ := H
   have zz := oapp Try.underlying81 ti120 rfl 1 hO rfl cz.u yL yM Ec (by decide)
   obtain ⟨IB, IC, ID, G7, uk, rI, ul⟩ := zz
   dsimp only [sS, sZ] at rI
   refine GoQ.last rfl (ul (by exact rfl) (by exact rfl)) rfl rfl ?_
   refine nst uk fun s hO => ?_
   refine sbs 3 hO fun um s hO => ?_
   refine au ?_
   obtain ⟨Ed, H⟩ := H
   refine zo (J0i rfl rfl (wrap_i64 Ed)) ?_
   refine sbs 3 hO fun IE s hO => ?_
   refine au ?_
   refine Go1.ret1V Try.func62 rfl (show _ = .int .i64 (0 : Int) from rfl) ?_
   refine hR114 _ _ ?_
   refine au ?_
   refine zo (fun w => opB (J2W rfl rfl w) (ndT (by decide))) ?_
   refine sinc (natbd h93 dj.bd) ?_
   refine au ?_
   refine sdr [0] hO fun s hO => ?_
   exact hX3 _ H _ _ ⟨_, _, _, _, _, _, _, _, agr, hO, rI.u, hz92, fr⟩
  refine zo (fun w => opB (J1b Try.underlying23 rfl rfl w) (hz92)) ?_
  refine au ?_
  replace H := (iT H)
  obtain ⟨Ee, H⟩ := H
  obtain ⟨Ef, H⟩ := H
  have zz := t2makeS (m := r112.Letters) (e' := 3) Fl.i Try.underlying23 ti31 hO Ee Ef (by decide)
  obtain ⟨IF, ig, uo, G8, uq, hz246⟩ := zz
  refine zg (uq rfl rfl) ?_
  refine nst uo fun s hO => ?_
  refine sbs 5 hO fun IG s hO => ?_
  refine au ?_
  refine zo (J0E Try.underlying23 rfl (t2neq 0 hO rfl)) ?_
  refine au ?_
  refine sdr [2, 3] hO fun s hO => ?_
  refine lw H (fun (dg, i4) σ w => ∃ rJ, (fun Z => agrees σ [(0, .pointer (some ⟨B70, 0, none⟩)), (3, .pointer (some ⟨B116, 0, none⟩)), (5, .int .i64 (r112.Final.length : Int)), (33, .int .i64 ((List.replicate r112.Letters.toNat ([] : List Int)).length : Int)), (34, .int .i64 (dg : Int))] ∧ Owns w0.heap.size w Z A ∧ Els (rppart) (bl Z ++ A) w dh d_80 ∧ ISl (Rp.bool) (bl Z ++ A) w ai aj r112.Final ∧ ISl (Rp.sl (Rp.int .i64)) (bl Z ++ A) w cA cB r112.Next ∧ Fr (bl []) w0 (bl Z) w) [t2 Fl.i 31 3 ig r112.Letters.toNat r112.Letters.toNat rJ i4, .blk B116 (.cells #[.int .i64 r112.Letters, .int .i64 r112.Start, .slice ai r112.Final.length aj, .slice cA r112.Next.length cB] 25 (0, 0)), .row 120 3 p83 n85 c84 dh, .blk B70 (.cells #[.slice ig r112.Letters.toNat r112.Letters.toNat, .slice p83 n85 c84, .int .i64 aK] 83 (0, 0)), .blk B2 (.cells #[.int .i64 (0 : Int), .slice none 0 0, .slice none 0 0, .slice none 0 0, .slice none 0 0, .slice none 0 0] 33 (0, 0))]) ⟨_, agr, hO, cz.u, aq.u, bK.u, fr⟩ ?_
  refine fun X6 => p1 fun dg i4 => fun H hX6 σ IH => e1 fun rJ => d1 fun hag => d4 fun hO cz aq bK hB => ?_
  dsimp only at H
  refine Go1.keep _ hag ?_
  revert hO; repeat (rename Owns _ _ _ _ => q; clear q)
  intro hO; repeat (rename Sq _ _ _ _ _ _ => q; clear q)
  refine scm H (fun Eg H => ?_) fun Eg H => ?_
  ·refine au ?_
   refine lw H (fun (gP, gY) σ w => ∃ fU, (fun Z => agrees σ [(0, .pointer (some ⟨B70, 0, none⟩)), (3, .pointer (some ⟨B116, 0, none⟩)), (5, .int .i64 (r112.Final.length : Int)), (6, .int .i64 (dg : Int)), (33, .int .i64 ((List.replicate r112.Letters.toNat ([] : List Int)).length : Int)), (34, .int .i64 (dg : Int)), (37, .int .i64 (r112.Final.length : Int)), (38, .int .i64 (gP : Int))] ∧ Owns w0.heap.size w Z A ∧ Els (rppart) (bl Z ++ A) w dh d_80 ∧ ISl (Rp.bool) (bl Z ++ A) w ai aj r112.Final ∧ ISl (Rp.sl (Rp.int .i64)) (bl Z ++ A) w cA cB r112.Next ∧ Fr (bl []) w0 (bl Z) w) [t2 Fl.i 31 3 ig r112.Letters.toNat r112.Letters.toNat fU gY, .blk B116 (.cells #[.int .i64 r112.Letters, .int .i64 r112.Start, .slice ai r112.Final.length aj, .slice cA r112.Next.length cB] 25 (0, 0)), .row 120 3 p83 n85 c84 dh, .blk B70 (.cells #[.slice ig r112.Letters.toNat r112.Letters.toNat, .slice p83 n85 c84, .int .i64 aK] 83 (0, 0)), .blk B2 (.cells #[.int .i64 (0 : Int), .slice none 0 0, .slice none 0 0, .slice none 0 0, .slice none 0 0, .slice none 0 0] 33 (0, 0))]) ⟨_, agr, hO, cz, aq, bK, fr⟩ ?_
   refine fun X7 => p1 fun gP gY => fun H hX7 σ II => e1 fun fU => d1 fun hag => d4 fun hO cz aq bK hB => ?_
   dsimp only at H
   refine Go1.keep _ hag ?_
   revert hO; repeat (rename Owns _ _ _ _ => q; clear q)
   intro hO; repeat (rename Sq _ _ _ _ _ _ => q; clear q)
   refine scm H (fun kX H => ?_) fun kX H => ?_
   ·refine au ?_
    refine Go1.drawT (ok := fun _ => True) Same.tr [26, 28] 29 (.qp 0 (.qp 1 (.qp 2 (.qp 4 (.qp 5 (.qp 6 (.qp 7 (.qs 8 (.qp 9 (.qp 10 (.qs 11 (.qp 12 (.qp 13 (.qp 14 (.qs 15 (.qp 16 (.qs 17 (.qp 18 (.qp 19 (.qs 20 (.qp 21 (.qp 22 (.qs 23 (.qp 24 (.alt 3 (.alt 25 (.alt 26 (.qp 27 (.alt 28 .nil .fin)) .fin) .fin) (.alt 25 (.alt 3 (.alt 26 (.qp 27 (.alt 28 .nil .fin)) .fin) (.alt 26 (.alt 3 (.qp 27 (.alt 28 .nil .fin)) .fin) .fin)) .fin)))))))))))))))))))))))))) mixed (by kernel_rfl) ?_
    intro IJ yN
    refine sm hO yN fun s hO => ?_
    refine sbl 3 ?_
    refine au ?_
    obtain ⟨jm, H⟩ := H
    obtain ⟨jo, H⟩ := H
    refine GoT.pure rfl (J01 Try.underlying23 ti31 rfl rfl jm (ltn (t2neq 0 hO rfl) jo) (t2some 0 hO rfl jm jo)) rfl rfl ?_
    refine GoT.stable rfl (t2head 0 hO rfl jm jo Try.underlying31 rfl rfl) rfl rfl ?_
    refine sbl 3 ?_
    refine sbl 1 ?_
    refine sxls hO bK.u H.1 H.2.1 fun IK IL yO => ?_
    refine sxl hO yO.u H.2.2.1 H.2.2.2.1 ?_
    have IM := H.1
    have IN := H.2.1
    have IQ := H.2.2.1
    have IR := H.2.2.2.1
    replace H := H.2.2.2.2
    obtain ⟨Eh, H⟩ := H
    refine GoT.pure rfl (J0i rfl rfl (wrap_i64 Eh)) rfl rfl ?_
    refine GoT.both ?_ ?_
    ·skip
     skip
     refine sbl 3 ?_
     skip
     refine sbu Fl.i 3 [(aK + (ix (ix r112.Next (gP : Int)) (dg : Int)))] hO fun IS Ei s hO => ?_
     skip
     refine sfr 1 hO fun s hO => ?_
     have zz := t2take (hf := Fl.i) hO jm jo
     obtain ⟨yP, ur, yQ⟩ := zz
     refine nst ur fun s hO => ?_
     have yR := yQ (bl [.row 3 1 (fU (dg : Int).toNat).1 ((ix gY (dg : Int)).length) ((fU (dg : Int).toNat).2) yP, t2h Fl.i 31 3 ig r112.Letters.toNat r112.Letters.toNat fU gY (dg : Int).toNat, t1 Fl.i 3 Ei 1 1 [(aK + (ix (ix r112.Next (gP : Int)) (dg : Int)))], .blk B116 (.cells #[.int .i64 r112.Letters, .int .i64 r112.Start, .slice ai r112.Final.length aj, .slice cA r112.Next.length cB] 25 (0, 0)), .row 120 3 p83 n85 c84 dh, .blk B70 (.cells #[.slice ig r112.Letters.toNat r112.Letters.toNat, .slice p83 n85 c84, .int .i64 aK] 83 (0, 0)), .blk B2 (.cells #[.int .i64 (0 : Int), .slice none 0 0, .slice none 0 0, .slice none 0 0, .slice none 0 0, .slice none 0 0] 33 (0, 0))] ++ A)
     refine sfz 2 hO fun s hO kz yS => ?_
     obtain ⟨ou, H⟩ := H
     have zz := oapp Try.underlying31 ti3 rfl 0 hO rfl yR.u kz yS ou (by decide)
     obtain ⟨IT, IU, IV, G9, ut, rK, uu⟩ := zz
     dsimp only [sS, sZ] at rK
     refine GoT.stepX rfl (uu (by exact rfl) (by exact rfl)) rfl rfl rfl ?_
     refine nst ut fun s hO => ?_
     obtain ⟨ov, H⟩ := H
     obtain ⟨ow, H⟩ := H
     refine GoT.pure rfl (J01 Try.underlying23 ti31 rfl rfl ov (ltn (t2neqH 1 hO rfl) ow) (t2someH 1 hO rfl ov ow)) rfl rfl ?_
     skip
     refine sfr 1 hO fun s hO => ?_
     refine sfr 1 hO fun s hO => ?_
     have zz := t2fix (hf := Fl.i) hO rK.u ov ow rfl
     obtain ⟨IW, uv, uw⟩ := zz
     refine GoT.stepX rfl (uw Try.underlying31 rfl ti31 (by exact rfl) (by exact rfl)) rfl rfl rfl ?_
     refine nst uv fun s hO => ?_
     refine sinc (natbd kX aq.bd) ?_
     refine au ?_
     exact hX7 _ H _ _ ⟨_, agr, hO, cz.u, aq.u, bK.u, fr⟩
    skip
    refine sbu Fl.i 3 [(aK + (ix (ix r112.Next (gP : Int)) (dg : Int)))] hO fun IX ux s hO => ?_
    refine GoT.both ?_ ?_
    ·skip
     skip
     refine sbl 4 ?_
     skip
     refine sfr 1 hO fun s hO => ?_
     have zz := t2take (hf := Fl.i) hO jm jo
     obtain ⟨rL, uy, yT⟩ := zz
     refine nst uy fun s hO => ?_
     have yU := yT (bl [.row 3 1 (fU (dg : Int).toNat).1 ((ix gY (dg : Int)).length) ((fU (dg : Int).toNat).2) rL, t2h Fl.i 31 3 ig r112.Letters.toNat r112.Letters.toNat fU gY (dg : Int).toNat, t1 Fl.i 3 ux 1 1 [(aK + (ix (ix r112.Next (gP : Int)) (dg : Int)))], .blk B116 (.cells #[.int .i64 r112.Letters, .int .i64 r112.Start, .slice ai r112.Final.length aj, .slice cA r112.Next.length cB] 25 (0, 0)), .row 120 3 p83 n85 c84 dh, .blk B70 (.cells #[.slice ig r112.Letters.toNat r112.Letters.toNat, .slice p83 n85 c84, .int .i64 aK] 83 (0, 0)), .blk B2 (.cells #[.int .i64 (0 : Int), .slice none 0 0, .slice none 0 0, .slice none 0 0, .slice none 0 0, .slice none 0 0] 33 (0, 0))] ++ A)
     refine sfz 2 hO fun s hO yV yW => ?_
     obtain ⟨kY, H⟩ := H
     have zz := oapp Try.underlying31 ti3 rfl 0 hO rfl yU.u yV yW kY (by decide)
     obtain ⟨IY, I0, I1, Ha, k8, rM, uz⟩ := zz
     dsimp only [sS, sZ] at rM
     refine GoT.stepX rfl (uz (by exact rfl) (by exact rfl)) rfl rfl rfl ?_
     refine nst k8 fun s hO => ?_
     obtain ⟨oA, H⟩ := H
     obtain ⟨iw, H⟩ := H
     refine GoT.pure rfl (J01 Try.underlying23 ti31 rfl rfl oA (ltn (t2neqH 1 hO rfl) iw) (t2someH 1 hO rfl oA iw)) rfl rfl ?_
     skip
     refine sfr 1 hO fun s hO => ?_
     refine sfr 1 hO fun s hO => ?_
     have zz := t2fix (hf := Fl.i) hO rM.u oA iw rfl
     obtain ⟨I2, uA, uB⟩ := zz
     refine GoT.stepX rfl (uB Try.underlying31 rfl ti31 (by exact rfl) (by exact rfl)) rfl rfl rfl ?_
     refine nst uA fun s hO => ?_
     refine sinc (natbd kX aq.bd) ?_
     refine au ?_
     exact hX7 _ H _ _ ⟨_, agr, hO, cz.u, aq.u, bK.u, fr⟩
    skip
    refine sfr 1 hO fun s hO => ?_
    have zz := t2take (hf := Fl.i) hO jm jo
    obtain ⟨yX, uC, yY⟩ := zz
    refine nst uC fun s hO => ?_
    have y3 := yY (bl [.row 3 1 (fU (dg : Int).toNat).1 ((ix gY (dg : Int)).length) ((fU (dg : Int).toNat).2) yX, t2h Fl.i 31 3 ig r112.Letters.toNat r112.Letters.toNat fU gY (dg : Int).toNat, t1 Fl.i 3 ux 1 1 [(aK + (ix (ix r112.Next (gP : Int)) (dg : Int)))], .blk B116 (.cells #[.int .i64 r112.Letters, .int .i64 r112.Start, .slice ai r112.Final.length aj, .slice cA r112.Next.length cB] 25 (0, 0)), .row 120 3 p83 n85 c84 dh, .blk B70 (.cells #[.slice ig r112.Letters.toNat r112.Letters.toNat, .slice p83 n85 c84, .int .i64 aK] 83 (0, 0)), .blk B2 (.cells #[.int .i64 (0 : Int), .slice none 0 0, .slice none 0 0, .slice none 0 0, .slice none 0 0, .slice none 0 0] 33 (0, 0))] ++ A)
    refine sfz 2 hO fun s hO y4 y5 => ?_
    obtain ⟨uD, H⟩ := H
    have zz := oapp Try.underlying31 ti3 rfl 0 hO rfl y3.u y4 y5 uD (by decide)
    obtain ⟨I3, I4, I5, Hb, uE, rN, uF⟩ := zz
    dsimp only [sS, sZ] at rN
    refine GoT.stepX rfl (uF (by exact rfl) (by exact rfl)) rfl rfl rfl ?_
    refine nst uE fun s hO => ?_
    skip
    refine sbl 4 ?_
    obtain ⟨oB, H⟩ := H
    obtain ⟨oC, H⟩ := H
    refine GoT.pure rfl (J01 Try.underlying23 ti31 rfl rfl oB (ltn (t2neqH 1 hO rfl) oC) (t2someH 1 hO rfl oB oC)) rfl rfl ?_
    skip
    refine sfr 1 hO fun s hO => ?_
    refine sfr 1 hO fun s hO => ?_
    have zz := t2fix (hf := Fl.i) hO rN.u oB oC rfl
    obtain ⟨Ej, uG, uH⟩ := zz
    refine GoT.stepX rfl (uH Try.underlying31 rfl ti31 (by exact rfl) (by exact rfl)) rfl rfl rfl ?_
    refine nst uG fun s hO => ?_
    refine sinc (natbd kX aq.bd) ?_
    refine au ?_
    exact hX7 _ H _ _ ⟨_, agr, hO, cz.u, aq.u, bK.u, fr⟩
   refine au ?_
   obtain ⟨Ek, H⟩ := H
   refine zo (J0i rfl rfl (wrap_i64 Ek)) ?_
   refine au ?_
   exact hX6 _ H _ _ ⟨_, agr, hO, cz.u, aq.u, bK.u, fr⟩
  refine au ?_
  refine drw 4 [(0, .pure), (1, .pure), (2, .pure), (3, .pure), (4, .stable), (5, .pure), (6, .pure), (7, .pure), (8, .stable), (9, .pure), (10, .stable), (11, .pure), (12, .pure), (13, .stable), (14, .pure), (15, .pure), (16, .pure), (17, .stable), (18, .pure), (19, .loud), (20, .last), (21, .pure), (22, .pure), (23, .last)] hO fun uI s hO => ?_
  refine au ?_
  obtain ⟨El, H⟩ := H
  refine GoQ.pure rfl (J0i rfl rfl (wrap_i64 El)) rfl rfl ?_
  refine au ?_
  refine GoQ.pure rfl (J06 Try.underlying120 ti120 (pl := [(0, 1), (1, 1), (2, 1)]) (vs := [(0, .int .i64 (aK + r112.Start)), (1, .slice ai r112.Final.length aj), (2, .int .i64 aK)]) (cs := #[.int .i64 (aK + r112.Start), .slice ai r112.Final.length aj, .int .i64 aK]) (by kernel_rfl) rfl (by kernel_rfl)) rfl rfl ?_
  have zz := obuildN (r := rppart) (n := 1) (parts := [(0, .agg #[.int .i64 (aK + r112.Start), .slice ai r112.Final.length aj, .int .i64 aK])]) (vs := [.int .i64 (aK + r112.Start), .slice ai r112.Final.length aj, .int .i64 aK]) (xs := [(⟨aK + r112.Start, r112.Final, aK⟩ : part)]) Try.underlying81 ti120 hO (by decide) (by decide) (by kernel_rfl) (Els.consR (us := [.int .i64 (aK + r112.Start), .slice ai r112.Final.length aj, .int .i64 aK]) rfl ⟨rfl, ⟨ai, aj, rfl, aq.u⟩, rfl⟩ (Els.nil _ _ _) (by simp [mx])) rfl
  obtain ⟨I6, I7, uJ, y6, y7, uK⟩ := zz
  refine GoQ.loud rfl (uK rfl) y7 rfl rfl ?_
  refine nst uJ fun s hO => ?_
  refine sfzR 0 hO y6 fun s hO y8 y9 => ?_
  obtain ⟨Em, H⟩ := H
  have zz := oapp Try.underlying81 ti120 rfl 2 hO rfl cz.u y8 y9 Em (by decide)
  obtain ⟨I8, I9, Ja, Hc, uL, rO, k9⟩ := zz
  dsimp only [sS, sZ] at rO
  refine GoQ.last rfl (k9 (by exact rfl) (by exact rfl)) rfl rfl ?_
  refine nst uL fun s hO => ?_
  refine sbs 3 hO fun Jb s hO => ?_
  refine au ?_
  obtain ⟨En, H⟩ := H
  refine zo (J0i rfl rfl (wrap_i64 En)) ?_
  refine sbs 3 hO fun Jc s hO => ?_
  refine au ?_
  refine Go1.ret1V Try.func62 rfl (show _ = .int .i64 (0 : Int) from rfl) ?_
  refine hR114 _ _ ?_
  refine au ?_
  refine zo (fun w => opB (J2W rfl rfl w) (ndT (by decide))) ?_
  refine sinc (natbd h93 dj.bd) ?_
  refine au ?_
  refine sdr [1] hO fun s hO => ?_
  refine sfr 3 hO fun s hO => ?_
  refine sfr 3 hO fun s hO => ?_
  refine sfr 2 hO fun s hO => ?_
  refine sfr 3 hO fun s hO => ?_
  exact hX3 _ H _ _ ⟨_, _, _, _, _, _, _, _, agr, hO, rO.u, hz246, fr⟩
 refine au ?_
 refine GoR.inl (vs := [.pointer (some ⟨B70, 0, none⟩)]) (caps := []) rfl rfl body63 Try.func63 rfl Try.ntmps63 rfl rfl rfl ?_
 intro RhR363 hR363
 refine sal hO fun Jd B365 s hO => ?_
 refine au ?_
 refine sfz2 2 hO fun s hO dN rP => ?_
 refine zcr (J00 body101 (show ([.slice p87 n89 c88, .bool true] : List Value) = [.slice p87 d_86.length c88, .bool true] from by rw [← rP]) (J26 hO.lt dN H)) fun _ Je => e4 fun r369 r370 cD cE => e4 fun b7 b8 bT bU => e4 fun cG cH bC bD => e2 fun co cp => sc0 hO fun s hO => d1 fun bz => d1 fun ar => d4 fun ay aW ao bc H => ?_
 refine sal hO fun Jf B373 s hO => ?_
 refine sba 0 hO fun Jg s hO => ?_
 refine scm H (fun oD H => ?_) fun oD H => ?_
 ·refine sln0 ?_
  refine scm (H ar.bd) (fun uM H => ?_) fun uM H => ?_
  ·refine au ?_
   refine zo (J06 Try.underlying33 ti33 (pl := [(0, 1), (1, 1), (2, 1), (3, 1), (4, 1), (5, 1)]) (vs := []) (cs := #[.int .i64 (0 : Int), .slice none 0 0, .slice none 0 0, .slice none 0 0, .slice none 0 0, .slice none 0 0]) (by kernel_rfl) rfl (by kernel_rfl)) ?_
   refine sba 1 hO fun Jh s hO => ?_
   refine au ?_
   refine Go1.retC3V Try.func63 rfl rfl (rlb 1 hO) (show _ = .slice none 0 0 from rfl) (show _ = .int .i64 (3 : Int) from rfl) ?_
   refine hR363 _ _ ?_
   refine sal hO fun Ji B380 s hO => ?_
   refine sba 0 hO fun Jj s hO => ?_
   refine au ?_
   refine zo (fun w => opB (J2W rfl rfl w) (ndF (by decide))) ?_
   refine au ?_
   refine zo (J06 Try.underlying33 ti33 (pl := [(0, 1), (1, 1), (2, 1), (3, 1), (4, 1), (5, 1)]) (vs := []) (cs := #[.int .i64 (0 : Int), .slice none 0 0, .slice none 0 0, .slice none 0 0, .slice none 0 0, .slice none 0 0]) (by kernel_rfl) rfl (by kernel_rfl)) ?_
   refine sba 5 hO fun Eo s hO => ?_
   refine au ?_
   refine Go1.retC3 Try.func25 rfl rfl (rlb 5 hO) ⟨((⟨(0 : Int), ([] : List (List Int)), ([] : List Str), ([] : List Int), ([] : List Bool), ([] : List Bool)⟩ : Syntactic)), _, _, _, _, _, _, _, _, _, _, _, _, _, _, ?_, frs, (ISl.null _ _ _), (ISl.null _ _ _), (ISl.null _ _ _), (ISl.null _ _ _), (ISl.null _ _ _), (ISl.null _ _ _), H⟩
   exact rfl
  refine au ?_
  refine drA Same.tr 1 [(0, .pure), (1, .pure), (2, .pure), (3, .stable), (4, .pure), (5, .pure), (7, .pure), (9, .pure), (10, .stable), (11, .pure), (12, .stable), (14, .pure), (13, .loud), (6, .alloc), (8, .alloc), (15, .alloc), (16, .pure), (17, .alloc), (18, .last)] hO fun Ep s hO => ?_
  have kA := hO.le
  have hw386 := (fr : Fr (bl []) w0 _ Ep).ch.size
  refine au ?_
  refine au ?_
  refine au ?_
  refine sbl 3 ?_
  refine slnN rP ?_
  refine au ?_
  refine au ?_
  refine au ?_
  refine sbl 0 ?_
  refine sxls hO ao.u (H dN.bd).1 (H dN.bd).2.1 fun kd Jk zc => ?_
  refine au ?_
  refine GoQA.loudI rfl rfl fun Jl A391 zd => ?_
  refine sgw zd hO fun s hO => ?_
  have Jm := (H dN.bd).1
  have Jo := (H dN.bd).2.1
  refine GoAt.call (J00 body86 rfl (J0j hO.lt zc.u (H dN.bd).2.2)) (fun _ _ hr => ⟨fun _ => saq hr, Same.kp hO (saq hr)⟩) rfl fun _ Jp => e4 fun iA dI dE dF => sA1 hO fun s hO => fun H => ?_
  obtain ⟨Er, H⟩ := H
  obtain ⟨Et, H⟩ := H
  refine GoQA.alloc rfl rfl (alMake2 (e' := 3) Fl.i Try.underlying23 ti31 Er Et (by decide) rfl rfl) ?_
  intro Eu A401 eP A403 zh zj hd406 hnb407 hh408
  refine sgw zh hO fun s hO => ?_
  refine sgn (e := t2 Fl.i 31 3 (some ⟨eP, 0, none⟩) r369.Elems.length r369.Elems.length ((fun _ => (none, 0))) (List.replicate r369.Elems.length ([] : List Int))) zj hO kA hw386 hnb407 (J5a eP) hh408 hd406 (fr : Fr (bl []) w0 _ Eu) fun s hO hB => ?_
  obtain ⟨ld, H⟩ := H
  obtain ⟨Ev, H⟩ := H
  have zz := alMakeE (n := (r369.Elems.length : Int)) (r := Rp.str) (d := ([] : Str)) Try.underlying30 ti9 (fun _ _ => ⟨rfl, Nat.zero_le _⟩) rfl ld Ev (by decide)
  obtain ⟨zl, hal425, zu⟩ := zz
  refine GoQA.alloc rfl rfl (hal425 rfl rfl) ?_
  intro uN A413 fe A415 zw zx hd418 hnb419 hh420
  refine sgw zw hO fun s hO => ?_
  have jy := zu (bl [t2 Fl.i 31 3 (some ⟨eP, 0, none⟩) r369.Elems.length r369.Elems.length ((fun _ => (none, 0))) (List.replicate r369.Elems.length ([] : List Int)), t1 Fl.i 3 dE dI dF iA, .blk B373 (.cells #[.int .i64 r369.Points, .bool r369.Monoid, .slice cD r369.Gens.length cE, .slice b7 r369.Elems.length b8, .slice bT r369.Prefix.length bU, .slice cG r369.Last.length cH, .slice bC r369.Right.length bD, .slice co r369.Rules.length cp, .int .i64 r369.Done] 123 (0, 0)), .blk B365 (.cells #[.int .i64 (0 : Int), .slice none 0 0, .slice none 0 0, .slice none 0 0, .slice none 0 0, .slice none 0 0] 33 (0, 0)), .row 120 3 p83 n85 c84 dh, .blk B70 (.cells #[.slice p87 n89 c88, .slice p83 n85 c84, .int .i64 aK] 83 (0, 0)), .blk B2 (.cells #[.int .i64 (0 : Int), .slice none 0 0, .slice none 0 0, .slice none 0 0, .slice none 0 0, .slice none 0 0] 33 (0, 0))] ++ A413) uN
  refine sgn (e := .row 9 1 (some ⟨fe, 0, none⟩) r369.Elems.length r369.Elems.length zl) zx hO kA hw386 hnb419 rfl hh420 hd418 (fr : Fr (bl []) w0 _ uN) fun s hO hB => ?_
  replace jy := jy.ch s.ch
  refine cl1 Fl.str 0 hO jy.u fun s hO => ?_
  obtain ⟨jp, H⟩ := H
  obtain ⟨jq, H⟩ := H
  have zz := alMakeE (n := (r369.Elems.length : Int)) (r := Rp.bool) (d := false) Try.underlying22 ti4 (fun _ _ => rfl) rfl jp jq (by decide)
  obtain ⟨zy, hal441, zA⟩ := zz
  refine GoQA.alloc rfl rfl (hal441 rfl rfl) ?_
  intro uO A429 fq A431 zB zC hd434 hnb435 hh436
  refine sgw zB hO fun s hO => ?_
  have mE := zA (bl [t1 Fl.str 9 (some ⟨fe, 0, none⟩) r369.Elems.length r369.Elems.length (List.replicate r369.Elems.length (([] : Str))), t2 Fl.i 31 3 (some ⟨eP, 0, none⟩) r369.Elems.length r369.Elems.length ((fun _ => (none, 0))) (List.replicate r369.Elems.length ([] : List Int)), t1 Fl.i 3 dE dI dF iA, .blk B373 (.cells #[.int .i64 r369.Points, .bool r369.Monoid, .slice cD r369.Gens.length cE, .slice b7 r369.Elems.length b8, .slice bT r369.Prefix.length bU, .slice cG r369.Last.length cH, .slice bC r369.Right.length bD, .slice co r369.Rules.length cp, .int .i64 r369.Done] 123 (0, 0)), .blk B365 (.cells #[.int .i64 (0 : Int), .slice none 0 0, .slice none 0 0, .slice none 0 0, .slice none 0 0, .slice none 0 0] 33 (0, 0)), .row 120 3 p83 n85 c84 dh, .blk B70 (.cells #[.slice p87 n89 c88, .slice p83 n85 c84, .int .i64 aK] 83 (0, 0)), .blk B2 (.cells #[.int .i64 (0 : Int), .slice none 0 0, .slice none 0 0, .slice none 0 0, .slice none 0 0, .slice none 0 0] 33 (0, 0))] ++ A429) uO
  refine sgn (e := .row 4 1 (some ⟨fq, 0, none⟩) r369.Elems.length r369.Elems.length zy) zC hO kA hw386 hnb435 rfl hh436 hd434 (fr : Fr (bl []) w0 _ uO) fun s hO hB => ?_
  replace mE := mE.ch s.ch
  refine cl1 Fl.bool 0 hO mE.u fun s hO => ?_
  refine GoQA.pure rfl (J06 Try.underlying33 ti33 (pl := [(0, 1), (1, 1), (2, 1), (3, 1), (4, 1), (5, 1)]) (vs := [(0, .int .i64 (d_86.length : Int)), (1, .slice (some ⟨eP, 0, none⟩) r369.Elems.length r369.Elems.length), (2, .slice (some ⟨fe, 0, none⟩) r369.Elems.length r369.Elems.length), (3, .slice dE dI dF), (5, .slice (some ⟨fq, 0, none⟩) r369.Elems.length r369.Elems.length)]) (cs := #[.int .i64 (d_86.length : Int), .slice (some ⟨eP, 0, none⟩) r369.Elems.length r369.Elems.length, .slice (some ⟨fe, 0, none⟩) r369.Elems.length r369.Elems.length, .slice dE dI dF, .slice none 0 0, .slice (some ⟨fq, 0, none⟩) r369.Elems.length r369.Elems.length]) (by kernel_rfl) rfl (by kernel_rfl)) rfl rfl ?_
  refine GoQA.alloc rfl rfl (alAlloc (cs := #[.int .i64 (0 : Int), .slice none 0 0, .slice none 0 0, .slice none 0 0, .slice none 0 0, .slice none 0 0]) ti33 rfl) ?_
  intro Ew A445 gh A447 zD zE hd450 hnb451 hh452
  refine sgw zD hO fun s hO => ?_
  refine sgn (e := .blk gh (.cells #[.int .i64 (0 : Int), .slice none 0 0, .slice none 0 0, .slice none 0 0, .slice none 0 0, .slice none 0 0] 33 (0, 0))) zE hO kA hw386 hnb451 rfl hh452 hd450 (fr : Fr (bl []) w0 _ Ew) fun s hO hB => ?_
  refine GoQA.lastI rfl rfl fun Ex A454 zF => ?_
  refine sgw zF hO fun s hO => ?_
  refine sba 0 hO fun Jq s hO => ?_
  refine GoQA.nil fun Jr A458 zG zH => ?_
  refine sgw zG hO fun s hO => ?_
  refine spm zH hO fun s hO => ?_
  refine au ?_
  refine lw H (fun (iQ, rQ, gE) σ w => (fun Z => agrees σ [(0, .pointer (some ⟨B70, 0, none⟩)), (2, .pointer (some ⟨B365, 0, none⟩)), (5, .pointer (some ⟨B373, 0, none⟩)), (7, .int .i64 (r369.Elems.length : Int)), (8, .pointer (some ⟨gh, 0, none⟩)), (9, .int .i64 (iQ : Int))] ∧ Owns w0.heap.size w Z A ∧ Els (rppart) (bl Z ++ A) w dh d_80 ∧ ISl (Rp.sl (Rp.int .i64)) (bl Z ++ A) w p87 c88 d_86 ∧ ISl (Rp.sl (Rp.int .i64)) (bl Z ++ A) w cD cE r369.Gens ∧ ISl (Rp.sl (Rp.int .i64)) (bl Z ++ A) w b7 b8 r369.Elems ∧ ISl (Rp.int .i64) (bl Z ++ A) w bT bU r369.Prefix ∧ ISl (Rp.int .i64) (bl Z ++ A) w cG cH r369.Last ∧ ISl (Rp.sl (Rp.int .i64)) (bl Z ++ A) w bC bD r369.Right ∧ ISl (rpRule) (bl Z ++ A) w co cp r369.Rules ∧ Fr (bl []) w0 (bl Z) w) [.blk gh (.cells #[.int .i64 (d_86.length : Int), .slice (some ⟨eP, 0, none⟩) r369.Elems.length r369.Elems.length, .slice (some ⟨fe, 0, none⟩) r369.Elems.length r369.Elems.length, .slice dE dI dF, .slice none 0 0, .slice (some ⟨fq, 0, none⟩) r369.Elems.length r369.Elems.length] 33 (0, 0)), t1 Fl.bool 4 (some ⟨fq, 0, none⟩) r369.Elems.length r369.Elems.length rQ, t1 Fl.str 9 (some ⟨fe, 0, none⟩) r369.Elems.length r369.Elems.length gE, t2 Fl.i 31 3 (some ⟨eP, 0, none⟩) r369.Elems.length r369.Elems.length ((fun _ => (none, 0))) (List.replicate r369.Elems.length ([] : List Int)), t1 Fl.i 3 dE dI dF iA, .blk B373 (.cells #[.int .i64 r369.Points, .bool r369.Monoid, .slice cD r369.Gens.length cE, .slice b7 r369.Elems.length b8, .slice bT r369.Prefix.length bU, .slice cG r369.Last.length cH, .slice bC r369.Right.length bD, .slice co r369.Rules.length cp, .int .i64 r369.Done] 123 (0, 0)), .blk B365 (.cells #[.int .i64 (0 : Int), .slice none 0 0, .slice none 0 0, .slice none 0 0, .slice none 0 0, .slice none 0 0] 33 (0, 0)), .row 120 3 p83 n85 c84 dh, .blk B70 (.cells #[.slice p87 n89 c88, .slice p83 n85 c84, .int .i64 aK] 83 (0, 0)), .blk B2 (.cells #[.int .i64 (0 : Int), .slice none 0 0, .slice none 0 0, .slice none 0 0, .slice none 0 0, .slice none 0 0] 33 (0, 0))]) ⟨agr, hO, cz.u, dN.u, bz.u, ar.u, ay.u, aW.u, ao.u, bc.u, fr⟩ ?_
  refine fun X8 => p2 fun iQ rQ gE => fun H hX8 σ Js => d1 fun hag => d1 fun hO => d1 fun cz => d1 fun dN => d1 fun bz => d1 fun ar => d4 fun ay aW ao bc hB => ?_
  dsimp only at H
  refine Go1.keep _ hag ?_
  revert hO; repeat (rename Owns _ _ _ _ => q; clear q)
  intro hO; repeat (rename Sq _ _ _ _ _ _ => q; clear q)
  refine scm H (fun uP H => ?_) fun uP H => ?_
  ·refine au ?_
   refine drw 1 [(0, .pure), (1, .stable), (2, .pure), (3, .pure), (4, .stable), (5, .pure), (6, .stable), (7, .pure), (8, .pure), (9, .stable), (10, .pure), (11, .stable), (12, .pure), (13, .stable), (14, .pure), (15, .pure), (16, .stable), (17, .pure), (18, .pure), (19, .loud), (20, .stable), (21, .pure), (22, .pure), (23, .last)] hO fun Ey s hO => ?_
   refine sxl hO ay.u H.1 H.2.1 ?_
   refine sxl1 2 hO H.2.2.1 H.2.2.2.1 ?_
   have hle467 := t1le 2 hO H.2.2.1 H.2.2.2.1
   refine sxl hO aW.u H.2.2.2.2.1 H.2.2.2.2.2.1 ?_
   have Jt := H.1
   have Ju := H.2.1
   have Jv := H.2.2.1
   have Jw := H.2.2.2.1
   have Jx := H.2.2.2.2.1
   have Jy := H.2.2.2.2.2.1
   replace H := H.2.2.2.2.2.2
   obtain ⟨Ez, H⟩ := H
   refine GoQ.pure rfl (J0i rfl rfl (wrap_i64 Ez)) rfl rfl ?_
   refine GoQ.pure rfl (J35 Try.underlying3 Try.underlying5 rfl rfl) rfl rfl ?_
   refine sbu (Fl.int .u8) 5 [(IntKind.u8.wrap ((97 : Int) + (ix r369.Last (iQ : Int))))] hO fun Jz JA s hO => ?_
   refine op1 0 hO fun He s hO mF => ?_
   have hle480 := J7M mF.bd
   refine GoQ.stable rfl (oldBytes 0 hO rfl mF.u Try.underlying126 Try.underlying5 Try.underlying9 rfl) rfl rfl ?_
   obtain ⟨uQ, H⟩ := H
   refine GoQ.pure rfl (J65 rfl rfl uQ) rfl rfl ?_
   refine six1 3 hO H.1 H.2.1 ?_
   refine sst (u := ((ix gE (ix r369.Prefix (iQ : Int))) ++ (byt ([(IntKind.u8.wrap ((97 : Int) + (ix r369.Last (iQ : Int))))])))) 3 hO H.1 H.2.1 (fun JB s hO => ?_) (hR := by exact fun _ _ => ⟨rfl, (lenApp uQ)⟩)
   refine six1 2 hO H.2.2.1 H.2.2.2.1 ?_
   refine sst (u := true) 2 hO H.2.2.1 H.2.2.2.1 fun JC s hO => ?_
   refine sinc (natbd uP ar.bd) ?_
   refine au ?_
   refine cl1 (Fl.int .u8) 0 hO mF.u fun s hO => ?_
   refine sdr [0] hO fun s hO => ?_
   exact hX8 _ H.2.2.2.2 _ _ ⟨agr, hO, cz.u, dN.u, bz.u, ar.u, ay.u, aW.u, ao.u, bc.u, fr⟩
  refine sln0 ?_
  refine au ?_
  refine lw (H ao.bd) (fun (dJ, iB, jz) σ w => ∃ i5, (fun Z => agrees σ [(0, .pointer (some ⟨B70, 0, none⟩)), (2, .pointer (some ⟨B365, 0, none⟩)), (5, .pointer (some ⟨B373, 0, none⟩)), (7, .int .i64 (r369.Elems.length : Int)), (8, .pointer (some ⟨gh, 0, none⟩)), (86, .slice bC r369.Right.length bD), (87, .int .i64 (r369.Right.length : Int)), (88, .int .i64 (dJ : Int))] ∧ Owns w0.heap.size w Z A ∧ Els (rppart) (bl Z ++ A) w dh d_80 ∧ ISl (Rp.sl (Rp.int .i64)) (bl Z ++ A) w p87 c88 d_86 ∧ ISl (Rp.sl (Rp.int .i64)) (bl Z ++ A) w cD cE r369.Gens ∧ ISl (Rp.sl (Rp.int .i64)) (bl Z ++ A) w b7 b8 r369.Elems ∧ ISl (Rp.int .i64) (bl Z ++ A) w bT bU r369.Prefix ∧ ISl (Rp.int .i64) (bl Z ++ A) w cG cH r369.Last ∧ ISl (Rp.sl (Rp.int .i64)) (bl Z ++ A) w bC bD r369.Right ∧ ISl (rpRule) (bl Z ++ A) w co cp r369.Rules ∧ Fr (bl []) w0 (bl Z) w) [.blk gh (.cells #[.int .i64 (d_86.length : Int), .slice (some ⟨eP, 0, none⟩) r369.Elems.length r369.Elems.length, .slice (some ⟨fe, 0, none⟩) r369.Elems.length r369.Elems.length, .slice dE dI dF, .slice none 0 0, .slice (some ⟨fq, 0, none⟩) r369.Elems.length r369.Elems.length] 33 (0, 0)), t1 Fl.bool 4 (some ⟨fq, 0, none⟩) r369.Elems.length r369.Elems.length iB, t1 Fl.str 9 (some ⟨fe, 0, none⟩) r369.Elems.length r369.Elems.length gE, t2 Fl.i 31 3 (some ⟨eP, 0, none⟩) r369.Elems.length r369.Elems.length i5 jz, t1 Fl.i 3 dE dI dF iA, .blk B373 (.cells #[.int .i64 r369.Points, .bool r369.Monoid, .slice cD r369.Gens.length cE, .slice b7 r369.Elems.length b8, .slice bT r369.Prefix.length bU, .slice cG r369.Last.length cH, .slice bC r369.Right.length bD, .slice co r369.Rules.length cp, .int .i64 r369.Done] 123 (0, 0)), .blk B365 (.cells #[.int .i64 (0 : Int), .slice none 0 0, .slice none 0 0, .slice none 0 0, .slice none 0 0, .slice none 0 0] 33 (0, 0)), .row 120 3 p83 n85 c84 dh, .blk B70 (.cells #[.slice p87 n89 c88, .slice p83 n85 c84, .int .i64 aK] 83 (0, 0)), .blk B2 (.cells #[.int .i64 (0 : Int), .slice none 0 0, .slice none 0 0, .slice none 0 0, .slice none 0 0, .slice none 0 0] 33 (0, 0))]) ⟨_, agr, hO, cz.u, dN.u, bz.u, ar.u, ay.u, aW.u, ao.u, bc.u, fr⟩ ?_
  refine fun X9 => p2 fun dJ iB jz => fun H hX9 σ JD => e1 fun i5 => d1 fun hag => d1 fun hO => d1 fun cz => d1 fun dN => d1 fun bz => d1 fun ar => d4 fun ay aW ao bc hB => ?_
  dsimp only at H
  refine Go1.keep _ hag ?_
  revert hO; repeat (rename Owns _ _ _ _ => q; clear q)
  intro hO; repeat (rename Sq _ _ _ _ _ _ => q; clear q)
  refine scm H (fun oE H => ?_) fun oE H => ?_
  ·refine sxls hO ao H.1 H.2.1 fun JE JF zI => ?_
   refine au ?_
   refine drw 1 [(0, .pure), (1, .stable), (2, .pure), (3, .stable), (4, .pure), (5, .stable), (6, .pure), (7, .pure), (8, .loud), (9, .pure), (10, .pure), (11, .last)] hO fun JG s hO => ?_
   refine au ?_
   have JH := H.1
   have JJ := H.2.1
   have JK := H.2.2.1
   have JL := H.2.2.2.1
   refine sxb1 1 hO H.2.2.1 H.2.2.2.1 H.2.2.2.2 (fun EA H => ?_) fun EA H => ?_
   ·refine six1 1 hO H.1 H.2.1 ?_
    refine sst (u := true) 1 hO H.1 H.2.1 fun JM s hO => ?_
    refine au ?_
    refine drw 1 [(0, .pure), (1, .stable), (2, .pure), (3, .pure), (4, .loud), (5, .pure), (6, .last)] hO fun JN s hO => ?_
    refine smk Fl.i H.2.2 hO fun JO EB s hO => ?_
    have JP := H.1
    have JQ := H.2.1
    replace H := H.2.2.2.2
    obtain ⟨oF, H⟩ := H
    obtain ⟨oG, H⟩ := H
    refine GoQ.pure rfl (J01 Try.underlying23 ti31 rfl rfl oF (ltn (t2neq 4 hO rfl) oG) (t2some 4 hO rfl oF oG)) rfl rfl ?_
    refine op1 0 hO fun Hf s hO zJ => ?_
    refine sfr 4 hO fun s hO => ?_
    refine sfr 1 hO fun s hO => ?_
    have zz := t2put (hf := Fl.i) hO zJ.u oF oG
    obtain ⟨JS, uR, uS⟩ := zz
    refine GoQ.last rfl (uS Try.underlying31 rfl ti31 (by exact rfl) (by exact rfl)) rfl rfl ?_
    refine nst uR fun s hO => ?_
    refine au ?_
    obtain ⟨lg, H⟩ := H
    obtain ⟨lh, H⟩ := H
    refine zo (J01 Try.underlying23 ti31 rfl rfl lg (ltn (t2neq 0 hO rfl) lh) (t2some 0 hO rfl lg lh)) ?_
    refine zs (t2head 0 hO rfl lg lh Try.underlying31 rfl rfl) ?_
    refine au ?_
    obtain ⟨oH, H⟩ := H
    obtain ⟨oI, H⟩ := H
    refine zo (J01 Try.underlying31 ti3 rfl rfl oH oI (t2isome 0 hO rfl lg lh oH oI)) ?_
    have zz := t2st (r := Rp.int .i64) (hf := Fl.i) rfl 0 hO rfl lg lh oH oI (v := .int .i64 (dJ : Int)) (u := (dJ : Int)) rfl rfl
    obtain ⟨JT, uT, uU⟩ := zz
    refine zg (uU Try.underlying3 rfl ti3 (by exact rfl) (by exact rfl)) ?_
    refine nst uT fun s hO => ?_
    refine au ?_
    refine lw H (fun (gL, kB) σ w => (fun Z => agrees σ [(0, .pointer (some ⟨B70, 0, none⟩)), (2, .pointer (some ⟨B365, 0, none⟩)), (5, .pointer (some ⟨B373, 0, none⟩)), (7, .int .i64 (r369.Elems.length : Int)), (8, .pointer (some ⟨gh, 0, none⟩)), (10, .int .i64 (dJ : Int)), (12, .int .i64 (gL : Int)), (86, .slice bC r369.Right.length bD), (87, .int .i64 (r369.Right.length : Int)), (88, .int .i64 (dJ : Int))] ∧ Owns w0.heap.size w Z A ∧ Els (rppart) (bl Z ++ A) w dh d_80 ∧ ISl (Rp.sl (Rp.int .i64)) (bl Z ++ A) w p87 c88 d_86 ∧ ISl (Rp.sl (Rp.int .i64)) (bl Z ++ A) w cD cE r369.Gens ∧ ISl (Rp.sl (Rp.int .i64)) (bl Z ++ A) w b7 b8 r369.Elems ∧ ISl (Rp.int .i64) (bl Z ++ A) w bT bU r369.Prefix ∧ ISl (Rp.int .i64) (bl Z ++ A) w cG cH r369.Last ∧ ISl (Rp.sl (Rp.int .i64)) (bl Z ++ A) w bC bD r369.Right ∧ ISl (rpRule) (bl Z ++ A) w co cp r369.Rules ∧ Fr (bl []) w0 (bl Z) w) [t2 Fl.i 31 3 (some ⟨eP, 0, none⟩) r369.Elems.length r369.Elems.length (hup i5 (dJ : Int).toNat (EB, r369.Elems.length)) kB, .blk gh (.cells #[.int .i64 (d_86.length : Int), .slice (some ⟨eP, 0, none⟩) r369.Elems.length r369.Elems.length, .slice (some ⟨fe, 0, none⟩) r369.Elems.length r369.Elems.length, .slice dE dI dF, .slice none 0 0, .slice (some ⟨fq, 0, none⟩) r369.Elems.length r369.Elems.length] 33 (0, 0)), t1 Fl.bool 4 (some ⟨fq, 0, none⟩) r369.Elems.length r369.Elems.length (st iB (0 : Int) true), t1 Fl.str 9 (some ⟨fe, 0, none⟩) r369.Elems.length r369.Elems.length gE, t1 Fl.i 3 dE dI dF iA, .blk B373 (.cells #[.int .i64 r369.Points, .bool r369.Monoid, .slice cD r369.Gens.length cE, .slice b7 r369.Elems.length b8, .slice bT r369.Prefix.length bU, .slice cG r369.Last.length cH, .slice bC r369.Right.length bD, .slice co r369.Rules.length cp, .int .i64 r369.Done] 123 (0, 0)), .blk B365 (.cells #[.int .i64 (0 : Int), .slice none 0 0, .slice none 0 0, .slice none 0 0, .slice none 0 0, .slice none 0 0] 33 (0, 0)), .row 120 3 p83 n85 c84 dh, .blk B70 (.cells #[.slice p87 n89 c88, .slice p83 n85 c84, .int .i64 aK] 83 (0, 0)), .blk B2 (.cells #[.int .i64 (0 : Int), .slice none 0 0, .slice none 0 0, .slice none 0 0, .slice none 0 0, .slice none 0 0] 33 (0, 0))]) ⟨agr, hO, cz.u, dN.u, bz.u, ar.u, ay.u, aW.u, ao.u, bc.u, fr⟩ ?_
    refine fun X10 => p1 fun gL kB => fun H hX10 σ JU => d1 fun hag => d1 fun hO => d1 fun cz => d1 fun dN => d1 fun bz => d1 fun ar => d4 fun ay aW ao bc hB => ?_
    dsimp only at H
    refine Go1.keep _ hag ?_
    revert hO; repeat (rename Owns _ _ _ _ => q; clear q)
    intro hO; repeat (rename Sq _ _ _ _ _ _ => q; clear q)
    refine scm H (fun uV H => ?_) fun uV H => ?_
    ·refine au ?_
     refine drw 1 [(0, .pure), (1, .stable), (2, .pure), (3, .pure), (4, .stable), (5, .pure), (6, .pure), (7, .stable), (8, .pure), (9, .stable), (10, .pure), (11, .pure), (12, .stable), (13, .pure), (14, .stable), (15, .pure), (16, .pure), (17, .stable), (18, .pure), (19, .stable), (20, .pure), (21, .stable), (22, .pure), (23, .stable), (24, .pure), (25, .pure), (26, .stable), (27, .pure), (28, .stable), (29, .pure), (30, .last)] hO fun JV s hO => ?_
     refine au ?_
     obtain ⟨li, H⟩ := H
     obtain ⟨lj, H⟩ := H
     refine GoQ.pure rfl (J01 Try.underlying23 ti31 rfl rfl li (ltn (t2neq 0 hO rfl) lj) (t2some 0 hO rfl li lj)) rfl rfl ?_
     refine GoQ.stable rfl (t2head 0 hO rfl li lj Try.underlying31 rfl rfl) rfl rfl ?_
     refine au ?_
     obtain ⟨lk, H⟩ := H
     obtain ⟨lm, H⟩ := H
     refine GoQ.pure rfl (J01 Try.underlying23 ti31 rfl rfl lk (ltn (t2neq 0 hO rfl) lm) (t2some 0 hO rfl lk lm)) rfl rfl ?_
     refine GoQ.stable rfl (t2head 0 hO rfl lk lm Try.underlying31 rfl rfl) rfl rfl ?_
     refine sxl hO ay.u H.1 H.2.1 ?_
     have JW := H.1
     have JX := H.2.1
     replace H := H.2.2
     obtain ⟨oJ, H⟩ := H
     obtain ⟨oK, H⟩ := H
     refine GoQ.pure rfl (J01 Try.underlying31 ti3 rfl rfl oJ oK (t2isome 0 hO rfl lk lm oJ oK)) rfl rfl ?_
     refine GoQ.stable rfl (t2Int 0 hO rfl lk lm oJ oK Try.underlying3 rfl rfl) rfl rfl ?_
     refine sxls hO ao.u H.1 H.2.1 fun JY J0 zK => ?_
     refine sxl hO aW.u H.2.2.1 H.2.2.2.1 ?_
     refine sxl hO zK.u H.2.2.2.2.1 H.2.2.2.2.2.1 ?_
     have J1 := H.1
     have J2 := H.2.1
     have J3 := H.2.2.1
     have J4 := H.2.2.2.1
     have J5 := H.2.2.2.2.1
     have J6 := H.2.2.2.2.2.1
     replace H := H.2.2.2.2.2.2
     obtain ⟨oL, H⟩ := H
     obtain ⟨oM, H⟩ := H
     refine GoQ.pure rfl (J01 Try.underlying31 ti3 rfl rfl oL oM (t2isome 0 hO rfl li lj oL oM)) rfl rfl ?_
     have zz := t2st (r := Rp.int .i64) (hf := Fl.i) rfl 0 hO rfl li lj oL oM (v := .int .i64 (ix (ix r369.Right (ix (ix kB (dJ : Int)) (ix r369.Prefix (gL : Int)))) (ix r369.Last (gL : Int)))) (u := (ix (ix r369.Right (ix (ix kB (dJ : Int)) (ix r369.Prefix (gL : Int)))) (ix r369.Last (gL : Int)))) rfl rfl
     obtain ⟨J7, uW, uX⟩ := zz
     refine GoQ.last rfl (uX Try.underlying3 rfl ti3 (by exact rfl) (by exact rfl)) rfl rfl ?_
     refine nst uW fun s hO => ?_
     refine sinc (natbd uV ar.bd) ?_
     refine au ?_
     exact hX10 _ H _ _ ⟨agr, hO, cz.u, dN.u, bz.u, ar.u, ay.u, aW.u, ao.u, bc.u, fr⟩
    refine sinc (natbd oE ao.bd) ?_
    refine au ?_
    refine sfr 9 hO fun s hO => ?_
    refine sfr 9 hO fun s hO => ?_
    refine sfr 9 hO fun s hO => ?_
    refine sfr 9 hO fun s hO => ?_
    refine sfr 9 hO fun s hO => ?_
    refine sfr 9 hO fun s hO => ?_
    refine sfr 6 hO fun s hO => ?_
    refine sfr 9 hO fun s hO => ?_
    refine sfr 9 hO fun s hO => ?_
    refine sfr 9 hO fun s hO => ?_
    exact hX9 _ H _ _ ⟨_, agr, hO, cz.u, dN.u, bz.u, ar.u, ay.u, aW.u, ao.u, bc.u, fr⟩
   refine au ?_
   refine zcq rfl (J00 body102 rfl (J1f hO.lt zI.u H)) fun _ J8 => e1 fun uY => sq0 hO fun s hO => fun H => ?_
   refine six1 1 hO H.1 H.2.1 ?_
   refine sst (u := uY) 1 hO H.1 H.2.1 fun J9 s hO => ?_
   refine au ?_
   refine drw 1 [(0, .pure), (1, .stable), (2, .pure), (3, .pure), (4, .loud), (5, .pure), (6, .last)] hO fun Ka s hO => ?_
   refine smk Fl.i H.2.2 hO fun Kb EC s hO => ?_
   have Kc := H.1
   have Kd := H.2.1
   replace H := H.2.2.2.2
   obtain ⟨oN, H⟩ := H
   obtain ⟨oO, H⟩ := H
   refine GoQ.pure rfl (J01 Try.underlying23 ti31 rfl rfl oN (ltn (t2neq 4 hO rfl) oO) (t2some 4 hO rfl oN oO)) rfl rfl ?_
   refine op1 0 hO fun Hg s hO zL => ?_
   refine sfr 4 hO fun s hO => ?_
   refine sfr 1 hO fun s hO => ?_
   have zz := t2put (hf := Fl.i) hO zL.u oN oO
   obtain ⟨Ke, u0, u4⟩ := zz
   refine GoQ.last rfl (u4 Try.underlying31 rfl ti31 (by exact rfl) (by exact rfl)) rfl rfl ?_
   refine nst u0 fun s hO => ?_
   refine au ?_
   obtain ⟨lr, H⟩ := H
   obtain ⟨lv, H⟩ := H
   refine zo (J01 Try.underlying23 ti31 rfl rfl lr (ltn (t2neq 0 hO rfl) lv) (t2some 0 hO rfl lr lv)) ?_
   refine zs (t2head 0 hO rfl lr lv Try.underlying31 rfl rfl) ?_
   refine au ?_
   obtain ⟨oP, H⟩ := H
   obtain ⟨oQ, H⟩ := H
   refine zo (J01 Try.underlying31 ti3 rfl rfl oP oQ (t2isome 0 hO rfl lr lv oP oQ)) ?_
   have zz := t2st (r := Rp.int .i64) (hf := Fl.i) rfl 0 hO rfl lr lv oP oQ (v := .int .i64 (dJ : Int)) (u := (dJ : Int)) rfl rfl
   obtain ⟨Kf, u5, u6⟩ := zz
   refine zg (u6 Try.underlying3 rfl ti3 (by exact rfl) (by exact rfl)) ?_
   refine nst u5 fun s hO => ?_
   refine au ?_
   refine lw H (fun (gM, kC) σ w => (fun Z => agrees σ [(0, .pointer (some ⟨B70, 0, none⟩)), (2, .pointer (some ⟨B365, 0, none⟩)), (5, .pointer (some ⟨B373, 0, none⟩)), (7, .int .i64 (r369.Elems.length : Int)), (8, .pointer (some ⟨gh, 0, none⟩)), (10, .int .i64 (dJ : Int)), (12, .int .i64 (gM : Int)), (86, .slice bC r369.Right.length bD), (87, .int .i64 (r369.Right.length : Int)), (88, .int .i64 (dJ : Int))] ∧ Owns w0.heap.size w Z A ∧ Els (rppart) (bl Z ++ A) w dh d_80 ∧ ISl (Rp.sl (Rp.int .i64)) (bl Z ++ A) w p87 c88 d_86 ∧ ISl (Rp.sl (Rp.int .i64)) (bl Z ++ A) w cD cE r369.Gens ∧ ISl (Rp.sl (Rp.int .i64)) (bl Z ++ A) w b7 b8 r369.Elems ∧ ISl (Rp.int .i64) (bl Z ++ A) w bT bU r369.Prefix ∧ ISl (Rp.int .i64) (bl Z ++ A) w cG cH r369.Last ∧ ISl (Rp.sl (Rp.int .i64)) (bl Z ++ A) w bC bD r369.Right ∧ ISl (rpRule) (bl Z ++ A) w co cp r369.Rules ∧ Fr (bl []) w0 (bl Z) w) [t2 Fl.i 31 3 (some ⟨eP, 0, none⟩) r369.Elems.length r369.Elems.length (hup i5 (dJ : Int).toNat (EC, r369.Elems.length)) kC, .blk gh (.cells #[.int .i64 (d_86.length : Int), .slice (some ⟨eP, 0, none⟩) r369.Elems.length r369.Elems.length, .slice (some ⟨fe, 0, none⟩) r369.Elems.length r369.Elems.length, .slice dE dI dF, .slice none 0 0, .slice (some ⟨fq, 0, none⟩) r369.Elems.length r369.Elems.length] 33 (0, 0)), t1 Fl.bool 4 (some ⟨fq, 0, none⟩) r369.Elems.length r369.Elems.length (st iB (0 : Int) uY), t1 Fl.str 9 (some ⟨fe, 0, none⟩) r369.Elems.length r369.Elems.length gE, t1 Fl.i 3 dE dI dF iA, .blk B373 (.cells #[.int .i64 r369.Points, .bool r369.Monoid, .slice cD r369.Gens.length cE, .slice b7 r369.Elems.length b8, .slice bT r369.Prefix.length bU, .slice cG r369.Last.length cH, .slice bC r369.Right.length bD, .slice co r369.Rules.length cp, .int .i64 r369.Done] 123 (0, 0)), .blk B365 (.cells #[.int .i64 (0 : Int), .slice none 0 0, .slice none 0 0, .slice none 0 0, .slice none 0 0, .slice none 0 0] 33 (0, 0)), .row 120 3 p83 n85 c84 dh, .blk B70 (.cells #[.slice p87 n89 c88, .slice p83 n85 c84, .int .i64 aK] 83 (0, 0)), .blk B2 (.cells #[.int .i64 (0 : Int), .slice none 0 0, .slice none 0 0, .slice none 0 0, .slice none 0 0, .slice none 0 0] 33 (0, 0))]) ⟨agr, hO, cz.u, dN.u, bz.u, ar.u, ay.u, aW.u, ao.u, bc.u, fr⟩ ?_
   refine fun X11 => p1 fun gM kC => fun H hX11 σ Kg => d1 fun hag => d1 fun hO => d1 fun cz => d1 fun dN => d1 fun bz => d1 fun ar => d4 fun ay aW ao bc hB => ?_
   dsimp only at H
   refine Go1.keep _ hag ?_
   revert hO; repeat (rename Owns _ _ _ _ => q; clear q)
   intro hO; repeat (rename Sq _ _ _ _ _ _ => q; clear q)
   refine scm H (fun u7 H => ?_) fun u7 H => ?_
   ·refine au ?_
    refine drw 1 [(0, .pure), (1, .stable), (2, .pure), (3, .pure), (4, .stable), (5, .pure), (6, .pure), (7, .stable), (8, .pure), (9, .stable), (10, .pure), (11, .pure), (12, .stable), (13, .pure), (14, .stable), (15, .pure), (16, .pure), (17, .stable), (18, .pure), (19, .stable), (20, .pure), (21, .stable), (22, .pure), (23, .stable), (24, .pure), (25, .pure), (26, .stable), (27, .pure), (28, .stable), (29, .pure), (30, .last)] hO fun Kh s hO => ?_
    refine au ?_
    obtain ⟨lA, H⟩ := H
    obtain ⟨lB, H⟩ := H
    refine GoQ.pure rfl (J01 Try.underlying23 ti31 rfl rfl lA (ltn (t2neq 0 hO rfl) lB) (t2some 0 hO rfl lA lB)) rfl rfl ?_
    refine GoQ.stable rfl (t2head 0 hO rfl lA lB Try.underlying31 rfl rfl) rfl rfl ?_
    refine au ?_
    obtain ⟨lC, H⟩ := H
    obtain ⟨lD, H⟩ := H
    refine GoQ.pure rfl (J01 Try.underlying23 ti31 rfl rfl lC (ltn (t2neq 0 hO rfl) lD) (t2some 0 hO rfl lC lD)) rfl rfl ?_
    refine GoQ.stable rfl (t2head 0 hO rfl lC lD Try.underlying31 rfl rfl) rfl rfl ?_
    refine sxl hO ay.u H.1 H.2.1 ?_
    have Ki := H.1
    have Kj := H.2.1
    replace H := H.2.2
    obtain ⟨oR, H⟩ := H
    obtain ⟨oS, H⟩ := H
    refine GoQ.pure rfl (J01 Try.underlying31 ti3 rfl rfl oR oS (t2isome 0 hO rfl lC lD oR oS)) rfl rfl ?_
    refine GoQ.stable rfl (t2Int 0 hO rfl lC lD oR oS Try.underlying3 rfl rfl) rfl rfl ?_
    refine sxls hO ao.u H.1 H.2.1 fun Kk Kl zM => ?_
    refine sxl hO aW.u H.2.2.1 H.2.2.2.1 ?_
    refine sxl hO zM.u H.2.2.2.2.1 H.2.2.2.2.2.1 ?_
    have Km := H.1
    have Kn := H.2.1
    have Ko := H.2.2.1
    have Kq := H.2.2.2.1
    have Kr := H.2.2.2.2.1
    have Ks := H.2.2.2.2.2.1
    replace H := H.2.2.2.2.2.2
    obtain ⟨oT, H⟩ := H
    obtain ⟨oU, H⟩ := H
    refine GoQ.pure rfl (J01 Try.underlying31 ti3 rfl rfl oT oU (t2isome 0 hO rfl lA lB oT oU)) rfl rfl ?_
    have zz := t2st (r := Rp.int .i64) (hf := Fl.i) rfl 0 hO rfl lA lB oT oU (v := .int .i64 (ix (ix r369.Right (ix (ix kC (dJ : Int)) (ix r369.Prefix (gM : Int)))) (ix r369.Last (gM : Int)))) (u := (ix (ix r369.Right (ix (ix kC (dJ : Int)) (ix r369.Prefix (gM : Int)))) (ix r369.Last (gM : Int)))) rfl rfl
    obtain ⟨Kt, u9, vb⟩ := zz
    refine GoQ.last rfl (vb Try.underlying3 rfl ti3 (by exact rfl) (by exact rfl)) rfl rfl ?_
    refine nst u9 fun s hO => ?_
    refine sinc (natbd u7 ar.bd) ?_
    refine au ?_
    exact hX11 _ H _ _ ⟨agr, hO, cz.u, dN.u, bz.u, ar.u, ay.u, aW.u, ao.u, bc.u, fr⟩
   refine sinc (natbd oE ao.bd) ?_
   refine au ?_
   refine sfr 9 hO fun s hO => ?_
   refine sfr 9 hO fun s hO => ?_
   refine sfr 9 hO fun s hO => ?_
   refine sfr 9 hO fun s hO => ?_
   refine sfr 9 hO fun s hO => ?_
   refine sfr 9 hO fun s hO => ?_
   refine sfr 6 hO fun s hO => ?_
   refine sfr 9 hO fun s hO => ?_
   refine sfr 9 hO fun s hO => ?_
   refine sfr 9 hO fun s hO => ?_
   exact hX9 _ H _ _ ⟨_, agr, hO, cz.u, dN.u, bz.u, ar.u, ay.u, aW.u, ao.u, bc.u, fr⟩
  refine au ?_
  refine zo (J0E Try.underlying81 rfl (Els.neqW cz.u hO 7 rfl)) ?_
  obtain ⟨ED, H⟩ := H
  obtain ⟨EE, H⟩ := H
  have zz := t2makeS (m := (d_80.length : Int)) (e' := 4) Fl.bool Try.underlying40 ti22 hO ED EE (by decide)
  obtain ⟨Ku, ke, vc, Hh, vd, hz607⟩ := zz
  refine zg (vd rfl rfl) ?_
  refine nst vc fun s hO => ?_
  refine au ?_
  refine zo (J0E Try.underlying81 rfl (Els.neqW cz.u hO 8 rfl)) ?_
  refine au ?_
  refine sdr [9] hO fun s hO => ?_
  refine lw H (fun (d5, d_610) σ w => ∃ mG, (fun Z => agrees σ [(2, .pointer (some ⟨B365, 0, none⟩)), (5, .pointer (some ⟨B373, 0, none⟩)), (7, .int .i64 (r369.Elems.length : Int)), (8, .pointer (some ⟨gh, 0, none⟩)), (13, .slice ke d_80.length d_80.length), (162, .slice p83 n85 c84), (163, .int .i64 (d_80.length : Int)), (164, .int .i64 (d5 : Int))] ∧ Owns w0.heap.size w Z A ∧ Els (rppart) (bl Z ++ A) w dh d_80 ∧ ISl (Rp.sl (Rp.int .i64)) (bl Z ++ A) w cD cE r369.Gens ∧ ISl (Rp.sl (Rp.int .i64)) (bl Z ++ A) w b7 b8 r369.Elems ∧ ISl (Rp.int .i64) (bl Z ++ A) w bT bU r369.Prefix ∧ ISl (Rp.int .i64) (bl Z ++ A) w cG cH r369.Last ∧ ISl (Rp.sl (Rp.int .i64)) (bl Z ++ A) w bC bD r369.Right ∧ ISl (rpRule) (bl Z ++ A) w co cp r369.Rules ∧ Fr (bl []) w0 (bl Z) w) [t2 Fl.bool 22 4 ke d_80.length d_80.length mG d_610, .blk gh (.cells #[.int .i64 (d_86.length : Int), .slice (some ⟨eP, 0, none⟩) r369.Elems.length r369.Elems.length, .slice (some ⟨fe, 0, none⟩) r369.Elems.length r369.Elems.length, .slice dE dI dF, .slice none 0 0, .slice (some ⟨fq, 0, none⟩) r369.Elems.length r369.Elems.length] 33 (0, 0)), t1 Fl.bool 4 (some ⟨fq, 0, none⟩) r369.Elems.length r369.Elems.length iB, t1 Fl.str 9 (some ⟨fe, 0, none⟩) r369.Elems.length r369.Elems.length gE, t2 Fl.i 31 3 (some ⟨eP, 0, none⟩) r369.Elems.length r369.Elems.length i5 jz, t1 Fl.i 3 dE dI dF iA, .blk B373 (.cells #[.int .i64 r369.Points, .bool r369.Monoid, .slice cD r369.Gens.length cE, .slice b7 r369.Elems.length b8, .slice bT r369.Prefix.length bU, .slice cG r369.Last.length cH, .slice bC r369.Right.length bD, .slice co r369.Rules.length cp, .int .i64 r369.Done] 123 (0, 0)), .blk B365 (.cells #[.int .i64 (0 : Int), .slice none 0 0, .slice none 0 0, .slice none 0 0, .slice none 0 0, .slice none 0 0] 33 (0, 0)), .row 120 3 p83 n85 c84 dh, .blk B2 (.cells #[.int .i64 (0 : Int), .slice none 0 0, .slice none 0 0, .slice none 0 0, .slice none 0 0, .slice none 0 0] 33 (0, 0))]) ⟨_, agr, hO, cz.u, bz.u, ar.u, ay.u, aW.u, ao.u, bc.u, fr⟩ ?_
  refine fun X12 => p1 fun d5 d_610 => fun H hX12 σ Kv => e1 fun mG => d1 fun hag => d1 fun hO => d1 fun cz => d1 fun bz => d1 fun ar => d4 fun ay aW ao bc hB => ?_
  dsimp only at H
  refine Go1.keep _ hag ?_
  revert hO; repeat (rename Owns _ _ _ _ => q; clear q)
  intro hO; repeat (rename Sq _ _ _ _ _ _ => q; clear q)
  refine scm H (fun ve H => ?_) fun ve H => ?_
  ·refine au ?_
   obtain ⟨oV, H⟩ := H
   obtain ⟨oW, H⟩ := H
   refine zo (J01 Try.underlying81 ti120 rfl rfl oV (ltn (Els.neqW cz hO 8 rfl) oW) (Els.psomeW cz hO 8 rfl oV oW)) ?_
   have zN := oldAggR 8 hO rfl (r := rppart) cz oV oW
   obtain ⟨Hi, zO, hR618, vg⟩ := zN
   replace hR618 := J5B zO hR618
   obtain ⟨vh, vi, hcs620, kD⟩ := hR618
   subst hcs620
   refine zs (vg Try.underlying120 rfl ti120 rfl) ?_
   refine sal hO fun Kw B625 s hO => ?_
   refine sba 0 hO fun Kx s hO => ?_
   refine smk Fl.bool H hO fun Ky EF s hO => ?_
   replace H := H.2.2
   obtain ⟨oX, H⟩ := H
   obtain ⟨oY, H⟩ := H
   refine zo (J01 Try.underlying40 ti22 rfl rfl oX (ltn (t2neq 2 hO rfl) oY) (t2some 2 hO rfl oX oY)) ?_
   refine op1 0 hO fun Hj s hO zP => ?_
   refine sfr 2 hO fun s hO => ?_
   refine sfr 1 hO fun s hO => ?_
   have zz := t2put (hf := Fl.bool) hO zP.u oX oY
   obtain ⟨Kz, vj, vk⟩ := zz
   refine zg (vk Try.underlying22 rfl ti22 (by exact rfl) (by exact rfl)) ?_
   refine nst vj fun s hO => ?_
   refine sln0 ?_
   refine au ?_
   refine lw H (fun (mm, rR) σ w => (fun Z => agrees σ [(2, .pointer (some ⟨B365, 0, none⟩)), (5, .pointer (some ⟨B373, 0, none⟩)), (7, .int .i64 (r369.Elems.length : Int)), (8, .pointer (some ⟨gh, 0, none⟩)), (13, .slice ke d_80.length d_80.length), (14, .int .i64 (d5 : Int)), (15, .pointer (some ⟨B625, 0, none⟩)), (162, .slice p83 n85 c84), (163, .int .i64 (d_80.length : Int)), (164, .int .i64 (d5 : Int)), (175, .slice b7 r369.Elems.length b8), (176, .int .i64 (r369.Elems.length : Int)), (177, .int .i64 (mm : Int))] ∧ Owns w0.heap.size w Z A ∧ Els (rppart) (bl Z ++ A) w dh d_80 ∧ ISl (Rp.sl (Rp.int .i64)) (bl Z ++ A) w cD cE r369.Gens ∧ ISl (Rp.sl (Rp.int .i64)) (bl Z ++ A) w b7 b8 r369.Elems ∧ ISl (Rp.int .i64) (bl Z ++ A) w bT bU r369.Prefix ∧ ISl (Rp.int .i64) (bl Z ++ A) w cG cH r369.Last ∧ ISl (Rp.sl (Rp.int .i64)) (bl Z ++ A) w bC bD r369.Right ∧ ISl (rpRule) (bl Z ++ A) w co cp r369.Rules ∧ ISl (Rp.bool) (bl Z ++ A) w vh vi ((ix d_80 (d5 : Int)).final) ∧ Fr (bl []) w0 (bl Z) w) [t2 Fl.bool 22 4 ke d_80.length d_80.length (hup mG (d5 : Int).toNat (EF, r369.Elems.length)) rR, .blk B625 (.cells #[.int .i64 ((ix d_80 (d5 : Int)).start), .slice vh (((ix d_80 (d5 : Int)).final).length) vi, .int .i64 ((ix d_80 (d5 : Int)).shift)] 120 (0, 0)), .blk gh (.cells #[.int .i64 (d_86.length : Int), .slice (some ⟨eP, 0, none⟩) r369.Elems.length r369.Elems.length, .slice (some ⟨fe, 0, none⟩) r369.Elems.length r369.Elems.length, .slice dE dI dF, .slice none 0 0, .slice (some ⟨fq, 0, none⟩) r369.Elems.length r369.Elems.length] 33 (0, 0)), t1 Fl.bool 4 (some ⟨fq, 0, none⟩) r369.Elems.length r369.Elems.length iB, t1 Fl.str 9 (some ⟨fe, 0, none⟩) r369.Elems.length r369.Elems.length gE, t2 Fl.i 31 3 (some ⟨eP, 0, none⟩) r369.Elems.length r369.Elems.length i5 jz, t1 Fl.i 3 dE dI dF iA, .blk B373 (.cells #[.int .i64 r369.Points, .bool r369.Monoid, .slice cD r369.Gens.length cE, .slice b7 r369.Elems.length b8, .slice bT r369.Prefix.length bU, .slice cG r369.Last.length cH, .slice bC r369.Right.length bD, .slice co r369.Rules.length cp, .int .i64 r369.Done] 123 (0, 0)), .blk B365 (.cells #[.int .i64 (0 : Int), .slice none 0 0, .slice none 0 0, .slice none 0 0, .slice none 0 0, .slice none 0 0] 33 (0, 0)), .row 120 3 p83 n85 c84 dh, .blk B2 (.cells #[.int .i64 (0 : Int), .slice none 0 0, .slice none 0 0, .slice none 0 0, .slice none 0 0, .slice none 0 0] 33 (0, 0))]) ⟨agr, hO, cz.u, bz.u, ar.u, ay.u, aW.u, ao.u, bc.u, kD.u, fr⟩ ?_
   refine fun X13 => p1 fun mm rR => fun H hX13 σ KA => d1 fun hag => d1 fun hO => d1 fun cz => d1 fun bz => d1 fun ar => d1 fun ay => d4 fun aW ao bc kD hB => ?_
   dsimp only at H
   refine Go1.keep _ hag ?_
   revert hO; repeat (rename Owns _ _ _ _ => q; clear q)
   intro hO; repeat (rename Sq _ _ _ _ _ _ => q; clear q)
   refine scm H (fun vm H => ?_) fun vm H => ?_
   ·refine sxls hO ar H.1 H.2.1 fun KB KC zQ => ?_
    refine au ?_
    refine drw 1 [(0, .pure), (1, .pure), (2, .pure), (3, .stable), (4, .pure), (5, .stable), (6, .pure), (7, .loud), (8, .pure), (9, .last)] hO fun KD s hO => ?_
    refine au ?_
    have KE := H.1
    have KF := H.2.1
    replace H := H.2.2
    obtain ⟨lE, H⟩ := H
    obtain ⟨lF, H⟩ := H
    refine GoQ.pure rfl (J01 Try.underlying40 ti22 rfl rfl lE (ltn (t2neq 0 hO rfl) lF) (t2some 0 hO rfl lE lF)) rfl rfl ?_
    refine GoQ.stable rfl (t2head 0 hO rfl lE lF Try.underlying22 rfl rfl) rfl rfl ?_
    refine sag 1 hO ?_
    refine au ?_
    refine zcq rfl (J00 body103 rfl (J10 (p := (⟨((ix d_80 (d5 : Int)).start), (ix d_80 (d5 : Int)).final, ((ix d_80 (d5 : Int)).shift)⟩ : part)) hO.lt kD.u zQ.u H)) fun _ KG => e1 fun vn => sq0 hO fun s hO => fun H => ?_
    obtain ⟨o3, H⟩ := H
    obtain ⟨o4, H⟩ := H
    refine GoQ.pure rfl (J01 Try.underlying22 ti4 rfl rfl o3 o4 (t2isome 0 hO rfl lE lF o3 o4)) rfl rfl ?_
    have zz := t2st (r := Rp.bool) (hf := Fl.bool) rfl 0 hO rfl lE lF o3 o4 (v := .bool vn) (u := vn) rfl rfl
    obtain ⟨KH, vo, vr⟩ := zz
    refine GoQ.last rfl (vr Try.underlying4 rfl ti4 (by exact rfl) (by exact rfl)) rfl rfl ?_
    refine nst vo fun s hO => ?_
    refine sinc (natbd vm ar.bd) ?_
    refine au ?_
    exact hX13 _ H _ _ ⟨agr, hO, cz.u, bz.u, ar.u, ay.u, aW.u, ao.u, bc.u, kD.u, fr⟩
   refine sinc (natbd ve cz.bd) ?_
   refine au ?_
   refine sdr [1] hO fun s hO => ?_
   exact hX12 _ H _ _ ⟨_, agr, hO, cz.u, bz.u, ar.u, ay.u, aW.u, ao.u, bc.u, fr⟩
  refine sag 1 hO ?_
  refine sba 7 hO fun KI s hO => ?_
  refine au ?_
  refine Go1.retC3V Try.func63 rfl rfl (rlb 7 hO) (show _ = .slice ke d_80.length d_80.length from rfl) (show _ = .int .i64 (0 : Int) from rfl) ?_
  refine hR363 _ _ ?_
  refine sal hO fun KJ B659 s hO => ?_
  refine sba 0 hO fun KK s hO => ?_
  refine au ?_
  refine zo (fun w => opB (J2W rfl rfl w) (ndT (by decide))) ?_
  refine au ?_
  obtain ⟨lG, H⟩ := H
  obtain ⟨lH, H⟩ := H
  refine zo (J01 Try.underlying40 ti22 rfl rfl lG (ltn (t2neq 1 hO rfl) lH) (t2some 1 hO rfl lG lH)) ?_
  refine zs (t2head 1 hO rfl lG lH Try.underlying22 rfl rfl) ?_
  have Hk := t2lend 1 hO rfl
  have Hl := t2neq 1 hO rfl
  have zR := t2lendIn 1 hO rfl lG lH
  have hOc667 := hO.drop 1
  refine zcr (J00 body69 rfl (J1A hOc667.lt zR H)) fun _ KL => e4 fun EG GY vu vw => sc1 hO fun s hO => fun H => ?_
  refine sbs 1 hO fun KM s hO => ?_
  refine sag 1 hO ?_
  refine sba 11 hO fun KN s hO => ?_
  refine au ?_
  refine sfz2 6 hO fun s hO zS zT => ?_
  refine sfz 5 hO fun s hO zU zV => ?_
  refine sfz 5 hO fun s hO zW zX => ?_
  refine sfz 0 hO fun s hO zY z3 => ?_
  refine sfz 3 hO fun s hO z4 z5 => ?_
  have Hm := t2lendIn 1 hO rfl lG lH
  refine sfz2 1 hO fun s hO z6 z7 => ?_
  refine Go1.retC3 Try.func25 rfl rfl (rlb 5 hO) ⟨((⟨(d_86.length : Int), jz, gE, iA, EG, iB⟩ : Syntactic)), _, _, _, _, _, _, _, _, _, _, _, _, _, _, ?_, frs, zS.r, zU.r, zW.r, zY.r, z4.r, z6.r, H⟩
  exact (congrArg (fun l => Value.tuple (List.toArray l)) (J05 (congrArg (fun l => Value.agg (List.toArray l)) (J05 rfl (J05 (congrArg (fun nn => Value.slice (some ⟨eP, 0, none⟩) nn r369.Elems.length) zT) (J05 (congrArg (fun nn => Value.slice (some ⟨fe, 0, none⟩) nn r369.Elems.length) zV) (J05 (congrArg (fun nn => Value.slice dE nn dF) zX) (J05 (congrArg (fun nn => Value.slice vu nn vw) z3) (J05 (congrArg (fun nn => Value.slice (some ⟨fq, 0, none⟩) nn r369.Elems.length) z5) rfl))))))) (J05 (congrArg (fun nn => Value.slice ke nn d_80.length) z7) (J05 rfl rfl))))
 refine au ?_
 refine zo (J06 Try.underlying33 ti33 (pl := [(0, 1), (1, 1), (2, 1), (3, 1), (4, 1), (5, 1)]) (vs := []) (cs := #[.int .i64 (0 : Int), .slice none 0 0, .slice none 0 0, .slice none 0 0, .slice none 0 0, .slice none 0 0]) (by kernel_rfl) rfl (by kernel_rfl)) ?_
 refine sba 1 hO fun KO s hO => ?_
 refine au ?_
 refine Go1.retC3V Try.func63 rfl rfl (rlb 1 hO) (show _ = .slice none 0 0 from rfl) (show _ = .int .i64 r370 from rfl) ?_
 refine hR363 _ _ ?_
 refine sal hO fun KP B689 s hO => ?_
 refine sba 0 hO fun KQ s hO => ?_
 refine au ?_
 refine zo (fun w => opB (J2W rfl rfl w) (ndF oD)) ?_
 refine au ?_
 refine zo (J06 Try.underlying33 ti33 (pl := [(0, 1), (1, 1), (2, 1), (3, 1), (4, 1), (5, 1)]) (vs := []) (cs := #[.int .i64 (0 : Int), .slice none 0 0, .slice none 0 0, .slice none 0 0, .slice none 0 0, .slice none 0 0]) (by kernel_rfl) rfl (by kernel_rfl)) ?_
 refine sba 5 hO fun KR s hO => ?_
 refine au ?_
 refine Go1.retC3 Try.func25 rfl rfl (rlb 5 hO) ⟨((⟨(0 : Int), ([] : List (List Int)), ([] : List Str), ([] : List Int), ([] : List Bool), ([] : List Bool)⟩ : Syntactic)), _, _, _, _, _, _, _, _, _, _, _, _, _, _, ?_, frs, (ISl.null _ _ _), (ISl.null _ _ _), (ISl.null _ _ _), (ISl.null _ _ _), (ISl.null _ _ _), (ISl.null _ _ _), H⟩
 exact rfl
theorem body41 : Body Try.prog 41 := ⟨Try.f41, Try.func41, rfl, by kernel_rfl⟩
theorem J3h {A : List Nat} {w0 : World} {w_ : Str} {letters : Int} (hA : ∀ b ∈ A, b < w0.heap.size) (dk : w_.length ≤ mx) {K : Bool → Prop} (H : J1E w_ letters K) :
    CallsV Try.prog 41 #[.string (gstr w_), .int .i64 letters] w0 (fun v w' => ∃ (r0 : Bool), v = .bool r0 ∧ Same w0 w' ∧ K r0) := by
 refine CallsV.of (l := [.string (gstr w_), .int .i64 letters]) Try.func41 rfl Try.ntmps41 rfl ?_
 have hO := Owns.start hA
 have hB := Fr.refl (bl []) w0
 unfold J1E at H
 refine au ?_
 refine zcr (J00 body59 rfl (J1S hO.lt H)) fun _ w2 => e1 fun r1 => sc0 hO fun s hO => fun H => ?_
 cases r1
 ·refine au ?_
  refine Go1.ret1 Try.func41 rfl ⟨_, ?_, frs, (iF H)⟩
  exact rfl
 refine au ?_
 refine zo (J41 Try.underlying9 rfl) ?_
 replace H := (iT H)
 replace H := H dk
 refine scm H (fun h3 H => ?_) fun h3 H => ?_
 ·refine au ?_
  refine Go1.ret1 Try.func41 rfl ⟨_, ?_, frs, H⟩
  exact rfl
 refine au ?_
 refine lw H (fun i1_5 σ w => (fun Z => agrees σ [(0, .string (gstr w_)), (1, .int .i64 letters), (5, .int .i64 (i1_5 : Int))] ∧ Owns w0.heap.size w Z A ∧ Fr (bl []) w0 (bl Z) w) []) ⟨agr, hO, fr⟩ ?_
 refine fun X1 => fun i1_5 => fun H hX1 σ w4 => d2 fun hag hO hB => ?_
 refine Go1.keep _ hag ?_
 revert hO; repeat (rename Owns _ _ _ _ => q; clear q)
 intro hO; repeat (rename Sq _ _ _ _ _ _ => q; clear q)
 refine au ?_
 refine zo (J41 Try.underlying9 rfl) ?_
 refine scm H (fun h6 H => ?_) fun h6 H => ?_
 ·refine au ?_
  obtain ⟨h7, H⟩ := H
  obtain ⟨h8, H⟩ := H
  refine zo (J1Q Try.underlying9 rfl rfl h7 h8) ?_
  refine scm H (fun h9 H => ?_) fun h9 H => ?_
  ·refine au ?_
   refine Go1.ret1 Try.func41 rfl ⟨_, ?_, frs, H⟩
   exact rfl
  refine au ?_
  obtain ⟨h10, H⟩ := H
  obtain ⟨h11, H⟩ := H
  refine zo (J1Q Try.underlying9 rfl rfl h10 h11) ?_
  refine zo (J5l rfl rfl rfl) ?_
  refine zo (J35 Try.underlying5 Try.underlying3 rfl rfl) ?_
  refine scm H (fun h12 H => ?_) fun h12 H => ?_
  ·refine au ?_
   refine Go1.ret1 Try.func41 rfl ⟨_, ?_, frs, H⟩
   exact rfl
  refine sinc (natbd h6 dk) ?_
  refine au ?_
  exact hX1 _ H _ _ ⟨agr, hO, fr⟩
 refine au ?_
 refine Go1.ret1 Try.func41 rfl ⟨_, ?_, frs, H⟩
 exact rfl
end Sg
