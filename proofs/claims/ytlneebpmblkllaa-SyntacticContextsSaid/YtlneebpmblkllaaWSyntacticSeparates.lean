/- -/
import Derived.Test.YtlneebpmblkllaaLv
import Derived.Test.YtlneebpmblkllaaMr
import Derived.Test.YtlneebpmblkllaaFnx
import Derived.Test.YtlneebpmblkllaaVd
import Derived.Test.YtlneebpmblkllaaWSyntacticRefuses
namespace Sg
open Go Go.RowKit Go.Proofs
set_option linter.unusedVariables false
set_option linter.unusedSimpArgs false
set_option maxRecDepth 100000
set_option maxHeartbeats 4000000
theorem body79 : Body Try.prog 79 := ⟨Try.f79, Try.func79, rfl, by kernel_rfl⟩
theorem J0k {A : List Nat} {w0 : World} {ba bg aQ aS bC : Option Addr} {bc bh aR aT bD gn gq : Nat} {a0 : Syntactic} {a1 a2 : Int} {a3 a4 : List (Int × Str)} (hA : ∀ b ∈ A, b < w0.heap.size) (bu : ISl (Rp.sl (Rp.int .i64)) A w0 ba bc a0.Table) (aq : ISl (Rp.str) A w0 bg bh a0.Words) (cB : ISl (Rp.int .i64) A w0 aQ aR a0.Images) (ca : ISl (Rp.bool) A w0 aS aT a0.Accept) (cQ : ISl (Rp.bool) A w0 bC bD a0.Plus) (xL : IMp (fun a : Int => Value.int .i64 a) (fun a : List UInt8 => Value.string (gstr a)) A w0 gn a3) (xM : IMp (fun a : Int => Value.int .i64 a) (fun a : List UInt8 => Value.string (gstr a)) A w0 gq a4) {K : Int → Int → Bool → Prop} (H : J03 a0 a1 a2 a3 a4 K) :
    CallsV Try.prog 79 #[.agg #[.int .i64 a0.Letters, .slice ba a0.Table.length bc, .slice bg a0.Words.length bh, .slice aQ a0.Images.length aR, .slice aS a0.Accept.length aT, .slice bC a0.Plus.length bD], .int .i64 a1, .int .i64 a2, .map (some gn), .map (some gq)] w0 (fun v w' => ∃ (r0 r1 : Int) (r2 : Bool), v = .tuple #[.int .i64 r0, .int .i64 r1, .bool r2] ∧ Same w0 w' ∧ K r0 r1 r2) := by
 refine CallsV.of (l := [.agg #[.int .i64 a0.Letters, .slice ba a0.Table.length bc, .slice bg a0.Words.length bh, .slice aQ a0.Images.length aR, .slice aS a0.Accept.length aT, .slice bC a0.Plus.length bD], .int .i64 a1, .int .i64 a2, .map (some gn), .map (some gq)]) Try.func79 rfl Try.ntmps79 rfl ?_
 have hO := Owns.start hA
 have hB := Fr.refl (bl []) w0
 unfold J03 at H
 refine sbx hO fun w1 B2 s hO => ?_
 refine au ?_
 have zz := (xL.o hO)
 obtain ⟨es4, cl5, hx6, hok7⟩ := zz
 have zz := omrange Try.underlying99 hO hx6.u
 obtain ⟨w8, B9, uC, D8, uD⟩ := zz
 refine zg (uD rfl) ?_
 refine nst uC fun s hO => ?_
 refine au ?_
 refine lw H (fun (k1_15, k1_16, b1_17, m1_18) σ w => ∃ sn19, (fun Z => agrees σ [(1, .int .i64 a1), (2, .int .i64 a2), (4, .map (some gq)), (5, .pointer (some ⟨B2, 0, none⟩)), (10, .int .i64 k1_15), (11, .int .i64 k1_16), (12, .bool b1_17), (18, .pointer (some ⟨B9, 0, none⟩))] ∧ Owns w0.heap.size w Z A ∧ IMx (bl Z ++ A) w gn es4 cl5 ∧ ItL (fun a : Int => Value.int .i64 a) (fun a : List UInt8 => Value.string (gstr a)) es4 sn19 m1_18 ∧ Fr (bl []) w0 (bl Z) w) [.blk B9 (.mapIter (some gn) cl5 sn19 cl5), .blk B2 (.cells #[.int .i64 a0.Letters, .slice ba a0.Table.length bc, .slice bg a0.Words.length bh, .slice aQ a0.Images.length aR, .slice aS a0.Accept.length aT, .slice bC a0.Plus.length bD] 33 (0, 0))]) ⟨_, agr, hO, hx6.u, (ItL.start hok7), fr⟩ ?_
 refine fun X1 => p3 fun k1_15 k1_16 b1_17 m1_18 => fun H hX1 σ w14 => e1 fun sn19 => d4 fun hag hO hx6 hL20 hB => ?_
 dsimp only at H
 refine Go1.keep _ hag ?_
 revert hO; repeat (rename Owns _ _ _ _ => q; clear q)
 intro hO; repeat (rename Sq _ _ _ _ _ _ => q; clear q)
 refine au ?_
 by_cases h21 : m1_18 = []
 ·refine zs (omnextEnd (j := 0) hok7 hO rfl hx6 hL20 h21 rfl) ?_
  refine au ?_
  refine Go1.ret3 Try.func79 rfl ⟨_, _, _, ?_, frs, (ifp h21 H)⟩
  exact rfl
 have zz := omnext (j := 0) hok7 hO rfl hx6 hL20 h21 Try.prog
 obtain ⟨q22, ky23, va24, sn25, w26, hq27, hL28, xN, uE, uF⟩ := zz
 replace H := (ifn h21 H)
 replace H := H q22 ky23 va24 hq27
 refine zg (uF rfl) ?_
 refine nst uE fun s hO => ?_
 refine au ?_
 refine zs (fun w_ hw_ => omentry (j := 0) hok7 hO rfl hx6.u xN rfl hw_) ?_
 refine au ?_
 refine drw 0 [(0, .pure), (1, .stable), (2, .pure), (3, .stable), (4, .pure), (5, .pure), (6, .stable), (7, .pure), (8, .pure), (9, .stable), (10, .pure), (11, .stable), (12, .pure), (13, .stable), (14, .pure), (15, .stable), (16, .pure), (17, .pure), (18, .stable), (19, .pure), (20, .pure), (21, .stable), (22, .pure), (23, .stable), (24, .pure), (25, .pure)] hO fun w32 s hO => ?_
 refine sxls hO bu.u H.1 H.2.1 fun p33 c34 xO => ?_
 refine sxl hO xO.u H.2.2.1 H.2.2.2.1 ?_
 refine sxls hO bu.u H.2.2.2.2.1 H.2.2.2.2.2.1 fun p36 c37 dQ => ?_
 refine sxls hO bu.u H.2.2.2.2.2.2.1 H.2.2.2.2.2.2.2.1 fun p39 c40 lJ => ?_
 refine sxl hO lJ.u H.2.2.2.2.2.2.2.2.1 H.2.2.2.2.2.2.2.2.2.1 ?_
 refine sxls hO bu.u H.2.2.2.2.2.2.2.2.2.2.1 H.2.2.2.2.2.2.2.2.2.2.2.1 fun p42 c43 dI => ?_
 refine au ?_
 have zz := (xM.o hO)
 obtain ⟨es45, cl46, hx47, hok48⟩ := zz
 have zz := omrange Try.underlying99 hO hx47.u
 obtain ⟨w49, B50, uG, D9, uH⟩ := zz
 refine zg (uH rfl) ?_
 refine nst uG fun s hO => ?_
 refine au ?_
 refine lw H.2.2.2.2.2.2.2.2.2.2.2.2 (fun (k2_56, k2_57, b2_58, m2_59) σ w => ∃ sn60, (fun Z => agrees σ [(1, .int .i64 a1), (2, .int .i64 a2), (4, .map (some gq)), (5, .pointer (some ⟨B2, 0, none⟩)), (10, .int .i64 k2_56), (11, .int .i64 k2_57), (12, .bool b2_58), (13, .int .i64 ky23), (14, .slice p36 ((ix a0.Table (ix (ix a0.Table ky23) a1)).length) c37), (15, .slice p42 ((ix a0.Table (ix (ix a0.Table ky23) a2)).length) c43), (18, .pointer (some ⟨B9, 0, none⟩)), (48, .pointer (some ⟨B50, 0, none⟩))] ∧ Owns w0.heap.size w Z A ∧ IMx (bl Z ++ A) w gn es4 cl5 ∧ ISl (Rp.int .i64) (bl Z ++ A) w p36 c37 (ix a0.Table (ix (ix a0.Table ky23) a1)) ∧ ISl (Rp.int .i64) (bl Z ++ A) w p42 c43 (ix a0.Table (ix (ix a0.Table ky23) a2)) ∧ IMx (bl Z ++ A) w gq es45 cl46 ∧ ItL (fun a : Int => Value.int .i64 a) (fun a : List UInt8 => Value.string (gstr a)) es45 sn60 m2_59 ∧ Fr (bl []) w0 (bl Z) w) [.blk B50 (.mapIter (some gq) cl46 sn60 cl46), .blk B9 (.mapIter (some gn) cl5 sn25 cl5), .blk B2 (.cells #[.int .i64 a0.Letters, .slice ba a0.Table.length bc, .slice bg a0.Words.length bh, .slice aQ a0.Images.length aR, .slice aS a0.Accept.length aT, .slice bC a0.Plus.length bD] 33 (0, 0))]) ⟨_, agr, hO, hx6.u, dQ.u, dI.u, hx47.u, (ItL.start hok48), fr⟩ ?_
 refine fun X2 => p3 fun k2_56 k2_57 b2_58 m2_59 => fun H hX2 σ w55 => e1 fun sn60 => d1 fun hag => d1 fun hO => d1 fun hx6 => d4 fun dQ dI hx47 hL61 hB => ?_
 dsimp only at H
 refine Go1.keep _ hag ?_
 revert hO; repeat (rename Owns _ _ _ _ => q; clear q)
 intro hO; repeat (rename Sq _ _ _ _ _ _ => q; clear q)
 refine au ?_
 by_cases h62 : m2_59 = []
 ·refine zs (omnextEnd (j := 0) hok48 hO rfl hx47 hL61 h62 rfl) ?_
  refine au ?_
  refine sdr [0] hO fun s hO => ?_
  exact hX1 _ (ifp h62 H) _ _ ⟨_, agr, hO, hx6.u, hL28, fr⟩
 have zz := omnext (j := 0) hok48 hO rfl hx47.u hL61 h62 Try.prog
 obtain ⟨q63, ky64, va65, sn66, w67, hq68, hL69, xP, jQ, uI⟩ := zz
 replace H := (ifn h62 H)
 replace H := H q63 ky64 va65 hq68
 refine zg (uI rfl) ?_
 refine nst jQ fun s hO => ?_
 refine au ?_
 refine zs (fun w_ hw_ => omentry (j := 0) hok48 hO rfl hx47.u xP rfl hw_) ?_
 refine au ?_
 refine drw 0 [(0, .pure), (1, .stable), (2, .pure), (3, .pure), (4, .pure), (5, .stable), (6, .pure), (7, .stable), (8, .pure), (9, .stable), (10, .pure), (11, .pure), (12, .pure), (13, .stable), (14, .pure), (15, .stable), (16, .pure), (17, .pure), (18, .pure), (19, .pure), (20, .pure), (21, .pure), (22, .pure), (23, .pure), (24, .pure), (25, .pure), (26, .pure), (27, .pure), (28, .pure), (29, .pure), (30, .pure), (31, .pure), (32, .pure), (33, .pure), (34, .pure), (35, .pure)] hO fun w73 s hO => ?_
 refine sxl hO dQ.u H.1 H.2.1 ?_
 have h74 := H.1
 have h75 := H.2.1
 have h76 := H.2.2.1
 have h77 := H.2.2.2.1
 refine sxb hO ca.u H.2.2.1 H.2.2.2.1 H.2.2.2.2 (fun h78 H => ?_) fun h78 H => ?_
 ·refine sxl hO dI.u H.1 H.2.1 ?_
  have h79 := H.1
  have h80 := H.2.1
  have h81 := H.2.2.1
  have h82 := H.2.2.2.1
  refine sxb hO ca.u H.2.2.1 H.2.2.2.1 H.2.2.2.2 (fun h83 H => ?_) fun h83 H => ?_
  ·refine GoQ.pure rfl (J0Z Try.underlying4 rfl rfl) rfl rfl ?_
   refine au ?_
   exact hX2 _ H _ _ ⟨_, agr, hO, hx6.u, dQ.u, dI.u, hx47.u, hL69, fr⟩
  refine GoQ.pure rfl (J0Z Try.underlying4 rfl rfl) rfl rfl ?_
  refine au ?_
  cases b2_58
  ·refine au ?_
   exact hX2 _ (iF H) _ _ ⟨_, agr, hO, hx6.u, dQ.u, dI.u, hx47.u, hL69, fr⟩
  refine scm (iT H) (fun h84 H => ?_) fun h84 H => ?_
  ·refine au ?_
   exact hX2 _ H _ _ ⟨_, agr, hO, hx6.u, dQ.u, dI.u, hx47.u, hL69, fr⟩
  refine scm H (fun h85 H => ?_) fun h85 H => ?_
  ·refine scm H (fun h86 H => ?_) fun h86 H => ?_
   ·refine au ?_
    exact hX2 _ H _ _ ⟨_, agr, hO, hx6.u, dQ.u, dI.u, hx47.u, hL69, fr⟩
   refine au ?_
   exact hX2 _ H _ _ ⟨_, agr, hO, hx6.u, dQ.u, dI.u, hx47.u, hL69, fr⟩
  refine au ?_
  exact hX2 _ H _ _ ⟨_, agr, hO, hx6.u, dQ.u, dI.u, hx47.u, hL69, fr⟩
 refine sxl hO dI.u H.1 H.2.1 ?_
 have h87 := H.1
 have h88 := H.2.1
 have h89 := H.2.2.1
 have h90 := H.2.2.2.1
 refine sxb hO ca.u H.2.2.1 H.2.2.2.1 H.2.2.2.2 (fun h91 H => ?_) fun h91 H => ?_
 ·refine GoQ.pure rfl (J0Z Try.underlying4 rfl rfl) rfl rfl ?_
  refine au ?_
  cases b2_58
  ·refine au ?_
   exact hX2 _ (iF H) _ _ ⟨_, agr, hO, hx6.u, dQ.u, dI.u, hx47.u, hL69, fr⟩
  refine scm (iT H) (fun h92 H => ?_) fun h92 H => ?_
  ·refine au ?_
   exact hX2 _ H _ _ ⟨_, agr, hO, hx6.u, dQ.u, dI.u, hx47.u, hL69, fr⟩
  refine scm H (fun h93 H => ?_) fun h93 H => ?_
  ·refine scm H (fun h94 H => ?_) fun h94 H => ?_
   ·refine au ?_
    exact hX2 _ H _ _ ⟨_, agr, hO, hx6.u, dQ.u, dI.u, hx47.u, hL69, fr⟩
   refine au ?_
   exact hX2 _ H _ _ ⟨_, agr, hO, hx6.u, dQ.u, dI.u, hx47.u, hL69, fr⟩
  refine au ?_
  exact hX2 _ H _ _ ⟨_, agr, hO, hx6.u, dQ.u, dI.u, hx47.u, hL69, fr⟩
 refine GoQ.pure rfl (J0Z Try.underlying4 rfl rfl) rfl rfl ?_
 refine au ?_
 exact hX2 _ H _ _ ⟨_, agr, hO, hx6.u, dQ.u, dI.u, hx47.u, hL69, fr⟩
theorem body35 : Body Try.prog 35 := ⟨Try.f35, Try.func35, rfl, by kernel_rfl⟩
theorem J2y {A : List Nat} {w0 : World} {ba bg aQ aS bC : Option Addr} {bc bh aR aT bD : Nat} {a0 : Syntactic} {a1 a2 : Int} (hA : ∀ b ∈ A, b < w0.heap.size) (bu : ISl (Rp.sl (Rp.int .i64)) A w0 ba bc a0.Table) (aq : ISl (Rp.str) A w0 bg bh a0.Words) (cB : ISl (Rp.int .i64) A w0 aQ aR a0.Images) (ca : ISl (Rp.bool) A w0 aS aT a0.Accept) (cQ : ISl (Rp.bool) A w0 bC bD a0.Plus) {K : Str → Str → Bool → Prop} (H : J0t a0 a1 a2 K) :
    CallsV Try.prog 35 #[.agg #[.int .i64 a0.Letters, .slice ba a0.Table.length bc, .slice bg a0.Words.length bh, .slice aQ a0.Images.length aR, .slice aS a0.Accept.length aT, .slice bC a0.Plus.length bD], .int .i64 a1, .int .i64 a2] w0 (fun v w' => ∃ (r0 r1 : Str) (r2 : Bool), v = .tuple #[.string (gstr r0), .string (gstr r1), .bool r2] ∧ Same w0 w' ∧ r0.length ≤ mx ∧ r1.length ≤ mx ∧ K r0 r1 r2) := by
 refine CallsV.of (l := [.agg #[.int .i64 a0.Letters, .slice ba a0.Table.length bc, .slice bg a0.Words.length bh, .slice aQ a0.Images.length aR, .slice aS a0.Accept.length aT, .slice bC a0.Plus.length bD], .int .i64 a1, .int .i64 a2]) Try.func35 rfl Try.ntmps35 rfl ?_
 have hO := Owns.start hA
 have hB := Fr.refl (bl []) w0
 unfold J0t at H
 refine sbx hO fun w1 B2 s hO => ?_
 refine scm H (fun h4 H => ?_) fun h4 H => ?_
 ·refine au ?_
  refine Go1.ret3 Try.func35 rfl ⟨_, _, _, ?_, frs, (by decide), (by decide), H⟩
  exact rfl
 refine sbu Fl.i 3 [a1, a2] hO fun w5 p6 s hO => ?_
 refine sln0 ?_
 have hl8 := t1lend 0 hO
 have hn9 := t1n 0 hO
 have hOc10 := hO.drop 0
 refine zcr (J00 body76 (show ([.slice p6 2 2, .int .i64 (a0.Table.length : Int)] : List Value) = [.slice p6 ([a1, a2]).length 2, .int .i64 (a0.Table.length : Int)] from by rw [← hn9]) (J0X hOc10.lt hl8 (H bu.bd))) fun _ w12 => e1 fun r11 => sc0 hO fun s hO => fun H => ?_
 cases r11
 ·refine au ?_
  refine Go1.ret3 Try.func35 rfl ⟨_, _, _, ?_, frs, (by decide), (by decide), (iF H)⟩
  exact rfl
 refine sag 1 hO ?_
 refine zcr (J00 body28 rfl (J1k hO.lt bu.u aq.u cB.u ca.u cQ.u (iT H))) fun _ w14 => e1 fun r13 => sc0 hO fun s hO => fun H => ?_
 refine scm H (fun h15 H => ?_) fun h15 H => ?_
 ·refine sag 1 hO ?_
  refine zcr (J00 body78 rfl (J2S hO.lt bu.u aq.u cB.u ca.u cQ.u H)) fun _ w17 => e3 fun r16 fO fP => sc0 hO fun s hO => d1 fun cC H => ?_
  refine sln0 ?_
  replace H := (H cC.bd)
  obtain ⟨h18, H⟩ := H
  refine zo (J8q rfl rfl (wrap_i64 h18)) ?_
  obtain ⟨h19, H⟩ := H
  refine zo (J2v rfl rfl (wrap_i64 h19)) ?_
  refine au ?_
  refine sdr [0] hO fun s hO => ?_
  refine lw H (fun k1_21 σ w => (fun Z => agrees σ [(1, .int .i64 a1), (2, .int .i64 a2), (3, .pointer (some ⟨B2, 0, none⟩)), (9, .slice fO r16.length fP), (38, .int .i64 (((2 : Int) * (r16.length : Int)) - (1 : Int))), (39, .int .i64 (k1_21 : Int))] ∧ Owns w0.heap.size w Z A ∧ ISl (Rp.mp (fun a : Int => Value.int .i64 a) (fun a : List UInt8 => Value.string (gstr a))) (bl Z ++ A) w fO fP r16 ∧ Fr (bl []) w0 (bl Z) w) [.blk B2 (.cells #[.int .i64 a0.Letters, .slice ba a0.Table.length bc, .slice bg a0.Words.length bh, .slice aQ a0.Images.length aR, .slice aS a0.Accept.length aT, .slice bC a0.Plus.length bD] 33 (0, 0))]) ⟨agr, hO, cC.u, fr⟩ ?_
  refine fun X1 => fun k1_21 => fun H hX1 σ w20 => d3 fun hag hO cC hB => ?_
  refine Go1.keep _ hag ?_
  revert hO; repeat (rename Owns _ _ _ _ => q; clear q)
  intro hO; repeat (rename Sq _ _ _ _ _ _ => q; clear q)
  refine scm H (fun h22 H => ?_) fun h22 H => ?_
  ·refine sln0 ?_
   obtain ⟨h23, H⟩ := H
   refine zo (J2v rfl rfl (wrap_i64 h23)) ?_
   obtain ⟨h24, H⟩ := H
   refine zo (J0l rfl rfl (wrap_i64 h24)) ?_
   by_cases h25 : (0 : Int) < (((k1_21 : Int) - (r16.length : Int)) + (1 : Int))
   ·refine zo (J89 rfl rfl h25) ?_
    refine au ?_
    refine lw (ifp h25 H) (fun k2_27 σ w => (fun Z => agrees σ [(1, .int .i64 a1), (2, .int .i64 a2), (3, .pointer (some ⟨B2, 0, none⟩)), (9, .slice fO r16.length fP), (10, .int .i64 (k1_21 : Int)), (11, .int .i64 k2_27), (38, .int .i64 (((2 : Int) * (r16.length : Int)) - (1 : Int))), (39, .int .i64 (k1_21 : Int))] ∧ Owns w0.heap.size w Z A ∧ ISl (Rp.mp (fun a : Int => Value.int .i64 a) (fun a : List UInt8 => Value.string (gstr a))) (bl Z ++ A) w fO fP r16 ∧ Fr (bl []) w0 (bl Z) w) [.blk B2 (.cells #[.int .i64 a0.Letters, .slice ba a0.Table.length bc, .slice bg a0.Words.length bh, .slice aQ a0.Images.length aR, .slice aS a0.Accept.length aT, .slice bC a0.Plus.length bD] 33 (0, 0))]) ⟨agr, hO, cC, fr⟩ ?_
    refine fun X2 => fun k2_27 => fun H hX2 σ w26 => d3 fun hag hO cC hB => ?_
    refine Go1.keep _ hag ?_
    revert hO; repeat (rename Owns _ _ _ _ => q; clear q)
    intro hO; repeat (rename Sq _ _ _ _ _ _ => q; clear q)
    refine sln0 ?_
    obtain ⟨h28, H⟩ := H
    refine zo (J2v rfl rfl (wrap_i64 h28)) ?_
    by_cases h29 : ((r16.length : Int) - (1 : Int)) < (k1_21 : Int)
    ·refine zo (J7f rfl rfl h29) ?_
     refine scm (ifp h29 H) (fun h30 H => ?_) fun h30 H => ?_
     ·refine au ?_
      refine drw 0 [(0, .stable), (1, .pure), (2, .pure), (3, .pure), (4, .pure), (5, .pure), (6, .stable), (7, .pure), (8, .pure), (9, .pure), (10, .pure), (11, .pure), (12, .stable), (13, .loud), (14, .pure), (15, .pure), (16, .pure), (17, .pure), (18, .pure), (19, .pure), (20, .pure)] hO fun w31 s hO => ?_
      refine sag 0 hO ?_
      refine six cC H.1 H.2.1 ?_
      have h35 := H.1
      have h36 := H.2.1
      replace H := H.2.2
      have zz := ldMp (cC.o hO) h35 h36
      obtain ⟨b32, xQ, xR⟩ := zz
      refine GoQ.stable rfl (xR Try.underlying99 rfl rfl) rfl rfl ?_
      refine au ?_
      obtain ⟨h37, H⟩ := H
      refine GoQ.pure rfl (J2v rfl rfl (wrap_i64 h37)) rfl rfl ?_
      refine six cC H.1 H.2.1 ?_
      have h41 := H.1
      have h42 := H.2.1
      replace H := H.2.2
      have zz := ldMp (cC.o hO) h41 h42
      obtain ⟨b38, xS, xT⟩ := zz
      refine GoQ.stable rfl (xT Try.underlying99 rfl rfl) rfl rfl ?_
      refine zcq rfl (J00 body79 rfl (J0k hO.lt bu.u aq.u cB.u ca.u cQ.u xQ xS H)) fun _ w46 => e3 fun r43 r44 r45 => sq0 hO fun s hO => fun H => ?_
      refine au ?_
      cases r45
      ·refine au ?_
       replace H := (iF H)
       obtain ⟨h47, H⟩ := H
       refine zo (J0l rfl rfl (wrap_i64 h47)) ?_
       refine au ?_
       exact hX2 _ H _ _ ⟨agr, hO, cC.u, fr⟩
      refine au ?_
      refine drw 0 [(0, .pure), (1, .stable), (2, .pure), (3, .pure), (4, .stable), (5, .pure), (6, .stable), (7, .pure), (8, .pure), (9, .stable), (10, .pure), (11, .pure), (12, .pure)] hO fun w48 s hO => ?_
      refine sxl hO aq.u (iT H).1 (iT H).2.1 ?_
      have hle49 := ISl.J2D aq (iT H).1 (iT H).2.1
      refine sxl hO aq.u (iT H).2.2.1 (iT H).2.2.2.1 ?_
      have hle50 := ISl.J2D aq (iT H).2.2.1 (iT H).2.2.2.1
      refine au ?_
      refine Go1.ret3 Try.func35 rfl ⟨_, _, _, ?_, frs, hle49, hle50, (iT H).2.2.2.2⟩
      exact rfl
     refine au ?_
     obtain ⟨h51, H⟩ := H
     refine zo (J0l rfl rfl (wrap_i64 h51)) ?_
     refine au ?_
     exact hX1 _ H _ _ ⟨agr, hO, cC.u, fr⟩
    refine zo (J6X rfl rfl h29) ?_
    refine scm (ifn h29 H) (fun h52 H => ?_) fun h52 H => ?_
    ·refine au ?_
     refine drw 0 [(0, .stable), (1, .pure), (2, .pure), (3, .pure), (4, .pure), (5, .pure), (6, .stable), (7, .pure), (8, .pure), (9, .pure), (10, .pure), (11, .pure), (12, .stable), (13, .loud), (14, .pure), (15, .pure), (16, .pure), (17, .pure), (18, .pure), (19, .pure), (20, .pure)] hO fun w53 s hO => ?_
     refine sag 0 hO ?_
     refine six cC H.1 H.2.1 ?_
     have h57 := H.1
     have h58 := H.2.1
     replace H := H.2.2
     have zz := ldMp (cC.o hO) h57 h58
     obtain ⟨b54, xU, xV⟩ := zz
     refine GoQ.stable rfl (xV Try.underlying99 rfl rfl) rfl rfl ?_
     refine au ?_
     obtain ⟨h59, H⟩ := H
     refine GoQ.pure rfl (J2v rfl rfl (wrap_i64 h59)) rfl rfl ?_
     refine six cC H.1 H.2.1 ?_
     have h63 := H.1
     have h64 := H.2.1
     replace H := H.2.2
     have zz := ldMp (cC.o hO) h63 h64
     obtain ⟨b60, xW, xX⟩ := zz
     refine GoQ.stable rfl (xX Try.underlying99 rfl rfl) rfl rfl ?_
     refine zcq rfl (J00 body79 rfl (J0k hO.lt bu.u aq.u cB.u ca.u cQ.u xU xW H)) fun _ w68 => e3 fun r65 r66 r67 => sq0 hO fun s hO => fun H => ?_
     refine au ?_
     cases r67
     ·refine au ?_
      replace H := (iF H)
      obtain ⟨h69, H⟩ := H
      refine zo (J0l rfl rfl (wrap_i64 h69)) ?_
      refine au ?_
      exact hX2 _ H _ _ ⟨agr, hO, cC.u, fr⟩
     refine au ?_
     refine drw 0 [(0, .pure), (1, .stable), (2, .pure), (3, .pure), (4, .stable), (5, .pure), (6, .stable), (7, .pure), (8, .pure), (9, .stable), (10, .pure), (11, .pure), (12, .pure)] hO fun w70 s hO => ?_
     refine sxl hO aq.u (iT H).1 (iT H).2.1 ?_
     have hle71 := ISl.J2D aq (iT H).1 (iT H).2.1
     refine sxl hO aq.u (iT H).2.2.1 (iT H).2.2.2.1 ?_
     have hle72 := ISl.J2D aq (iT H).2.2.1 (iT H).2.2.2.1
     refine au ?_
     refine Go1.ret3 Try.func35 rfl ⟨_, _, _, ?_, frs, hle71, hle72, (iT H).2.2.2.2⟩
     exact rfl
    refine au ?_
    obtain ⟨h73, H⟩ := H
    refine zo (J0l rfl rfl (wrap_i64 h73)) ?_
    refine au ?_
    exact hX1 _ H _ _ ⟨agr, hO, cC.u, fr⟩
   refine zo (J8a rfl rfl h25) ?_
   refine au ?_
   refine lw (ifn h25 H) (fun k3_75 σ w => (fun Z => agrees σ [(1, .int .i64 a1), (2, .int .i64 a2), (3, .pointer (some ⟨B2, 0, none⟩)), (9, .slice fO r16.length fP), (10, .int .i64 (k1_21 : Int)), (11, .int .i64 (k3_75 : Int)), (38, .int .i64 (((2 : Int) * (r16.length : Int)) - (1 : Int))), (39, .int .i64 (k1_21 : Int))] ∧ Owns w0.heap.size w Z A ∧ ISl (Rp.mp (fun a : Int => Value.int .i64 a) (fun a : List UInt8 => Value.string (gstr a))) (bl Z ++ A) w fO fP r16 ∧ Fr (bl []) w0 (bl Z) w) [.blk B2 (.cells #[.int .i64 a0.Letters, .slice ba a0.Table.length bc, .slice bg a0.Words.length bh, .slice aQ a0.Images.length aR, .slice aS a0.Accept.length aT, .slice bC a0.Plus.length bD] 33 (0, 0))]) ⟨agr, hO, cC.u, fr⟩ ?_
   refine fun X3 => fun k3_75 => fun H hX3 σ w74 => d3 fun hag hO cC hB => ?_
   refine Go1.keep _ hag ?_
   revert hO; repeat (rename Owns _ _ _ _ => q; clear q)
   intro hO; repeat (rename Sq _ _ _ _ _ _ => q; clear q)
   refine sln0 ?_
   obtain ⟨h76, H⟩ := H
   refine zo (J2v rfl rfl (wrap_i64 h76)) ?_
   by_cases h77 : ((r16.length : Int) - (1 : Int)) < (k1_21 : Int)
   ·refine zo (J7f rfl rfl h77) ?_
    refine scm (ifp h77 H) (fun h78 H => ?_) fun h78 H => ?_
    ·refine au ?_
     refine drw 0 [(0, .stable), (1, .pure), (2, .pure), (3, .pure), (4, .pure), (5, .pure), (6, .stable), (7, .pure), (8, .pure), (9, .pure), (10, .pure), (11, .pure), (12, .stable), (13, .loud), (14, .pure), (15, .pure), (16, .pure), (17, .pure), (18, .pure), (19, .pure), (20, .pure)] hO fun w79 s hO => ?_
     refine sag 0 hO ?_
     refine six cC H.1 H.2.1 ?_
     have h83 := H.1
     have h84 := H.2.1
     replace H := H.2.2
     have zz := ldMp (cC.o hO) h83 h84
     obtain ⟨b80, iP, xY⟩ := zz
     refine GoQ.stable rfl (xY Try.underlying99 rfl rfl) rfl rfl ?_
     refine au ?_
     obtain ⟨h85, H⟩ := H
     refine GoQ.pure rfl (J2v rfl rfl (wrap_i64 h85)) rfl rfl ?_
     refine six cC H.1 H.2.1 ?_
     have h89 := H.1
     have h90 := H.2.1
     replace H := H.2.2
     have zz := ldMp (cC.o hO) h89 h90
     obtain ⟨b86, mS, x4⟩ := zz
     refine GoQ.stable rfl (x4 Try.underlying99 rfl rfl) rfl rfl ?_
     refine zcq rfl (J00 body79 rfl (J0k hO.lt bu.u aq.u cB.u ca.u cQ.u iP mS H)) fun _ w94 => e3 fun r91 r92 r93 => sq0 hO fun s hO => fun H => ?_
     refine au ?_
     cases r93
     ·refine au ?_
      replace H := (iF H)
      obtain ⟨h95, H⟩ := H
      refine zo (J0l rfl rfl (wrap_i64 h95)) ?_
      refine au ?_
      exact hX3 _ H _ _ ⟨agr, hO, cC.u, fr⟩
     refine au ?_
     refine drw 0 [(0, .pure), (1, .stable), (2, .pure), (3, .pure), (4, .stable), (5, .pure), (6, .stable), (7, .pure), (8, .pure), (9, .stable), (10, .pure), (11, .pure), (12, .pure)] hO fun w96 s hO => ?_
     refine sxl hO aq.u (iT H).1 (iT H).2.1 ?_
     have hle97 := ISl.J2D aq (iT H).1 (iT H).2.1
     refine sxl hO aq.u (iT H).2.2.1 (iT H).2.2.2.1 ?_
     have hle98 := ISl.J2D aq (iT H).2.2.1 (iT H).2.2.2.1
     refine au ?_
     refine Go1.ret3 Try.func35 rfl ⟨_, _, _, ?_, frs, hle97, hle98, (iT H).2.2.2.2⟩
     exact rfl
    refine au ?_
    obtain ⟨h99, H⟩ := H
    refine zo (J0l rfl rfl (wrap_i64 h99)) ?_
    refine au ?_
    exact hX1 _ H _ _ ⟨agr, hO, cC.u, fr⟩
   refine zo (J6X rfl rfl h77) ?_
   refine scm (ifn h77 H) (fun ia H => ?_) fun ia H => ?_
   ·refine au ?_
    refine drw 0 [(0, .stable), (1, .pure), (2, .pure), (3, .pure), (4, .pure), (5, .pure), (6, .stable), (7, .pure), (8, .pure), (9, .pure), (10, .pure), (11, .pure), (12, .stable), (13, .loud), (14, .pure), (15, .pure), (16, .pure), (17, .pure), (18, .pure), (19, .pure), (20, .pure)] hO fun nY s hO => ?_
    refine sag 0 hO ?_
    refine six cC H.1 H.2.1 ?_
    have iU := H.1
    have gY := H.2.1
    replace H := H.2.2
    have zz := ldMp (cC.o hO) iU gY
    obtain ⟨Ea, uJ, uK⟩ := zz
    refine GoQ.stable rfl (uK Try.underlying99 rfl rfl) rfl rfl ?_
    refine au ?_
    obtain ⟨f9, H⟩ := H
    refine GoQ.pure rfl (J2v rfl rfl (wrap_i64 f9)) rfl rfl ?_
    refine six cC H.1 H.2.1 ?_
    have gf := H.1
    have fy := H.2.1
    replace H := H.2.2
    have zz := ldMp (cC.o hO) gf fy
    obtain ⟨Eb, jR, uL⟩ := zz
    refine GoQ.stable rfl (uL Try.underlying99 rfl rfl) rfl rfl ?_
    refine zcq rfl (J00 body79 rfl (J0k hO.lt bu.u aq.u cB.u ca.u cQ.u uJ jR H)) fun _ Ec => e3 fun r113 r114 r115 => sq0 hO fun s hO => fun H => ?_
    refine au ?_
    cases r115
    ·refine au ?_
     replace H := (iF H)
     obtain ⟨x5, H⟩ := H
     refine zo (J0l rfl rfl (wrap_i64 x5)) ?_
     refine au ?_
     exact hX3 _ H _ _ ⟨agr, hO, cC.u, fr⟩
    refine au ?_
    refine drw 0 [(0, .pure), (1, .stable), (2, .pure), (3, .pure), (4, .stable), (5, .pure), (6, .stable), (7, .pure), (8, .pure), (9, .stable), (10, .pure), (11, .pure), (12, .pure)] hO fun Ed s hO => ?_
    refine sxl hO aq.u (iT H).1 (iT H).2.1 ?_
    have hle119 := ISl.J2D aq (iT H).1 (iT H).2.1
    refine sxl hO aq.u (iT H).2.2.1 (iT H).2.2.2.1 ?_
    have hle120 := ISl.J2D aq (iT H).2.2.1 (iT H).2.2.2.1
    refine au ?_
    refine Go1.ret3 Try.func35 rfl ⟨_, _, _, ?_, frs, hle119, hle120, (iT H).2.2.2.2⟩
    exact rfl
   refine au ?_
   obtain ⟨iY, H⟩ := H
   refine zo (J0l rfl rfl (wrap_i64 iY)) ?_
   refine au ?_
   exact hX1 _ H _ _ ⟨agr, hO, cC.u, fr⟩
  refine au ?_
  refine Go1.ret3 Try.func35 rfl ⟨_, _, _, ?_, frs, (by decide), (by decide), H⟩
  exact rfl
 refine au ?_
 refine Go1.ret3 Try.func35 rfl ⟨_, _, _, ?_, frs, (by decide), (by decide), H⟩
 exact rfl
end Sg
