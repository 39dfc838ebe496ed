/- -/
import Derived.Test.YtlneebpmblkllaaLv
import Derived.Test.YtlneebpmblkllaaMr
import Derived.Test.YtlneebpmblkllaaFnx
import Derived.Test.YtlneebpmblkllaaVd
import Derived.Test.YtlneebpmblkllaaWSyntacticMonoids
import Derived.Test.YtlneebpmblkllaaWSyntacticMonoidsc
import Derived.Test.YtlneebpmblkllaaWSyntacticRefuses
namespace Sg
open Go Go.RowKit Go.Proofs
set_option linter.unusedVariables false
set_option linter.unusedSimpArgs false
set_option maxRecDepth 100000
set_option maxHeartbeats 4000000
theorem body79 : Body Try.prog 79 := ⟨Try.f79, Try.func79, rfl, by kernel_rfl⟩
theorem J0h {A : List Nat} {w0 : World} {ap aC ar aw aP : Option Addr} {aq aD av ax aQ gk gm : Nat} {a0 : Syntactic} {a1 a2 : Int} {a3 a4 : List (Int × Str)} (hA : ∀ b ∈ A, b < w0.heap.size) (ae : ISl (Rp.sl (Rp.int .i64)) A w0 ap aq a0.Table) (aa : ISl (Rp.str) A w0 aC aD a0.Words) (cg : ISl (Rp.int .i64) A w0 ar av a0.Images) (bk : ISl (Rp.bool) A w0 aw ax a0.Accept) (cO : ISl (Rp.bool) A w0 aP aQ a0.Plus) (xo : IMp (fun a : Int => Value.int .i64 a) (fun a : List UInt8 => Value.string (gstr a)) A w0 gk a3) (xp : IMp (fun a : Int => Value.int .i64 a) (fun a : List UInt8 => Value.string (gstr a)) A w0 gm a4) {K : Int → Int → Bool → Prop} (H : J03 a0 a1 a2 a3 a4 K) :
    CallsV Try.prog 79 #[.agg #[.int .i64 a0.Letters, .slice ap a0.Table.length aq, .slice aC a0.Words.length aD, .slice ar a0.Images.length av, .slice aw a0.Accept.length ax, .slice aP a0.Plus.length aQ], .int .i64 a1, .int .i64 a2, .map (some gk), .map (some gm)] w0 (fun v w' => ∃ (r0 r1 : Int) (r2 : Bool), v = .tuple #[.int .i64 r0, .int .i64 r1, .bool r2] ∧ Same w0 w' ∧ K r0 r1 r2) := by
 refine CallsV.of (l := [.agg #[.int .i64 a0.Letters, .slice ap a0.Table.length aq, .slice aC a0.Words.length aD, .slice ar a0.Images.length av, .slice aw a0.Accept.length ax, .slice aP a0.Plus.length aQ], .int .i64 a1, .int .i64 a2, .map (some gk), .map (some gm)]) Try.func79 rfl Try.ntmps79 rfl ?_
 have hO := Owns.start hA
 have hB := Fr.refl (bl []) w0
 unfold J03 at H
 refine sbx hO fun w1 B2 s hO => ?_
 refine au ?_
 have zz := (xo.o hO)
 obtain ⟨es4, cl5, hx6, hok7⟩ := zz
 have zz := omrange Try.underlying99 hO hx6.u
 obtain ⟨w8, B9, uf, DN, ug⟩ := zz
 refine zg (ug rfl) ?_
 refine nst uf fun s hO => ?_
 refine au ?_
 refine lw H (fun (k1_15, k1_16, b1_17, m1_18) σ w => ∃ sn19, (fun Z => agrees σ [(1, .int .i64 a1), (2, .int .i64 a2), (4, .map (some gm)), (5, .pointer (some ⟨B2, 0, none⟩)), (10, .int .i64 k1_15), (11, .int .i64 k1_16), (12, .bool b1_17), (18, .pointer (some ⟨B9, 0, none⟩))] ∧ Owns w0.heap.size w Z A ∧ IMx (bl Z ++ A) w gk es4 cl5 ∧ ItL (fun a : Int => Value.int .i64 a) (fun a : List UInt8 => Value.string (gstr a)) es4 sn19 m1_18 ∧ Fr (bl []) w0 (bl Z) w) [.blk B9 (.mapIter (some gk) cl5 sn19 cl5), .blk B2 (.cells #[.int .i64 a0.Letters, .slice ap a0.Table.length aq, .slice aC a0.Words.length aD, .slice ar a0.Images.length av, .slice aw a0.Accept.length ax, .slice aP a0.Plus.length aQ] 33 (0, 0))]) ⟨_, agr, hO, hx6.u, (ItL.start hok7), fr⟩ ?_
 refine fun X1 => p3 fun k1_15 k1_16 b1_17 m1_18 => fun H hX1 σ w14 => e1 fun sn19 => d4 fun hag hO hx6 hL20 hB => ?_
 dsimp only at H
 refine Go1.keep _ hag ?_
 revert hO; repeat (rename Owns _ _ _ _ => q; clear q)
 intro hO; repeat (rename Sq _ _ _ _ _ _ => q; clear q)
 refine au ?_
 by_cases h21 : m1_18 = []
 ·refine zs (omnextEnd (j := 0) hok7 hO rfl hx6 hL20 h21 rfl) ?_
  refine au ?_
  refine Go1.ret3 Try.func79 rfl ⟨_, _, _, ?_, frs, (ifp h21 H)⟩
  exact rfl
 have zz := omnext (j := 0) hok7 hO rfl hx6 hL20 h21 Try.prog
 obtain ⟨q22, ky23, va24, sn25, w26, hq27, hL28, xq, uh, ui⟩ := zz
 replace H := (ifn h21 H)
 replace H := H q22 ky23 va24 hq27
 refine zg (ui rfl) ?_
 refine nst uh fun s hO => ?_
 refine au ?_
 refine zs (fun w_ hw_ => omentry (j := 0) hok7 hO rfl hx6.u xq rfl hw_) ?_
 refine au ?_
 refine drw 0 [(0, .pure), (1, .stable), (2, .pure), (3, .stable), (4, .pure), (5, .pure), (6, .stable), (7, .pure), (8, .pure), (9, .stable), (10, .pure), (11, .stable), (12, .pure), (13, .stable), (14, .pure), (15, .stable), (16, .pure), (17, .pure), (18, .stable), (19, .pure), (20, .pure), (21, .stable), (22, .pure), (23, .stable), (24, .pure), (25, .pure)] hO fun w32 s hO => ?_
 refine sxls hO ae.u H.1 H.2.1 fun p33 c34 xr => ?_
 refine sxl hO xr.u H.2.2.1 H.2.2.2.1 ?_
 refine sxls hO ae.u H.2.2.2.2.1 H.2.2.2.2.2.1 fun p36 c37 dT => ?_
 refine sxls hO ae.u H.2.2.2.2.2.2.1 H.2.2.2.2.2.2.2.1 fun p39 c40 lE => ?_
 refine sxl hO lE.u H.2.2.2.2.2.2.2.2.1 H.2.2.2.2.2.2.2.2.2.1 ?_
 refine sxls hO ae.u H.2.2.2.2.2.2.2.2.2.2.1 H.2.2.2.2.2.2.2.2.2.2.2.1 fun p42 c43 dM => ?_
 refine au ?_
 have zz := (xp.o hO)
 obtain ⟨es45, cl46, hx47, hok48⟩ := zz
 have zz := omrange Try.underlying99 hO hx47.u
 obtain ⟨w49, B50, uj, DO, uk⟩ := zz
 refine zg (uk rfl) ?_
 refine nst uj fun s hO => ?_
 refine au ?_
 refine lw H.2.2.2.2.2.2.2.2.2.2.2.2 (fun (k2_56, k2_57, b2_58, m2_59) σ w => ∃ sn60, (fun Z => agrees σ [(1, .int .i64 a1), (2, .int .i64 a2), (4, .map (some gm)), (5, .pointer (some ⟨B2, 0, none⟩)), (10, .int .i64 k2_56), (11, .int .i64 k2_57), (12, .bool b2_58), (13, .int .i64 ky23), (14, .slice p36 ((ix a0.Table (ix (ix a0.Table ky23) a1)).length) c37), (15, .slice p42 ((ix a0.Table (ix (ix a0.Table ky23) a2)).length) c43), (18, .pointer (some ⟨B9, 0, none⟩)), (48, .pointer (some ⟨B50, 0, none⟩))] ∧ Owns w0.heap.size w Z A ∧ IMx (bl Z ++ A) w gk es4 cl5 ∧ ISl (Rp.int .i64) (bl Z ++ A) w p36 c37 (ix a0.Table (ix (ix a0.Table ky23) a1)) ∧ ISl (Rp.int .i64) (bl Z ++ A) w p42 c43 (ix a0.Table (ix (ix a0.Table ky23) a2)) ∧ IMx (bl Z ++ A) w gm es45 cl46 ∧ ItL (fun a : Int => Value.int .i64 a) (fun a : List UInt8 => Value.string (gstr a)) es45 sn60 m2_59 ∧ Fr (bl []) w0 (bl Z) w) [.blk B50 (.mapIter (some gm) cl46 sn60 cl46), .blk B9 (.mapIter (some gk) cl5 sn25 cl5), .blk B2 (.cells #[.int .i64 a0.Letters, .slice ap a0.Table.length aq, .slice aC a0.Words.length aD, .slice ar a0.Images.length av, .slice aw a0.Accept.length ax, .slice aP a0.Plus.length aQ] 33 (0, 0))]) ⟨_, agr, hO, hx6.u, dT.u, dM.u, hx47.u, (ItL.start hok48), fr⟩ ?_
 refine fun X2 => p3 fun k2_56 k2_57 b2_58 m2_59 => fun H hX2 σ w55 => e1 fun sn60 => d1 fun hag => d1 fun hO => d1 fun hx6 => d4 fun dT dM hx47 hL61 hB => ?_
 dsimp only at H
 refine Go1.keep _ hag ?_
 revert hO; repeat (rename Owns _ _ _ _ => q; clear q)
 intro hO; repeat (rename Sq _ _ _ _ _ _ => q; clear q)
 refine au ?_
 by_cases h62 : m2_59 = []
 ·refine zs (omnextEnd (j := 0) hok48 hO rfl hx47 hL61 h62 rfl) ?_
  refine au ?_
  refine sdr [0] hO fun s hO => ?_
  exact hX1 _ (ifp h62 H) _ _ ⟨_, agr, hO, hx6.u, hL28, fr⟩
 have zz := omnext (j := 0) hok48 hO rfl hx47.u hL61 h62 Try.prog
 obtain ⟨q63, ky64, va65, sn66, w67, hq68, hL69, xt, jN, ul⟩ := zz
 replace H := (ifn h62 H)
 replace H := H q63 ky64 va65 hq68
 refine zg (ul rfl) ?_
 refine nst jN fun s hO => ?_
 refine au ?_
 refine zs (fun w_ hw_ => omentry (j := 0) hok48 hO rfl hx47.u xt rfl hw_) ?_
 refine au ?_
 refine drw 0 [(0, .pure), (1, .stable), (2, .pure), (3, .pure), (4, .pure), (5, .stable), (6, .pure), (7, .stable), (8, .pure), (9, .stable), (10, .pure), (11, .pure), (12, .pure), (13, .stable), (14, .pure), (15, .stable), (16, .pure), (17, .pure), (18, .pure), (19, .pure), (20, .pure), (21, .pure), (22, .pure), (23, .pure), (24, .pure), (25, .pure), (26, .pure), (27, .pure), (28, .pure), (29, .pure), (30, .pure), (31, .pure), (32, .pure), (33, .pure), (34, .pure), (35, .pure)] hO fun w73 s hO => ?_
 refine sxl hO dT.u H.1 H.2.1 ?_
 have h74 := H.1
 have h75 := H.2.1
 have h76 := H.2.2.1
 have h77 := H.2.2.2.1
 refine sxb hO bk.u H.2.2.1 H.2.2.2.1 H.2.2.2.2 (fun h78 H => ?_) fun h78 H => ?_
 ·refine sxl hO dM.u H.1 H.2.1 ?_
  have h79 := H.1
  have h80 := H.2.1
  have h81 := H.2.2.1
  have h82 := H.2.2.2.1
  refine sxb hO bk.u H.2.2.1 H.2.2.2.1 H.2.2.2.2 (fun h83 H => ?_) fun h83 H => ?_
  ·refine GoQ.pure rfl (J1x Try.underlying4 rfl rfl) rfl rfl ?_
   refine au ?_
   exact hX2 _ H _ _ ⟨_, agr, hO, hx6.u, dT.u, dM.u, hx47.u, hL69, fr⟩
  refine GoQ.pure rfl (J1x Try.underlying4 rfl rfl) rfl rfl ?_
  refine au ?_
  cases b2_58
  ·refine au ?_
   exact hX2 _ (iF H) _ _ ⟨_, agr, hO, hx6.u, dT.u, dM.u, hx47.u, hL69, fr⟩
  refine scm (iT H) (fun h84 H => ?_) fun h84 H => ?_
  ·refine au ?_
   exact hX2 _ H _ _ ⟨_, agr, hO, hx6.u, dT.u, dM.u, hx47.u, hL69, fr⟩
  refine scm H (fun h85 H => ?_) fun h85 H => ?_
  ·refine scm H (fun h86 H => ?_) fun h86 H => ?_
   ·refine au ?_
    exact hX2 _ H _ _ ⟨_, agr, hO, hx6.u, dT.u, dM.u, hx47.u, hL69, fr⟩
   refine au ?_
   exact hX2 _ H _ _ ⟨_, agr, hO, hx6.u, dT.u, dM.u, hx47.u, hL69, fr⟩
  refine au ?_
  exact hX2 _ H _ _ ⟨_, agr, hO, hx6.u, dT.u, dM.u, hx47.u, hL69, fr⟩
 refine sxl hO dM.u H.1 H.2.1 ?_
 have h87 := H.1
 have h88 := H.2.1
 have h89 := H.2.2.1
 have h90 := H.2.2.2.1
 refine sxb hO bk.u H.2.2.1 H.2.2.2.1 H.2.2.2.2 (fun h91 H => ?_) fun h91 H => ?_
 ·refine GoQ.pure rfl (J1x Try.underlying4 rfl rfl) rfl rfl ?_
  refine au ?_
  cases b2_58
  ·refine au ?_
   exact hX2 _ (iF H) _ _ ⟨_, agr, hO, hx6.u, dT.u, dM.u, hx47.u, hL69, fr⟩
  refine scm (iT H) (fun h92 H => ?_) fun h92 H => ?_
  ·refine au ?_
   exact hX2 _ H _ _ ⟨_, agr, hO, hx6.u, dT.u, dM.u, hx47.u, hL69, fr⟩
  refine scm H (fun h93 H => ?_) fun h93 H => ?_
  ·refine scm H (fun h94 H => ?_) fun h94 H => ?_
   ·refine au ?_
    exact hX2 _ H _ _ ⟨_, agr, hO, hx6.u, dT.u, dM.u, hx47.u, hL69, fr⟩
   refine au ?_
   exact hX2 _ H _ _ ⟨_, agr, hO, hx6.u, dT.u, dM.u, hx47.u, hL69, fr⟩
  refine au ?_
  exact hX2 _ H _ _ ⟨_, agr, hO, hx6.u, dT.u, dM.u, hx47.u, hL69, fr⟩
 refine GoQ.pure rfl (J1x Try.underlying4 rfl rfl) rfl rfl ?_
 refine au ?_
 exact hX2 _ H _ _ ⟨_, agr, hO, hx6.u, dT.u, dM.u, hx47.u, hL69, fr⟩
theorem body35 : Body Try.prog 35 := ⟨Try.f35, Try.func35, rfl, by kernel_rfl⟩
theorem J2n {A : List Nat} {w0 : World} {ap aC ar aw aP : Option Addr} {aq aD av ax aQ : Nat} {a0 : Syntactic} {a1 a2 : Int} (hA : ∀ b ∈ A, b < w0.heap.size) (ae : ISl (Rp.sl (Rp.int .i64)) A w0 ap aq a0.Table) (aa : ISl (Rp.str) A w0 aC aD a0.Words) (cg : ISl (Rp.int .i64) A w0 ar av a0.Images) (bk : ISl (Rp.bool) A w0 aw ax a0.Accept) (cO : ISl (Rp.bool) A w0 aP aQ a0.Plus) {K : Str → Str → Bool → Prop} (H : J0n a0 a1 a2 K) :
    CallsV Try.prog 35 #[.agg #[.int .i64 a0.Letters, .slice ap a0.Table.length aq, .slice aC a0.Words.length aD, .slice ar a0.Images.length av, .slice aw a0.Accept.length ax, .slice aP a0.Plus.length aQ], .int .i64 a1, .int .i64 a2] w0 (fun v w' => ∃ (r0 r1 : Str) (r2 : Bool), v = .tuple #[.string (gstr r0), .string (gstr r1), .bool r2] ∧ Same w0 w' ∧ r0.length ≤ mx ∧ r1.length ≤ mx ∧ K r0 r1 r2) := by
 refine CallsV.of (l := [.agg #[.int .i64 a0.Letters, .slice ap a0.Table.length aq, .slice aC a0.Words.length aD, .slice ar a0.Images.length av, .slice aw a0.Accept.length ax, .slice aP a0.Plus.length aQ], .int .i64 a1, .int .i64 a2]) Try.func35 rfl Try.ntmps35 rfl ?_
 have hO := Owns.start hA
 have hB := Fr.refl (bl []) w0
 unfold J0n at H
 refine sbx hO fun w1 B2 s hO => ?_
 refine scm H (fun h4 H => ?_) fun h4 H => ?_
 ·refine au ?_
  refine Go1.ret3 Try.func35 rfl ⟨_, _, _, ?_, frs, (by decide), (by decide), H⟩
  exact rfl
 refine sbu Fl.i 3 [a1, a2] hO fun w5 p6 s hO => ?_
 refine sln0 ?_
 have hl8 := t1lend 0 hO
 have hn9 := t1n 0 hO
 have hOc10 := hO.drop 0
 refine zcr (J00 body76 (show ([.slice p6 2 2, .int .i64 (a0.Table.length : Int)] : List Value) = [.slice p6 ([a1, a2]).length 2, .int .i64 (a0.Table.length : Int)] from by rw [← hn9]) (J0L hOc10.lt hl8 (H ae.bd))) fun _ w12 => e1 fun r11 => sc0 hO fun s hO => fun H => ?_
 cases r11
 ·refine au ?_
  refine Go1.ret3 Try.func35 rfl ⟨_, _, _, ?_, frs, (by decide), (by decide), (iF H)⟩
  exact rfl
 refine sag 1 hO ?_
 refine zcr (J00 body28 rfl (J2i hO.lt ae.u aa.u cg.u bk.u cO.u (iT H))) fun _ w14 => e1 fun r13 => sc0 hO fun s hO => fun H => ?_
 refine scm H (fun h15 H => ?_) fun h15 H => ?_
 ·refine sag 1 hO ?_
  refine zcr (J00 body78 rfl (J2V hO.lt ae.u aa.u cg.u bk.u cO.u H)) fun _ w17 => e3 fun r16 fQ fR => sc0 hO fun s hO => d1 fun cx H => ?_
  refine sln0 ?_
  replace H := (H cx.bd)
  obtain ⟨h18, H⟩ := H
  refine zo (J8a rfl rfl (wrap_i64 h18)) ?_
  obtain ⟨h19, H⟩ := H
  refine zo (J3A rfl rfl (wrap_i64 h19)) ?_
  refine au ?_
  refine sdr [0] hO fun s hO => ?_
  refine lw H (fun k1_21 σ w => (fun Z => agrees σ [(1, .int .i64 a1), (2, .int .i64 a2), (3, .pointer (some ⟨B2, 0, none⟩)), (9, .slice fQ r16.length fR), (38, .int .i64 (((2 : Int) * (r16.length : Int)) - (1 : Int))), (39, .int .i64 (k1_21 : Int))] ∧ Owns w0.heap.size w Z A ∧ ISl (Rp.mp (fun a : Int => Value.int .i64 a) (fun a : List UInt8 => Value.string (gstr a))) (bl Z ++ A) w fQ fR r16 ∧ Fr (bl []) w0 (bl Z) w) [.blk B2 (.cells #[.int .i64 a0.Letters, .slice ap a0.Table.length aq, .slice aC a0.Words.length aD, .slice ar a0.Images.length av, .slice aw a0.Accept.length ax, .slice aP a0.Plus.length aQ] 33 (0, 0))]) ⟨agr, hO, cx.u, fr⟩ ?_
  refine fun X1 => fun k1_21 => fun H hX1 σ w20 => d3 fun hag hO cx hB => ?_
  refine Go1.keep _ hag ?_
  revert hO; repeat (rename Owns _ _ _ _ => q; clear q)
  intro hO; repeat (rename Sq _ _ _ _ _ _ => q; clear q)
  refine scm H (fun h22 H => ?_) fun h22 H => ?_
  ·refine sln0 ?_
   obtain ⟨h23, H⟩ := H
   refine zo (J3A rfl rfl (wrap_i64 h23)) ?_
   obtain ⟨h24, H⟩ := H
   refine zo (J0k rfl rfl (wrap_i64 h24)) ?_
   by_cases h25 : (0 : Int) < (((k1_21 : Int) - (r16.length : Int)) + (1 : Int))
   ·refine zo (J7D rfl rfl h25) ?_
    refine au ?_
    refine lw (ifp h25 H) (fun k2_27 σ w => (fun Z => agrees σ [(1, .int .i64 a1), (2, .int .i64 a2), (3, .pointer (some ⟨B2, 0, none⟩)), (9, .slice fQ r16.length fR), (10, .int .i64 (k1_21 : Int)), (11, .int .i64 k2_27), (38, .int .i64 (((2 : Int) * (r16.length : Int)) - (1 : Int))), (39, .int .i64 (k1_21 : Int))] ∧ Owns w0.heap.size w Z A ∧ ISl (Rp.mp (fun a : Int => Value.int .i64 a) (fun a : List UInt8 => Value.string (gstr a))) (bl Z ++ A) w fQ fR r16 ∧ Fr (bl []) w0 (bl Z) w) [.blk B2 (.cells #[.int .i64 a0.Letters, .slice ap a0.Table.length aq, .slice aC a0.Words.length aD, .slice ar a0.Images.length av, .slice aw a0.Accept.length ax, .slice aP a0.Plus.length aQ] 33 (0, 0))]) ⟨agr, hO, cx, fr⟩ ?_
    refine fun X2 => fun k2_27 => fun H hX2 σ w26 => d3 fun hag hO cx hB => ?_
    refine Go1.keep _ hag ?_
    revert hO; repeat (rename Owns _ _ _ _ => q; clear q)
    intro hO; repeat (rename Sq _ _ _ _ _ _ => q; clear q)
    refine sln0 ?_
    obtain ⟨h28, H⟩ := H
    refine zo (J3A rfl rfl (wrap_i64 h28)) ?_
    by_cases h29 : ((r16.length : Int) - (1 : Int)) < (k1_21 : Int)
    ·refine zo (J6H rfl rfl h29) ?_
     refine scm (ifp h29 H) (fun h30 H => ?_) fun h30 H => ?_
     ·refine au ?_
      refine drw 0 [(0, .stable), (1, .pure), (2, .pure), (3, .pure), (4, .pure), (5, .pure), (6, .stable), (7, .pure), (8, .pure), (9, .pure), (10, .pure), (11, .pure), (12, .stable), (13, .loud), (14, .pure), (15, .pure), (16, .pure), (17, .pure), (18, .pure), (19, .pure), (20, .pure)] hO fun w31 s hO => ?_
      refine sag 0 hO ?_
      refine six cx H.1 H.2.1 ?_
      have h35 := H.1
      have h36 := H.2.1
      replace H := H.2.2
      have zz := ldMp (cx.o hO) h35 h36
      obtain ⟨b32, xv, xw⟩ := zz
      refine GoQ.stable rfl (xw Try.underlying99 rfl rfl) rfl rfl ?_
      refine au ?_
      obtain ⟨h37, H⟩ := H
      refine GoQ.pure rfl (J3A rfl rfl (wrap_i64 h37)) rfl rfl ?_
      refine six cx H.1 H.2.1 ?_
      have h41 := H.1
      have h42 := H.2.1
      replace H := H.2.2
      have zz := ldMp (cx.o hO) h41 h42
      obtain ⟨b38, xz, xA⟩ := zz
      refine GoQ.stable rfl (xA Try.underlying99 rfl rfl) rfl rfl ?_
      refine zcq rfl (J00 body79 rfl (J0h hO.lt ae.u aa.u cg.u bk.u cO.u xv xz H)) fun _ w46 => e3 fun r43 r44 r45 => sq0 hO fun s hO => fun H => ?_
      refine au ?_
      cases r45
      ·refine au ?_
       replace H := (iF H)
       obtain ⟨h47, H⟩ := H
       refine zo (J0k rfl rfl (wrap_i64 h47)) ?_
       refine au ?_
       exact hX2 _ H _ _ ⟨agr, hO, cx.u, fr⟩
      refine au ?_
      refine drw 0 [(0, .pure), (1, .stable), (2, .pure), (3, .pure), (4, .stable), (5, .pure), (6, .stable), (7, .pure), (8, .pure), (9, .stable), (10, .pure), (11, .pure), (12, .pure)] hO fun w48 s hO => ?_
      refine sxl hO aa.u (iT H).1 (iT H).2.1 ?_
      have hle49 := ISl.J1f aa (iT H).1 (iT H).2.1
      refine sxl hO aa.u (iT H).2.2.1 (iT H).2.2.2.1 ?_
      have hle50 := ISl.J1f aa (iT H).2.2.1 (iT H).2.2.2.1
      refine au ?_
      refine Go1.ret3 Try.func35 rfl ⟨_, _, _, ?_, frs, hle49, hle50, (iT H).2.2.2.2⟩
      exact rfl
     refine au ?_
     obtain ⟨h51, H⟩ := H
     refine zo (J0k rfl rfl (wrap_i64 h51)) ?_
     refine au ?_
     exact hX1 _ H _ _ ⟨agr, hO, cx.u, fr⟩
    refine zo (J6n rfl rfl h29) ?_
    refine scm (ifn h29 H) (fun h52 H => ?_) fun h52 H => ?_
    ·refine au ?_
     refine drw 0 [(0, .stable), (1, .pure), (2, .pure), (3, .pure), (4, .pure), (5, .pure), (6, .stable), (7, .pure), (8, .pure), (9, .pure), (10, .pure), (11, .pure), (12, .stable), (13, .loud), (14, .pure), (15, .pure), (16, .pure), (17, .pure), (18, .pure), (19, .pure), (20, .pure)] hO fun w53 s hO => ?_
     refine sag 0 hO ?_
     refine six cx H.1 H.2.1 ?_
     have h57 := H.1
     have h58 := H.2.1
     replace H := H.2.2
     have zz := ldMp (cx.o hO) h57 h58
     obtain ⟨b54, xB, xC⟩ := zz
     refine GoQ.stable rfl (xC Try.underlying99 rfl rfl) rfl rfl ?_
     refine au ?_
     obtain ⟨h59, H⟩ := H
     refine GoQ.pure rfl (J3A rfl rfl (wrap_i64 h59)) rfl rfl ?_
     refine six cx H.1 H.2.1 ?_
     have h63 := H.1
     have h64 := H.2.1
     replace H := H.2.2
     have zz := ldMp (cx.o hO) h63 h64
     obtain ⟨b60, xD, xE⟩ := zz
     refine GoQ.stable rfl (xE Try.underlying99 rfl rfl) rfl rfl ?_
     refine zcq rfl (J00 body79 rfl (J0h hO.lt ae.u aa.u cg.u bk.u cO.u xB xD H)) fun _ w68 => e3 fun r65 r66 r67 => sq0 hO fun s hO => fun H => ?_
     refine au ?_
     cases r67
     ·refine au ?_
      replace H := (iF H)
      obtain ⟨h69, H⟩ := H
      refine zo (J0k rfl rfl (wrap_i64 h69)) ?_
      refine au ?_
      exact hX2 _ H _ _ ⟨agr, hO, cx.u, fr⟩
     refine au ?_
     refine drw 0 [(0, .pure), (1, .stable), (2, .pure), (3, .pure), (4, .stable), (5, .pure), (6, .stable), (7, .pure), (8, .pure), (9, .stable), (10, .pure), (11, .pure), (12, .pure)] hO fun w70 s hO => ?_
     refine sxl hO aa.u (iT H).1 (iT H).2.1 ?_
     have hle71 := ISl.J1f aa (iT H).1 (iT H).2.1
     refine sxl hO aa.u (iT H).2.2.1 (iT H).2.2.2.1 ?_
     have hle72 := ISl.J1f aa (iT H).2.2.1 (iT H).2.2.2.1
     refine au ?_
     refine Go1.ret3 Try.func35 rfl ⟨_, _, _, ?_, frs, hle71, hle72, (iT H).2.2.2.2⟩
     exact rfl
    refine au ?_
    obtain ⟨h73, H⟩ := H
    refine zo (J0k rfl rfl (wrap_i64 h73)) ?_
    refine au ?_
    exact hX1 _ H _ _ ⟨agr, hO, cx.u, fr⟩
   refine zo (J7J rfl rfl h25) ?_
   refine au ?_
   refine lw (ifn h25 H) (fun k3_75 σ w => (fun Z => agrees σ [(1, .int .i64 a1), (2, .int .i64 a2), (3, .pointer (some ⟨B2, 0, none⟩)), (9, .slice fQ r16.length fR), (10, .int .i64 (k1_21 : Int)), (11, .int .i64 (k3_75 : Int)), (38, .int .i64 (((2 : Int) * (r16.length : Int)) - (1 : Int))), (39, .int .i64 (k1_21 : Int))] ∧ Owns w0.heap.size w Z A ∧ ISl (Rp.mp (fun a : Int => Value.int .i64 a) (fun a : List UInt8 => Value.string (gstr a))) (bl Z ++ A) w fQ fR r16 ∧ Fr (bl []) w0 (bl Z) w) [.blk B2 (.cells #[.int .i64 a0.Letters, .slice ap a0.Table.length aq, .slice aC a0.Words.length aD, .slice ar a0.Images.length av, .slice aw a0.Accept.length ax, .slice aP a0.Plus.length aQ] 33 (0, 0))]) ⟨agr, hO, cx.u, fr⟩ ?_
   refine fun X3 => fun k3_75 => fun H hX3 σ w74 => d3 fun hag hO cx hB => ?_
   refine Go1.keep _ hag ?_
   revert hO; repeat (rename Owns _ _ _ _ => q; clear q)
   intro hO; repeat (rename Sq _ _ _ _ _ _ => q; clear q)
   refine sln0 ?_
   obtain ⟨h76, H⟩ := H
   refine zo (J3A rfl rfl (wrap_i64 h76)) ?_
   by_cases h77 : ((r16.length : Int) - (1 : Int)) < (k1_21 : Int)
   ·refine zo (J6H rfl rfl h77) ?_
    refine scm (ifp h77 H) (fun h78 H => ?_) fun h78 H => ?_
    ·refine au ?_
     refine drw 0 [(0, .stable), (1, .pure), (2, .pure), (3, .pure), (4, .pure), (5, .pure), (6, .stable), (7, .pure), (8, .pure), (9, .pure), (10, .pure), (11, .pure), (12, .stable), (13, .loud), (14, .pure), (15, .pure), (16, .pure), (17, .pure), (18, .pure), (19, .pure), (20, .pure)] hO fun w79 s hO => ?_
     refine sag 0 hO ?_
     refine six cx H.1 H.2.1 ?_
     have h83 := H.1
     have h84 := H.2.1
     replace H := H.2.2
     have zz := ldMp (cx.o hO) h83 h84
     obtain ⟨b80, iL, xF⟩ := zz
     refine GoQ.stable rfl (xF Try.underlying99 rfl rfl) rfl rfl ?_
     refine au ?_
     obtain ⟨h85, H⟩ := H
     refine GoQ.pure rfl (J3A rfl rfl (wrap_i64 h85)) rfl rfl ?_
     refine six cx H.1 H.2.1 ?_
     have h89 := H.1
     have h90 := H.2.1
     replace H := H.2.2
     have zz := ldMp (cx.o hO) h89 h90
     obtain ⟨b86, mK, xG⟩ := zz
     refine GoQ.stable rfl (xG Try.underlying99 rfl rfl) rfl rfl ?_
     refine zcq rfl (J00 body79 rfl (J0h hO.lt ae.u aa.u cg.u bk.u cO.u iL mK H)) fun _ w94 => e3 fun r91 r92 r93 => sq0 hO fun s hO => fun H => ?_
     refine au ?_
     cases r93
     ·refine au ?_
      replace H := (iF H)
      obtain ⟨h95, H⟩ := H
      refine zo (J0k rfl rfl (wrap_i64 h95)) ?_
      refine au ?_
      exact hX3 _ H _ _ ⟨agr, hO, cx.u, fr⟩
     refine au ?_
     refine drw 0 [(0, .pure), (1, .stable), (2, .pure), (3, .pure), (4, .stable), (5, .pure), (6, .stable), (7, .pure), (8, .pure), (9, .stable), (10, .pure), (11, .pure), (12, .pure)] hO fun w96 s hO => ?_
     refine sxl hO aa.u (iT H).1 (iT H).2.1 ?_
     have hle97 := ISl.J1f aa (iT H).1 (iT H).2.1
     refine sxl hO aa.u (iT H).2.2.1 (iT H).2.2.2.1 ?_
     have hle98 := ISl.J1f aa (iT H).2.2.1 (iT H).2.2.2.1
     refine au ?_
     refine Go1.ret3 Try.func35 rfl ⟨_, _, _, ?_, frs, hle97, hle98, (iT H).2.2.2.2⟩
     exact rfl
    refine au ?_
    obtain ⟨h99, H⟩ := H
    refine zo (J0k rfl rfl (wrap_i64 h99)) ?_
    refine au ?_
    exact hX1 _ H _ _ ⟨agr, hO, cx.u, fr⟩
   refine zo (J6n rfl rfl h77) ?_
   refine scm (ifn h77 H) (fun g7 H => ?_) fun g7 H => ?_
   ·refine au ?_
    refine drw 0 [(0, .stable), (1, .pure), (2, .pure), (3, .pure), (4, .pure), (5, .pure), (6, .stable), (7, .pure), (8, .pure), (9, .pure), (10, .pure), (11, .pure), (12, .stable), (13, .loud), (14, .pure), (15, .pure), (16, .pure), (17, .pure), (18, .pure), (19, .pure), (20, .pure)] hO fun nK s hO => ?_
    refine sag 0 hO ?_
    refine six cx H.1 H.2.1 ?_
    have iP := H.1
    have gV := H.2.1
    replace H := H.2.2
    have zz := ldMp (cx.o hO) iP gV
    obtain ⟨DP, um, uo⟩ := zz
    refine GoQ.stable rfl (uo Try.underlying99 rfl rfl) rfl rfl ?_
    refine au ?_
    obtain ⟨f7, H⟩ := H
    refine GoQ.pure rfl (J3A rfl rfl (wrap_i64 f7)) rfl rfl ?_
    refine six cx H.1 H.2.1 ?_
    have f8 := H.1
    have fy := H.2.1
    replace H := H.2.2
    have zz := ldMp (cx.o hO) f8 fy
    obtain ⟨DR, jO, uq⟩ := zz
    refine GoQ.stable rfl (uq Try.underlying99 rfl rfl) rfl rfl ?_
    refine zcq rfl (J00 body79 rfl (J0h hO.lt ae.u aa.u cg.u bk.u cO.u um jO H)) fun _ DS => e3 fun r113 r114 r115 => sq0 hO fun s hO => fun H => ?_
    refine au ?_
    cases r115
    ·refine au ?_
     replace H := (iF H)
     obtain ⟨xH, H⟩ := H
     refine zo (J0k rfl rfl (wrap_i64 xH)) ?_
     refine au ?_
     exact hX3 _ H _ _ ⟨agr, hO, cx.u, fr⟩
    refine au ?_
    refine drw 0 [(0, .pure), (1, .stable), (2, .pure), (3, .pure), (4, .stable), (5, .pure), (6, .stable), (7, .pure), (8, .pure), (9, .stable), (10, .pure), (11, .pure), (12, .pure)] hO fun DT s hO => ?_
    refine sxl hO aa.u (iT H).1 (iT H).2.1 ?_
    have hle119 := ISl.J1f aa (iT H).1 (iT H).2.1
    refine sxl hO aa.u (iT H).2.2.1 (iT H).2.2.2.1 ?_
    have hle120 := ISl.J1f aa (iT H).2.2.1 (iT H).2.2.2.1
    refine au ?_
    refine Go1.ret3 Try.func35 rfl ⟨_, _, _, ?_, frs, hle119, hle120, (iT H).2.2.2.2⟩
    exact rfl
   refine au ?_
   obtain ⟨iV, H⟩ := H
   refine zo (J0k rfl rfl (wrap_i64 iV)) ?_
   refine au ?_
   exact hX1 _ H _ _ ⟨agr, hO, cx.u, fr⟩
  refine au ?_
  refine Go1.ret3 Try.func35 rfl ⟨_, _, _, ?_, frs, (by decide), (by decide), H⟩
  exact rfl
 refine au ?_
 refine Go1.ret3 Try.func35 rfl ⟨_, _, _, ?_, frs, (by decide), (by decide), H⟩
 exact rfl
theorem body36 : Body Try.prog 36 := ⟨Try.f36, Try.func36, rfl, by kernel_rfl⟩
theorem J3j {A : List Nat} {w0 : World} {ap aC ar aw aP : Option Addr} {aq aD av ax aQ : Nat} {a0 : Syntactic} {a1 a2 : Int} (hA : ∀ b ∈ A, b < w0.heap.size) (ae : ISl (Rp.sl (Rp.int .i64)) A w0 ap aq a0.Table) (aa : ISl (Rp.str) A w0 aC aD a0.Words) (cg : ISl (Rp.int .i64) A w0 ar av a0.Images) (bk : ISl (Rp.bool) A w0 aw ax a0.Accept) (cO : ISl (Rp.bool) A w0 aP aQ a0.Plus) {K : Str → Str → Bool → Prop} (H : J0U a0 a1 a2 K) :
    CallsV Try.prog 36 #[.agg #[.int .i64 a0.Letters, .slice ap a0.Table.length aq, .slice aC a0.Words.length aD, .slice ar a0.Images.length av, .slice aw a0.Accept.length ax, .slice aP a0.Plus.length aQ], .int .i64 a1, .int .i64 a2] w0 (fun v w' => ∃ (r0 r1 : Str) (r2 : Bool), v = .tuple #[.string (gstr r0), .string (gstr r1), .bool r2] ∧ Same w0 w' ∧ r0.length ≤ mx ∧ r1.length ≤ mx ∧ K r0 r1 r2) := by
 refine CallsV.of (l := [.agg #[.int .i64 a0.Letters, .slice ap a0.Table.length aq, .slice aC a0.Words.length aD, .slice ar a0.Images.length av, .slice aw a0.Accept.length ax, .slice aP a0.Plus.length aQ], .int .i64 a1, .int .i64 a2]) Try.func36 rfl Try.ntmps36 rfl ?_
 have hO := Owns.start hA
 have hB := Fr.refl (bl []) w0
 unfold J0U at H
 refine sbx hO fun w1 B2 s hO => ?_
 refine sbu Fl.i 3 [a1, a2] hO fun w4 p5 s hO => ?_
 have hl7 := t1lend 0 hO
 have hn8 := t1n 0 hO
 have hOc9 := hO.drop 0
 refine zcr (J00 body30 (show ([.slice ap a0.Table.length aq, .slice p5 2 2] : List Value) = [.slice ap a0.Table.length aq, .slice p5 ([a1, a2]).length 2] from by rw [← hn8]) (J4M hOc9.lt (ae.u.ch (Owns.J4r _ _ 0)) hl7 H)) fun _ w11 => e1 fun r10 => sc0 hO fun s hO => fun H => ?_
 cases r10
 ·refine au ?_
  refine Go1.ret3 Try.func36 rfl ⟨_, _, _, ?_, frs, (by decide), (by decide), (iF H)⟩
  exact rfl
 refine scm (iT H) (fun h12 H => ?_) fun h12 H => ?_
 ·refine au ?_
  refine Go1.ret3 Try.func36 rfl ⟨_, _, _, ?_, frs, (by decide), (by decide), H⟩
  exact rfl
 refine sln0 ?_
 refine au ?_
 refine sdr [0] hO fun s hO => ?_
 refine lw (H ae.bd) (fun (k1_14, k1_15, k1_16, iw) σ w => (fun Z => agrees σ [(1, .int .i64 a1), (2, .int .i64 a2), (3, .pointer (some ⟨B2, 0, none⟩)), (9, .int .i64 k1_14), (10, .int .i64 k1_15), (11, .int .i64 k1_16), (31, .int .i64 (a0.Table.length : Int)), (32, .int .i64 (iw : Int))] ∧ Owns w0.heap.size w Z A ∧ Fr (bl []) w0 (bl Z) w) [.blk B2 (.cells #[.int .i64 a0.Letters, .slice ap a0.Table.length aq, .slice aC a0.Words.length aD, .slice ar a0.Images.length av, .slice aw a0.Accept.length ax, .slice aP a0.Plus.length aQ] 33 (0, 0))]) ⟨agr, hO, fr⟩ ?_
 refine fun X1 => p3 fun k1_14 k1_15 k1_16 iw => fun H hX1 σ w13 => d2 fun hag hO hB => ?_
 dsimp only at H
 refine Go1.keep _ hag ?_
 revert hO; repeat (rename Owns _ _ _ _ => q; clear q)
 intro hO; repeat (rename Sq _ _ _ _ _ _ => q; clear q)
 refine scm H (fun h18 H => ?_) fun h18 H => ?_
 ·refine sln0 ?_
  refine au ?_
  refine lw H (fun (gq, gn, nC, k2_23) σ w => (fun Z => agrees σ [(1, .int .i64 a1), (2, .int .i64 a2), (3, .pointer (some ⟨B2, 0, none⟩)), (9, .int .i64 gq), (10, .int .i64 gn), (11, .int .i64 nC), (12, .int .i64 (iw : Int)), (31, .int .i64 (a0.Table.length : Int)), (32, .int .i64 (iw : Int)), (37, .int .i64 (a0.Table.length : Int)), (38, .int .i64 (k2_23 : Int))] ∧ Owns w0.heap.size w Z A ∧ Fr (bl []) w0 (bl Z) w) [.blk B2 (.cells #[.int .i64 a0.Letters, .slice ap a0.Table.length aq, .slice aC a0.Words.length aD, .slice ar a0.Images.length av, .slice aw a0.Accept.length ax, .slice aP a0.Plus.length aQ] 33 (0, 0))]) ⟨agr, hO, fr⟩ ?_
  refine fun X2 => p3 fun gq gn nC k2_23 => fun H hX2 σ w19 => d2 fun hag hO hB => ?_
  dsimp only at H
  refine Go1.keep _ hag ?_
  revert hO; repeat (rename Owns _ _ _ _ => q; clear q)
  intro hO; repeat (rename Sq _ _ _ _ _ _ => q; clear q)
  refine scm H (fun h24 H => ?_) fun h24 H => ?_
  ·refine au ?_
   refine drw 0 [(0, .pure), (1, .stable), (2, .pure), (3, .stable), (4, .pure), (5, .pure), (6, .stable), (7, .pure), (8, .pure), (9, .stable), (10, .pure), (11, .stable), (12, .pure), (13, .pure), (14, .stable), (15, .pure), (16, .stable), (17, .pure), (18, .stable), (19, .pure), (20, .pure), (21, .stable), (22, .pure), (23, .pure), (24, .stable), (25, .pure), (26, .stable), (27, .pure), (28, .pure), (29, .stable), (30, .pure), (31, .pure)] hO fun w25 s hO => ?_
   refine sxls hO ae.u H.1 H.2.1 fun p26 c27 xI => ?_
   refine sxl hO xI.u H.2.2.1 H.2.2.2.1 ?_
   refine sxls hO ae.u H.2.2.2.2.1 H.2.2.2.2.2.1 fun p29 c30 iO => ?_
   refine sxl hO iO.u H.2.2.2.2.2.2.1 H.2.2.2.2.2.2.2.1 ?_
   refine sxls hO ae.u H.2.2.2.2.2.2.2.2.1 H.2.2.2.2.2.2.2.2.2.1 fun p32 c33 xJ => ?_
   refine sxl hO xJ.u H.2.2.2.2.2.2.2.2.2.2.1 H.2.2.2.2.2.2.2.2.2.2.2.1 ?_
   refine sxls hO ae.u H.2.2.2.2.2.2.2.2.2.2.2.2.1 H.2.2.2.2.2.2.2.2.2.2.2.2.2.1 fun p35 c36 xK => ?_
   refine sxl hO xK.u H.2.2.2.2.2.2.2.2.2.2.2.2.2.2.1 H.2.2.2.2.2.2.2.2.2.2.2.2.2.2.2.1 ?_
   refine au ?_
   refine drw 0 [(0, .pure), (1, .stable), (2, .pure), (3, .pure), (4, .stable), (5, .pure), (6, .stable), (7, .pure), (8, .pure), (9, .stable), (10, .pure)] hO fun w38 s hO => ?_
   refine au ?_
   have h39 := H.1
   have h40 := H.2.1
   have h41 := H.2.2.1
   have h42 := H.2.2.2.1
   have h43 := H.2.2.2.2.1
   have h44 := H.2.2.2.2.2.1
   have h45 := H.2.2.2.2.2.2.1
   have h46 := H.2.2.2.2.2.2.2.1
   have h47 := H.2.2.2.2.2.2.2.2.1
   have h48 := H.2.2.2.2.2.2.2.2.2.1
   have h49 := H.2.2.2.2.2.2.2.2.2.2.1
   have h50 := H.2.2.2.2.2.2.2.2.2.2.2.1
   have h51 := H.2.2.2.2.2.2.2.2.2.2.2.2.1
   have h52 := H.2.2.2.2.2.2.2.2.2.2.2.2.2.1
   have h53 := H.2.2.2.2.2.2.2.2.2.2.2.2.2.2.1
   have h54 := H.2.2.2.2.2.2.2.2.2.2.2.2.2.2.2.1
   have h55 := H.2.2.2.2.2.2.2.2.2.2.2.2.2.2.2.2.1
   have h56 := H.2.2.2.2.2.2.2.2.2.2.2.2.2.2.2.2.2.1
   refine sxb hO bk.u H.2.2.2.2.2.2.2.2.2.2.2.2.2.2.2.2.1 H.2.2.2.2.2.2.2.2.2.2.2.2.2.2.2.2.2.1 H.2.2.2.2.2.2.2.2.2.2.2.2.2.2.2.2.2.2 (fun h57 H => ?_) fun h57 H => ?_
   ·refine au ?_
    have h58 := H.1
    have h59 := H.2.1
    refine sxb hO bk.u H.1 H.2.1 H.2.2 (fun h60 H => ?_) fun h60 H => ?_
    ·refine GoQ.pure rfl (J2C Try.underlying4 rfl rfl) rfl rfl ?_
     refine sinc (natbd h24 ae.bd) ?_
     refine au ?_
     exact hX2 _ H _ _ ⟨agr, hO, fr⟩
    refine GoQ.pure rfl (J2C Try.underlying4 rfl rfl) rfl rfl ?_
    refine au ?_
    refine drw 0 [(0, .pure), (1, .stable), (2, .pure), (3, .pure), (4, .stable), (5, .pure), (6, .pure), (7, .stable), (8, .pure), (9, .pure), (10, .stable), (11, .pure), (12, .pure), (13, .pure)] hO fun w61 s hO => ?_
    refine sxl hO aa.u H.1 H.2.1 ?_
    have hle62 := ISl.J1f aa H.1 H.2.1
    refine GoQ.pure rfl (J3I Try.underlying9 rfl) rfl rfl ?_
    have h63 := H.1
    have h64 := H.2.1
    replace H := H.2.2
    replace H := H hle62
    refine sxl hO aa.u H.1 H.2.1 ?_
    have hle65 := ISl.J1f aa H.1 H.2.1
    refine GoQ.pure rfl (J3I Try.underlying9 rfl) rfl rfl ?_
    have h66 := H.1
    have h67 := H.2.1
    replace H := H.2.2
    replace H := H hle65
    obtain ⟨h68, H⟩ := H
    refine GoQ.pure rfl (J0k rfl rfl (wrap_i64 h68)) rfl rfl ?_
    refine scm H (fun h69 H => ?_) fun h69 H => ?_
    ·refine sinc (natbd h24 ae.bd) ?_
     refine au ?_
     exact hX2 _ H _ _ ⟨agr, hO, fr⟩
    refine scm H (fun h70 H => ?_) fun h70 H => ?_
    ·refine sinc (natbd h24 ae.bd) ?_
     refine au ?_
     exact hX2 _ H _ _ ⟨agr, hO, fr⟩
    refine sinc (natbd h24 ae.bd) ?_
    refine au ?_
    exact hX2 _ H _ _ ⟨agr, hO, fr⟩
   refine au ?_
   have h71 := H.1
   have h72 := H.2.1
   refine sxb hO bk.u H.1 H.2.1 H.2.2 (fun h73 H => ?_) fun h73 H => ?_
   ·refine GoQ.pure rfl (J2C Try.underlying4 rfl rfl) rfl rfl ?_
    refine au ?_
    refine drw 0 [(0, .pure), (1, .stable), (2, .pure), (3, .pure), (4, .stable), (5, .pure), (6, .pure), (7, .stable), (8, .pure), (9, .pure), (10, .stable), (11, .pure), (12, .pure), (13, .pure)] hO fun w74 s hO => ?_
    refine sxl hO aa.u H.1 H.2.1 ?_
    have hle75 := ISl.J1f aa H.1 H.2.1
    refine GoQ.pure rfl (J3I Try.underlying9 rfl) rfl rfl ?_
    have h76 := H.1
    have h77 := H.2.1
    replace H := H.2.2
    replace H := H hle75
    refine sxl hO aa.u H.1 H.2.1 ?_
    have hle78 := ISl.J1f aa H.1 H.2.1
    refine GoQ.pure rfl (J3I Try.underlying9 rfl) rfl rfl ?_
    have h79 := H.1
    have h80 := H.2.1
    replace H := H.2.2
    replace H := H hle78
    obtain ⟨h81, H⟩ := H
    refine GoQ.pure rfl (J0k rfl rfl (wrap_i64 h81)) rfl rfl ?_
    refine scm H (fun h82 H => ?_) fun h82 H => ?_
    ·refine sinc (natbd h24 ae.bd) ?_
     refine au ?_
     exact hX2 _ H _ _ ⟨agr, hO, fr⟩
    refine scm H (fun h83 H => ?_) fun h83 H => ?_
    ·refine sinc (natbd h24 ae.bd) ?_
     refine au ?_
     exact hX2 _ H _ _ ⟨agr, hO, fr⟩
    refine sinc (natbd h24 ae.bd) ?_
    refine au ?_
    exact hX2 _ H _ _ ⟨agr, hO, fr⟩
   refine GoQ.pure rfl (J2C Try.underlying4 rfl rfl) rfl rfl ?_
   refine sinc (natbd h24 ae.bd) ?_
   refine au ?_
   exact hX2 _ H _ _ ⟨agr, hO, fr⟩
  refine sinc (natbd h18 ae.bd) ?_
  refine au ?_
  exact hX1 _ H _ _ ⟨agr, hO, fr⟩
 refine scm H (fun h84 H => ?_) fun h84 H => ?_
 ·refine au ?_
  refine Go1.ret3 Try.func36 rfl ⟨_, _, _, ?_, frs, (by decide), (by decide), H⟩
  exact rfl
 refine au ?_
 refine drw 0 [(0, .pure), (1, .stable), (2, .pure), (3, .pure), (4, .stable), (5, .pure), (6, .stable), (7, .pure), (8, .pure), (9, .stable), (10, .pure), (11, .pure), (12, .pure)] hO fun w85 s hO => ?_
 refine sxl hO aa.u H.1 H.2.1 ?_
 have hle86 := ISl.J1f aa H.1 H.2.1
 refine sxl hO aa.u H.2.2.1 H.2.2.2.1 ?_
 have hle87 := ISl.J1f aa H.2.2.1 H.2.2.2.1
 refine au ?_
 refine Go1.ret3 Try.func36 rfl ⟨_, _, _, ?_, frs, hle86, hle87, H.2.2.2.2⟩
 exact rfl
theorem J1y {A : List Nat} {w0 : World} {ai ak : Option Addr} {aj am : Nat} {d : DFA} {x y : Int} (hA : ∀ b ∈ A, b < w0.heap.size) (bm : ISl (Rp.bool) A w0 ai aj d.Final) (ce : ISl (Rp.sl (Rp.int .i64)) A w0 ak am d.Next) {K : Bool → Prop} (H : law21_SyntacticSeparates d x y K) :
    CallsV Try.prog 9 #[.agg #[.int .i64 d.Letters, .int .i64 d.Start, .slice ai d.Final.length aj, .slice ak d.Next.length am], .int .i64 x, .int .i64 y] w0 (fun v w' => ∃ (r0 : Bool), v = .bool r0 ∧ Same w0 w' ∧ K r0) := by
 refine CallsV.of (l := [.agg #[.int .i64 d.Letters, .int .i64 d.Start, .slice ai d.Final.length aj, .slice ak d.Next.length am], .int .i64 x, .int .i64 y]) Try.func9 rfl Try.ntmps9 rfl ?_
 have hO := Owns.start hA
 have hB := Fr.refl (bl []) w0
 unfold law21_SyntacticSeparates at H
 refine sbx hO fun w1 B2 s hO => ?_
 refine sag 0 hO ?_
 refine zcr (J00 body17 rfl (J3W hO.lt bm.u ce.u H)) fun _ w5 => e1 fun r4 => sc0 hO fun s hO => fun H => ?_
 cases r4
 ·refine au ?_
  refine zcr (J00 body18 rfl (J1z hO.lt (iF H))) fun _ w7 => e1 fun r6 => sc0 hO fun s hO => fun H => ?_
  refine au ?_
  refine Go1.ret1 Try.func9 rfl ⟨_, ?_, frs, H⟩
  exact rfl
 refine sag 0 hO ?_
 refine zcr (J00 body19 rfl (J1k hO.lt bm.u ce.u (iT H))) fun _ w10 => e4 fun r8 r9 eH eI => e4 fun fD fE fo fq => e4 fun ft fu fK fL => sc0 hO fun s hO => d1 fun db => d4 fun dw dp dq dC H => ?_
 refine sal hO fun w11 B12 s hO => ?_
 refine sba 0 hO fun w14 s hO => ?_
 refine scm H (fun h15 H => ?_) fun h15 H => ?_
 ·refine sag 0 hO ?_
  refine au ?_
  refine zcr (J00 body35 rfl (J2n hO.lt db.u dw.u dp.u dq.u dC.u H)) fun _ w19 => e3 fun r16 r17 r18 => sc0 hO fun s hO => d2 fun xT xU H => ?_
  refine sag 0 hO ?_
  refine au ?_
  refine zcr (J00 body36 rfl (J3j hO.lt db.u dw.u dp.u dq.u dC.u H)) fun _ w23 => e3 fun r20 r21 r22 => sc0 hO fun s hO => d2 fun xV xW H => ?_
  refine scm H (fun h24 H => ?_) fun h24 H => ?_
  ·refine scm H (fun h25 H => ?_) fun h25 H => ?_
   ·refine au ?_
    cases r18
    ·cases r22
     ·refine zo (J2C Try.underlying4 rfl rfl) ?_
      refine au ?_
      refine zcr (J00 body18 rfl (J1z hO.lt (iF (iF H)))) fun _ w27 => e1 fun r26 => sc0 hO fun s hO => fun H => ?_
      refine au ?_
      refine Go1.ret1 Try.func9 rfl ⟨_, ?_, frs, H⟩
      exact rfl
     refine zo (J2C Try.underlying4 rfl rfl) ?_
     refine au ?_
     refine Go1.ret1 Try.func9 rfl ⟨_, ?_, frs, (iT (iF H))⟩
     exact rfl
    cases r22
    ·refine zo (J2C Try.underlying4 rfl rfl) ?_
     refine au ?_
     refine Go1.ret1 Try.func9 rfl ⟨_, ?_, frs, (iF (iT H))⟩
     exact rfl
    refine zo (J2C Try.underlying4 rfl rfl) ?_
    refine au ?_
    refine zcr (J00 body18 rfl (J1z hO.lt (iT (iT H)))) fun _ w29 => e1 fun r28 => sc0 hO fun s hO => fun H => ?_
    refine au ?_
    refine Go1.ret1 Try.func9 rfl ⟨_, ?_, frs, H⟩
    exact rfl
   refine au ?_
   refine Go1.ret1 Try.func9 rfl ⟨_, ?_, frs, H⟩
   exact rfl
  refine au ?_
  refine Go1.ret1 Try.func9 rfl ⟨_, ?_, frs, H⟩
  exact rfl
 refine au ?_
 refine Go1.ret1 Try.func9 rfl ⟨_, ?_, frs, H⟩
 exact rfl
end Sg
