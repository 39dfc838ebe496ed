/- -/
import Derived.Test.YtlneebpmblkllaaVd
import Derived.Test.YtlneebpmblkllaaWSyntacticMonoids
import Derived.Test.YtlneebpmblkllaaWSyntacticMonoidsb
namespace Sg
open Go Go.RowKit Go.Proofs
set_option linter.unusedVariables false
set_option linter.unusedSimpArgs false
set_option maxRecDepth 100000
set_option maxHeartbeats 4000000
theorem body63 : Body Try.prog 63 := ⟨Try.f63, Try.func63, rfl, by kernel_rfl⟩
theorem body62 : Body Try.prog 62 := ⟨Try.f62, Try.func62, rfl, by kernel_rfl⟩
theorem body19 : Body Try.prog 19 := ⟨Try.f19, Try.func19, rfl, by kernel_rfl⟩
theorem J1n {A : List Nat} {w0 : World} {aa : Option Addr} {ad : Nat} {ae : Option Addr} {af : Nat} {d : DFA} (hA : ∀ b ∈ A, b < w0.heap.size) (aq : ISl (Rp.bool) A w0 aa ad d.Final) (aA : ISl (Rp.sl (Rp.int .i64)) A w0 ae af d.Next) {K : Syntactic → Int → Prop} (H : J0w d K) :
    CallsV Try.prog 19 #[.agg #[.int .i64 d.Letters, .int .i64 d.Start, .slice aa d.Final.length ad, .slice ae d.Next.length af]] w0 (fun v w' => ∃ (r0 : Syntactic), ∃ (r1 : Int), ∃ (eF : Option Addr), ∃ (eG : Nat), ∃ (eH : Option Addr), ∃ (eI : Nat), ∃ (dU : Option Addr), ∃ (dV : Nat), ∃ (dW : Option Addr), ∃ (dX : Nat), ∃ (fq : Option Addr), ∃ (ft : Nat), v = .tuple #[.agg #[.int .i64 r0.Letters, .slice eF r0.Table.length eG, .slice eH r0.Words.length eI, .slice dU r0.Images.length dV, .slice dW r0.Accept.length dX, .slice fq r0.Plus.length ft], .int .i64 r1] ∧ Same w0 w' ∧ ISl (Rp.sl (Rp.int .i64)) A w' eF eG r0.Table ∧ ISl (Rp.str) A w' eH eI r0.Words ∧ ISl (Rp.int .i64) A w' dU dV r0.Images ∧ ISl (Rp.bool) A w' dW dX r0.Accept ∧ ISl (Rp.bool) A w' fq ft r0.Plus ∧ K r0 r1) := by
 refine CallsV.of (l := [.agg #[.int .i64 d.Letters, .int .i64 d.Start, .slice aa d.Final.length ad, .slice ae d.Next.length af]]) Try.func19 rfl Try.ntmps19 rfl ?_
 have hO := Owns.start hA
 have hB := Fr.refl (bl []) w0
 unfold J0w at H
 refine au ?_
 refine sbx hO fun w1 B2 s hO => ?_
 refine sal hO fun w4 B5 s hO => ?_
 refine au ?_
 refine zs (J05 (vs := [.int .i64 d.Letters, .int .i64 d.Start, .slice aa d.Final.length ad, .slice ae d.Next.length af]) (i := 0) 1 hO rfl rfl Try.underlying25 rfl ti25 rfl) ?_
 refine zcr (J02 body61 rfl (J0I hO.lt aq.u aA.u H)) fun _ w8 => e1 fun r7 => sc0 hO fun s hO => fun H => ?_
 refine au ?_
 refine scm H (fun h9 H => ?_) fun h9 H => ?_
 ·refine au ?_
  refine sal hO fun w10 B11 s hO => ?_
  refine au ?_
  refine zs (J05 (vs := [.int .i64 d.Letters, .int .i64 d.Start, .slice aa d.Final.length ad, .slice ae d.Next.length af]) (i := 0) 2 hO rfl rfl Try.underlying25 rfl ti25 rfl) ?_
  refine zcr (J02 body22 rfl (J3k hO.lt aq.u aA.u H)) fun _ w14 => e4 fun r13 bK bM dm => e1 fun dn => sc0 hO fun s hO => d2 fun cB dP H => ?_
  refine GoR.inl (vs := [.pointer (some ⟨B11, 0, none⟩), .agg #[.int .i64 r13.Letters, .int .i64 r13.Start, .slice bK r13.Final.length bM, .slice dm r13.Next.length dn]]) (caps := []) rfl rfl body62 Try.func62 rfl Try.ntmps62 rfl rfl rfl ?_
  intro RhR15 hR15
  refine au ?_
  refine sbx hO fun w16 B17 s hO => ?_
  refine au ?_
  refine sln0 ?_
  refine au ?_
  replace H := (H cB.bd)
  obtain ⟨h19, H⟩ := H
  refine zo (J04 rfl rfl (wrap_i64 h19)) ?_
  refine scm H (fun h20 H => ?_) fun h20 H => ?_
  ·refine au ?_
   refine Go1.ret1V Try.func62 rfl (show _ = .int .i64 (3 : Int) from rfl) ?_
   refine hR15 _ _ ?_
   refine au ?_
   refine zo (fun w => opB (J58 rfl rfl w) (ndF (by decide))) ?_
   refine au ?_
   refine zo (J06 Try.underlying33 ti33 (pl := [(0, 1), (1, 1), (2, 1), (3, 1), (4, 1), (5, 1)]) (vs := []) (cs := #[.int .i64 (0 : Int), .slice none 0 0, .slice none 0 0, .slice none 0 0, .slice none 0 0, .slice none 0 0]) (by kernel_rfl) rfl (by kernel_rfl)) ?_
   refine au ?_
   refine sba 2 hO fun w21 s hO => ?_
   refine au ?_
   refine Go1.retC2 Try.func19 rfl rfl (J03 (vs := [.int .i64 (0 : Int), .slice none 0 0, .slice none 0 0, .slice none 0 0, .slice none 0 0, .slice none 0 0]) 2 hO rfl rfl Try.underlying33 rfl ti33) ⟨((⟨(0 : Int), ([] : List (List Int)), ([] : List Str), ([] : List Int), ([] : List Bool), ([] : List Bool)⟩ : Syntactic)), _, _, _, _, _, _, _, _, _, _, _, ?_, frs, (ISl.null _ _ _), (ISl.null _ _ _), (ISl.null _ _ _), (ISl.null _ _ _), (ISl.null _ _ _), H⟩
   exact rfl
  refine au ?_
  refine zo (fun w => opB (J3I Try.underlying23 rfl rfl w) rfl) ?_
  refine au ?_
  obtain ⟨h29, H⟩ := H
  obtain ⟨h30, H⟩ := H
  have zz := t2makeS (m := r13.Letters) (e' := 3) Fl.i Try.underlying23 ti31 hO h29 h30 (by decide)
  obtain ⟨w22, p23, De, RE, Df, hz32⟩ := zz
  refine zg (Df rfl rfl) ?_
  refine nst De fun s hO => ?_
  refine au ?_
  refine sbs 2 hO fun w33 s hO => ?_
  refine au ?_
  refine zo (J0x Try.underlying23 rfl (t2neq 0 hO rfl)) ?_
  refine au ?_
  refine sdr [4] hO fun s hO => ?_
  refine lw H (fun (dw, dM) σ w => ∃ qB, (fun Z => agrees σ [(0, .pointer (some ⟨B11, 0, none⟩)), (3, .pointer (some ⟨B17, 0, none⟩)), (5, .int .i64 (r13.Final.length : Int)), (33, .int .i64 ((List.replicate r13.Letters.toNat ([] : List Int)).length : Int)), (34, .int .i64 (dw : Int))] ∧ Owns w0.heap.size w Z A ∧ ISl (Rp.bool) (bl Z ++ A) w bK bM r13.Final ∧ ISl (Rp.sl (Rp.int .i64)) (bl Z ++ A) w dm dn r13.Next ∧ Fr (bl []) w0 (bl Z) w) [t2 Fl.i 31 3 p23 r13.Letters.toNat r13.Letters.toNat qB dM, .blk B17 (.cells #[.int .i64 r13.Letters, .int .i64 r13.Start, .slice bK r13.Final.length bM, .slice dm r13.Next.length dn] 25 (0, 0)), .blk B11 (.cells #[.slice p23 r13.Letters.toNat r13.Letters.toNat, .slice none 0 0, .int .i64 (0 : Int)] 83 (0, 0)), .blk B5 (.cells #[.int .i64 (0 : Int), .slice none 0 0, .slice none 0 0, .slice none 0 0, .slice none 0 0, .slice none 0 0] 33 (0, 0))]) ⟨_, agr, hO, cB.u, dP.u, fr⟩ ?_
  refine fun X1 => p1 fun dw dM => fun H hX1 σ w34 => e1 fun qB => d4 fun hag hO cB dP hB => ?_
  dsimp only at H
  refine Go1.keep _ hag ?_
  revert hO; repeat (rename Owns _ _ _ _ => q; clear q)
  intro hO; repeat (rename Sq _ _ _ _ _ _ => q; clear q)
  refine au ?_
  refine scm H (fun h38 H => ?_) fun h38 H => ?_
  ·refine au ?_
   refine lw H (fun (k2_40, d_41) σ w => ∃ iD, (fun Z => agrees σ [(0, .pointer (some ⟨B11, 0, none⟩)), (3, .pointer (some ⟨B17, 0, none⟩)), (5, .int .i64 (r13.Final.length : Int)), (6, .int .i64 (dw : Int)), (33, .int .i64 ((List.replicate r13.Letters.toNat ([] : List Int)).length : Int)), (34, .int .i64 (dw : Int)), (37, .int .i64 (r13.Final.length : Int)), (38, .int .i64 (k2_40 : Int))] ∧ Owns w0.heap.size w Z A ∧ ISl (Rp.bool) (bl Z ++ A) w bK bM r13.Final ∧ ISl (Rp.sl (Rp.int .i64)) (bl Z ++ A) w dm dn r13.Next ∧ Fr (bl []) w0 (bl Z) w) [t2 Fl.i 31 3 p23 r13.Letters.toNat r13.Letters.toNat iD d_41, .blk B17 (.cells #[.int .i64 r13.Letters, .int .i64 r13.Start, .slice bK r13.Final.length bM, .slice dm r13.Next.length dn] 25 (0, 0)), .blk B11 (.cells #[.slice p23 r13.Letters.toNat r13.Letters.toNat, .slice none 0 0, .int .i64 (0 : Int)] 83 (0, 0)), .blk B5 (.cells #[.int .i64 (0 : Int), .slice none 0 0, .slice none 0 0, .slice none 0 0, .slice none 0 0, .slice none 0 0] 33 (0, 0))]) ⟨_, agr, hO, cB, dP, fr⟩ ?_
   refine fun X2 => p1 fun k2_40 d_41 => fun H hX2 σ w39 => e1 fun iD => d4 fun hag hO cB dP hB => ?_
   dsimp only at H
   refine Go1.keep _ hag ?_
   revert hO; repeat (rename Owns _ _ _ _ => q; clear q)
   intro hO; repeat (rename Sq _ _ _ _ _ _ => q; clear q)
   refine au ?_
   refine scm H (fun h43 H => ?_) fun h43 H => ?_
   ·refine au ?_
    refine Go1.drawT (ok := fun _ => True) Same.tr [26, 28] 29 (.qp 0 (.qp 1 (.qp 2 (.qp 4 (.qp 5 (.qp 6 (.qp 7 (.qs 8 (.qp 9 (.qp 10 (.qs 11 (.qp 12 (.qp 13 (.qp 14 (.qs 15 (.qp 16 (.qs 17 (.qp 18 (.qp 19 (.qs 20 (.qp 21 (.qp 22 (.qs 23 (.qp 24 (.alt 3 (.alt 25 (.alt 26 (.qp 27 (.alt 28 .nil .fin)) .fin) .fin) (.alt 25 (.alt 3 (.alt 26 (.qp 27 (.alt 28 .nil .fin)) .fin) (.alt 26 (.alt 3 (.qp 27 (.alt 28 .nil .fin)) .fin) .fin)) .fin)))))))))))))))))))))))))) mixed (by kernel_rfl) ?_
    intro w44 Kc
    refine sm hO Kc fun s hO => ?_
    refine au ?_
    refine sbl 2 ?_
    refine au ?_
    obtain ⟨h46, H⟩ := H
    obtain ⟨h47, H⟩ := H
    refine GoT.pure rfl (J07 Try.underlying23 ti31 rfl rfl h46 (ltn (t2neq 0 hO rfl) h47) (t2some 0 hO rfl h46 h47)) rfl rfl ?_
    refine GoT.stable rfl (t2head 0 hO rfl h46 h47 Try.underlying31 rfl rfl) rfl rfl ?_
    refine au ?_
    refine sbl 2 ?_
    refine au ?_
    refine sbl 1 ?_
    refine au ?_
    refine sxls hO dP.u H.1 H.2.1 fun p48 c49 iV => ?_
    refine au ?_
    refine sxl hO iV.u H.2.2.1 H.2.2.2.1 ?_
    have h51 := H.1
    have h52 := H.2.1
    have h53 := H.2.2.1
    have h54 := H.2.2.2.1
    replace H := H.2.2.2.2
    obtain ⟨h55, H⟩ := H
    refine GoT.pure rfl (J04 rfl rfl (wrap_i64 h55)) rfl rfl ?_
    refine GoT.both ?_ ?_
    ·skip
     skip
     refine sbl 2 ?_
     skip
     refine sbu Fl.i 3 [((0 : Int) + (ix (ix r13.Next (k2_40 : Int)) (dw : Int)))] hO fun w56 p57 s hO => ?_
     skip
     refine sfr 1 hO fun s hO => ?_
     have zz := t2take (hf := Fl.i) hO h46 h47
     obtain ⟨Kd, qH, uz⟩ := zz
     refine nst qH fun s hO => ?_
     have Ke := uz (bl [.row 3 1 (iD (dw : Int).toNat).1 ((ix d_41 (dw : Int)).length) ((iD (dw : Int).toNat).2) Kd, t2h Fl.i 31 3 p23 r13.Letters.toNat r13.Letters.toNat iD d_41 (dw : Int).toNat, t1 Fl.i 3 p57 1 1 [((0 : Int) + (ix (ix r13.Next (k2_40 : Int)) (dw : Int)))], .blk B17 (.cells #[.int .i64 r13.Letters, .int .i64 r13.Start, .slice bK r13.Final.length bM, .slice dm r13.Next.length dn] 25 (0, 0)), .blk B11 (.cells #[.slice p23 r13.Letters.toNat r13.Letters.toNat, .slice none 0 0, .int .i64 (0 : Int)] 83 (0, 0)), .blk B5 (.cells #[.int .i64 (0 : Int), .slice none 0 0, .slice none 0 0, .slice none 0 0, .slice none 0 0, .slice none 0 0] 33 (0, 0))] ++ A)
     refine sfz 2 hO fun s hO Kf Kg => ?_
     obtain ⟨h66, H⟩ := H
     have zz := oapp Try.underlying31 ti3 rfl 0 hO rfl Ke.u Kf Kg h66 (by decide)
     obtain ⟨w67, p68, c69, RF, Dg, zR, Dh⟩ := zz
     dsimp only [sS, sZ] at zR
     refine GoT.stepX rfl (Dh (by exact rfl) (by exact rfl)) rfl rfl rfl ?_
     refine nst Dg fun s hO => ?_
     obtain ⟨h75, H⟩ := H
     obtain ⟨h76, H⟩ := H
     refine GoT.pure rfl (J07 Try.underlying23 ti31 rfl rfl h75 (ltn (t2neqH 1 hO rfl) h76) (t2someH 1 hO rfl h75 h76)) rfl rfl ?_
     skip
     refine sfr 1 hO fun s hO => ?_
     refine sfr 1 hO fun s hO => ?_
     have zz := t2fix (hf := Fl.i) hO zR.u h75 h76 rfl
     obtain ⟨w77, gQ, qF⟩ := zz
     refine GoT.stepX rfl (qF Try.underlying31 rfl ti31 (by exact rfl) (by exact rfl)) rfl rfl rfl ?_
     refine nst gQ fun s hO => ?_
     refine au ?_
     refine sinc (natbd h43 cB.bd) ?_
     refine au ?_
     exact hX2 _ H _ _ ⟨_, agr, hO, cB.u, dP.u, fr⟩
    skip
    refine sbu Fl.i 3 [((0 : Int) + (ix (ix r13.Next (k2_40 : Int)) (dw : Int)))] hO fun w80 p81 s hO => ?_
    refine GoT.both ?_ ?_
    ·skip
     skip
     refine sbl 3 ?_
     skip
     refine sfr 1 hO fun s hO => ?_
     have zz := t2take (hf := Fl.i) hO h46 h47
     obtain ⟨Kh, Di, Ki⟩ := zz
     refine nst Di fun s hO => ?_
     have i4 := Ki (bl [.row 3 1 (iD (dw : Int).toNat).1 ((ix d_41 (dw : Int)).length) ((iD (dw : Int).toNat).2) Kh, t2h Fl.i 31 3 p23 r13.Letters.toNat r13.Letters.toNat iD d_41 (dw : Int).toNat, t1 Fl.i 3 p81 1 1 [((0 : Int) + (ix (ix r13.Next (k2_40 : Int)) (dw : Int)))], .blk B17 (.cells #[.int .i64 r13.Letters, .int .i64 r13.Start, .slice bK r13.Final.length bM, .slice dm r13.Next.length dn] 25 (0, 0)), .blk B11 (.cells #[.slice p23 r13.Letters.toNat r13.Letters.toNat, .slice none 0 0, .int .i64 (0 : Int)] 83 (0, 0)), .blk B5 (.cells #[.int .i64 (0 : Int), .slice none 0 0, .slice none 0 0, .slice none 0 0, .slice none 0 0, .slice none 0 0] 33 (0, 0))] ++ A)
     refine sfz 2 hO fun s hO Kj vz => ?_
     obtain ⟨h90, H⟩ := H
     have zz := oapp Try.underlying31 ti3 rfl 0 hO rfl i4.u Kj vz h90 (by decide)
     obtain ⟨w91, p92, c93, RG, Dj, zS, Dk⟩ := zz
     dsimp only [sS, sZ] at zS
     refine GoT.stepX rfl (Dk (by exact rfl) (by exact rfl)) rfl rfl rfl ?_
     refine nst Dj fun s hO => ?_
     obtain ⟨h99, H⟩ := H
     obtain ⟨m8, H⟩ := H
     refine GoT.pure rfl (J07 Try.underlying23 ti31 rfl rfl h99 (ltn (t2neqH 1 hO rfl) m8) (t2someH 1 hO rfl h99 m8)) rfl rfl ?_
     skip
     refine sfr 1 hO fun s hO => ?_
     refine sfr 1 hO fun s hO => ?_
     have zz := t2fix (hf := Fl.i) hO zS.u h99 m8 rfl
     obtain ⟨uo, zT, zU⟩ := zz
     refine GoT.stepX rfl (zU Try.underlying31 rfl ti31 (by exact rfl) (by exact rfl)) rfl rfl rfl ?_
     refine nst zT fun s hO => ?_
     refine au ?_
     refine sinc (natbd h43 cB.bd) ?_
     refine au ?_
     exact hX2 _ H _ _ ⟨_, agr, hO, cB.u, dP.u, fr⟩
    skip
    refine sfr 1 hO fun s hO => ?_
    have zz := t2take (hf := Fl.i) hO h46 h47
    obtain ⟨Dl, zV, Dn⟩ := zz
    refine nst zV fun s hO => ?_
    have Do := Dn (bl [.row 3 1 (iD (dw : Int).toNat).1 ((ix d_41 (dw : Int)).length) ((iD (dw : Int).toNat).2) Dl, t2h Fl.i 31 3 p23 r13.Letters.toNat r13.Letters.toNat iD d_41 (dw : Int).toNat, t1 Fl.i 3 p81 1 1 [((0 : Int) + (ix (ix r13.Next (k2_40 : Int)) (dw : Int)))], .blk B17 (.cells #[.int .i64 r13.Letters, .int .i64 r13.Start, .slice bK r13.Final.length bM, .slice dm r13.Next.length dn] 25 (0, 0)), .blk B11 (.cells #[.slice p23 r13.Letters.toNat r13.Letters.toNat, .slice none 0 0, .int .i64 (0 : Int)] 83 (0, 0)), .blk B5 (.cells #[.int .i64 (0 : Int), .slice none 0 0, .slice none 0 0, .slice none 0 0, .slice none 0 0, .slice none 0 0] 33 (0, 0))] ++ A)
    refine sfz 2 hO fun s hO Dp Dq => ?_
    obtain ⟨mT, H⟩ := H
    have zz := oapp Try.underlying31 ti3 rfl 0 hO rfl Do.u Dp Dq mT (by decide)
    obtain ⟨Kk, Kl, Km, N5, zW, xF, zX⟩ := zz
    dsimp only [sS, sZ] at xF
    refine GoT.stepX rfl (zX (by exact rfl) (by exact rfl)) rfl rfl rfl ?_
    refine nst zW fun s hO => ?_
    skip
    refine sbl 3 ?_
    obtain ⟨vA, H⟩ := H
    obtain ⟨vB, H⟩ := H
    refine GoT.pure rfl (J07 Try.underlying23 ti31 rfl rfl vA (ltn (t2neqH 1 hO rfl) vB) (t2someH 1 hO rfl vA vB)) rfl rfl ?_
    skip
    refine sfr 1 hO fun s hO => ?_
    refine sfr 1 hO fun s hO => ?_
    have zz := t2fix (hf := Fl.i) hO xF.u vA vB rfl
    obtain ⟨zY, z3, mV⟩ := zz
    refine GoT.stepX rfl (mV Try.underlying31 rfl ti31 (by exact rfl) (by exact rfl)) rfl rfl rfl ?_
    refine nst z3 fun s hO => ?_
    refine au ?_
    refine sinc (natbd h43 cB.bd) ?_
    refine au ?_
    exact hX2 _ H _ _ ⟨_, agr, hO, cB.u, dP.u, fr⟩
   refine au ?_
   obtain ⟨Kn, H⟩ := H
   refine zo (J04 rfl rfl (wrap_i64 Kn)) ?_
   refine au ?_
   exact hX1 _ H _ _ ⟨_, agr, hO, cB.u, dP.u, fr⟩
  refine au ?_
  refine drw 4 [(0, .pure), (1, .pure), (2, .pure), (3, .pure), (4, .stable), (5, .pure), (6, .pure), (7, .pure), (8, .stable), (9, .pure), (10, .stable), (11, .pure), (12, .pure), (13, .stable), (14, .pure), (15, .pure), (16, .pure), (17, .stable), (18, .pure), (19, .loud), (20, .last), (21, .pure), (22, .pure), (23, .last)] hO fun RH s hO => ?_
  refine au ?_
  obtain ⟨Ko, H⟩ := H
  refine GoQ.pure rfl (J04 rfl rfl (wrap_i64 Ko)) rfl rfl ?_
  refine au ?_
  refine GoQ.pure rfl (J06 Try.underlying120 ti120 (pl := [(0, 1), (1, 1), (2, 1)]) (vs := [(0, .int .i64 ((0 : Int) + r13.Start)), (1, .slice bK r13.Final.length bM), (2, .int .i64 (0 : Int))]) (cs := #[.int .i64 ((0 : Int) + r13.Start), .slice bK r13.Final.length bM, .int .i64 (0 : Int)]) (by kernel_rfl) rfl (by kernel_rfl)) rfl rfl ?_
  have zz := obuildN (r := rppart) (n := 1) (parts := [(0, .agg #[.int .i64 ((0 : Int) + r13.Start), .slice bK r13.Final.length bM, .int .i64 (0 : Int)])]) (vs := [.int .i64 ((0 : Int) + r13.Start), .slice bK r13.Final.length bM, .int .i64 (0 : Int)]) (xs := [(⟨((0 : Int) + r13.Start), r13.Final, (0 : Int)⟩ : part)]) Try.underlying81 ti120 hO (by decide) (by decide) (by kernel_rfl) (Els.consR (us := [.int .i64 ((0 : Int) + r13.Start), .slice bK r13.Final.length bM, .int .i64 (0 : Int)]) rfl ⟨rfl, ⟨bK, bM, rfl, cB.u⟩, rfl⟩ (Els.nil _ _ _) (by simp [mx])) rfl
  obtain ⟨yF, RJ, z4, Dr, Ds, z5⟩ := zz
  refine GoQ.loud rfl (z5 rfl) Ds rfl rfl ?_
  refine nst z4 fun s hO => ?_
  refine sfzR 0 hO Dr fun s hO Du qS => ?_
  have z6 := Stp.nil (e := 120) (r := 3) hO
  refine nst z6 fun s hO => ?_
  have Dv := Els.nil (rppart) (bl (.row 120 3 none 0 0 [] :: [t2 Fl.i 31 3 p23 r13.Letters.toNat r13.Letters.toNat qB dM, .blk B17 (.cells #[.int .i64 r13.Letters, .int .i64 r13.Start, .slice bK r13.Final.length bM, .slice dm r13.Next.length dn] 25 (0, 0)), .blk B11 (.cells #[.slice p23 r13.Letters.toNat r13.Letters.toNat, .slice none 0 0, .int .i64 (0 : Int)] 83 (0, 0)), .blk B5 (.cells #[.int .i64 (0 : Int), .slice none 0 0, .slice none 0 0, .slice none 0 0, .slice none 0 0, .slice none 0 0] 33 (0, 0))]) ++ A) yF
  obtain ⟨Kq, H⟩ := H
  have zz := oapp Try.underlying81 ti120 rfl 0 hO rfl Dv Du.u qS Kq (by decide)
  obtain ⟨JO, fU, fV, fy, z7, cH, z8⟩ := zz
  dsimp only [sS, sZ] at cH
  refine GoQ.last rfl (z8 (by exact rfl) (by exact rfl)) rfl rfl ?_
  refine nst z7 fun s hO => ?_
  refine au ?_
  refine sbs 3 hO fun JP s hO => ?_
  refine au ?_
  obtain ⟨Kr, H⟩ := H
  refine zo (J04 rfl rfl (wrap_i64 Kr)) ?_
  refine au ?_
  refine sbs 3 hO fun Iw s hO => ?_
  refine au ?_
  refine Go1.ret1V Try.func62 rfl (show _ = .int .i64 (0 : Int) from rfl) ?_
  refine hR15 _ _ ?_
  refine au ?_
  refine zo (fun w => opB (J58 rfl rfl w) (ndT (by decide))) ?_
  refine au ?_
  refine GoR.inl (vs := [.pointer (some ⟨B11, 0, none⟩)]) (caps := []) rfl rfl body63 Try.func63 rfl Try.ntmps63 rfl rfl rfl ?_
  intro RhR152 hR152
  refine au ?_
  refine sal hO fun yd B154 s hO => ?_
  refine au ?_
  refine sfz2 2 hO fun s hO dx xG => ?_
  refine zcr (J02 body101 (show ([.slice p23 r13.Letters.toNat r13.Letters.toNat, .bool true] : List Value) = [.slice p23 dM.length r13.Letters.toNat, .bool true] from by rw [← xG]) (J3q hO.lt dx H)) fun _ Iz => e4 fun r158 r159 cq cv => e4 fun bU bV bP bQ => e4 fun cw cx bo bu => e2 fun ce cf => sc0 hO fun s hO => d1 fun a9 => d1 fun ap => d4 fun ar aK ao aL H => ?_
  refine au ?_
  refine sal hO fun Ks B162 s hO => ?_
  refine sba 0 hO fun uL s hO => ?_
  refine au ?_
  refine scm H (fun z9 H => ?_) fun z9 H => ?_
  ·refine au ?_
   refine sln0 ?_
   refine au ?_
   refine scm (H ap.bd) (fun ur H => ?_) fun ur H => ?_
   ·refine au ?_
    refine zo (J06 Try.underlying33 ti33 (pl := [(0, 1), (1, 1), (2, 1), (3, 1), (4, 1), (5, 1)]) (vs := []) (cs := #[.int .i64 (0 : Int), .slice none 0 0, .slice none 0 0, .slice none 0 0, .slice none 0 0, .slice none 0 0]) (by kernel_rfl) rfl (by kernel_rfl)) ?_
    refine sba 1 hO fun yf s hO => ?_
    refine au ?_
    refine Go1.retC3V Try.func63 rfl rfl (J03 (vs := [.int .i64 (0 : Int), .slice none 0 0, .slice none 0 0, .slice none 0 0, .slice none 0 0, .slice none 0 0]) 1 hO rfl rfl Try.underlying33 rfl ti33) (show _ = .slice none 0 0 from rfl) (show _ = .int .i64 (3 : Int) from rfl) ?_
    refine hR152 _ _ ?_
    refine au ?_
    refine sal hO fun uM B169 s hO => ?_
    refine sba 0 hO fun yg s hO => ?_
    refine au ?_
    refine zo (fun w => opB (J58 rfl rfl w) (ndF (by decide))) ?_
    refine au ?_
    refine zo (J06 Try.underlying33 ti33 (pl := [(0, 1), (1, 1), (2, 1), (3, 1), (4, 1), (5, 1)]) (vs := []) (cs := #[.int .i64 (0 : Int), .slice none 0 0, .slice none 0 0, .slice none 0 0, .slice none 0 0, .slice none 0 0]) (by kernel_rfl) rfl (by kernel_rfl)) ?_
    refine au ?_
    refine sba 6 hO fun yN s hO => ?_
    refine au ?_
    refine Go1.retC2 Try.func19 rfl rfl (J03 (vs := [.int .i64 (0 : Int), .slice none 0 0, .slice none 0 0, .slice none 0 0, .slice none 0 0, .slice none 0 0]) 6 hO rfl rfl Try.underlying33 rfl ti33) ⟨((⟨(0 : Int), ([] : List (List Int)), ([] : List Str), ([] : List Int), ([] : List Bool), ([] : List Bool)⟩ : Syntactic)), _, _, _, _, _, _, _, _, _, _, _, ?_, frs, (ISl.null _ _ _), (ISl.null _ _ _), (ISl.null _ _ _), (ISl.null _ _ _), (ISl.null _ _ _), H⟩
    exact rfl
   refine au ?_
   refine drA Same.tr 1 [(0, .pure), (1, .pure), (2, .pure), (3, .stable), (4, .pure), (5, .pure), (7, .pure), (9, .pure), (10, .stable), (11, .pure), (12, .stable), (14, .pure), (13, .loud), (6, .alloc), (8, .alloc), (15, .alloc), (16, .pure), (17, .alloc), (18, .last)] hO fun nJ s hO => ?_
   have my := hO.le
   have hw175 := (fr : Fr (bl []) w0 _ nJ).ch.size
   refine au ?_
   refine au ?_
   refine au ?_
   refine sbl 4 ?_
   refine slnN xG ?_
   refine au ?_
   refine au ?_
   refine au ?_
   refine sbl 0 ?_
   refine sxls hO ao.u (H dx.bd).1 (H dx.bd).2.1 fun RK RL Dw => ?_
   refine au ?_
   refine GoQA.loudI rfl rfl fun I7 A180 Dx => ?_
   refine sgw Dx hO fun s hO => ?_
   have RM := (H dx.bd).1
   have RN := (H dx.bd).2.1
   refine GoAt.call (J02 body86 rfl (J0o hO.lt Dw.u (H dx.bd).2.2)) (fun _ _ hr => ⟨fun _ => saq hr, Same.kp hO (saq hr)⟩) rfl fun _ IE => e4 fun r182 cS cP cQ => sA1 hO fun s hO => fun H => ?_
   obtain ⟨uu, H⟩ := H
   obtain ⟨Kt, H⟩ := H
   refine GoQA.alloc rfl rfl (alMake2 (e' := 3) Fl.i Try.underlying23 ti31 uu Kt (by decide) rfl rfl) ?_
   intro Ku A190 eg A192 rp Dy hd195 hnb196 hh197
   refine sgw rp hO fun s hO => ?_
   refine sgn (e := t2 Fl.i 31 3 (some ⟨eg, 0, none⟩) r158.Elems.length r158.Elems.length ((fun _ => (none, 0))) (List.replicate r158.Elems.length ([] : List Int))) Dy hO my hw175 hnb196 (J70 eg) hh197 hd195 (fr : Fr (bl []) w0 _ Ku) fun s hO hB => ?_
   obtain ⟨Kv, H⟩ := H
   obtain ⟨Kw, H⟩ := H
   have zz := alMakeE (n := (r158.Elems.length : Int)) (r := Rp.str) (d := ([] : Str)) Try.underlying30 ti9 (fun _ _ => ⟨rfl, Nat.zero_le _⟩) rfl Kv Kw (by decide)
   obtain ⟨xH, hal214, Dz⟩ := zz
   refine GoQA.alloc rfl rfl (hal214 rfl rfl) ?_
   intro Aa A202 fd A204 rq rs hd207 hnb208 hh209
   refine sgw rq hO fun s hO => ?_
   have ru := Dz (bl [t2 Fl.i 31 3 (some ⟨eg, 0, none⟩) r158.Elems.length r158.Elems.length ((fun _ => (none, 0))) (List.replicate r158.Elems.length ([] : List Int)), t1 Fl.i 3 cP cS cQ r182, .blk B162 (.cells #[.int .i64 r158.Points, .bool r158.Monoid, .slice cq r158.Gens.length cv, .slice bU r158.Elems.length bV, .slice bP r158.Prefix.length bQ, .slice cw r158.Last.length cx, .slice bo r158.Right.length bu, .slice ce r158.Rules.length cf, .int .i64 r158.Done] 123 (0, 0)), .blk B154 (.cells #[.int .i64 (0 : Int), .slice none 0 0, .slice none 0 0, .slice none 0 0, .slice none 0 0, .slice none 0 0] 33 (0, 0)), .row 120 3 fU (0 + 1) fV fy, .blk B17 (.cells #[.int .i64 r13.Letters, .int .i64 r13.Start, .slice bK r13.Final.length bM, .slice dm r13.Next.length dn] 25 (0, 0)), .blk B11 (.cells #[.slice p23 r13.Letters.toNat r13.Letters.toNat, .slice fU (0 + 1) fV, .int .i64 ((0 : Int) + (r13.Final.length : Int))] 83 (0, 0)), .blk B5 (.cells #[.int .i64 (0 : Int), .slice none 0 0, .slice none 0 0, .slice none 0 0, .slice none 0 0, .slice none 0 0] 33 (0, 0))] ++ A202) Aa
   refine sgn (e := .row 9 1 (some ⟨fd, 0, none⟩) r158.Elems.length r158.Elems.length xH) rs hO my hw175 hnb208 rfl hh209 hd207 (fr : Fr (bl []) w0 _ Aa) fun s hO hB => ?_
   replace ru := ru.ch s.ch
   refine cl1 Fl.str 0 hO ru.u fun s hO => ?_
   obtain ⟨vC, H⟩ := H
   obtain ⟨Kx, H⟩ := H
   have zz := alMakeE (n := (r158.Elems.length : Int)) (r := Rp.bool) (d := false) Try.underlying22 ti4 (fun _ _ => rfl) rfl vC Kx (by decide)
   obtain ⟨DA, hal230, DB⟩ := zz
   refine GoQA.alloc rfl rfl (hal230 rfl rfl) ?_
   intro uN A218 fo A220 DD DE hd223 hnb224 hh225
   refine sgw DD hO fun s hO => ?_
   have rv := DB (bl [t1 Fl.str 9 (some ⟨fd, 0, none⟩) r158.Elems.length r158.Elems.length (List.replicate r158.Elems.length (([] : Str))), t2 Fl.i 31 3 (some ⟨eg, 0, none⟩) r158.Elems.length r158.Elems.length ((fun _ => (none, 0))) (List.replicate r158.Elems.length ([] : List Int)), t1 Fl.i 3 cP cS cQ r182, .blk B162 (.cells #[.int .i64 r158.Points, .bool r158.Monoid, .slice cq r158.Gens.length cv, .slice bU r158.Elems.length bV, .slice bP r158.Prefix.length bQ, .slice cw r158.Last.length cx, .slice bo r158.Right.length bu, .slice ce r158.Rules.length cf, .int .i64 r158.Done] 123 (0, 0)), .blk B154 (.cells #[.int .i64 (0 : Int), .slice none 0 0, .slice none 0 0, .slice none 0 0, .slice none 0 0, .slice none 0 0] 33 (0, 0)), .row 120 3 fU (0 + 1) fV fy, .blk B17 (.cells #[.int .i64 r13.Letters, .int .i64 r13.Start, .slice bK r13.Final.length bM, .slice dm r13.Next.length dn] 25 (0, 0)), .blk B11 (.cells #[.slice p23 r13.Letters.toNat r13.Letters.toNat, .slice fU (0 + 1) fV, .int .i64 ((0 : Int) + (r13.Final.length : Int))] 83 (0, 0)), .blk B5 (.cells #[.int .i64 (0 : Int), .slice none 0 0, .slice none 0 0, .slice none 0 0, .slice none 0 0, .slice none 0 0] 33 (0, 0))] ++ A218) uN
   refine sgn (e := .row 4 1 (some ⟨fo, 0, none⟩) r158.Elems.length r158.Elems.length DA) DE hO my hw175 hnb224 rfl hh225 hd223 (fr : Fr (bl []) w0 _ uN) fun s hO hB => ?_
   replace rv := rv.ch s.ch
   refine cl1 Fl.bool 0 hO rv.u fun s hO => ?_
   refine GoQA.pure rfl (J06 Try.underlying33 ti33 (pl := [(0, 1), (1, 1), (2, 1), (3, 1), (4, 1), (5, 1)]) (vs := [(0, .int .i64 (dM.length : Int)), (1, .slice (some ⟨eg, 0, none⟩) r158.Elems.length r158.Elems.length), (2, .slice (some ⟨fd, 0, none⟩) r158.Elems.length r158.Elems.length), (3, .slice cP cS cQ), (5, .slice (some ⟨fo, 0, none⟩) r158.Elems.length r158.Elems.length)]) (cs := #[.int .i64 (dM.length : Int), .slice (some ⟨eg, 0, none⟩) r158.Elems.length r158.Elems.length, .slice (some ⟨fd, 0, none⟩) r158.Elems.length r158.Elems.length, .slice cP cS cQ, .slice none 0 0, .slice (some ⟨fo, 0, none⟩) r158.Elems.length r158.Elems.length]) (by kernel_rfl) rfl (by kernel_rfl)) rfl rfl ?_
   refine GoQA.alloc rfl rfl (alAlloc (cs := #[.int .i64 (0 : Int), .slice none 0 0, .slice none 0 0, .slice none 0 0, .slice none 0 0, .slice none 0 0]) ti33 rfl) ?_
   intro Ab A234 gP A236 DF DG hd239 hnb240 hh241
   refine sgw DF hO fun s hO => ?_
   refine sgn (e := .blk gP (.cells #[.int .i64 (0 : Int), .slice none 0 0, .slice none 0 0, .slice none 0 0, .slice none 0 0, .slice none 0 0] 33 (0, 0))) DG hO my hw175 hnb240 rfl hh241 hd239 (fr : Fr (bl []) w0 _ Ab) fun s hO hB => ?_
   refine GoQA.lastI rfl rfl fun Ky A243 DH => ?_
   refine sgw DH hO fun s hO => ?_
   refine sba 0 hO fun RO s hO => ?_
   refine GoQA.nil fun Kz A247 DJ DK => ?_
   refine sgw DJ hO fun s hO => ?_
   refine spm DK hO fun s hO => ?_
   refine au ?_
   have hB := (fr : Fr (bl []) w0 _ Kz)
   replace cH := cH.o hO
   replace ap := ap.o hO
   replace a9 := a9.o hO
   replace aK := aK.o hO
   replace ar := ar.o hO
   replace ao := ao.o hO
   replace aL := aL.o hO
   replace dx := dx.o hO
   revert hO; repeat (rename Owns _ _ _ _ => q; clear q)
   intro hO; repeat (rename Sq _ _ _ _ _ _ => q; clear q)
   refine au ?_
   refine sdr [8] hO fun s hO => ?_
   refine lw H (fun (jT, d_252, ia) σ w => (fun Z => agrees σ [(0, .pointer (some ⟨B11, 0, none⟩)), (2, .pointer (some ⟨B154, 0, none⟩)), (5, .pointer (some ⟨B162, 0, none⟩)), (7, .int .i64 (r158.Elems.length : Int)), (8, .pointer (some ⟨gP, 0, none⟩)), (9, .int .i64 (jT : Int))] ∧ Owns w0.heap.size w Z A ∧ Els (rppart) (bl Z ++ A) w fy ((([] : List part)) ++ ([(⟨((0 : Int) + r13.Start), r13.Final, (0 : Int)⟩ : part)])) ∧ ISl (Rp.sl (Rp.int .i64)) (bl Z ++ A) w p23 r13.Letters.toNat dM ∧ ISl (Rp.sl (Rp.int .i64)) (bl Z ++ A) w cq cv r158.Gens ∧ ISl (Rp.sl (Rp.int .i64)) (bl Z ++ A) w bU bV r158.Elems ∧ ISl (Rp.int .i64) (bl Z ++ A) w bP bQ r158.Prefix ∧ ISl (Rp.int .i64) (bl Z ++ A) w cw cx r158.Last ∧ ISl (Rp.sl (Rp.int .i64)) (bl Z ++ A) w bo bu r158.Right ∧ ISl (rpRule) (bl Z ++ A) w ce cf r158.Rules ∧ Fr (bl []) w0 (bl Z) w) [.blk gP (.cells #[.int .i64 (dM.length : Int), .slice (some ⟨eg, 0, none⟩) r158.Elems.length r158.Elems.length, .slice (some ⟨fd, 0, none⟩) r158.Elems.length r158.Elems.length, .slice cP cS cQ, .slice none 0 0, .slice (some ⟨fo, 0, none⟩) r158.Elems.length r158.Elems.length] 33 (0, 0)), t1 Fl.bool 4 (some ⟨fo, 0, none⟩) r158.Elems.length r158.Elems.length d_252, t1 Fl.str 9 (some ⟨fd, 0, none⟩) r158.Elems.length r158.Elems.length ia, t2 Fl.i 31 3 (some ⟨eg, 0, none⟩) r158.Elems.length r158.Elems.length ((fun _ => (none, 0))) (List.replicate r158.Elems.length ([] : List Int)), t1 Fl.i 3 cP cS cQ r182, .blk B162 (.cells #[.int .i64 r158.Points, .bool r158.Monoid, .slice cq r158.Gens.length cv, .slice bU r158.Elems.length bV, .slice bP r158.Prefix.length bQ, .slice cw r158.Last.length cx, .slice bo r158.Right.length bu, .slice ce r158.Rules.length cf, .int .i64 r158.Done] 123 (0, 0)), .blk B154 (.cells #[.int .i64 (0 : Int), .slice none 0 0, .slice none 0 0, .slice none 0 0, .slice none 0 0, .slice none 0 0] 33 (0, 0)), .row 120 3 fU (0 + 1) fV fy, .blk B11 (.cells #[.slice p23 r13.Letters.toNat r13.Letters.toNat, .slice fU (0 + 1) fV, .int .i64 ((0 : Int) + (r13.Final.length : Int))] 83 (0, 0)), .blk B5 (.cells #[.int .i64 (0 : Int), .slice none 0 0, .slice none 0 0, .slice none 0 0, .slice none 0 0, .slice none 0 0] 33 (0, 0))]) ⟨agr, hO, cH.u, dx.u, a9.u, ap.u, ar.u, aK.u, ao.u, aL.u, fr⟩ ?_
   refine fun X3 => p2 fun jT d_252 ia => fun H hX3 σ KA => d1 fun hag => d1 fun hO => d1 fun cH => d1 fun dx => d1 fun a9 => d1 fun ap => d4 fun ar aK ao aL hB => ?_
   dsimp only at H
   refine Go1.keep _ hag ?_
   revert hO; repeat (rename Owns _ _ _ _ => q; clear q)
   intro hO; repeat (rename Sq _ _ _ _ _ _ => q; clear q)
   refine au ?_
   refine scm H (fun Ac H => ?_) fun Ac H => ?_
   ·refine au ?_
    refine drw 1 [(0, .pure), (1, .stable), (2, .pure), (3, .pure), (4, .stable), (5, .pure), (6, .stable), (7, .pure), (8, .pure), (9, .stable), (10, .pure), (11, .stable), (12, .pure), (13, .stable), (14, .pure), (15, .pure), (16, .stable), (17, .pure), (18, .pure), (19, .loud), (20, .stable), (21, .pure), (22, .pure), (23, .last)] hO fun vD s hO => ?_
    refine au ?_
    refine sxl hO ar.u H.1 H.2.1 ?_
    refine sxl1 2 hO H.2.2.1 H.2.2.2.1 ?_
    have hle256 := t1le 2 hO H.2.2.1 H.2.2.2.1
    refine au ?_
    refine sxl hO aK.u H.2.2.2.2.1 H.2.2.2.2.2.1 ?_
    have rB := H.1
    have RQ := H.2.1
    have RR := H.2.2.1
    have RS := H.2.2.2.1
    have RT := H.2.2.2.2.1
    have RU := H.2.2.2.2.2.1
    replace H := H.2.2.2.2.2.2
    obtain ⟨vE, H⟩ := H
    refine GoQ.pure rfl (J04 rfl rfl (wrap_i64 vE)) rfl rfl ?_
    refine GoQ.pure rfl (J2H Try.underlying3 Try.underlying5 rfl rfl) rfl rfl ?_
    refine sbu (Fl.int .u8) 5 [(IntKind.u8.wrap ((97 : Int) + (ix r158.Last (jT : Int))))] hO fun KB KC s hO => ?_
    refine op1 0 hO fun lp s hO gf => ?_
    have hle269 := J0p gf.bd
    refine GoQ.stable rfl (oldBytes 0 hO rfl gf.u Try.underlying126 Try.underlying5 Try.underlying9 rfl) rfl rfl ?_
    obtain ⟨Ad, H⟩ := H
    refine GoQ.pure rfl (J0a rfl rfl Ad) rfl rfl ?_
    refine six1 3 hO H.1 H.2.1 ?_
    refine sst (u := ((ix ia (ix r158.Prefix (jT : Int))) ++ (byt ([(IntKind.u8.wrap ((97 : Int) + (ix r158.Last (jT : Int))))])))) 3 hO H.1 H.2.1 (fun KD s hO => ?_) (hR := by exact fun _ _ => ⟨rfl, (lenApp Ad)⟩)
    refine au ?_
    refine six1 2 hO H.2.2.1 H.2.2.2.1 ?_
    refine sst (u := true) 2 hO H.2.2.1 H.2.2.2.1 fun RV s hO => ?_
    refine au ?_
    refine sinc (natbd Ac ap.bd) ?_
    refine au ?_
    refine cl1 (Fl.int .u8) 0 hO gf.u fun s hO => ?_
    refine sdr [0] hO fun s hO => ?_
    exact hX3 _ H.2.2.2.2 _ _ ⟨agr, hO, cH.u, dx.u, a9.u, ap.u, ar.u, aK.u, ao.u, aL.u, fr⟩
   refine au ?_
   refine sln0 ?_
   refine au ?_
   refine lw (H ao.bd) (fun (dN, d_275, lB) σ w => ∃ kn, (fun Z => agrees σ [(0, .pointer (some ⟨B11, 0, none⟩)), (2, .pointer (some ⟨B154, 0, none⟩)), (5, .pointer (some ⟨B162, 0, none⟩)), (7, .int .i64 (r158.Elems.length : Int)), (8, .pointer (some ⟨gP, 0, none⟩)), (86, .slice bo r158.Right.length bu), (87, .int .i64 (r158.Right.length : Int)), (88, .int .i64 (dN : Int))] ∧ Owns w0.heap.size w Z A ∧ Els (rppart) (bl Z ++ A) w fy ((([] : List part)) ++ ([(⟨((0 : Int) + r13.Start), r13.Final, (0 : Int)⟩ : part)])) ∧ ISl (Rp.sl (Rp.int .i64)) (bl Z ++ A) w p23 r13.Letters.toNat dM ∧ ISl (Rp.sl (Rp.int .i64)) (bl Z ++ A) w cq cv r158.Gens ∧ ISl (Rp.sl (Rp.int .i64)) (bl Z ++ A) w bU bV r158.Elems ∧ ISl (Rp.int .i64) (bl Z ++ A) w bP bQ r158.Prefix ∧ ISl (Rp.int .i64) (bl Z ++ A) w cw cx r158.Last ∧ ISl (Rp.sl (Rp.int .i64)) (bl Z ++ A) w bo bu r158.Right ∧ ISl (rpRule) (bl Z ++ A) w ce cf r158.Rules ∧ Fr (bl []) w0 (bl Z) w) [.blk gP (.cells #[.int .i64 (dM.length : Int), .slice (some ⟨eg, 0, none⟩) r158.Elems.length r158.Elems.length, .slice (some ⟨fd, 0, none⟩) r158.Elems.length r158.Elems.length, .slice cP cS cQ, .slice none 0 0, .slice (some ⟨fo, 0, none⟩) r158.Elems.length r158.Elems.length] 33 (0, 0)), t1 Fl.bool 4 (some ⟨fo, 0, none⟩) r158.Elems.length r158.Elems.length d_275, t1 Fl.str 9 (some ⟨fd, 0, none⟩) r158.Elems.length r158.Elems.length ia, t2 Fl.i 31 3 (some ⟨eg, 0, none⟩) r158.Elems.length r158.Elems.length kn lB, t1 Fl.i 3 cP cS cQ r182, .blk B162 (.cells #[.int .i64 r158.Points, .bool r158.Monoid, .slice cq r158.Gens.length cv, .slice bU r158.Elems.length bV, .slice bP r158.Prefix.length bQ, .slice cw r158.Last.length cx, .slice bo r158.Right.length bu, .slice ce r158.Rules.length cf, .int .i64 r158.Done] 123 (0, 0)), .blk B154 (.cells #[.int .i64 (0 : Int), .slice none 0 0, .slice none 0 0, .slice none 0 0, .slice none 0 0, .slice none 0 0] 33 (0, 0)), .row 120 3 fU (0 + 1) fV fy, .blk B11 (.cells #[.slice p23 r13.Letters.toNat r13.Letters.toNat, .slice fU (0 + 1) fV, .int .i64 ((0 : Int) + (r13.Final.length : Int))] 83 (0, 0)), .blk B5 (.cells #[.int .i64 (0 : Int), .slice none 0 0, .slice none 0 0, .slice none 0 0, .slice none 0 0, .slice none 0 0] 33 (0, 0))]) ⟨_, agr, hO, cH.u, dx.u, a9.u, ap.u, ar.u, aK.u, ao.u, aL.u, fr⟩ ?_
   refine fun X4 => p2 fun dN d_275 lB => fun H hX4 σ RW => e1 fun kn => d1 fun hag => d1 fun hO => d1 fun cH => d1 fun dx => d1 fun a9 => d1 fun ap => d4 fun ar aK ao aL hB => ?_
   dsimp only at H
   refine Go1.keep _ hag ?_
   revert hO; repeat (rename Owns _ _ _ _ => q; clear q)
   intro hO; repeat (rename Sq _ _ _ _ _ _ => q; clear q)
   refine au ?_
   refine scm H (fun vF H => ?_) fun vF H => ?_
   ·refine au ?_
    refine sxls hO ao H.1 H.2.1 fun RX RY rC => ?_
    refine au ?_
    refine drw 1 [(0, .pure), (1, .stable), (2, .pure), (3, .stable), (4, .pure), (5, .stable), (6, .pure), (7, .pure), (8, .loud), (9, .pure), (10, .pure), (11, .last)] hO fun R2 s hO => ?_
    refine au ?_
    have R3 := H.1
    have R4 := H.2.1
    have R5 := H.2.2.1
    have iu := H.2.2.2.1
    refine sxb1 1 hO H.2.2.1 H.2.2.2.1 H.2.2.2.2 (fun rD H => ?_) fun rD H => ?_
    ·refine au ?_
     refine six1 1 hO H.1 H.2.1 ?_
     refine sst (u := true) 1 hO H.1 H.2.1 fun Ae s hO => ?_
     refine au ?_
     refine drw 1 [(0, .pure), (1, .stable), (2, .pure), (3, .pure), (4, .loud), (5, .pure), (6, .last)] hO fun yX s hO => ?_
     refine au ?_
     refine smk Fl.i H.2.2 hO fun R6 KE s hO => ?_
     have R7 := H.1
     have R8 := H.2.1
     replace H := H.2.2.2.2
     obtain ⟨vG, H⟩ := H
     obtain ⟨nK, H⟩ := H
     refine GoQ.pure rfl (J07 Try.underlying23 ti31 rfl rfl vG (ltn (t2neq 4 hO rfl) nK) (t2some 4 hO rfl vG nK)) rfl rfl ?_
     refine op1 0 hO fun N6 s hO DL => ?_
     refine sfr 4 hO fun s hO => ?_
     refine sfr 1 hO fun s hO => ?_
     have zz := t2put (hf := Fl.i) hO DL.u vG nK
     obtain ⟨yY, Af, Ag⟩ := zz
     refine GoQ.last rfl (Ag Try.underlying31 rfl ti31 (by exact rfl) (by exact rfl)) rfl rfl ?_
     refine nst Af fun s hO => ?_
     refine au ?_
     obtain ⟨nM, H⟩ := H
     obtain ⟨nO, H⟩ := H
     refine zo (J07 Try.underlying23 ti31 rfl rfl nM (ltn (t2neq 0 hO rfl) nO) (t2some 0 hO rfl nM nO)) ?_
     refine zs (t2head 0 hO rfl nM nO Try.underlying31 rfl rfl) ?_
     refine au ?_
     obtain ⟨vH, H⟩ := H
     obtain ⟨vI, H⟩ := H
     refine zo (J07 Try.underlying31 ti3 rfl rfl vH vI (t2isome 0 hO rfl nM nO vH vI)) ?_
     have zz := t2st (r := Rp.int .i64) (hf := Fl.i) rfl 0 hO rfl nM nO vH vI (v := .int .i64 (dN : Int)) (u := (dN : Int)) rfl rfl
     obtain ⟨R9, Ah, Ai⟩ := zz
     refine zg (Ai Try.underlying3 rfl ti3 (by exact rfl) (by exact rfl)) ?_
     refine nst Ah fun s hO => ?_
     refine au ?_
     refine lw H (fun (i8, d_311) σ w => (fun Z => agrees σ [(0, .pointer (some ⟨B11, 0, none⟩)), (2, .pointer (some ⟨B154, 0, none⟩)), (5, .pointer (some ⟨B162, 0, none⟩)), (7, .int .i64 (r158.Elems.length : Int)), (8, .pointer (some ⟨gP, 0, none⟩)), (10, .int .i64 (dN : Int)), (12, .int .i64 (i8 : Int)), (86, .slice bo r158.Right.length bu), (87, .int .i64 (r158.Right.length : Int)), (88, .int .i64 (dN : Int))] ∧ Owns w0.heap.size w Z A ∧ Els (rppart) (bl Z ++ A) w fy ((([] : List part)) ++ ([(⟨((0 : Int) + r13.Start), r13.Final, (0 : Int)⟩ : part)])) ∧ ISl (Rp.sl (Rp.int .i64)) (bl Z ++ A) w p23 r13.Letters.toNat dM ∧ ISl (Rp.sl (Rp.int .i64)) (bl Z ++ A) w cq cv r158.Gens ∧ ISl (Rp.sl (Rp.int .i64)) (bl Z ++ A) w bU bV r158.Elems ∧ ISl (Rp.int .i64) (bl Z ++ A) w bP bQ r158.Prefix ∧ ISl (Rp.int .i64) (bl Z ++ A) w cw cx r158.Last ∧ ISl (Rp.sl (Rp.int .i64)) (bl Z ++ A) w bo bu r158.Right ∧ ISl (rpRule) (bl Z ++ A) w ce cf r158.Rules ∧ Fr (bl []) w0 (bl Z) w) [t2 Fl.i 31 3 (some ⟨eg, 0, none⟩) r158.Elems.length r158.Elems.length (hup kn (dN : Int).toNat (KE, r158.Elems.length)) d_311, .blk gP (.cells #[.int .i64 (dM.length : Int), .slice (some ⟨eg, 0, none⟩) r158.Elems.length r158.Elems.length, .slice (some ⟨fd, 0, none⟩) r158.Elems.length r158.Elems.length, .slice cP cS cQ, .slice none 0 0, .slice (some ⟨fo, 0, none⟩) r158.Elems.length r158.Elems.length] 33 (0, 0)), t1 Fl.bool 4 (some ⟨fo, 0, none⟩) r158.Elems.length r158.Elems.length (st d_275 (0 : Int) true), t1 Fl.str 9 (some ⟨fd, 0, none⟩) r158.Elems.length r158.Elems.length ia, t1 Fl.i 3 cP cS cQ r182, .blk B162 (.cells #[.int .i64 r158.Points, .bool r158.Monoid, .slice cq r158.Gens.length cv, .slice bU r158.Elems.length bV, .slice bP r158.Prefix.length bQ, .slice cw r158.Last.length cx, .slice bo r158.Right.length bu, .slice ce r158.Rules.length cf, .int .i64 r158.Done] 123 (0, 0)), .blk B154 (.cells #[.int .i64 (0 : Int), .slice none 0 0, .slice none 0 0, .slice none 0 0, .slice none 0 0, .slice none 0 0] 33 (0, 0)), .row 120 3 fU (0 + 1) fV fy, .blk B11 (.cells #[.slice p23 r13.Letters.toNat r13.Letters.toNat, .slice fU (0 + 1) fV, .int .i64 ((0 : Int) + (r13.Final.length : Int))] 83 (0, 0)), .blk B5 (.cells #[.int .i64 (0 : Int), .slice none 0 0, .slice none 0 0, .slice none 0 0, .slice none 0 0, .slice none 0 0] 33 (0, 0))]) ⟨agr, hO, cH.u, dx.u, a9.u, ap.u, ar.u, aK.u, ao.u, aL.u, fr⟩ ?_
     refine fun X5 => p1 fun i8 d_311 => fun H hX5 σ KF => d1 fun hag => d1 fun hO => d1 fun cH => d1 fun dx => d1 fun a9 => d1 fun ap => d4 fun ar aK ao aL hB => ?_
     dsimp only at H
     refine Go1.keep _ hag ?_
     revert hO; repeat (rename Owns _ _ _ _ => q; clear q)
     intro hO; repeat (rename Sq _ _ _ _ _ _ => q; clear q)
     refine au ?_
     refine scm H (fun rE H => ?_) fun rE H => ?_
     ·refine au ?_
      refine drw 1 [(0, .pure), (1, .stable), (2, .pure), (3, .pure), (4, .stable), (5, .pure), (6, .pure), (7, .stable), (8, .pure), (9, .stable), (10, .pure), (11, .pure), (12, .stable), (13, .pure), (14, .stable), (15, .pure), (16, .pure), (17, .stable), (18, .pure), (19, .stable), (20, .pure), (21, .stable), (22, .pure), (23, .stable), (24, .pure), (25, .pure), (26, .stable), (27, .pure), (28, .stable), (29, .pure), (30, .last)] hO fun uT s hO => ?_
      refine au ?_
      obtain ⟨nP, H⟩ := H
      obtain ⟨nQ, H⟩ := H
      refine GoQ.pure rfl (J07 Try.underlying23 ti31 rfl rfl nP (ltn (t2neq 0 hO rfl) nQ) (t2some 0 hO rfl nP nQ)) rfl rfl ?_
      refine GoQ.stable rfl (t2head 0 hO rfl nP nQ Try.underlying31 rfl rfl) rfl rfl ?_
      refine au ?_
      obtain ⟨nS, H⟩ := H
      obtain ⟨nT, H⟩ := H
      refine GoQ.pure rfl (J07 Try.underlying23 ti31 rfl rfl nS (ltn (t2neq 0 hO rfl) nT) (t2some 0 hO rfl nS nT)) rfl rfl ?_
      refine GoQ.stable rfl (t2head 0 hO rfl nS nT Try.underlying31 rfl rfl) rfl rfl ?_
      refine au ?_
      refine sxl hO ar.u H.1 H.2.1 ?_
      have Sa := H.1
      have Sb := H.2.1
      replace H := H.2.2
      obtain ⟨vJ, H⟩ := H
      obtain ⟨vK, H⟩ := H
      refine GoQ.pure rfl (J07 Try.underlying31 ti3 rfl rfl vJ vK (t2isome 0 hO rfl nS nT vJ vK)) rfl rfl ?_
      refine GoQ.stable rfl (t2Int 0 hO rfl nS nT vJ vK Try.underlying3 rfl rfl) rfl rfl ?_
      refine sxls hO ao.u H.1 H.2.1 fun Sc Sd DN => ?_
      refine au ?_
      refine sxl hO aK.u H.2.2.1 H.2.2.2.1 ?_
      refine sxl hO DN.u H.2.2.2.2.1 H.2.2.2.2.2.1 ?_
      have Se := H.1
      have Aj := H.2.1
      have Sf := H.2.2.1
      have Sh := H.2.2.2.1
      have Si := H.2.2.2.2.1
      have Sj := H.2.2.2.2.2.1
      replace H := H.2.2.2.2.2.2
      obtain ⟨nU, H⟩ := H
      obtain ⟨vL, H⟩ := H
      refine GoQ.pure rfl (J07 Try.underlying31 ti3 rfl rfl nU vL (t2isome 0 hO rfl nP nQ nU vL)) rfl rfl ?_
      have zz := t2st (r := Rp.int .i64) (hf := Fl.i) rfl 0 hO rfl nP nQ nU vL (v := .int .i64 (ix (ix r158.Right (ix (ix d_311 (dN : Int)) (ix r158.Prefix (i8 : Int)))) (ix r158.Last (i8 : Int)))) (u := (ix (ix r158.Right (ix (ix d_311 (dN : Int)) (ix r158.Prefix (i8 : Int)))) (ix r158.Last (i8 : Int)))) rfl rfl
      obtain ⟨Ak, Am, Ao⟩ := zz
      refine GoQ.last rfl (Ao Try.underlying3 rfl ti3 (by exact rfl) (by exact rfl)) rfl rfl ?_
      refine nst Am fun s hO => ?_
      refine au ?_
      refine sinc (natbd rE ap.bd) ?_
      refine au ?_
      exact hX5 _ H _ _ ⟨agr, hO, cH.u, dx.u, a9.u, ap.u, ar.u, aK.u, ao.u, aL.u, fr⟩
     refine au ?_
     refine sinc (natbd vF ao.bd) ?_
     refine au ?_
     refine sfr 9 hO fun s hO => ?_
     refine sfr 9 hO fun s hO => ?_
     refine sfr 9 hO fun s hO => ?_
     refine sfr 9 hO fun s hO => ?_
     refine sfr 9 hO fun s hO => ?_
     refine sfr 9 hO fun s hO => ?_
     refine sfr 6 hO fun s hO => ?_
     refine sfr 9 hO fun s hO => ?_
     refine sfr 9 hO fun s hO => ?_
     refine sfr 9 hO fun s hO => ?_
     exact hX4 _ H _ _ ⟨_, agr, hO, cH.u, dx.u, a9.u, ap.u, ar.u, aK.u, ao.u, aL.u, fr⟩
    refine au ?_
    refine zcq rfl (J02 body102 rfl (J2y hO.lt rC.u H)) fun _ KG => e1 fun r336 => sq0 hO fun s hO => fun H => ?_
    refine au ?_
    refine six1 1 hO H.1 H.2.1 ?_
    refine sst (u := r336) 1 hO H.1 H.2.1 fun Sk s hO => ?_
    refine au ?_
    refine drw 1 [(0, .pure), (1, .stable), (2, .pure), (3, .pure), (4, .loud), (5, .pure), (6, .last)] hO fun JA s hO => ?_
    refine au ?_
    refine smk Fl.i H.2.2 hO fun zd zh s hO => ?_
    have Sl := H.1
    have Sm := H.2.1
    replace H := H.2.2.2.2
    obtain ⟨vM, H⟩ := H
    obtain ⟨nV, H⟩ := H
    refine GoQ.pure rfl (J07 Try.underlying23 ti31 rfl rfl vM (ltn (t2neq 4 hO rfl) nV) (t2some 4 hO rfl vM nV)) rfl rfl ?_
    refine op1 0 hO fun N7 s hO DO => ?_
    refine sfr 4 hO fun s hO => ?_
    refine sfr 1 hO fun s hO => ?_
    have zz := t2put (hf := Fl.i) hO DO.u vM nV
    obtain ⟨Sn, Ap, Aq⟩ := zz
    refine GoQ.last rfl (Aq Try.underlying31 rfl ti31 (by exact rfl) (by exact rfl)) rfl rfl ?_
    refine nst Ap fun s hO => ?_
    refine au ?_
    obtain ⟨l5, H⟩ := H
    obtain ⟨kP, H⟩ := H
    refine zo (J07 Try.underlying23 ti31 rfl rfl l5 (ltn (t2neq 0 hO rfl) kP) (t2some 0 hO rfl l5 kP)) ?_
    refine zs (t2head 0 hO rfl l5 kP Try.underlying31 rfl rfl) ?_
    refine au ?_
    obtain ⟨vN, H⟩ := H
    obtain ⟨vO, H⟩ := H
    refine zo (J07 Try.underlying31 ti3 rfl rfl vN vO (t2isome 0 hO rfl l5 kP vN vO)) ?_
    have zz := t2st (r := Rp.int .i64) (hf := Fl.i) rfl 0 hO rfl l5 kP vN vO (v := .int .i64 (dN : Int)) (u := (dN : Int)) rfl rfl
    obtain ⟨KH, Ar, At⟩ := zz
    refine zg (At Try.underlying3 rfl ti3 (by exact rfl) (by exact rfl)) ?_
    refine nst Ar fun s hO => ?_
    refine au ?_
    refine lw H (fun (i9, mz) σ w => (fun Z => agrees σ [(0, .pointer (some ⟨B11, 0, none⟩)), (2, .pointer (some ⟨B154, 0, none⟩)), (5, .pointer (some ⟨B162, 0, none⟩)), (7, .int .i64 (r158.Elems.length : Int)), (8, .pointer (some ⟨gP, 0, none⟩)), (10, .int .i64 (dN : Int)), (12, .int .i64 (i9 : Int)), (86, .slice bo r158.Right.length bu), (87, .int .i64 (r158.Right.length : Int)), (88, .int .i64 (dN : Int))] ∧ Owns w0.heap.size w Z A ∧ Els (rppart) (bl Z ++ A) w fy ((([] : List part)) ++ ([(⟨((0 : Int) + r13.Start), r13.Final, (0 : Int)⟩ : part)])) ∧ ISl (Rp.sl (Rp.int .i64)) (bl Z ++ A) w p23 r13.Letters.toNat dM ∧ ISl (Rp.sl (Rp.int .i64)) (bl Z ++ A) w cq cv r158.Gens ∧ ISl (Rp.sl (Rp.int .i64)) (bl Z ++ A) w bU bV r158.Elems ∧ ISl (Rp.int .i64) (bl Z ++ A) w bP bQ r158.Prefix ∧ ISl (Rp.int .i64) (bl Z ++ A) w cw cx r158.Last ∧ ISl (Rp.sl (Rp.int .i64)) (bl Z ++ A) w bo bu r158.Right ∧ ISl (rpRule) (bl Z ++ A) w ce cf r158.Rules ∧ Fr (bl []) w0 (bl Z) w) [t2 Fl.i 31 3 (some ⟨eg, 0, none⟩) r158.Elems.length r158.Elems.length (hup kn (dN : Int).toNat (zh, r158.Elems.length)) mz, .blk gP (.cells #[.int .i64 (dM.length : Int), .slice (some ⟨eg, 0, none⟩) r158.Elems.length r158.Elems.length, .slice (some ⟨fd, 0, none⟩) r158.Elems.length r158.Elems.length, .slice cP cS cQ, .slice none 0 0, .slice (some ⟨fo, 0, none⟩) r158.Elems.length r158.Elems.length] 33 (0, 0)), t1 Fl.bool 4 (some ⟨fo, 0, none⟩) r158.Elems.length r158.Elems.length (st d_275 (0 : Int) r336), t1 Fl.str 9 (some ⟨fd, 0, none⟩) r158.Elems.length r158.Elems.length ia, t1 Fl.i 3 cP cS cQ r182, .blk B162 (.cells #[.int .i64 r158.Points, .bool r158.Monoid, .slice cq r158.Gens.length cv, .slice bU r158.Elems.length bV, .slice bP r158.Prefix.length bQ, .slice cw r158.Last.length cx, .slice bo r158.Right.length bu, .slice ce r158.Rules.length cf, .int .i64 r158.Done] 123 (0, 0)), .blk B154 (.cells #[.int .i64 (0 : Int), .slice none 0 0, .slice none 0 0, .slice none 0 0, .slice none 0 0, .slice none 0 0] 33 (0, 0)), .row 120 3 fU (0 + 1) fV fy, .blk B11 (.cells #[.slice p23 r13.Letters.toNat r13.Letters.toNat, .slice fU (0 + 1) fV, .int .i64 ((0 : Int) + (r13.Final.length : Int))] 83 (0, 0)), .blk B5 (.cells #[.int .i64 (0 : Int), .slice none 0 0, .slice none 0 0, .slice none 0 0, .slice none 0 0, .slice none 0 0] 33 (0, 0))]) ⟨agr, hO, cH.u, dx.u, a9.u, ap.u, ar.u, aK.u, ao.u, aL.u, fr⟩ ?_
    refine fun X6 => p1 fun i9 mz => fun H hX6 σ So => d1 fun hag => d1 fun hO => d1 fun cH => d1 fun dx => d1 fun a9 => d1 fun ap => d4 fun ar aK ao aL hB => ?_
    dsimp only at H
    refine Go1.keep _ hag ?_
    revert hO; repeat (rename Owns _ _ _ _ => q; clear q)
    intro hO; repeat (rename Sq _ _ _ _ _ _ => q; clear q)
    refine au ?_
    refine scm H (fun Au H => ?_) fun Au H => ?_
    ·refine au ?_
     refine drw 1 [(0, .pure), (1, .stable), (2, .pure), (3, .pure), (4, .stable), (5, .pure), (6, .pure), (7, .stable), (8, .pure), (9, .stable), (10, .pure), (11, .pure), (12, .stable), (13, .pure), (14, .stable), (15, .pure), (16, .pure), (17, .stable), (18, .pure), (19, .stable), (20, .pure), (21, .stable), (22, .pure), (23, .stable), (24, .pure), (25, .pure), (26, .stable), (27, .pure), (28, .stable), (29, .pure), (30, .last)] hO fun Sp s hO => ?_
     refine au ?_
     obtain ⟨nW, H⟩ := H
     obtain ⟨nX, H⟩ := H
     refine GoQ.pure rfl (J07 Try.underlying23 ti31 rfl rfl nW (ltn (t2neq 0 hO rfl) nX) (t2some 0 hO rfl nW nX)) rfl rfl ?_
     refine GoQ.stable rfl (t2head 0 hO rfl nW nX Try.underlying31 rfl rfl) rfl rfl ?_
     refine au ?_
     obtain ⟨nY, H⟩ := H
     obtain ⟨n9, H⟩ := H
     refine GoQ.pure rfl (J07 Try.underlying23 ti31 rfl rfl nY (ltn (t2neq 0 hO rfl) n9) (t2some 0 hO rfl nY n9)) rfl rfl ?_
     refine GoQ.stable rfl (t2head 0 hO rfl nY n9 Try.underlying31 rfl rfl) rfl rfl ?_
     refine au ?_
     refine sxl hO ar.u H.1 H.2.1 ?_
     have Sr := H.1
     have Ss := H.2.1
     replace H := H.2.2
     obtain ⟨vP, H⟩ := H
     obtain ⟨vQ, H⟩ := H
     refine GoQ.pure rfl (J07 Try.underlying31 ti3 rfl rfl vP vQ (t2isome 0 hO rfl nY n9 vP vQ)) rfl rfl ?_
     refine GoQ.stable rfl (t2Int 0 hO rfl nY n9 vP vQ Try.underlying3 rfl rfl) rfl rfl ?_
     refine sxls hO ao.u H.1 H.2.1 fun St Su DP => ?_
     refine au ?_
     refine sxl hO aK.u H.2.2.1 H.2.2.2.1 ?_
     refine sxl hO DP.u H.2.2.2.2.1 H.2.2.2.2.2.1 ?_
     have Sv := H.1
     have rF := H.2.1
     have Sw := H.2.2.1
     have Sx := H.2.2.2.1
     have Sy := H.2.2.2.2.1
     have Sz := H.2.2.2.2.2.1
     replace H := H.2.2.2.2.2.2
     obtain ⟨vR, H⟩ := H
     obtain ⟨vS, H⟩ := H
     refine GoQ.pure rfl (J07 Try.underlying31 ti3 rfl rfl vR vS (t2isome 0 hO rfl nW nX vR vS)) rfl rfl ?_
     have zz := t2st (r := Rp.int .i64) (hf := Fl.i) rfl 0 hO rfl nW nX vR vS (v := .int .i64 (ix (ix r158.Right (ix (ix mz (dN : Int)) (ix r158.Prefix (i9 : Int)))) (ix r158.Last (i9 : Int)))) (u := (ix (ix r158.Right (ix (ix mz (dN : Int)) (ix r158.Prefix (i9 : Int)))) (ix r158.Last (i9 : Int)))) rfl rfl
     obtain ⟨SA, Aw, Ax⟩ := zz
     refine GoQ.last rfl (Ax Try.underlying3 rfl ti3 (by exact rfl) (by exact rfl)) rfl rfl ?_
     refine nst Aw fun s hO => ?_
     refine au ?_
     refine sinc (natbd Au ap.bd) ?_
     refine au ?_
     exact hX6 _ H _ _ ⟨agr, hO, cH.u, dx.u, a9.u, ap.u, ar.u, aK.u, ao.u, aL.u, fr⟩
    refine au ?_
    refine sinc (natbd vF ao.bd) ?_
    refine au ?_
    refine sfr 9 hO fun s hO => ?_
    refine sfr 9 hO fun s hO => ?_
    refine sfr 9 hO fun s hO => ?_
    refine sfr 9 hO fun s hO => ?_
    refine sfr 9 hO fun s hO => ?_
    refine sfr 9 hO fun s hO => ?_
    refine sfr 6 hO fun s hO => ?_
    refine sfr 9 hO fun s hO => ?_
    refine sfr 9 hO fun s hO => ?_
    refine sfr 9 hO fun s hO => ?_
    exact hX4 _ H _ _ ⟨_, agr, hO, cH.u, dx.u, a9.u, ap.u, ar.u, aK.u, ao.u, aL.u, fr⟩
   refine au ?_
   refine zo (J0x Try.underlying81 rfl (Els.neqW cH.u hO 7 rfl)) ?_
   obtain ⟨vT, H⟩ := H
   obtain ⟨KI, H⟩ := H
   have zz := t2makeS (m := (((([] : List part)) ++ ([(⟨((0 : Int) + r13.Start), r13.Final, (0 : Int)⟩ : part)])).length : Int)) (e' := 4) Fl.bool Try.underlying40 ti22 hO vT KI (by decide)
   obtain ⟨KJ, oa, Ay, N8, Az, hz396⟩ := zz
   refine zg (Az rfl rfl) ?_
   refine nst Ay fun s hO => ?_
   refine au ?_
   refine zo (J0x Try.underlying81 rfl (Els.neqW cH.u hO 8 rfl)) ?_
   refine au ?_
   refine sdr [9] hO fun s hO => ?_
   refine lw H (fun (eh, lC) σ w => ∃ jk, (fun Z => agrees σ [(2, .pointer (some ⟨B154, 0, none⟩)), (5, .pointer (some ⟨B162, 0, none⟩)), (7, .int .i64 (r158.Elems.length : Int)), (8, .pointer (some ⟨gP, 0, none⟩)), (13, .slice oa (((([] : List part)) ++ ([(⟨((0 : Int) + r13.Start), r13.Final, (0 : Int)⟩ : part)])).length) (((([] : List part)) ++ ([(⟨((0 : Int) + r13.Start), r13.Final, (0 : Int)⟩ : part)])).length)), (162, .slice fU (0 + 1) fV), (163, .int .i64 (((([] : List part)) ++ ([(⟨((0 : Int) + r13.Start), r13.Final, (0 : Int)⟩ : part)])).length : Int)), (164, .int .i64 (eh : Int))] ∧ Owns w0.heap.size w Z A ∧ Els (rppart) (bl Z ++ A) w fy ((([] : List part)) ++ ([(⟨((0 : Int) + r13.Start), r13.Final, (0 : Int)⟩ : part)])) ∧ ISl (Rp.sl (Rp.int .i64)) (bl Z ++ A) w cq cv r158.Gens ∧ ISl (Rp.sl (Rp.int .i64)) (bl Z ++ A) w bU bV r158.Elems ∧ ISl (Rp.int .i64) (bl Z ++ A) w bP bQ r158.Prefix ∧ ISl (Rp.int .i64) (bl Z ++ A) w cw cx r158.Last ∧ ISl (Rp.sl (Rp.int .i64)) (bl Z ++ A) w bo bu r158.Right ∧ ISl (rpRule) (bl Z ++ A) w ce cf r158.Rules ∧ Fr (bl []) w0 (bl Z) w) [t2 Fl.bool 22 4 oa (((([] : List part)) ++ ([(⟨((0 : Int) + r13.Start), r13.Final, (0 : Int)⟩ : part)])).length) (((([] : List part)) ++ ([(⟨((0 : Int) + r13.Start), r13.Final, (0 : Int)⟩ : part)])).length) jk lC, .blk gP (.cells #[.int .i64 (dM.length : Int), .slice (some ⟨eg, 0, none⟩) r158.Elems.length r158.Elems.length, .slice (some ⟨fd, 0, none⟩) r158.Elems.length r158.Elems.length, .slice cP cS cQ, .slice none 0 0, .slice (some ⟨fo, 0, none⟩) r158.Elems.length r158.Elems.length] 33 (0, 0)), t1 Fl.bool 4 (some ⟨fo, 0, none⟩) r158.Elems.length r158.Elems.length d_275, t1 Fl.str 9 (some ⟨fd, 0, none⟩) r158.Elems.length r158.Elems.length ia, t2 Fl.i 31 3 (some ⟨eg, 0, none⟩) r158.Elems.length r158.Elems.length kn lB, t1 Fl.i 3 cP cS cQ r182, .blk B162 (.cells #[.int .i64 r158.Points, .bool r158.Monoid, .slice cq r158.Gens.length cv, .slice bU r158.Elems.length bV, .slice bP r158.Prefix.length bQ, .slice cw r158.Last.length cx, .slice bo r158.Right.length bu, .slice ce r158.Rules.length cf, .int .i64 r158.Done] 123 (0, 0)), .blk B154 (.cells #[.int .i64 (0 : Int), .slice none 0 0, .slice none 0 0, .slice none 0 0, .slice none 0 0, .slice none 0 0] 33 (0, 0)), .row 120 3 fU (0 + 1) fV fy, .blk B5 (.cells #[.int .i64 (0 : Int), .slice none 0 0, .slice none 0 0, .slice none 0 0, .slice none 0 0, .slice none 0 0] 33 (0, 0))]) ⟨_, agr, hO, cH.u, a9.u, ap.u, ar.u, aK.u, ao.u, aL.u, fr⟩ ?_
   refine fun X7 => p1 fun eh lC => fun H hX7 σ SB => e1 fun jk => d1 fun hag => d1 fun hO => d1 fun cH => d1 fun a9 => d1 fun ap => d4 fun ar aK ao aL hB => ?_
   dsimp only at H
   refine Go1.keep _ hag ?_
   revert hO; repeat (rename Owns _ _ _ _ => q; clear q)
   intro hO; repeat (rename Sq _ _ _ _ _ _ => q; clear q)
   refine au ?_
   refine scm H (fun AA H => ?_) fun AA H => ?_
   ·refine au ?_
    obtain ⟨vU, H⟩ := H
    obtain ⟨vV, H⟩ := H
    refine zo (J07 Try.underlying81 ti120 rfl rfl vU (ltn (Els.neqW cH hO 8 rfl) vV) (Els.psomeW cH hO 8 rfl vU vV)) ?_
    have DR := oldAggR 8 hO rfl (r := rppart) cH vU vV
    obtain ⟨N9, DS, hR407, AB⟩ := DR
    replace hR407 := J7k DS hR407
    obtain ⟨vW, vX, hcs409, ko⟩ := hR407
    subst hcs409
    refine zs (AB Try.underlying120 rfl ti120 rfl) ?_
    refine sal hO fun KK B414 s hO => ?_
    refine au ?_
    refine sba 0 hO fun SC s hO => ?_
    refine au ?_
    refine smk Fl.bool H hO fun SD KL s hO => ?_
    replace H := H.2.2
    obtain ⟨vY, H⟩ := H
    obtain ⟨v5, H⟩ := H
    refine zo (J07 Try.underlying40 ti22 rfl rfl vY (ltn (t2neq 2 hO rfl) v5) (t2some 2 hO rfl vY v5)) ?_
    refine op1 0 hO fun Oa s hO DT => ?_
    refine sfr 2 hO fun s hO => ?_
    refine sfr 1 hO fun s hO => ?_
    have zz := t2put (hf := Fl.bool) hO DT.u vY v5
    obtain ⟨SE, AC, AD⟩ := zz
    refine zg (AD Try.underlying22 rfl ti22 (by exact rfl) (by exact rfl)) ?_
    refine nst AC fun s hO => ?_
    refine au ?_
    refine sln0 ?_
    refine au ?_
    refine lw H (fun (tV, xI) σ w => (fun Z => agrees σ [(2, .pointer (some ⟨B154, 0, none⟩)), (5, .pointer (some ⟨B162, 0, none⟩)), (7, .int .i64 (r158.Elems.length : Int)), (8, .pointer (some ⟨gP, 0, none⟩)), (13, .slice oa (((([] : List part)) ++ ([(⟨((0 : Int) + r13.Start), r13.Final, (0 : Int)⟩ : part)])).length) (((([] : List part)) ++ ([(⟨((0 : Int) + r13.Start), r13.Final, (0 : Int)⟩ : part)])).length)), (14, .int .i64 (eh : Int)), (15, .pointer (some ⟨B414, 0, none⟩)), (162, .slice fU (0 + 1) fV), (163, .int .i64 (((([] : List part)) ++ ([(⟨((0 : Int) + r13.Start), r13.Final, (0 : Int)⟩ : part)])).length : Int)), (164, .int .i64 (eh : Int)), (175, .slice bU r158.Elems.length bV), (176, .int .i64 (r158.Elems.length : Int)), (177, .int .i64 (tV : Int))] ∧ Owns w0.heap.size w Z A ∧ Els (rppart) (bl Z ++ A) w fy ((([] : List part)) ++ ([(⟨((0 : Int) + r13.Start), r13.Final, (0 : Int)⟩ : part)])) ∧ ISl (Rp.sl (Rp.int .i64)) (bl Z ++ A) w cq cv r158.Gens ∧ ISl (Rp.sl (Rp.int .i64)) (bl Z ++ A) w bU bV r158.Elems ∧ ISl (Rp.int .i64) (bl Z ++ A) w bP bQ r158.Prefix ∧ ISl (Rp.int .i64) (bl Z ++ A) w cw cx r158.Last ∧ ISl (Rp.sl (Rp.int .i64)) (bl Z ++ A) w bo bu r158.Right ∧ ISl (rpRule) (bl Z ++ A) w ce cf r158.Rules ∧ ISl (Rp.bool) (bl Z ++ A) w vW vX ((ix ((([] : List part)) ++ ([(⟨((0 : Int) + r13.Start), r13.Final, (0 : Int)⟩ : part)])) (eh : Int)).final) ∧ Fr (bl []) w0 (bl Z) w) [t2 Fl.bool 22 4 oa (((([] : List part)) ++ ([(⟨((0 : Int) + r13.Start), r13.Final, (0 : Int)⟩ : part)])).length) (((([] : List part)) ++ ([(⟨((0 : Int) + r13.Start), r13.Final, (0 : Int)⟩ : part)])).length) (hup jk (eh : Int).toNat (KL, r158.Elems.length)) xI, .blk B414 (.cells #[.int .i64 ((ix ((([] : List part)) ++ ([(⟨((0 : Int) + r13.Start), r13.Final, (0 : Int)⟩ : part)])) (eh : Int)).start), .slice vW (((ix ((([] : List part)) ++ ([(⟨((0 : Int) + r13.Start), r13.Final, (0 : Int)⟩ : part)])) (eh : Int)).final).length) vX, .int .i64 ((ix ((([] : List part)) ++ ([(⟨((0 : Int) + r13.Start), r13.Final, (0 : Int)⟩ : part)])) (eh : Int)).shift)] 120 (0, 0)), .blk gP (.cells #[.int .i64 (dM.length : Int), .slice (some ⟨eg, 0, none⟩) r158.Elems.length r158.Elems.length, .slice (some ⟨fd, 0, none⟩) r158.Elems.length r158.Elems.length, .slice cP cS cQ, .slice none 0 0, .slice (some ⟨fo, 0, none⟩) r158.Elems.length r158.Elems.length] 33 (0, 0)), t1 Fl.bool 4 (some ⟨fo, 0, none⟩) r158.Elems.length r158.Elems.length d_275, t1 Fl.str 9 (some ⟨fd, 0, none⟩) r158.Elems.length r158.Elems.length ia, t2 Fl.i 31 3 (some ⟨eg, 0, none⟩) r158.Elems.length r158.Elems.length kn lB, t1 Fl.i 3 cP cS cQ r182, .blk B162 (.cells #[.int .i64 r158.Points, .bool r158.Monoid, .slice cq r158.Gens.length cv, .slice bU r158.Elems.length bV, .slice bP r158.Prefix.length bQ, .slice cw r158.Last.length cx, .slice bo r158.Right.length bu, .slice ce r158.Rules.length cf, .int .i64 r158.Done] 123 (0, 0)), .blk B154 (.cells #[.int .i64 (0 : Int), .slice none 0 0, .slice none 0 0, .slice none 0 0, .slice none 0 0, .slice none 0 0] 33 (0, 0)), .row 120 3 fU (0 + 1) fV fy, .blk B5 (.cells #[.int .i64 (0 : Int), .slice none 0 0, .slice none 0 0, .slice none 0 0, .slice none 0 0, .slice none 0 0] 33 (0, 0))]) ⟨agr, hO, cH.u, a9.u, ap.u, ar.u, aK.u, ao.u, aL.u, ko.u, fr⟩ ?_
    refine fun X8 => p1 fun tV xI => fun H hX8 σ SF => d1 fun hag => d1 fun hO => d1 fun cH => d1 fun a9 => d1 fun ap => d1 fun ar => d4 fun aK ao aL ko hB => ?_
    dsimp only at H
    refine Go1.keep _ hag ?_
    revert hO; repeat (rename Owns _ _ _ _ => q; clear q)
    intro hO; repeat (rename Sq _ _ _ _ _ _ => q; clear q)
    refine au ?_
    refine scm H (fun AE H => ?_) fun AE H => ?_
    ·refine au ?_
     refine sxls hO ap H.1 H.2.1 fun SG SJ rG => ?_
     refine au ?_
     refine drw 1 [(0, .pure), (1, .pure), (2, .pure), (3, .stable), (4, .pure), (5, .stable), (6, .pure), (7, .loud), (8, .pure), (9, .last)] hO fun SK s hO => ?_
     refine au ?_
     have SM := H.1
     have SN := H.2.1
     replace H := H.2.2
     obtain ⟨ob, H⟩ := H
     obtain ⟨oc, H⟩ := H
     refine GoQ.pure rfl (J07 Try.underlying40 ti22 rfl rfl ob (ltn (t2neq 0 hO rfl) oc) (t2some 0 hO rfl ob oc)) rfl rfl ?_
     refine GoQ.stable rfl (t2head 0 hO rfl ob oc Try.underlying22 rfl rfl) rfl rfl ?_
     refine au ?_
     refine GoQ.stable rfl (J05 (vs := [.int .i64 ((ix ((([] : List part)) ++ ([(⟨((0 : Int) + r13.Start), r13.Final, (0 : Int)⟩ : part)])) (eh : Int)).start), .slice vW (((ix ((([] : List part)) ++ ([(⟨((0 : Int) + r13.Start), r13.Final, (0 : Int)⟩ : part)])) (eh : Int)).final).length) vX, .int .i64 ((ix ((([] : List part)) ++ ([(⟨((0 : Int) + r13.Start), r13.Final, (0 : Int)⟩ : part)])) (eh : Int)).shift)]) (i := 0) 1 hO rfl rfl Try.underlying120 rfl ti120 rfl) rfl rfl ?_
     refine au ?_
     refine zcq rfl (J02 body103 rfl (J2i (p := (⟨((ix ((([] : List part)) ++ ([(⟨((0 : Int) + r13.Start), r13.Final, (0 : Int)⟩ : part)])) (eh : Int)).start), (ix ((([] : List part)) ++ ([(⟨((0 : Int) + r13.Start), r13.Final, (0 : Int)⟩ : part)])) (eh : Int)).final, ((ix ((([] : List part)) ++ ([(⟨((0 : Int) + r13.Start), r13.Final, (0 : Int)⟩ : part)])) (eh : Int)).shift)⟩ : part)) hO.lt ko.u rG.u H)) fun _ SO => e1 fun AF => sq0 hO fun s hO => fun H => ?_
     obtain ⟨v6, H⟩ := H
     obtain ⟨v7, H⟩ := H
     refine GoQ.pure rfl (J07 Try.underlying22 ti4 rfl rfl v6 v7 (t2isome 0 hO rfl ob oc v6 v7)) rfl rfl ?_
     have zz := t2st (r := Rp.bool) (hf := Fl.bool) rfl 0 hO rfl ob oc v6 v7 (v := .bool AF) (u := AF) rfl rfl
     obtain ⟨KM, AG, AH⟩ := zz
     refine GoQ.last rfl (AH Try.underlying4 rfl ti4 (by exact rfl) (by exact rfl)) rfl rfl ?_
     refine nst AG fun s hO => ?_
     refine au ?_
     refine sinc (natbd AE ap.bd) ?_
     refine au ?_
     exact hX8 _ H _ _ ⟨agr, hO, cH.u, a9.u, ap.u, ar.u, aK.u, ao.u, aL.u, ko.u, fr⟩
    refine au ?_
    refine sinc (natbd AA cH.bd) ?_
    refine au ?_
    refine sdr [1] hO fun s hO => ?_
    exact hX7 _ H _ _ ⟨_, agr, hO, cH.u, a9.u, ap.u, ar.u, aK.u, ao.u, aL.u, fr⟩
   refine au ?_
   refine zs (J05 (vs := [.int .i64 (dM.length : Int), .slice (some ⟨eg, 0, none⟩) r158.Elems.length r158.Elems.length, .slice (some ⟨fd, 0, none⟩) r158.Elems.length r158.Elems.length, .slice cP cS cQ, .slice none 0 0, .slice (some ⟨fo, 0, none⟩) r158.Elems.length r158.Elems.length]) (i := 0) 1 hO rfl rfl Try.underlying33 rfl ti33 rfl) ?_
   refine au ?_
   refine sba 7 hO fun SP s hO => ?_
   refine au ?_
   refine Go1.retC3V Try.func63 rfl rfl (J03 (vs := [.int .i64 (dM.length : Int), .slice (some ⟨eg, 0, none⟩) r158.Elems.length r158.Elems.length, .slice (some ⟨fd, 0, none⟩) r158.Elems.length r158.Elems.length, .slice cP cS cQ, .slice none 0 0, .slice (some ⟨fo, 0, none⟩) r158.Elems.length r158.Elems.length]) 7 hO rfl rfl Try.underlying33 rfl ti33) (show _ = .slice oa (((([] : List part)) ++ ([(⟨((0 : Int) + r13.Start), r13.Final, (0 : Int)⟩ : part)])).length) (((([] : List part)) ++ ([(⟨((0 : Int) + r13.Start), r13.Final, (0 : Int)⟩ : part)])).length) from rfl) (show _ = .int .i64 (0 : Int) from rfl) ?_
   refine hR152 _ _ ?_
   refine au ?_
   refine sal hO fun KN B448 s hO => ?_
   refine sba 0 hO fun SQ s hO => ?_
   refine au ?_
   refine zo (fun w => opB (J58 rfl rfl w) (ndT (by decide))) ?_
   refine au ?_
   obtain ⟨rH, H⟩ := H
   obtain ⟨rI, H⟩ := H
   refine zo (J07 Try.underlying40 ti22 rfl rfl rH (ltn (t2neq 1 hO rfl) rI) (t2some 1 hO rfl rH rI)) ?_
   refine zs (t2head 1 hO rfl rH rI Try.underlying22 rfl rfl) ?_
   refine au ?_
   refine sbs 0 hO fun SR s hO => ?_
   refine au ?_
   refine zs (J05 (vs := [.int .i64 (dM.length : Int), .slice (some ⟨eg, 0, none⟩) r158.Elems.length r158.Elems.length, .slice (some ⟨fd, 0, none⟩) r158.Elems.length r158.Elems.length, .slice cP cS cQ, .slice (jk (0 : Int).toNat).1 ((ix lC (0 : Int)).length) (jk (0 : Int).toNat).2, .slice (some ⟨fo, 0, none⟩) r158.Elems.length r158.Elems.length]) (i := 0) 0 hO rfl rfl Try.underlying33 rfl ti33 rfl) ?_
   refine sba 10 hO fun SS s hO => ?_
   refine au ?_
   refine sfz2 5 hO fun s hO rJ xJ => ?_
   refine sfz 4 hO fun s hO DU DW => ?_
   refine sfz 4 hO fun s hO DX DY => ?_
   have D0 := t2lendIn 1 hO rfl rH rI
   refine sfz2 1 hO fun s hO Ob Oc => ?_
   refine sfz 2 hO fun s hO D1 D2 => ?_
   refine Go1.retC2 Try.func19 rfl rfl (J03 (vs := [.int .i64 (dM.length : Int), .slice (some ⟨eg, 0, none⟩) r158.Elems.length r158.Elems.length, .slice (some ⟨fd, 0, none⟩) r158.Elems.length r158.Elems.length, .slice cP cS cQ, .slice (jk (0 : Int).toNat).1 ((ix lC (0 : Int)).length) (jk (0 : Int).toNat).2, .slice (some ⟨fo, 0, none⟩) r158.Elems.length r158.Elems.length]) 5 hO rfl rfl Try.underlying33 rfl ti33) ⟨((⟨(dM.length : Int), lB, ia, r182, (ix lC (0 : Int)), d_275⟩ : Syntactic)), _, _, _, _, _, _, _, _, _, _, _, ?_, frs, rJ.r, DU.r, DX.r, D0.r, D1.r, H⟩
   exact (congrArg (fun l => Value.tuple (List.toArray l)) (J01 (congrArg (fun l => Value.agg (List.toArray l)) (J01 rfl (J01 (congrArg (fun nn => Value.slice (some ⟨eg, 0, none⟩) nn r158.Elems.length) xJ) (J01 (congrArg (fun nn => Value.slice (some ⟨fd, 0, none⟩) nn r158.Elems.length) DW) (J01 (congrArg (fun nn => Value.slice cP nn cQ) DY) (J01 rfl (J01 (congrArg (fun nn => Value.slice (some ⟨fo, 0, none⟩) nn r158.Elems.length) D2) rfl))))))) (J01 rfl rfl)))
  refine au ?_
  refine zo (J06 Try.underlying33 ti33 (pl := [(0, 1), (1, 1), (2, 1), (3, 1), (4, 1), (5, 1)]) (vs := []) (cs := #[.int .i64 (0 : Int), .slice none 0 0, .slice none 0 0, .slice none 0 0, .slice none 0 0, .slice none 0 0]) (by kernel_rfl) rfl (by kernel_rfl)) ?_
  refine au ?_
  refine sba 1 hO fun ST s hO => ?_
  refine au ?_
  refine Go1.retC3V Try.func63 rfl rfl (J03 (vs := [.int .i64 (0 : Int), .slice none 0 0, .slice none 0 0, .slice none 0 0, .slice none 0 0, .slice none 0 0]) 1 hO rfl rfl Try.underlying33 rfl ti33) (show _ = .slice none 0 0 from rfl) (show _ = .int .i64 r159 from rfl) ?_
  refine hR152 _ _ ?_
  refine au ?_
  refine sal hO fun SU B468 s hO => ?_
  refine sba 0 hO fun KO s hO => ?_
  refine au ?_
  refine zo (fun w => opB (J58 rfl rfl w) (ndF z9)) ?_
  refine au ?_
  refine zo (J06 Try.underlying33 ti33 (pl := [(0, 1), (1, 1), (2, 1), (3, 1), (4, 1), (5, 1)]) (vs := []) (cs := #[.int .i64 (0 : Int), .slice none 0 0, .slice none 0 0, .slice none 0 0, .slice none 0 0, .slice none 0 0]) (by kernel_rfl) rfl (by kernel_rfl)) ?_
  refine au ?_
  refine sba 6 hO fun SV s hO => ?_
  refine au ?_
  refine Go1.retC2 Try.func19 rfl rfl (J03 (vs := [.int .i64 (0 : Int), .slice none 0 0, .slice none 0 0, .slice none 0 0, .slice none 0 0, .slice none 0 0]) 6 hO rfl rfl Try.underlying33 rfl ti33) ⟨((⟨(0 : Int), ([] : List (List Int)), ([] : List Str), ([] : List Int), ([] : List Bool), ([] : List Bool)⟩ : Syntactic)), _, _, _, _, _, _, _, _, _, _, _, ?_, frs, (ISl.null _ _ _), (ISl.null _ _ _), (ISl.null _ _ _), (ISl.null _ _ _), (ISl.null _ _ _), H⟩
  exact rfl
 refine au ?_
 refine zo (J06 Try.underlying33 ti33 (pl := [(0, 1), (1, 1), (2, 1), (3, 1), (4, 1), (5, 1)]) (vs := []) (cs := #[.int .i64 (0 : Int), .slice none 0 0, .slice none 0 0, .slice none 0 0, .slice none 0 0, .slice none 0 0]) (by kernel_rfl) rfl (by kernel_rfl)) ?_
 refine au ?_
 refine sba 0 hO fun SW s hO => ?_
 refine au ?_
 refine Go1.retC2 Try.func19 rfl rfl (J03 (vs := [.int .i64 (0 : Int), .slice none 0 0, .slice none 0 0, .slice none 0 0, .slice none 0 0, .slice none 0 0]) 0 hO rfl rfl Try.underlying33 rfl ti33) ⟨((⟨(0 : Int), ([] : List (List Int)), ([] : List Str), ([] : List Int), ([] : List Bool), ([] : List Bool)⟩ : Syntactic)), _, _, _, _, _, _, _, _, _, _, _, ?_, frs, (ISl.null _ _ _), (ISl.null _ _ _), (ISl.null _ _ _), (ISl.null _ _ _), (ISl.null _ _ _), H⟩
 exact rfl
theorem body48 : Body Try.prog 48 := ⟨Try.f48, Try.func48, rfl, by kernel_rfl⟩
theorem J2Z {A : List Nat} {w0 : World} {p_a : Option Addr} {c_a : Nat} {p_b : Option Addr} {c_b : Nat} {a : List Str} {b : List Str} (hA : ∀ b ∈ A, b < w0.heap.size) (h_a : ISl (Rp.str) A w0 p_a c_a a) (h_b : ISl (Rp.str) A w0 p_b c_b b) {K : Bool → Prop} (H : J1R a b K) :
    CallsV Try.prog 48 #[.slice p_a a.length c_a, .slice p_b b.length c_b] w0 (fun v w' => ∃ (r0 : Bool), v = .bool r0 ∧ Same w0 w' ∧ K r0) := by
 refine CallsV.of (l := [.slice p_a a.length c_a, .slice p_b b.length c_b]) Try.func48 rfl Try.ntmps48 rfl ?_
 have hO := Owns.start hA
 have hB := Fr.refl (bl []) w0
 unfold J1R at H
 refine au ?_
 refine sln0 ?_
 refine au ?_
 refine sln0 ?_
 refine scm ((H h_a.bd) h_b.bd) (fun h1 H => ?_) fun h1 H => ?_
 ·refine au ?_
  refine sln0 ?_
  refine au ?_
  refine lw H (fun k1_3 σ w => (fun Z => agrees σ [(0, .slice p_a a.length c_a), (1, .slice p_b b.length c_b), (12, .int .i64 (a.length : Int)), (13, .int .i64 (k1_3 : Int))] ∧ Owns w0.heap.size w Z A ∧ Fr (bl []) w0 (bl Z) w) []) ⟨agr, hO, fr⟩ ?_
  refine fun X1 => fun k1_3 => fun H hX1 σ w2 => d2 fun hag hO hB => ?_
  refine Go1.keep _ hag ?_
  refine au ?_
  refine scm H (fun h4 H => ?_) fun h4 H => ?_
  ·refine au ?_
   refine drw 0 [(0, .pure), (1, .pure), (2, .pure), (3, .stable), (4, .pure), (5, .pure), (6, .pure), (7, .stable), (8, .pure)] hO fun w5 s hO => ?_
   refine au ?_
   refine sxl hO h_a.u H.1 H.2.1 ?_
   have hle6 := ISl.J8D h_a H.1 H.2.1
   refine au ?_
   refine sxl hO h_b.u H.2.2.1 H.2.2.2.1 ?_
   have hle7 := ISl.J8D h_b H.2.2.1 H.2.2.2.1
   have h8 := H.1
   have h9 := H.2.1
   have h10 := H.2.2.1
   have h11 := H.2.2.2.1
   refine scm H.2.2.2.2 (fun h12 H => ?_) fun h12 H => ?_
   ·refine au ?_
    refine sinc (natbd h4 h_a.bd) ?_
    refine au ?_
    exact hX1 _ H _ _ ⟨agr, hO, fr⟩
   refine au ?_
   refine Go1.ret1 Try.func48 rfl ⟨_, ?_, frs, H⟩
   exact rfl
  refine au ?_
  refine Go1.ret1 Try.func48 rfl ⟨_, ?_, frs, H⟩
  exact rfl
 refine au ?_
 refine Go1.ret1 Try.func48 rfl ⟨_, ?_, frs, H⟩
 exact rfl
theorem body18 : Body Try.prog 18 := ⟨Try.f18, Try.func18, rfl, by kernel_rfl⟩
theorem J1B {A : List Nat} {w0 : World} (hA : ∀ b ∈ A, b < w0.heap.size) {K : Bool → Prop} (H : law21_awake  K) :
    CallsV Try.prog 18 #[] w0 (fun v w' => ∃ (r0 : Bool), v = .bool r0 ∧ Same w0 w' ∧ K r0) := by
 refine CallsV.of (l := []) Try.func18 rfl Try.ntmps18 rfl ?_
 have hO := Owns.start hA
 have hB := Fr.refl (bl []) w0
 unfold law21_awake at H
 refine au ?_
 refine zcr (J02 body60 rfl (J5U hO.lt H)) fun _ w2 => e4 fun r1 D3 D4 H9 => e1 fun Ia => sc0 hO fun s hO => d2 fun rK tW H => ?_
 refine zcr (J02 body19 rfl (J1n hO.lt rK tW H)) fun _ w5 => e4 fun r3 r4 D5 D6 => e4 fun lD lE BS BT => e4 fun BU BV Ib Ic => sc0 hO fun s hO => d1 fun D7 => d4 fun rL BW f8 Id H => ?_
 refine au ?_
 refine sal hO fun w6 B7 s hO => ?_
 refine sba 0 hO fun w9 s hO => ?_
 refine au ?_
 refine scm H (fun h10 H => ?_) fun h10 H => ?_
 ·refine au ?_
  refine sbu Fl.str 9 [(([] : Str)), (([97] : Str)), (([98] : Str)), (([97, 97] : Str)), (([97, 98] : Str)), (([98, 97] : Str))] hO (fun w11 p12 s hO => ?_) (hE := fun _ _ => (Els.cons rfl ⟨rfl, (by decide)⟩ (Els.cons rfl ⟨rfl, (by decide)⟩ (Els.cons rfl ⟨rfl, (by decide)⟩ (Els.cons rfl ⟨rfl, (by decide)⟩ (Els.cons rfl ⟨rfl, (by decide)⟩ (Els.cons rfl ⟨rfl, (by decide)⟩ (Els.nil _ _ _) (by simp [mx])) (by simp [mx])) (by simp [mx])) (by simp [mx])) (by simp [mx])) (by simp [mx])))
  have KP := t1lend 0 hO
  have iW := t1n 0 hO
  have hOc16 := hO.drop 0
  refine zcr (J02 body48 (show ([.slice lD r3.Words.length lE, .slice p12 6 6] : List Value) = [.slice lD r3.Words.length lE, .slice p12 ([(([] : Str)), (([97] : Str)), (([98] : Str)), (([97, 97] : Str)), (([97, 98] : Str)), (([98, 97] : Str))]).length 6] from by rw [← iW]) (J2Z hOc16.lt (rL.u.ch (Owns.J0c _ _ 0)) KP H)) fun _ w18 => e1 fun r17 => sc0 hO fun s hO => fun H => ?_
  refine au ?_
  cases r17
  ·refine au ?_
   refine Go1.ret1 Try.func18 rfl ⟨_, ?_, frs, (iF H)⟩
   exact rfl
  refine au ?_
  refine sln0 ?_
  refine scm ((iT H) f8.bd) (fun h19 H => ?_) fun h19 H => ?_
  ·refine au ?_
   refine six f8 H.1 H.2.1 ?_
   have h20 := H.1
   have h21 := H.2.1
   refine sbd hO f8.u H.1 H.2.1 H.2.2 (fun h22 H => ?_) fun h22 H => ?_
   ·refine au ?_
    refine six f8 H.1 H.2.1 ?_
    have h23 := H.1
    have h24 := H.2.1
    refine sbd hO f8.u H.1 H.2.1 H.2.2 (fun h25 H => ?_) fun h25 H => ?_
    ·refine au ?_
     refine Go1.ret1 Try.func18 rfl ⟨_, ?_, frs, H⟩
     exact rfl
    refine au ?_
    refine Go1.ret1 Try.func18 rfl ⟨_, ?_, frs, H⟩
    exact rfl
   refine au ?_
   refine Go1.ret1 Try.func18 rfl ⟨_, ?_, frs, H⟩
   exact rfl
  refine au ?_
  refine Go1.ret1 Try.func18 rfl ⟨_, ?_, frs, H⟩
  exact rfl
 refine au ?_
 refine Go1.ret1 Try.func18 rfl ⟨_, ?_, frs, H⟩
 exact rfl
theorem body111 : Body Try.prog 111 := ⟨Try.f111, Try.func111, rfl, by kernel_rfl⟩
theorem J2v {A : List Nat} {w0 : World} {p_l : Option Addr} {c_l : Nat} {l : List Int} (hA : ∀ b ∈ A, b < w0.heap.size) (h_l : ISl (Rp.int .i64) A w0 p_l c_l l) {K : List Int → Prop} (H : J0Y l K) :
    CallsV Try.prog 111 #[.slice p_l l.length c_l] w0 (fun v w' => ∃ (r0 : List Int), ∃ (bS : Option Addr), ∃ (bT : Nat), v = .slice bS r0.length bT ∧ Same w0 w' ∧ ISl (Rp.int .i64) A w' bS bT r0 ∧ K r0) := by
 refine CallsV.of (l := [.slice p_l l.length c_l]) Try.func111 rfl Try.ntmps111 rfl ?_
 have hO := Owns.start hA
 have hB := Fr.refl (bl []) w0
 unfold J0Y at H
 refine au ?_
 have zz := omakeMap (fun a : Int => Value.int .i64 a) (fun a : Int => Value.int .i64 a) hO
 obtain ⟨w1, B2, KQ, hs4, KR⟩ := zz
 refine zg KR ?_
 refine nst KQ fun s hO => ?_
 refine au ?_
 refine sln0 ?_
 refine smk Fl.i (H h_l.bd) hO fun w7 p8 s hO => ?_
 refine au ?_
 refine sln0 ?_
 refine au ?_
 refine lw (H h_l.bd).2.2 (fun (k1_11, out1_12, kq) σ w => (fun Z => agrees σ [(3, .map (some B2)), (4, .slice p8 l.length l.length), (13, .slice p_l l.length c_l), (14, .int .i64 (l.length : Int)), (15, .int .i64 (k1_11 : Int))] ∧ Owns w0.heap.size w Z A ∧ Fr (bl []) w0 (bl Z) w) [t1 Fl.i 3 p8 l.length l.length out1_12, .any (mapE (fun a : Int => Value.int .i64 a) (fun a : Int => Value.int .i64 a) B2 kq)]) ⟨agr, hO, fr⟩ ?_
 refine fun X1 => p2 fun k1_11 out1_12 kq => fun H hX1 σ w10 => d2 fun hag hO hB => ?_
 dsimp only at H
 refine Go1.keep _ hag ?_
 revert hO; repeat (rename Owns _ _ _ _ => q; clear q)
 intro hO; repeat (rename Sq _ _ _ _ _ _ => q; clear q)
 refine au ?_
 refine scm H (fun h14 H => ?_) fun h14 H => ?_
 ·refine au ?_
  refine sxl hO h_l.u H.1 H.2.1 ?_
  refine au ?_
  have h15 := H.1
  have h16 := H.2.1
  replace H := H.2.2
  by_cases h17 : mhas kq ((ix l (k1_11 : Int))) = true
  ·refine zs (olookT (a := (ix l (k1_11 : Int))) (MK.int Try.underlying3) 1 hO rfl Try.underlying168 rfl rfl h17) ?_
   refine au ?_
   refine six1 0 hO (ifp h17 H).1 (ifp h17 H).2.1 ?_
   refine sst (u := (mgt kq ((ix l (k1_11 : Int))))) 0 hO (ifp h17 H).1 (ifp h17 H).2.1 fun w18 s hO => ?_
   refine au ?_
   refine sinc (natbd h14 h_l.bd) ?_
   refine au ?_
   exact hX1 _ (ifp h17 H).2.2 _ _ ⟨agr, hO, fr⟩
  refine zs (olookF (a := (ix l (k1_11 : Int))) (MK.int Try.underlying3) 1 hO rfl Try.underlying168 ti3 rfl rfl h17) ?_
  refine au ?_
  refine zs (omapLen 1 hO rfl Try.underlying168 rfl) ?_
  refine au ?_
  have zz := omapUpd (MK.int Try.underlying3) 1 hO rfl Try.underlying168 (ix l (k1_11 : Int)) (kq.length : Int)
  obtain ⟨w19, qm, D8⟩ := zz
  refine zg (D8 (by exact rfl) (by exact rfl) (by exact rfl)) ?_
  refine nst qm fun s hO => ?_
  refine au ?_
  refine six1 0 hO (ifn h17 H).1 (ifn h17 H).2.1 ?_
  refine sst (u := (kq.length : Int)) 0 hO (ifn h17 H).1 (ifn h17 H).2.1 fun w22 s hO => ?_
  refine au ?_
  refine sinc (natbd h14 h_l.bd) ?_
  refine au ?_
  exact hX1 _ (ifn h17 H).2.2 _ _ ⟨agr, hO, fr⟩
 refine au ?_
 refine sfz 0 hO fun s hO KS KT => ?_
 refine Go1.ret1 Try.func111 rfl ⟨_, _, _, ?_, frs, KS.r, H⟩
 exact (congrArg (fun nn => Value.slice p8 nn l.length) KT)
theorem body112 : Body Try.prog 112 := ⟨Try.f112, Try.func112, rfl, by kernel_rfl⟩
theorem J4Z {A : List Nat} {w0 : World} {p_p : Option Addr} {c_p : Nat} {p_q : Option Addr} {c_q : Nat} {p : List Int} {q : List Int} (hA : ∀ b ∈ A, b < w0.heap.size) (h_p : ISl (Rp.int .i64) A w0 p_p c_p p) (h_q : ISl (Rp.int .i64) A w0 p_q c_q q) {K : List Int → Prop} (H : J2B p q K) :
    CallsV Try.prog 112 #[.slice p_p p.length c_p, .slice p_q q.length c_q] w0 (fun v w' => ∃ (r0 : List Int), ∃ (bS : Option Addr), ∃ (bT : Nat), v = .slice bS r0.length bT ∧ Same w0 w' ∧ ISl (Rp.int .i64) A w' bS bT r0 ∧ K r0) := by
 refine CallsV.of (l := [.slice p_p p.length c_p, .slice p_q q.length c_q]) Try.func112 rfl Try.ntmps112 rfl ?_
 have hO := Owns.start hA
 have hB := Fr.refl (bl []) w0
 unfold J2B at H
 refine au ?_
 refine sln0 ?_
 refine smk Fl.i (H h_p.bd) hO fun w1 p4 s hO => ?_
 refine au ?_
 refine sln0 ?_
 refine au ?_
 refine lw (H h_p.bd).2.2 (fun (bC, out1_8) σ w => (fun Z => agrees σ [(0, .slice p_p p.length c_p), (1, .slice p_q q.length c_q), (5, .slice p4 p.length p.length), (11, .int .i64 (p.length : Int)), (12, .int .i64 (bC : Int))] ∧ Owns w0.heap.size w Z A ∧ Fr (bl []) w0 (bl Z) w) [t1 Fl.i 3 p4 p.length p.length out1_8]) ⟨agr, hO, fr⟩ ?_
 refine fun X1 => p1 fun bC out1_8 => fun H hX1 σ w6 => d2 fun hag hO hB => ?_
 dsimp only at H
 refine Go1.keep _ hag ?_
 revert hO; repeat (rename Owns _ _ _ _ => q; clear q)
 intro hO; repeat (rename Sq _ _ _ _ _ _ => q; clear q)
 refine au ?_
 refine scm H (fun h9 H => ?_) fun h9 H => ?_
 ·refine au ?_
  refine drw 1 [(0, .pure), (1, .pure), (2, .pure), (3, .pure), (4, .pure), (5, .stable), (6, .pure), (7, .pure), (8, .pure), (9, .pure), (10, .pure), (11, .pure), (12, .pure), (13, .stable), (14, .pure), (15, .pure), (16, .last)] hO fun w10 s hO => ?_
  refine au ?_
  refine sxl hO h_p.u H.1 H.2.1 ?_
  refine au ?_
  refine sln0 ?_
  have h11 := H.1
  have h12 := H.2.1
  replace H := H.2.2
  obtain ⟨h13, H⟩ := H
  refine GoQ.pure rfl (J04 rfl rfl (wrap_i64 h13)) rfl rfl ?_
  obtain ⟨h14, H⟩ := H
  refine GoQ.pure rfl (J9b rfl rfl (wrap_i64 h14)) rfl rfl ?_
  refine au ?_
  refine sxl hO h_q.u H.1 H.2.1 ?_
  have h15 := H.1
  have h16 := H.2.1
  replace H := H.2.2
  obtain ⟨h17, H⟩ := H
  refine GoQ.pure rfl (J04 rfl rfl (wrap_i64 h17)) rfl rfl ?_
  refine six1 0 hO H.1 H.2.1 ?_
  refine sst (u := (((ix p (bC : Int)) * (p.length + 1 : Int)) + (ix q (bC : Int)))) 0 hO H.1 H.2.1 fun w18 s hO => ?_
  refine au ?_
  refine sinc (natbd h9 h_p.bd) ?_
  refine au ?_
  exact hX1 _ H.2.2 _ _ ⟨agr, hO, fr⟩
 refine au ?_
 refine sfz 0 hO fun s hO v8 v9 => ?_
 refine zcr (J02 body111 (show ([.slice p4 p.length p.length] : List Value) = [.slice p4 out1_8.length p.length] from by rw [← v9]) (J2v hO.lt v8 H)) fun _ w22 => e3 fun r21 D9 Ea => sc0 hO fun s hO => d1 fun rM H => ?_
 refine au ?_
 refine Go1.ret1 Try.func112 rfl ⟨_, _, _, ?_, frs, rM.r, H⟩
 exact rfl
theorem body49 : Body Try.prog 49 := ⟨Try.f49, Try.func49, rfl, by kernel_rfl⟩
theorem J1b {A : List Nat} {w0 : World} {p_a : Option Addr} {c_a : Nat} {p_b : Option Addr} {c_b : Nat} {a : List Int} {b : List Int} (hA : ∀ b ∈ A, b < w0.heap.size) (h_a : ISl (Rp.int .i64) A w0 p_a c_a a) (h_b : ISl (Rp.int .i64) A w0 p_b c_b b) {K : Bool → Prop} (H : J0W a b K) :
    CallsV Try.prog 49 #[.slice p_a a.length c_a, .slice p_b b.length c_b] w0 (fun v w' => ∃ (r0 : Bool), v = .bool r0 ∧ Same w0 w' ∧ K r0) := by
 refine CallsV.of (l := [.slice p_a a.length c_a, .slice p_b b.length c_b]) Try.func49 rfl Try.ntmps49 rfl ?_
 have hO := Owns.start hA
 have hB := Fr.refl (bl []) w0
 unfold J0W at H
 refine au ?_
 refine sln0 ?_
 refine au ?_
 refine sln0 ?_
 refine scm ((H h_a.bd) h_b.bd) (fun h1 H => ?_) fun h1 H => ?_
 ·refine au ?_
  refine sln0 ?_
  refine au ?_
  refine lw H (fun k1_3 σ w => (fun Z => agrees σ [(0, .slice p_a a.length c_a), (1, .slice p_b b.length c_b), (12, .int .i64 (a.length : Int)), (13, .int .i64 (k1_3 : Int))] ∧ Owns w0.heap.size w Z A ∧ Fr (bl []) w0 (bl Z) w) []) ⟨agr, hO, fr⟩ ?_
  refine fun X1 => fun k1_3 => fun H hX1 σ w2 => d2 fun hag hO hB => ?_
  refine Go1.keep _ hag ?_
  refine au ?_
  refine scm H (fun h4 H => ?_) fun h4 H => ?_
  ·refine au ?_
   refine drw 0 [(0, .pure), (1, .pure), (2, .pure), (3, .stable), (4, .pure), (5, .pure), (6, .pure), (7, .stable), (8, .pure)] hO fun w5 s hO => ?_
   refine au ?_
   refine sxl hO h_a.u H.1 H.2.1 ?_
   refine au ?_
   refine sxl hO h_b.u H.2.2.1 H.2.2.2.1 ?_
   have h6 := H.1
   have h7 := H.2.1
   have h8 := H.2.2.1
   have h9 := H.2.2.2.1
   refine scm H.2.2.2.2 (fun h10 H => ?_) fun h10 H => ?_
   ·refine au ?_
    refine sinc (natbd h4 h_a.bd) ?_
    refine au ?_
    exact hX1 _ H _ _ ⟨agr, hO, fr⟩
   refine au ?_
   refine Go1.ret1 Try.func49 rfl ⟨_, ?_, frs, H⟩
   exact rfl
  refine au ?_
  refine Go1.ret1 Try.func49 rfl ⟨_, ?_, frs, H⟩
  exact rfl
 refine au ?_
 refine Go1.ret1 Try.func49 rfl ⟨_, ?_, frs, H⟩
 exact rfl
theorem body67 : Body Try.prog 67 := ⟨Try.f67, Try.func67, rfl, by kernel_rfl⟩
theorem J3R {A : List Nat} {w0 : World} {aa : Option Addr} {ad : Nat} {ae : Option Addr} {af : Nat} {d : DFA} (hA : ∀ b ∈ A, b < w0.heap.size) (aq : ISl (Rp.bool) A w0 aa ad d.Final) (aA : ISl (Rp.sl (Rp.int .i64)) A w0 ae af d.Next) {K : List Int → Prop} (H : J1f d K) :
    CallsV Try.prog 67 #[.agg #[.int .i64 d.Letters, .int .i64 d.Start, .slice aa d.Final.length ad, .slice ae d.Next.length af]] w0 (fun v w' => ∃ (r0 : List Int), ∃ (bS : Option Addr), ∃ (bT : Nat), v = .slice bS r0.length bT ∧ Same w0 w' ∧ ISl (Rp.int .i64) A w' bS bT r0 ∧ K r0) := by
 refine CallsV.of (l := [.agg #[.int .i64 d.Letters, .int .i64 d.Start, .slice aa d.Final.length ad, .slice ae d.Next.length af]]) Try.func67 rfl Try.ntmps67 rfl ?_
 have hO := Owns.start hA
 have hB := Fr.refl (bl []) w0
 unfold J1f at H
 refine au ?_
 refine sbx hO fun w1 B2 s hO => ?_
 refine au ?_
 refine sln0 ?_
 refine smk Fl.i (H aq.bd) hO fun w4 p5 s hO => ?_
 refine au ?_
 refine sln1 0 hO ?_
 refine au ?_
 refine lw (H aq.bd).2.2 (fun (k1_8, wa) σ w => (fun Z => agrees σ [(1, .pointer (some ⟨B2, 0, none⟩)), (3, .slice p5 d.Final.length d.Final.length), (14, .int .i64 ((List.replicate d.Final.length ((0 : Int))).length : Int)), (15, .int .i64 (k1_8 : Int))] ∧ Owns w0.heap.size w Z A ∧ Fr (bl []) w0 (bl Z) w) [t1 Fl.i 3 p5 d.Final.length d.Final.length wa, .blk B2 (.cells #[.int .i64 d.Letters, .int .i64 d.Start, .slice aa d.Final.length ad, .slice ae d.Next.length af] 25 (0, 0))]) ⟨agr, hO, fr⟩ ?_
 refine fun X1 => p1 fun k1_8 wa => fun H hX1 σ w7 => d2 fun hag hO hB => ?_
 dsimp only at H
 refine Go1.keep _ hag ?_
 revert hO; repeat (rename Owns _ _ _ _ => q; clear q)
 intro hO; repeat (rename Sq _ _ _ _ _ _ => q; clear q)
 refine au ?_
 refine scm H (fun h10 H => ?_) fun h10 H => ?_
 ·refine au ?_
  have h11 := H.1
  have h12 := H.2.1
  refine sxb hO aq.u H.1 H.2.1 H.2.2 (fun h13 H => ?_) fun h13 H => ?_
  ·refine au ?_
   refine six1 0 hO H.1 H.2.1 ?_
   refine sst (u := (1 : Int)) 0 hO H.1 H.2.1 fun w14 s hO => ?_
   refine au ?_
   have h15 := H.1
   have h16 := H.2.1
   replace H := H.2.2
   obtain ⟨h17, H⟩ := H
   refine zo (J04 rfl rfl (wrap_i64 h17)) ?_
   refine au ?_
   exact hX1 _ H _ _ ⟨agr, hO, fr⟩
  refine au ?_
  obtain ⟨h18, H⟩ := H
  refine zo (J04 rfl rfl (wrap_i64 h18)) ?_
  refine au ?_
  exact hX1 _ H _ _ ⟨agr, hO, fr⟩
 refine au ?_
 refine sfz 0 hO fun s hO v8 v9 => ?_
 refine zcr (J02 body111 (show ([.slice p5 d.Final.length d.Final.length] : List Value) = [.slice p5 wa.length d.Final.length] from by rw [← v9]) (J2v hO.lt v8 H)) fun _ w22 => e3 fun r21 D9 Ea => sc0 hO fun s hO => d1 fun rM H => ?_
 refine au ?_
 refine lw H (fun ic σ w => ∃ p25 c26, (fun Z => agrees σ [(1, .pointer (some ⟨B2, 0, none⟩)), (3, .slice p25 ic.length c26)] ∧ Owns w0.heap.size w Z A ∧ ISl (Rp.int .i64) (bl Z ++ A) w p25 c26 ic ∧ Fr (bl []) w0 (bl Z) w) [.blk B2 (.cells #[.int .i64 d.Letters, .int .i64 d.Start, .slice aa d.Final.length ad, .slice ae d.Next.length af] 25 (0, 0))]) ⟨_, _, agr, hO, rM, fr⟩ ?_
 refine fun X2 => fun ic => fun H hX2 σ w23 => e2 fun p25 c26 => d3 fun hag hO gY hB => ?_
 refine Go1.keep _ hag ?_
 revert hO; repeat (rename Owns _ _ _ _ => q; clear q)
 intro hO; repeat (rename Sq _ _ _ _ _ _ => q; clear q)
 refine au ?_
 refine lw H (fun (next3_29, mA) σ w => ∃ p30 c31, (fun Z => agrees σ [(1, .pointer (some ⟨B2, 0, none⟩)), (3, .slice p25 ic.length c26), (5, .slice p30 next3_29.length c31), (6, .int .i64 (mA : Int))] ∧ Owns w0.heap.size w Z A ∧ ISl (Rp.int .i64) (bl Z ++ A) w p25 c26 ic ∧ ISl (Rp.int .i64) (bl Z ++ A) w p30 c31 next3_29 ∧ Fr (bl []) w0 (bl Z) w) [.blk B2 (.cells #[.int .i64 d.Letters, .int .i64 d.Start, .slice aa d.Final.length ad, .slice ae d.Next.length af] 25 (0, 0))]) ⟨_, _, agr, hO, gY, gY, fr⟩ ?_
 refine fun X3 => p1 fun next3_29 mA => fun H hX3 σ w28 => e2 fun p30 c31 => d4 fun hag hO gY fe hB => ?_
 dsimp only at H
 refine Go1.keep _ hag ?_
 revert hO; repeat (rename Owns _ _ _ _ => q; clear q)
 intro hO; repeat (rename Sq _ _ _ _ _ _ => q; clear q)
 refine au ?_
 refine scm H (fun h34 H => ?_) fun h34 H => ?_
 ·refine au ?_
  refine sln0 ?_
  refine au ?_
  refine snil Fl.i 3 hO fun s hO => ?_
  refine lw (H gY.bd) (fun (rN, to4_38) σ w => ∃ n41 p39 c40, (fun Z => agrees σ [(1, .pointer (some ⟨B2, 0, none⟩)), (3, .slice p25 ic.length c26), (5, .slice p30 next3_29.length c31), (6, .int .i64 (mA : Int)), (7, .slice p39 n41 c40), (37, .int .i64 (ic.length : Int)), (38, .int .i64 (rN : Int))] ∧ Owns w0.heap.size w Z A ∧ ISl (Rp.int .i64) (bl Z ++ A) w p25 c26 ic ∧ ISl (Rp.int .i64) (bl Z ++ A) w p30 c31 next3_29 ∧ Fr (bl []) w0 (bl Z) w) [t1 Fl.i 3 p39 n41 c40 to4_38, .blk B2 (.cells #[.int .i64 d.Letters, .int .i64 d.Start, .slice aa d.Final.length ad, .slice ae d.Next.length af] 25 (0, 0))]) ⟨_, _, _, agr, hO, gY.u, fe.u, fr⟩ ?_
  refine fun X4 => p1 fun rN to4_38 => fun H hX4 σ w36 => e3 fun n41 p39 c40 => d4 fun hag hO gY fe hB => ?_
  dsimp only at H
  refine Go1.keep _ hag ?_
  revert hO; repeat (rename Owns _ _ _ _ => q; clear q)
  intro hO; repeat (rename Sq _ _ _ _ _ _ => q; clear q)
  refine au ?_
  refine scm H (fun h42 H => ?_) fun h42 H => ?_
  ·refine au ?_
   refine sxls hO aA.u H.1 H.2.1 fun p43 c44 jO => ?_
   refine au ?_
   refine sxl hO jO.u H.2.2.1 H.2.2.2.1 ?_
   refine sxl hO gY H.2.2.2.2.1 H.2.2.2.2.2.1 ?_
   refine sap1 ((ix ic (ix (ix d.Next (rN : Int)) (mA : Int)))) 0 hO H.2.2.2.2.2.2 fun _ w46 p47 c48 s hO => ?_
   refine au ?_
   refine sinc (natbd h42 gY.bd) ?_
   refine au ?_
   exact hX4 _ H.2.2.2.2.2.2.2 _ _ ⟨_, _, _, agr, hO, gY.u, fe.u, fr⟩
  refine au ?_
  refine sfz 0 hO fun s hO jU KU => ?_
  refine zcr (J02 body112 (show ([.slice p30 next3_29.length c31, .slice p39 n41 c40] : List Value) = [.slice p30 next3_29.length c31, .slice p39 to4_38.length c40] from by rw [← KU]) (J4Z hO.lt fe.u jU H)) fun _ w52 => e3 fun r51 Od Oe => sc0 hO fun s hO => d1 fun Eb H => ?_
  refine au ?_
  obtain ⟨h53, H⟩ := H
  refine zo (J04 rfl rfl (wrap_i64 h53)) ?_
  refine au ?_
  exact hX3 _ H _ _ ⟨_, _, agr, hO, gY.u, Eb, fr⟩
 refine au ?_
 refine zcr (J02 body49 rfl (J1b hO.lt fe.u gY.u H)) fun _ w55 => e1 fun r54 => sc0 hO fun s hO => fun H => ?_
 refine au ?_
 cases r54
 ·refine au ?_
  exact hX2 _ (iF H) _ _ ⟨_, _, agr, hO, fe.u, fr⟩
 refine au ?_
 refine Go1.ret1 Try.func67 rfl ⟨_, _, _, ?_, frs, gY.r, (iT H)⟩
 exact rfl
end Sg
