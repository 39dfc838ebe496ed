/- -/
import Derived.Test.YtlneebpmblkllaaTi
import Derived.Test.YtlneebpmblkllaaWSyntacticMonoids
import Derived.Test.YtlneebpmblkllaaWSyntacticMonoidsb
import Derived.Test.YtlneebpmblkllaaWSyntacticMonoidsd
import Derived.Test.YtlneebpmblkllaaAl
namespace Sg
open Go Go.RowKit Go.Proofs
set_option linter.unusedVariables false
set_option linter.unusedSimpArgs false
set_option maxRecDepth 100000
set_option maxHeartbeats 4000000
theorem body63 : Body Try.prog 63 := ⟨Try.f63, Try.func63, rfl, by kernel_rfl⟩
theorem body62 : Body Try.prog 62 := ⟨Try.f62, Try.func62, rfl, by kernel_rfl⟩
theorem body19 : Body Try.prog 19 := ⟨Try.f19, Try.func19, rfl, by kernel_rfl⟩
theorem walk_syntactic_Of {A : List Nat} {w0 : World} {aU : Option Addr} {aV : Nat} {aX : Option Addr} {aY : Nat} {d : DFA} (hA : ∀ b ∈ A, b < w0.heap.size) (ah : ISl (Rp.bool) A w0 aU aV d.Final) (ak : ISl (Rp.sl (Rp.int .i64)) A w0 aX aY d.Next) {K : Syntactic → Int → Prop} (H : syntactic_Of d K) :
    CallsV Try.prog 19 #[.agg #[.int .i64 d.Letters, .int .i64 d.Start, .slice aU d.Final.length aV, .slice aX d.Next.length aY]] w0 (fun v w' => ∃ (r0 : Syntactic), ∃ (r1 : Int), ∃ (Ab : Option Addr), ∃ (Ac : Nat), ∃ (Ad : Option Addr), ∃ (Ae : Nat), ∃ (yA : Option Addr), ∃ (yB : Nat), ∃ (yC : Option Addr), ∃ (yD : Nat), ∃ (AY : Option Addr), ∃ (A4 : Nat), v = .tuple #[.agg #[.int .i64 r0.Letters, .slice Ab r0.Table.length Ac, .slice Ad r0.Words.length Ae, .slice yA r0.Images.length yB, .slice yC r0.Accept.length yD, .slice AY r0.Plus.length A4], .int .i64 r1] ∧ Same w0 w' ∧ ISl (Rp.sl (Rp.int .i64)) A w' Ab Ac r0.Table ∧ ISl (Rp.str) A w' Ad Ae r0.Words ∧ ISl (Rp.int .i64) A w' yA yB r0.Images ∧ ISl (Rp.bool) A w' yC yD r0.Accept ∧ ISl (Rp.bool) A w' AY A4 r0.Plus ∧ K r0 r1) := by
 refine CallsV.of (l := [.agg #[.int .i64 d.Letters, .int .i64 d.Start, .slice aU d.Final.length aV, .slice aX d.Next.length aY]]) Try.func19 rfl Try.ntmps19 rfl ?_
 have hO := Owns.start hA
 have hB := Fr.refl (bl []) w0
 unfold syntactic_Of at H
 refine zq (zr ?_)
 have hobt := obox (t := 25) (v := .agg #[.int .i64 d.Letters, .int .i64 d.Start, .slice aU d.Final.length aV, .slice aX d.Next.length aY]) (cs := #[.int .i64 d.Letters, .int .i64 d.Start, .slice aU d.Final.length aV, .slice aX d.Next.length aY]) hO rfl
 obtain ⟨w1, B2, dG, hs4, lb⟩ := hobt
 refine zg (lb rfl) ?_
 replace hO := dG.own
 have hobt := oalloc (t := 33) (cs := #[.int .i64 (0 : Int), .slice none 0 0, .slice none 0 0, .slice none 0 0, .slice none 0 0, .slice none 0 0]) ti33 hO rfl
 obtain ⟨w7, B8, gr, wV, te⟩ := hobt
 refine GoR.op te rfl rfl ?_
 replace hO := gr.own
 refine za rfl (zn (zq (zq ?_)))
 refine Go1.cut [(1, .pointer (some ⟨B2, 0, none⟩)), (2, .pointer (some ⟨B8, 0, none⟩))] ⟨rfl, rfl, trivial⟩ ?_
 intro σ _
 refine zr (zs (oblkAgg (vs := [.int .i64 d.Letters, .int .i64 d.Start, .slice aU d.Final.length aV, .slice aX d.Next.length aY]) (i := 0) 1 hO rfl rfl Try.underlying25 rfl ti25 rfl) ?_)
 have Z1 := ((Ch.start A w0).trans dG.ch).trans gr.ch
 replace ah := ah.ch Z1
 replace ak := ak.ch Z1
 refine GoR.call (op_call body61 rfl (walk_dfa_Validate (d := d) hO.lt ah ak H)) rfl rfl ?_
 rintro v17 w14 ⟨r13, rfl, yI, H⟩
 have ji := Stp.same hO yI
 replace hO := ji.own
 refine za rfl (zn (zq (zr (zm rfl ?_))))
 by_cases h19 : r13 = (0 : Int)
 ·replace H := ifp h19 H
  refine zo (fun w => opB (op_neq rfl rfl w) (ndT h19)) (zn (zf rfl rfl (zk (zq (zr ?_)))))
  have hobt := oalloc (t := 83) (cs := #[.slice none 0 0, .slice none 0 0, .int .i64 (0 : Int)]) ti83 hO rfl
  obtain ⟨w20, B21, mJ, Fh, zJ⟩ := hobt
  refine GoR.op zJ rfl rfl ?_
  replace hO := mJ.own
  refine zn (zq (zq (zr (zs (oblkAgg (vs := [.int .i64 d.Letters, .int .i64 d.Start, .slice aU d.Final.length aV, .slice aX d.Next.length aY]) (i := 0) 2 hO rfl rfl Try.underlying25 rfl ti25 rfl) ?_))))
  have Z2 := ji.ch.trans mJ.ch
  replace ah := ah.ch Z2
  replace ak := ak.ch Z2
  refine GoR.call (op_call body22 rfl (walk_minimize_Minimal (d := d) hO.lt ah ak H)) rfl rfl ?_
  rintro v30 w27 ⟨r26, dx, dy, d6, d7, rfl, BB, ap, ar, H⟩
  have m5 := Stp.same hO BB
  replace hO := m5.own
  refine GoR.inl (vs := [.pointer (some ⟨B21, 0, none⟩), .agg #[.int .i64 r26.Letters, .int .i64 r26.Start, .slice dx r26.Final.length dy, .slice d6 r26.Next.length d7]]) (caps := []) rfl rfl body62 Try.func62 rfl Try.ntmps62 rfl rfl rfl ?_
  intro RhR32 hR32
  refine zq (zr ?_)
  have hobt := obox (t := 25) (v := .agg #[.int .i64 r26.Letters, .int .i64 r26.Start, .slice dx r26.Final.length dy, .slice d6 r26.Next.length d7]) (cs := #[.int .i64 r26.Letters, .int .i64 r26.Start, .slice dx r26.Final.length dy, .slice d6 r26.Next.length d7]) hO rfl
  obtain ⟨w33, B34, ym, Kl, O0⟩ := hobt
  refine zg (O0 rfl) ?_
  replace hO := ym.own
  refine za rfl (zn (zq (zr (zo (op_fieldAddr Try.underlying25 rfl ti22 rfl (by decide)) (zs (oblk (i := 2) 0 hO rfl rfl Try.underlying22 rfl rfl) ?_)))))
  refine zo (op_len Try.underlying22 rfl) ?_
  replace ap := ap.ch ym.ch
  replace H := H ap.bd
  refine za rfl (zn (zq (zq (zr (zm rfl ?_)))))
  refine zo (op_nilCheck rfl) (zo (op_fieldAddr Try.underlying83 rfl ti3 rfl (by decide)) (zs (oblk (i := 2) 1 hO rfl rfl Try.underlying3 rfl rfl) (zm rfl ?_)))
  obtain ⟨h39, H⟩ := H
  refine zo (op_add rfl rfl (wrap_i64 h39)) ?_
  by_cases h40 : (32 : Int) < ((0 : Int) + (r26.Final.length : Int))
  ·replace H := ifp h40 H
   refine zo (fun w => opB (op_gtr rfl rfl w) (decide_eq_true h40)) (zn (zt rfl rfl (zq ?_)))
   refine Go1.cut [] trivial ?_
   intro σ _
   refine zr (za rfl (zn ?_))
   refine Go1.ret1V Try.func62 rfl (show _ = .int .i64 (3 : Int) from rfl) ?_
   refine hR32 _ _ ?_
   refine za rfl (zn (zq (zr (zm rfl (zo (fun w => opB (op_neq rfl rfl w) (ndF (by decide))) ?_)))))
   refine zn (zt rfl rfl (zq (zr (zo (op_build Try.underlying33 ti33 (pl := [(0, 1), (1, 1), (2, 1), (3, 1), (4, 1), (5, 1)]) (vs := []) (cs := #[.int .i64 (0 : Int), .slice none 0 0, .slice none 0 0, .slice none 0 0, .slice none 0 0, .slice none 0 0]) (by kernel_rfl) rfl (by kernel_rfl)) (zm rfl ?_)))))
   have hobt := oblkStAgg (us := [.int .i64 (0 : Int), .slice none 0 0, .slice none 0 0, .slice none 0 0, .slice none 0 0, .slice none 0 0]) (o := 0) (cs' := #[.int .i64 (0 : Int), .slice none 0 0, .slice none 0 0, .slice none 0 0, .slice none 0 0, .slice none 0 0]) 2 hO rfl rfl (Nat.le_of_ble_eq_true rfl) rfl
   obtain ⟨w41, ph, zG⟩ := hobt
   refine zg (zG ti33 (by exact rfl) (by exact rfl) rfl) ?_
   replace hO := ph.own
   refine za rfl (zn ?_)
   refine Go1.retC2 Try.func19 rfl rfl (run_loadBlk (vs := [.int .i64 (0 : Int), .slice none 0 0, .slice none 0 0, .slice none 0 0, .slice none 0 0, .slice none 0 0]) 2 hO rfl rfl Try.underlying33 rfl ti33) ?_
   replace hB := ((((((hB.trans dG.fr).trans gr.fr).trans ji.fr).trans mJ.fr).trans m5.fr).trans ym.fr).trans ph.fr
   exact ⟨(⟨(0 : Int), ([] : List (List Int)), ([] : List Str), ([] : List Int), ([] : List Bool), ([] : List Bool)⟩ : Syntactic), (3 : Int), none, 0, none, 0, none, 0, none, 0, none, 0, rfl, hB.same, (ISl.null _ _ _), (ISl.null _ _ _), (ISl.null _ _ _), (ISl.null _ _ _), (ISl.null _ _ _), H⟩
  replace H := ifn h40 H
  refine zo (fun w => opB (op_gtr rfl rfl w) (decide_eq_false h40)) (zn (zf rfl rfl (zk (zq (zq ?_)))))
  refine zr (zm rfl (zo (op_nilCheck rfl) (zo (op_fieldAddr Try.underlying83 rfl ti23 rfl (by decide)) (zs (oblk (i := 0) 1 hO rfl rfl Try.underlying23 rfl rfl) (zo (fun w => opB (op_nilSlice Try.underlying23 rfl rfl w) rfl) ?_)))))
  refine zn (zt rfl rfl (zr (zm rfl (zo (op_fieldAddr Try.underlying25 rfl ti3 rfl (by decide)) (zs (oblk (i := 0) 0 hO rfl rfl Try.underlying3 rfl rfl) ?_)))))
  obtain ⟨h51, H⟩ := H
  obtain ⟨h52, H⟩ := H
  have hobt := t2makeS (m := r26.Letters) (e' := 3) (Fl.int .i64) Try.underlying23 ti31 hO h51 h52 (by decide)
  obtain ⟨w44, p45, yn, W7, O1, hz54⟩ := hobt
  refine zg (O1 rfl rfl) ?_
  replace hO := yn.own
  refine zo (op_nilCheck rfl) (zo (op_fieldAddr Try.underlying83 rfl ti23 rfl (by decide)) ?_)
  have hobt := oblkSt2 (v := .slice p45 r26.Letters.toNat r26.Letters.toNat) (i := 0) (cs' := #[.slice p45 r26.Letters.toNat r26.Letters.toNat, .slice none 0 0, .int .i64 (0 : Int)]) 2 hO rfl rfl rfl rfl
  obtain ⟨w55, lM, O2⟩ := hobt
  dsimp only [sS, sZ] at lM
  refine zg (O2 Try.underlying23 rfl ti23 (by exact rfl) (by exact rfl)) ?_
  replace hO := lM.own
  refine zn (zq (zq ?_))
  refine Go1.cut [(0, .pointer (some ⟨B21, 0, none⟩)), (3, .pointer (some ⟨B34, 0, none⟩)), (5, .int .i64 (r26.Final.length : Int))] ⟨rfl, rfl, rfl, trivial⟩ ?_
  intro σ _
  refine zr (zm rfl (zo (op_nilCheck rfl) (zo (op_fieldAddr Try.underlying83 rfl ti23 rfl (by decide)) (zs (oblk (i := 0) 2 hO rfl rfl Try.underlying23 rfl rfl) (zo (op_lenN Try.underlying23 rfl (t2neq 0 hO rfl)) ?_)))))
  refine zm rfl (zn (zb ?_))
  replace hO := hO.drop 4
  have Z3 := (yn.ch.trans lM.ch).trans (Owns.dropCh _ _ 4)
  replace ap := ap.ch Z3
  have Z4 := ((ym.ch.trans yn.ch).trans lM.ch).trans (Owns.dropCh _ _ 4)
  replace ar := ar.ch Z4
  have Z5 := (((m5.ch.trans ym.ch).trans yn.ch).trans lM.ch).trans (Owns.dropCh _ _ 4)
  replace ah := ah.ch Z5
  replace ak := ak.ch Z5
  replace hB := ((((((((hB.trans dG.fr).trans gr.fr).trans ji.fr).trans mJ.fr).trans m5.fr).trans ym.fr).trans yn.fr).trans lM.fr).trans (Owns.dropFr _ _ 4)
  dsimp only [eS, eZ] at hB hO ah ak ap ar
  refine Go1.loopW (S := Nat × List (List Int)) (fun s σ w => match s with | (k1_59, d_60) => ∃ (zy : Hd), agrees σ [(0, .pointer (some ⟨B21, 0, none⟩)), (3, .pointer (some ⟨B34, 0, none⟩)), (5, .int .i64 (r26.Final.length : Int)), (33, .int .i64 ((List.replicate r26.Letters.toNat ([] : List Int)).length : Int)), (34, .int .i64 (k1_59 : Int))] ∧ (fun Z0 => Owns w0.heap.size w Z0 A ∧ ISl (Rp.bool) (bl Z0 ++ A) w dx dy r26.Final ∧ ISl (Rp.sl (Rp.int .i64)) (bl Z0 ++ A) w d6 d7 r26.Next ∧ Fr (bl []) w0 (bl Z0) w) [t2 (Fl.int .i64) 31 3 p45 r26.Letters.toNat r26.Letters.toNat zy d_60, .blk B34 (.cells #[.int .i64 r26.Letters, .int .i64 r26.Start, .slice dx r26.Final.length dy, .slice d6 r26.Next.length d7] 25 (0, 0)), .blk B21 (.cells #[.slice p45 r26.Letters.toNat r26.Letters.toNat, .slice none 0 0, .int .i64 (0 : Int)] 83 (0, 0)), .blk B8 (.cells #[.int .i64 (0 : Int), .slice none 0 0, .slice none 0 0, .slice none 0 0, .slice none 0 0, .slice none 0 0] 33 (0, 0))]) H ⟨(fun _ => (none, 0)), ⟨rfl, rfl, rfl, rfl, rfl, trivial⟩, hO, ap, ar, hB⟩ ?_
  intro X1
  refine prE fun k1_59 => fun d_60 => ?_
  intro H hX1 σ w58
  refine exE fun zy => andE fun hag => andE fun hO => andE fun ap => andE fun ar => fun hB => ?_
  dsimp only at H
  refine Go1.keep [(0, .pointer (some ⟨B21, 0, none⟩)), (3, .pointer (some ⟨B34, 0, none⟩)), (5, .int .i64 (r26.Final.length : Int)), (33, .int .i64 ((List.replicate r26.Letters.toNat ([] : List Int)).length : Int)), (34, .int .i64 (k1_59 : Int))] hag ?_
  refine zq (zr ?_)
  by_cases h62 : (k1_59 : Int) < ((List.replicate r26.Letters.toNat ([] : List Int)).length : Int)
  ·replace H := ifp h62 H
   refine zo (fun w => opB (op_lss rfl rfl w) (decide_eq_true h62)) (zn (zq (zt rfl rfl (zk (zq ?_)))))
   refine zb (zq (zr (zm rfl (za rfl (zn ?_)))))
   refine zq (zr (zm rfl (zm rfl (zn (zb ?_)))))
   refine Go1.loopW (S := Nat × List (List Int)) (fun s σ w => match s with | (k2_64, d_65) => ∃ (pc : Hd), agrees σ [(0, .pointer (some ⟨B21, 0, none⟩)), (3, .pointer (some ⟨B34, 0, none⟩)), (5, .int .i64 (r26.Final.length : Int)), (6, .int .i64 (k1_59 : Int)), (33, .int .i64 ((List.replicate r26.Letters.toNat ([] : List Int)).length : Int)), (34, .int .i64 (k1_59 : Int)), (37, .int .i64 (r26.Final.length : Int)), (38, .int .i64 (k2_64 : Int))] ∧ (fun Z0 => Owns w0.heap.size w Z0 A ∧ ISl (Rp.bool) (bl Z0 ++ A) w dx dy r26.Final ∧ ISl (Rp.sl (Rp.int .i64)) (bl Z0 ++ A) w d6 d7 r26.Next ∧ Fr (bl []) w0 (bl Z0) w) [t2 (Fl.int .i64) 31 3 p45 r26.Letters.toNat r26.Letters.toNat pc d_65, .blk B34 (.cells #[.int .i64 r26.Letters, .int .i64 r26.Start, .slice dx r26.Final.length dy, .slice d6 r26.Next.length d7] 25 (0, 0)), .blk B21 (.cells #[.slice p45 r26.Letters.toNat r26.Letters.toNat, .slice none 0 0, .int .i64 (0 : Int)] 83 (0, 0)), .blk B8 (.cells #[.int .i64 (0 : Int), .slice none 0 0, .slice none 0 0, .slice none 0 0, .slice none 0 0, .slice none 0 0] 33 (0, 0))]) H ⟨zy, ⟨rfl, rfl, rfl, rfl, rfl, rfl, rfl, rfl, trivial⟩, hO, ap, ar, hB⟩ ?_
   intro X2
   refine prE fun k2_64 => fun d_65 => ?_
   intro H hX2 σ w63
   refine exE fun pc => andE fun hag => andE fun hO => andE fun ap => andE fun ar => fun hB => ?_
   dsimp only at H
   refine Go1.keep [(0, .pointer (some ⟨B21, 0, none⟩)), (3, .pointer (some ⟨B34, 0, none⟩)), (5, .int .i64 (r26.Final.length : Int)), (6, .int .i64 (k1_59 : Int)), (33, .int .i64 ((List.replicate r26.Letters.toNat ([] : List Int)).length : Int)), (34, .int .i64 (k1_59 : Int)), (37, .int .i64 (r26.Final.length : Int)), (38, .int .i64 (k2_64 : Int))] hag ?_
   refine zq (zr ?_)
   by_cases h67 : (k2_64 : Int) < (r26.Final.length : Int)
   ·replace H := ifp h67 H
    refine zo (fun w => opB (op_lss rfl rfl w) (decide_eq_true h67)) (zn (zq (zt rfl rfl (zk (zq ?_)))))
    refine zb (zq (zr (zm rfl (za rfl (zn ?_)))))
    refine Go1.drawT (ok := fun _ => True) Same.tr [26, 28] 29 (.qp 0 (.qp 1 (.qp 2 (.qp 4 (.qp 5 (.qp 6 (.qp 7 (.qs 8 (.qp 9 (.qp 10 (.qs 11 (.qp 12 (.qp 13 (.qp 14 (.qs 15 (.qp 16 (.qs 17 (.qp 18 (.qp 19 (.qs 20 (.qp 21 (.qp 22 (.qs 23 (.qp 24 (.alt 3 (.alt 25 (.alt 26 (.qp 27 (.alt 28 .nil .fin)) .fin) .fin) (.alt 25 (.alt 3 (.alt 26 (.qp 27 (.alt 28 .nil .fin)) .fin) (.alt 26 (.alt 3 (.qp 27 (.alt 28 .nil .fin)) .fin) .fin)) .fin)))))))))))))))))))))))))) mixed (by kernel_rfl) ?_
    intro w68 RQ
    have Bw := Stp.same hO RQ
    replace hO := Bw.own
    refine GoT.pure rfl (op_move rfl) rfl rfl ?_
    refine GoT.pure rfl (op_nilCheck rfl) rfl rfl ?_
    refine GoT.pure rfl (op_fieldAddr Try.underlying83 rfl ti23 rfl (by decide)) rfl rfl ?_
    refine GoT.pure rfl (op_move rfl) rfl rfl ?_
    refine GoT.pure rfl (op_move rfl) rfl rfl ?_
    refine GoT.pure rfl (op_nilCheck rfl) rfl rfl ?_
    refine GoT.pure rfl (op_fieldAddr Try.underlying83 rfl ti23 rfl (by decide)) rfl rfl ?_
    refine GoT.stable rfl (oblk (i := 0) 2 hO rfl rfl Try.underlying23 rfl rfl) rfl rfl ?_
    refine GoT.pure rfl (op_move rfl) rfl rfl ?_
    obtain ⟨h71, H⟩ := H
    obtain ⟨h72, H⟩ := H
    refine GoT.pure rfl (op_index Try.underlying23 ti31 rfl rfl h71 (ltn (t2neq 0 hO rfl) h72) (t2some 0 hO rfl h71 h72)) rfl rfl ?_
    refine GoT.stable rfl (t2head 0 hO rfl h71 h72 Try.underlying31 rfl rfl) rfl rfl ?_
    refine GoT.pure rfl (op_move rfl) rfl rfl ?_
    refine GoT.pure rfl (op_nilCheck rfl) rfl rfl ?_
    refine GoT.pure rfl (op_fieldAddr Try.underlying83 rfl ti3 rfl (by decide)) rfl rfl ?_
    refine GoT.stable rfl (oblk (i := 2) 2 hO rfl rfl Try.underlying3 rfl rfl) rfl rfl ?_
    refine GoT.pure rfl (op_fieldAddr Try.underlying25 rfl ti23 rfl (by decide)) rfl rfl ?_
    refine GoT.stable rfl (oblk (i := 3) 1 hO rfl rfl Try.underlying23 rfl rfl) rfl rfl ?_
    refine GoT.pure rfl (op_move rfl) rfl rfl ?_
    obtain ⟨h73, H⟩ := H
    obtain ⟨h74, H⟩ := H
    replace ar := ar.ch Bw.ch
    refine GoT.pure rfl (op_index Try.underlying23 ti31 rfl rfl h73 h74 (ar.some_ h73 h74)) rfl rfl ?_
    have hobt := ldSl ar h73 h74
    obtain ⟨p75, c76, ff, RR⟩ := hobt
    refine GoT.stable rfl (RR Try.underlying31 rfl rfl) rfl rfl ?_
    refine GoT.pure rfl (op_move rfl) rfl rfl ?_
    obtain ⟨h79, H⟩ := H
    obtain ⟨h80, H⟩ := H
    refine GoT.pure rfl (op_index Try.underlying31 ti3 rfl rfl h79 h80 (ff.some_ h79 h80)) rfl rfl ?_
    refine GoT.stable rfl (ldInt ff h79 h80 Try.underlying3 rfl rfl) rfl rfl ?_
    obtain ⟨h81, H⟩ := H
    refine GoT.pure rfl (op_add rfl rfl (wrap_i64 h81)) rfl rfl ?_
    refine GoT.both ?_ ?_
    ·skip
     skip
     refine GoT.step rfl ((oblk (i := 0) 2 hO rfl rfl Try.underlying23 rfl rfl) _ (Same.refl _)) (Same.refl _) rfl rfl ?_
     skip
     have hobt := obuild (r := Rp.int .i64) (n := 1) (parts := [(0, .int .i64 ((0 : Int) + (ix (ix r26.Next (k2_64 : Int)) (k1_59 : Int))))]) (vs := [.int .i64 ((0 : Int) + (ix (ix r26.Next (k2_64 : Int)) (k1_59 : Int)))]) (xs := [((0 : Int) + (ix (ix r26.Next (k2_64 : Int)) (k1_59 : Int)))]) rfl Try.underlying31 ti3 hO (by decide) (by kernel_rfl) (Els.cons rfl rfl (Els.nil _ _ _) (by simp [mx])) rfl
     obtain ⟨w82, p83, rU, yO, RS, DO⟩ := hobt
     refine GoT.step rfl (DO rfl) RS rfl rfl ?_
     replace hO := rU.own
     skip
     have sH := Stp.front 1 hO rfl
     dsimp only [eS, eZ] at sH
     replace hO := sH.own
     have hobt := t2take (hf := (Fl.int .i64)) hO h71 h72
     obtain ⟨RT, yo, RU⟩ := hobt
     replace hO := yo.own
     have Gi := RU (bl [.row 3 1 (pc (k1_59 : Int).toNat).1 ((ix d_65 (k1_59 : Int)).length) ((pc (k1_59 : Int).toNat).2) RT, t2h (Fl.int .i64) 31 3 p45 r26.Letters.toNat r26.Letters.toNat pc d_65 (k1_59 : Int).toNat, .row 3 1 p83 1 1 [.int .i64 ((0 : Int) + (ix (ix r26.Next (k2_64 : Int)) (k1_59 : Int)))], .blk B34 (.cells #[.int .i64 r26.Letters, .int .i64 r26.Start, .slice dx r26.Final.length dy, .slice d6 r26.Next.length d7] 25 (0, 0)), .blk B21 (.cells #[.slice p45 r26.Letters.toNat r26.Letters.toNat, .slice none 0 0, .int .i64 (0 : Int)] 83 (0, 0)), .blk B8 (.cells #[.int .i64 (0 : Int), .slice none 0 0, .slice none 0 0, .slice none 0 0, .slice none 0 0, .slice none 0 0] 33 (0, 0))] ++ A)
     replace yO := (yO.ch sH.ch).ch yo.ch
     have hobt := freeze 2 hO rfl yO
     obtain ⟨hO1, CK, wC, RV⟩ := hobt
     dsimp only [eS, eZ] at hO1 CK wC
     replace hB := ((((hB.trans Bw.fr).trans rU.fr).trans sH.fr).trans yo.fr).trans (Owns.dropFr _ _ 2)
     dsimp only [eS, eZ] at hB
     replace hO := hO1; clear hO1
     obtain ⟨h98, H⟩ := H
     replace Gi := Gi.ch CK
     have hobt := oapp Try.underlying31 ti3 rfl 0 hO rfl Gi wC RV h98 (by decide)
     obtain ⟨w99, RW, RX, Tj, iV, yp, CJ⟩ := hobt
     dsimp only [sS, sZ] at iV yp
     refine GoT.stepX rfl (CJ (by exact rfl) (by exact rfl)) rfl rfl rfl ?_
     replace hO := iV.own
     obtain ⟨qR, H⟩ := H
     obtain ⟨sV, H⟩ := H
     refine GoT.pure rfl (op_index Try.underlying23 ti31 rfl rfl qR (ltn (t2neqH 1 hO rfl) sV) (t2someH 1 hO rfl qR sV)) rfl rfl ?_
     skip
     have uE := Stp.front 1 hO rfl
     dsimp only [eS, eZ] at uE
     replace hO := uE.own
     have uF := Stp.front 1 hO rfl
     dsimp only [eS, eZ] at uF
     replace hO := uF.own
     replace yp := (yp.ch uE.ch).ch uF.ch
     have hobt := t2fix (hf := (Fl.int .i64)) hO yp qR sV rfl
     obtain ⟨W8, wJ, Km⟩ := hobt
     refine GoT.stepX rfl (Km Try.underlying31 rfl ti31 (by exact rfl) (by exact rfl)) rfl rfl rfl ?_
     replace hO := wJ.own
     refine GoT.nil ?_
     refine Go1.inBlock ?_
     refine Go1.cut [(0, .pointer (some ⟨B21, 0, none⟩)), (3, .pointer (some ⟨B34, 0, none⟩)), (5, .int .i64 (r26.Final.length : Int)), (6, .int .i64 (k1_59 : Int)), (33, .int .i64 ((List.replicate r26.Letters.toNat ([] : List Int)).length : Int)), (34, .int .i64 (k1_59 : Int)), (37, .int .i64 (r26.Final.length : Int)), (38, .int .i64 (k2_64 : Int))] ⟨rfl, rfl, rfl, rfl, rfl, rfl, rfl, rfl, trivial⟩ ?_
     intro σ _
     refine zr ?_
     have Z6 := (((((((Bw.ch.trans rU.ch).trans sH.ch).trans yo.ch).trans CK).trans iV.ch).trans uE.ch).trans uF.ch).trans wJ.ch
     replace ap := ap.ch Z6
     refine zo (op_add rfl rfl (wrap_i64 (natbd h67 ap.bd))) (zm rfl (zn ?_))
     replace hB := (((hB.trans iV.fr).trans uE.fr).trans uF.fr).trans wJ.fr
     have Z7 := ((((((rU.ch.trans sH.ch).trans yo.ch).trans CK).trans iV.ch).trans uE.ch).trans uF.ch).trans wJ.ch
     replace ar := ar.ch Z7
     exact hX2 _ H _ _ ⟨hup pc (k1_59 : Int).toNat (RW, RX), ⟨rfl, rfl, rfl, rfl, rfl, rfl, rfl, rfl, trivial⟩, hO, ap, ar, hB⟩
    skip
    have hobt := obuild (r := Rp.int .i64) (n := 1) (parts := [(0, .int .i64 ((0 : Int) + (ix (ix r26.Next (k2_64 : Int)) (k1_59 : Int))))]) (vs := [.int .i64 ((0 : Int) + (ix (ix r26.Next (k2_64 : Int)) (k1_59 : Int)))]) (xs := [((0 : Int) + (ix (ix r26.Next (k2_64 : Int)) (k1_59 : Int)))]) rfl Try.underlying31 ti3 hO (by decide) (by kernel_rfl) (Els.cons rfl rfl (Els.nil _ _ _) (by simp [mx])) rfl
    obtain ⟨W9, Kn, xV, uj, O3, Ko⟩ := hobt
    refine GoT.step rfl (Ko rfl) O3 rfl rfl ?_
    replace hO := xV.own
    refine GoT.both ?_ ?_
    ·skip
     skip
     refine GoT.step rfl ((oblk (i := 0) 3 hO rfl rfl Try.underlying23 rfl rfl) _ (Same.refl _)) (Same.refl _) rfl rfl ?_
     skip
     have en := Stp.front 1 hO rfl
     dsimp only [eS, eZ] at en
     replace hO := en.own
     have hobt := t2take (hf := (Fl.int .i64)) hO h71 h72
     obtain ⟨O4, wK, io⟩ := hobt
     replace hO := wK.own
     have xg := io (bl [.row 3 1 (pc (k1_59 : Int).toNat).1 ((ix d_65 (k1_59 : Int)).length) ((pc (k1_59 : Int).toNat).2) O4, t2h (Fl.int .i64) 31 3 p45 r26.Letters.toNat r26.Letters.toNat pc d_65 (k1_59 : Int).toNat, .row 3 1 Kn 1 1 [.int .i64 ((0 : Int) + (ix (ix r26.Next (k2_64 : Int)) (k1_59 : Int)))], .blk B34 (.cells #[.int .i64 r26.Letters, .int .i64 r26.Start, .slice dx r26.Final.length dy, .slice d6 r26.Next.length d7] 25 (0, 0)), .blk B21 (.cells #[.slice p45 r26.Letters.toNat r26.Letters.toNat, .slice none 0 0, .int .i64 (0 : Int)] 83 (0, 0)), .blk B8 (.cells #[.int .i64 (0 : Int), .slice none 0 0, .slice none 0 0, .slice none 0 0, .slice none 0 0, .slice none 0 0] 33 (0, 0))] ++ A)
     replace uj := (uj.ch en.ch).ch wK.ch
     have hobt := freeze 2 hO rfl uj
     obtain ⟨hO1, Af, uk, O5⟩ := hobt
     dsimp only [eS, eZ] at hO1 Af uk
     replace hB := ((((hB.trans Bw.fr).trans xV.fr).trans en.fr).trans wK.fr).trans (Owns.dropFr _ _ 2)
     dsimp only [eS, eZ] at hB
     replace hO := hO1; clear hO1
     obtain ⟨RY, H⟩ := H
     replace xg := xg.ch Af
     have hobt := oapp Try.underlying31 ti3 rfl 0 hO rfl xg uk O5 RY (by decide)
     obtain ⟨Qz, ip, iB, Tk, vH, yq, Kq⟩ := hobt
     dsimp only [sS, sZ] at vH yq
     refine GoT.stepX rfl (Kq (by exact rfl) (by exact rfl)) rfl rfl rfl ?_
     replace hO := vH.own
     obtain ⟨xE, H⟩ := H
     obtain ⟨yP, H⟩ := H
     refine GoT.pure rfl (op_index Try.underlying23 ti31 rfl rfl xE (ltn (t2neqH 1 hO rfl) yP) (t2someH 1 hO rfl xE yP)) rfl rfl ?_
     skip
     have iA := Stp.front 1 hO rfl
     dsimp only [eS, eZ] at iA
     replace hO := iA.own
     have uG := Stp.front 1 hO rfl
     dsimp only [eS, eZ] at uG
     replace hO := uG.own
     replace yq := (yq.ch iA.ch).ch uG.ch
     have hobt := t2fix (hf := (Fl.int .i64)) hO yq xE yP rfl
     obtain ⟨Ry, wL, Kr⟩ := hobt
     refine GoT.stepX rfl (Kr Try.underlying31 rfl ti31 (by exact rfl) (by exact rfl)) rfl rfl rfl ?_
     replace hO := wL.own
     refine GoT.nil ?_
     refine Go1.inBlock ?_
     refine zr ?_
     have Z8 := (((((((Bw.ch.trans xV.ch).trans en.ch).trans wK.ch).trans Af).trans vH.ch).trans iA.ch).trans uG.ch).trans wL.ch
     replace ap := ap.ch Z8
     refine zo (op_add rfl rfl (wrap_i64 (natbd h67 ap.bd))) (zm rfl (zn ?_))
     replace hB := (((hB.trans vH.fr).trans iA.fr).trans uG.fr).trans wL.fr
     have Z9 := ((((((xV.ch.trans en.ch).trans wK.ch).trans Af).trans vH.ch).trans iA.ch).trans uG.ch).trans wL.ch
     replace ar := ar.ch Z9
     exact hX2 _ H _ _ ⟨hup pc (k1_59 : Int).toNat (ip, iB), ⟨rfl, rfl, rfl, rfl, rfl, rfl, rfl, rfl, trivial⟩, hO, ap, ar, hB⟩
    skip
    have iu := Stp.front 1 hO rfl
    dsimp only [eS, eZ] at iu
    replace hO := iu.own
    have hobt := t2take (hf := (Fl.int .i64)) hO h71 h72
    obtain ⟨Ds, lg, dm⟩ := hobt
    replace hO := lg.own
    have Eu := dm (bl [.row 3 1 (pc (k1_59 : Int).toNat).1 ((ix d_65 (k1_59 : Int)).length) ((pc (k1_59 : Int).toNat).2) Ds, t2h (Fl.int .i64) 31 3 p45 r26.Letters.toNat r26.Letters.toNat pc d_65 (k1_59 : Int).toNat, .row 3 1 Kn 1 1 [.int .i64 ((0 : Int) + (ix (ix r26.Next (k2_64 : Int)) (k1_59 : Int)))], .blk B34 (.cells #[.int .i64 r26.Letters, .int .i64 r26.Start, .slice dx r26.Final.length dy, .slice d6 r26.Next.length d7] 25 (0, 0)), .blk B21 (.cells #[.slice p45 r26.Letters.toNat r26.Letters.toNat, .slice none 0 0, .int .i64 (0 : Int)] 83 (0, 0)), .blk B8 (.cells #[.int .i64 (0 : Int), .slice none 0 0, .slice none 0 0, .slice none 0 0, .slice none 0 0, .slice none 0 0] 33 (0, 0))] ++ A)
    replace uj := (uj.ch iu.ch).ch lg.ch
    have hobt := freeze 2 hO rfl uj
    obtain ⟨hO1, Ag, ul, O6⟩ := hobt
    dsimp only [eS, eZ] at hO1 Ag ul
    replace hB := ((((hB.trans Bw.fr).trans xV.fr).trans iu.fr).trans lg.fr).trans (Owns.dropFr _ _ 2)
    dsimp only [eS, eZ] at hB
    replace hO := hO1; clear hO1
    obtain ⟨xm, H⟩ := H
    replace Eu := Eu.ch Ag
    have hobt := oapp Try.underlying31 ti3 rfl 0 hO rfl Eu ul O6 xm (by decide)
    obtain ⟨Xa, DR, DS, Tl, vI, yr, Ks⟩ := hobt
    dsimp only [sS, sZ] at vI yr
    refine GoT.stepX rfl (Ks (by exact rfl) (by exact rfl)) rfl rfl rfl ?_
    replace hO := vI.own
    skip
    refine GoT.step rfl ((oblk (i := 0) 3 hO rfl rfl Try.underlying23 rfl rfl) _ (Same.refl _)) (Same.refl _) rfl rfl ?_
    obtain ⟨Gj, H⟩ := H
    obtain ⟨BK, H⟩ := H
    refine GoT.pure rfl (op_index Try.underlying23 ti31 rfl rfl Gj (ltn (t2neqH 1 hO rfl) BK) (t2someH 1 hO rfl Gj BK)) rfl rfl ?_
    skip
    have iW := Stp.front 1 hO rfl
    dsimp only [eS, eZ] at iW
    replace hO := iW.own
    have uH := Stp.front 1 hO rfl
    dsimp only [eS, eZ] at uH
    replace hO := uH.own
    replace yr := (yr.ch iW.ch).ch uH.ch
    have hobt := t2fix (hf := (Fl.int .i64)) hO yr Gj BK rfl
    obtain ⟨QQ, wM, B9⟩ := hobt
    refine GoT.stepX rfl (B9 Try.underlying31 rfl ti31 (by exact rfl) (by exact rfl)) rfl rfl rfl ?_
    replace hO := wM.own
    refine GoT.nil ?_
    refine Go1.inBlock ?_
    refine zr ?_
    have Z10 := (((((((Bw.ch.trans xV.ch).trans iu.ch).trans lg.ch).trans Ag).trans vI.ch).trans iW.ch).trans uH.ch).trans wM.ch
    replace ap := ap.ch Z10
    refine zo (op_add rfl rfl (wrap_i64 (natbd h67 ap.bd))) (zm rfl (zn ?_))
    replace hB := (((hB.trans vI.fr).trans iW.fr).trans uH.fr).trans wM.fr
    have Z11 := ((((((xV.ch.trans iu.ch).trans lg.ch).trans Ag).trans vI.ch).trans iW.ch).trans uH.ch).trans wM.ch
    replace ar := ar.ch Z11
    exact hX2 _ H _ _ ⟨hup pc (k1_59 : Int).toNat (DR, DS), ⟨rfl, rfl, rfl, rfl, rfl, rfl, rfl, rfl, trivial⟩, hO, ap, ar, hB⟩
   replace H := ifn h67 H
   refine zo (fun w => opB (op_lss rfl rfl w) (decide_eq_false h67)) (zn (zq (zf rfl rfl ?_)))
   refine Go1.exit rfl ?_
   refine Go1.inBlock ?_
   refine zr ?_
   obtain ⟨Cu, H⟩ := H
   refine zo (op_add rfl rfl (wrap_i64 Cu)) (zm rfl (zn ?_))
   exact hX1 _ H _ _ ⟨pc, ⟨rfl, rfl, rfl, rfl, rfl, trivial⟩, hO, ap, ar, hB⟩
  replace H := ifn h62 H
  refine zo (fun w => opB (op_lss rfl rfl w) (decide_eq_false h62)) (zn (zq (zf rfl rfl ?_)))
  refine Go1.exit rfl ?_
  refine zq ?_
  refine Go1.drawS 4 [(0, .pure), (1, .pure), (2, .pure), (3, .pure), (4, .stable), (5, .pure), (6, .pure), (7, .pure), (8, .stable), (9, .pure), (10, .stable), (11, .pure), (12, .pure), (13, .stable), (14, .pure), (15, .pure), (16, .pure), (17, .stable), (18, .pure), (19, .loud), (20, .last), (21, .pure), (22, .pure), (23, .last)] mixed (by kernel_rfl) ?_
  intro QB O7
  have Ah := Stp.same hO O7
  replace hO := Ah.own
  refine GoQ.pure rfl (op_move rfl) rfl rfl ?_
  refine GoQ.pure rfl (op_move rfl) rfl rfl ?_
  refine GoQ.pure rfl (op_nilCheck rfl) rfl rfl ?_
  refine GoQ.pure rfl (op_fieldAddr Try.underlying83 rfl ti81 rfl (by decide)) rfl rfl ?_
  refine GoQ.stable rfl (oblk (i := 1) 2 hO rfl rfl Try.underlying81 rfl rfl) rfl rfl ?_
  refine GoQ.pure rfl (op_move rfl) rfl rfl ?_
  refine GoQ.pure rfl (op_nilCheck rfl) rfl rfl ?_
  refine GoQ.pure rfl (op_fieldAddr Try.underlying83 rfl ti3 rfl (by decide)) rfl rfl ?_
  refine GoQ.stable rfl (oblk (i := 2) 2 hO rfl rfl Try.underlying3 rfl rfl) rfl rfl ?_
  refine GoQ.pure rfl (op_fieldAddr Try.underlying25 rfl ti3 rfl (by decide)) rfl rfl ?_
  refine GoQ.stable rfl (oblk (i := 1) 1 hO rfl rfl Try.underlying3 rfl rfl) rfl rfl ?_
  obtain ⟨AE, H⟩ := H
  refine GoQ.pure rfl (op_add rfl rfl (wrap_i64 AE)) rfl rfl ?_
  refine GoQ.pure rfl (op_fieldAddr Try.underlying25 rfl ti22 rfl (by decide)) rfl rfl ?_
  refine GoQ.stable rfl (oblk (i := 2) 1 hO rfl rfl Try.underlying22 rfl rfl) rfl rfl ?_
  refine GoQ.pure rfl (op_move rfl) rfl rfl ?_
  refine GoQ.pure rfl (op_nilCheck rfl) rfl rfl ?_
  refine GoQ.pure rfl (op_fieldAddr Try.underlying83 rfl ti3 rfl (by decide)) rfl rfl ?_
  refine GoQ.stable rfl (oblk (i := 2) 2 hO rfl rfl Try.underlying3 rfl rfl) rfl rfl ?_
  refine GoQ.pure rfl (op_build Try.underlying120 ti120 (pl := [(0, 1), (1, 1), (2, 1)]) (vs := [(0, .int .i64 ((0 : Int) + r26.Start)), (1, .slice dx r26.Final.length dy), (2, .int .i64 (0 : Int))]) (cs := #[.int .i64 ((0 : Int) + r26.Start), .slice dx r26.Final.length dy, .int .i64 (0 : Int)]) (by kernel_rfl) rfl (by kernel_rfl)) rfl rfl ?_
  replace ap := ap.ch Ah.ch
  have hobt := obuildN (r := rppart) (n := 1) (parts := [(0, .agg #[.int .i64 ((0 : Int) + r26.Start), .slice dx r26.Final.length dy, .int .i64 (0 : Int)])]) (vs := [.int .i64 ((0 : Int) + r26.Start), .slice dx r26.Final.length dy, .int .i64 (0 : Int)]) (xs := [(⟨((0 : Int) + r26.Start), r26.Final, (0 : Int)⟩ : part)]) Try.underlying81 ti120 hO (by decide) (by decide) (by kernel_rfl) (Els.consR (us := [.int .i64 ((0 : Int) + r26.Start), .slice dx r26.Final.length dy, .int .i64 (0 : Int)]) rfl ⟨rfl, ⟨dx, dy, rfl, ap⟩, rfl⟩ (Els.nil _ _ _) (by simp [mx])) rfl
  obtain ⟨JH, Xb, eC, tw, Hr, Ca⟩ := hobt
  refine GoQ.loud rfl (Ca rfl) Hr rfl rfl ?_
  replace hO := eC.own
  have hobt := freeze 0 hO rfl tw
  obtain ⟨hO1, Ew, dq, O8⟩ := hobt
  dsimp only [eS, eZ] at hO1 Ew dq
  replace hB := ((hB.trans Ah.fr).trans eC.fr).trans (Owns.dropFr _ _ 0)
  dsimp only [eS, eZ] at hB
  replace hO := hO1; clear hO1
  have lV := Stp.nil (e := 120) (r := 3) hO
  replace hO := lV.own
  have O9 := Els.nil (rppart) (bl (.row 120 3 none 0 0 [] :: [t2 (Fl.int .i64) 31 3 p45 r26.Letters.toNat r26.Letters.toNat zy d_60, .blk B34 (.cells #[.int .i64 r26.Letters, .int .i64 r26.Start, .slice dx r26.Final.length dy, .slice d6 r26.Next.length d7] 25 (0, 0)), .blk B21 (.cells #[.slice p45 r26.Letters.toNat r26.Letters.toNat, .slice none 0 0, .int .i64 (0 : Int)] 83 (0, 0)), .blk B8 (.cells #[.int .i64 (0 : Int), .slice none 0 0, .slice none 0 0, .slice none 0 0, .slice none 0 0, .slice none 0 0] 33 (0, 0))]) ++ A) JH
  obtain ⟨R0, H⟩ := H
  replace dq := dq.ch lV.ch
  have hobt := oapp Try.underlying81 ti120 rfl 0 hO rfl O9 dq O8 R0 (by decide)
  obtain ⟨Xc, bO, bP, cx, wN, aA, Kt⟩ := hobt
  dsimp only [sS, sZ] at wN aA
  refine GoQ.last rfl (Kt (by exact rfl) (by exact rfl)) rfl rfl ?_
  replace hO := wN.own
  refine GoQ.pure rfl (op_nilCheck rfl) rfl rfl ?_
  refine GoQ.pure rfl (op_fieldAddr Try.underlying83 rfl ti81 rfl (by decide)) rfl rfl ?_
  have hobt := oblkSt2 (v := .slice bO (0 + 1) bP) (i := 1) (cs' := #[.slice p45 r26.Letters.toNat r26.Letters.toNat, .slice bO (0 + 1) bP, .int .i64 (0 : Int)]) 3 hO rfl rfl rfl rfl
  obtain ⟨P4, vJ, Ku⟩ := hobt
  dsimp only [sS, sZ] at vJ
  refine GoQ.last rfl (Ku Try.underlying81 rfl ti81 (by exact rfl) (by exact rfl)) rfl rfl ?_
  replace hO := vJ.own
  refine GoQ.nil ?_
  refine zq ?_
  refine Go1.cut [(0, .pointer (some ⟨B21, 0, none⟩)), (5, .int .i64 (r26.Final.length : Int))] ⟨rfl, rfl, trivial⟩ ?_
  intro σ _
  refine zr (zm rfl (zo (op_nilCheck rfl) (zo (op_fieldAddr Try.underlying83 rfl ti3 rfl (by decide)) (zs (oblk (i := 2) 3 hO rfl rfl Try.underlying3 rfl rfl) (zm rfl ?_)))))
  obtain ⟨Cd, H⟩ := H
  refine zo (op_add rfl rfl (wrap_i64 Cd)) (zo (op_nilCheck rfl) (zo (op_fieldAddr Try.underlying83 rfl ti3 rfl (by decide)) ?_))
  have hobt := oblkSt2 (v := .int .i64 ((0 : Int) + (r26.Final.length : Int))) (i := 2) (cs' := #[.slice p45 r26.Letters.toNat r26.Letters.toNat, .slice bO (0 + 1) bP, .int .i64 ((0 : Int) + (r26.Final.length : Int))]) 3 hO rfl rfl rfl rfl
  obtain ⟨QR, vK, BN⟩ := hobt
  dsimp only [sS, sZ] at vK
  refine zg (BN Try.underlying3 rfl ti3 (by exact rfl) (by exact rfl)) ?_
  replace hO := vK.own
  refine zn (zq (zr (za rfl (zn ?_))))
  refine Go1.ret1V Try.func62 rfl (show _ = .int .i64 (0 : Int) from rfl) ?_
  refine hR32 _ _ ?_
  refine za rfl (zn (zq (zr (zm rfl (zo (fun w => opB (op_neq rfl rfl w) (ndT (by decide))) ?_)))))
  refine zn (zf rfl rfl (zk (zq (zr ?_))))
  refine GoR.inl (vs := [.pointer (some ⟨B21, 0, none⟩)]) (caps := []) rfl rfl body63 Try.func63 rfl Try.ntmps63 rfl rfl rfl ?_
  intro RhR205 hR205
  refine zq (zr ?_)
  have hobt := oalloc (t := 33) (cs := #[.int .i64 (0 : Int), .slice none 0 0, .slice none 0 0, .slice none 0 0, .slice none 0 0, .slice none 0 0]) ti33 hO rfl
  obtain ⟨Rz, B207, gP, Tm, Cv⟩ := hobt
  refine GoR.op Cv rfl rfl ?_
  replace hO := gP.own
  refine za rfl (za rfl (zn (zq (zr (zm rfl ?_)))))
  refine zo (op_nilCheck rfl) (zo (op_fieldAddr Try.underlying83 rfl ti23 rfl (by decide)) (zs (oblk (i := 0) 4 hO rfl rfl Try.underlying23 rfl rfl) ?_))
  have hobt := t2freezeA 2 hO rfl
  obtain ⟨hO1, Ai, aW, HF⟩ := hobt
  dsimp only [eS, eZ] at hO1 Ai aW
  replace hB := (((((hB.trans lV.fr).trans wN.fr).trans vJ.fr).trans vK.fr).trans gP.fr).trans (Owns.dropFr _ _ 2)
  dsimp only [eS, eZ] at hB
  replace hO := hO1; clear hO1
  refine GoR.call (op_call body101 (show ([.slice p45 r26.Letters.toNat r26.Letters.toNat, .bool true] : List Value) = [.slice p45 d_60.length r26.Letters.toNat, .bool true] from by rw [← HF]) (walk_enumerate_Build hO.lt aW H)) rfl rfl ?_
  rintro Xd Xe ⟨r215, r216, aM, aN, aB, aC, ay, az, aO, aP, aw, ax, aG, aH, rfl, Pa, am, ag, aa, aj, af, ai, H⟩
  have vL := Stp.same hO Pa
  replace hO := vL.own
  refine zm rfl (zo (op_extract rfl rfl) (zo (op_extract rfl rfl) ?_))
  have hobt := oalloc (t := 123) (cs := #[.int .i64 (0 : Int), .bool false, .slice none 0 0, .slice none 0 0, .slice none 0 0, .slice none 0 0, .slice none 0 0, .slice none 0 0, .int .i64 (0 : Int)]) ti123 hO rfl
  obtain ⟨P6, B223, oQ, Tn, Kv⟩ := hobt
  refine GoR.op Kv rfl rfl ?_
  replace hO := oQ.own
  have hobt := oblkStAgg (us := [.int .i64 r215.Points, .bool r215.Monoid, .slice aM r215.Gens.length aN, .slice aB r215.Elems.length aC, .slice ay r215.Prefix.length az, .slice aO r215.Last.length aP, .slice aw r215.Right.length ax, .slice aG r215.Rules.length aH, .int .i64 r215.Done]) (o := 0) (cs' := #[.int .i64 r215.Points, .bool r215.Monoid, .slice aM r215.Gens.length aN, .slice aB r215.Elems.length aC, .slice ay r215.Prefix.length az, .slice aO r215.Last.length aP, .slice aw r215.Right.length ax, .slice aG r215.Rules.length aH, .int .i64 r215.Done]) 0 hO rfl rfl (Nat.le_of_ble_eq_true rfl) rfl
  obtain ⟨Xf, m6, Kw⟩ := hobt
  dsimp only [sS, sZ] at m6
  refine zg (Kw ti123 (by exact rfl) (by exact rfl) rfl) ?_
  replace hO := m6.own
  refine za rfl (zn (zq (zq ?_)))
  refine Go1.cut [(0, .pointer (some ⟨B21, 0, none⟩)), (2, .pointer (some ⟨B207, 0, none⟩)), (5, .pointer (some ⟨B223, 0, none⟩)), (6, .int .i64 r216)] ⟨rfl, rfl, rfl, rfl, trivial⟩ ?_
  intro σ _
  refine zr (zm rfl ?_)
  by_cases xo : r216 = (0 : Int)
  ·replace H := ifp xo H
   refine zo (fun w => opB (op_neq rfl rfl w) (ndT xo)) (zn (zf rfl rfl (zk (zq (zr ?_)))))
   refine zo (op_fieldAddr Try.underlying123 rfl ti23 rfl (by decide)) (zs (oblk (i := 3) 0 hO rfl rfl Try.underlying23 rfl rfl) (zo (op_len Try.underlying23 rfl) ?_))
   replace ag := (ag.ch oQ.ch).ch m6.ch
   replace H := H ag.bd
   refine za rfl (zn (zq (zq (zr (zm rfl ?_)))))
   by_cases xp : (400 : Int) < (r215.Elems.length : Int)
   ·replace H := ifp xp H
    refine zo (fun w => opB (op_gtr rfl rfl w) (decide_eq_true xp)) (zn (zt rfl rfl (zq (zr (zo (op_build Try.underlying33 ti33 (pl := [(0, 1), (1, 1), (2, 1), (3, 1), (4, 1), (5, 1)]) (vs := []) (cs := #[.int .i64 (0 : Int), .slice none 0 0, .slice none 0 0, .slice none 0 0, .slice none 0 0, .slice none 0 0]) (by kernel_rfl) rfl (by kernel_rfl)) ?_)))))
    have hobt := oblkStAgg (us := [.int .i64 (0 : Int), .slice none 0 0, .slice none 0 0, .slice none 0 0, .slice none 0 0, .slice none 0 0]) (o := 0) (cs' := #[.int .i64 (0 : Int), .slice none 0 0, .slice none 0 0, .slice none 0 0, .slice none 0 0, .slice none 0 0]) 1 hO rfl rfl (Nat.le_of_ble_eq_true rfl) rfl
    obtain ⟨QT, m7, Kx⟩ := hobt
    dsimp only [sS, sZ] at m7
    refine zg (Kx ti33 (by exact rfl) (by exact rfl) rfl) ?_
    replace hO := m7.own
    refine za rfl (za rfl (zn ?_))
    refine Go1.retC3V Try.func63 rfl rfl (run_loadBlk (vs := [.int .i64 (0 : Int), .slice none 0 0, .slice none 0 0, .slice none 0 0, .slice none 0 0, .slice none 0 0]) 1 hO rfl rfl Try.underlying33 rfl ti33) (show _ = .slice none 0 0 from rfl) (show _ = .int .i64 (3 : Int) from rfl) ?_
    refine hR205 _ _ ?_
    refine zm rfl (zo (op_extract rfl rfl) (zo (op_extract rfl rfl) (zo (op_extract rfl rfl) ?_)))
    have hobt := oalloc (t := 33) (cs := #[.int .i64 (0 : Int), .slice none 0 0, .slice none 0 0, .slice none 0 0, .slice none 0 0, .slice none 0 0]) ti33 hO rfl
    obtain ⟨P7, B237, iq, To, Ky⟩ := hobt
    refine GoR.op Ky rfl rfl ?_
    replace hO := iq.own
    have hobt := oblkStAgg (us := [.int .i64 (0 : Int), .slice none 0 0, .slice none 0 0, .slice none 0 0, .slice none 0 0, .slice none 0 0]) (o := 0) (cs' := #[.int .i64 (0 : Int), .slice none 0 0, .slice none 0 0, .slice none 0 0, .slice none 0 0, .slice none 0 0]) 0 hO rfl rfl (Nat.le_of_ble_eq_true rfl) rfl
    obtain ⟨Xg, m8, Kz⟩ := hobt
    dsimp only [sS, sZ] at m8
    refine zg (Kz ti33 (by exact rfl) (by exact rfl) rfl) ?_
    replace hO := m8.own
    refine za rfl (za rfl (zn (zq (zq ?_))))
    refine Go1.cut [(2, .pointer (some ⟨B8, 0, none⟩)), (7, .pointer (some ⟨B237, 0, none⟩)), (8, .slice none 0 0), (9, .int .i64 (3 : Int))] ⟨rfl, rfl, rfl, rfl, trivial⟩ ?_
    intro σ _
    refine zr (zm rfl (zo (fun w => opB (op_neq rfl rfl w) (ndF (by decide))) (zn (zt rfl rfl (zq ?_)))))
    refine zr (zo (op_build Try.underlying33 ti33 (pl := [(0, 1), (1, 1), (2, 1), (3, 1), (4, 1), (5, 1)]) (vs := []) (cs := #[.int .i64 (0 : Int), .slice none 0 0, .slice none 0 0, .slice none 0 0, .slice none 0 0, .slice none 0 0]) (by kernel_rfl) rfl (by kernel_rfl)) (zm rfl ?_))
    have hobt := oblkStAgg (us := [.int .i64 (0 : Int), .slice none 0 0, .slice none 0 0, .slice none 0 0, .slice none 0 0, .slice none 0 0]) (o := 0) (cs' := #[.int .i64 (0 : Int), .slice none 0 0, .slice none 0 0, .slice none 0 0, .slice none 0 0, .slice none 0 0]) 6 hO rfl rfl (Nat.le_of_ble_eq_true rfl) rfl
    obtain ⟨QV, fX, Ck⟩ := hobt
    dsimp only [sS, sZ] at fX
    refine zg (Ck ti33 (by exact rfl) (by exact rfl) rfl) ?_
    replace hO := fX.own
    refine za rfl (zn ?_)
    refine Go1.retC2 Try.func19 rfl rfl (run_loadBlk (vs := [.int .i64 (0 : Int), .slice none 0 0, .slice none 0 0, .slice none 0 0, .slice none 0 0, .slice none 0 0]) 6 hO rfl rfl Try.underlying33 rfl ti33) ?_
    replace hB := ((((((hB.trans vL.fr).trans oQ.fr).trans m6.fr).trans m7.fr).trans iq.fr).trans m8.fr).trans fX.fr
    exact ⟨(⟨(0 : Int), ([] : List (List Int)), ([] : List Str), ([] : List Int), ([] : List Bool), ([] : List Bool)⟩ : Syntactic), (3 : Int), none, 0, none, 0, none, 0, none, 0, none, 0, rfl, hB.same, (ISl.null _ _ _), (ISl.null _ _ _), (ISl.null _ _ _), (ISl.null _ _ _), (ISl.null _ _ _), H⟩
   replace H := ifn xp H
   refine zo (fun w => opB (op_gtr rfl rfl w) (decide_eq_false xp)) (zn (zf rfl rfl (zk (zq ?_))))
   refine Go1.drawA Same.tr A 1 [(0, .pure), (1, .pure), (2, .pure), (3, .stable), (4, .pure), (5, .pure), (7, .pure), (9, .pure), (10, .stable), (11, .pure), (12, .stable), (14, .pure), (13, .loud), (6, .alloc), (8, .alloc), (15, .alloc), (16, .pure), (17, .alloc), (18, .last)] mixed (by kernel_rfl) trivial hO.bd ?_
   intro Xh Pb
   have oR := Stp.same hO Pb
   replace hO := oR.own
   have Bx := hO.le
   replace hB := (((hB.trans vL.fr).trans oQ.fr).trans m6.fr).trans oR.fr
   have hw251 := hB.ch.size
   refine GoQA.pure rfl (op_move rfl) rfl rfl ?_
   refine GoQA.pure rfl (op_nilCheck rfl) rfl rfl ?_
   refine GoQA.pure rfl (op_fieldAddr Try.underlying83 rfl ti23 rfl (by decide)) rfl rfl ?_
   refine GoQA.stable rfl (oblk (i := 0) 4 hO rfl rfl Try.underlying23 rfl rfl) rfl rfl ?_
   refine GoQA.pure rfl (op_lenN Try.underlying23 rfl HF) rfl rfl ?_
   have Z12 := ((vL.ch.trans oQ.ch).trans m6.ch).trans oR.ch
   replace aW := aW.ch Z12
   replace H := H aW.bd
   refine GoQA.pure rfl (op_move rfl) rfl rfl ?_
   refine GoQA.pure rfl (op_move rfl) rfl rfl ?_
   refine GoQA.pure rfl (op_fieldAddr Try.underlying123 rfl ti23 rfl (by decide)) rfl rfl ?_
   refine GoQA.stable rfl (oblk (i := 6) 0 hO rfl rfl Try.underlying23 rfl rfl) rfl rfl ?_
   obtain ⟨Gk, H⟩ := H
   obtain ⟨Gl, H⟩ := H
   have Z13 := (oQ.ch.trans m6.ch).trans oR.ch
   replace af := af.ch Z13
   refine GoQA.pure rfl (op_index Try.underlying23 ti31 rfl rfl Gk Gl (af.some_ Gk Gl)) rfl rfl ?_
   have hobt := ldSl af Gk Gl
   obtain ⟨Xi, Xj, gq, Pc⟩ := hobt
   refine GoQA.stable rfl (Pc Try.underlying31 rfl rfl) rfl rfl ?_
   refine GoQA.pure rfl (op_move rfl) rfl rfl ?_
   refine GoQA.loudI rfl rfl ?_
   intro Xk A260 rD
   replace hO := rD.own hO
   replace gq := gq.ch (rD.ch _)
   refine GoAt.call (op_call body86 rfl (walk_slices_Clone_int hO.lt gq H)) (fun v w hr => ⟨fun _ => (by obtain ⟨_, _, _, _, _, _, hs, _, _, _⟩ := hr; exact hs), Same.kp hO (by obtain ⟨_, _, _, _, _, _, hs, _, _, _⟩ := hr; exact hs)⟩) rfl ?_
   rintro Xl Xm ⟨r262, aK, aI, aJ, bx, rfl, Pd, hN266, aT, H⟩
   have gE := Stp.more hO Pd hN266
   dsimp only [List.cons_append, List.nil_append] at gE
   replace hO := gE.own
   obtain ⟨R2, H⟩ := H
   obtain ⟨R3, H⟩ := H
   refine GoQA.alloc rfl rfl (alMake2 (e' := 3) (Fl.int .i64) Try.underlying23 ti31 R2 R3 (by decide) rfl rfl) ?_
   intro JO A272 bg A274 pX HG hd277 hnb278 hh279
   replace hO := pX.own hO
   have iD := gainCh (w := JO) (E := [.row 3 1 aI aK aJ bx, .blk B223 (.cells #[.int .i64 r215.Points, .bool r215.Monoid, .slice aM r215.Gens.length aN, .slice aB r215.Elems.length aC, .slice ay r215.Prefix.length az, .slice aO r215.Last.length aP, .slice aw r215.Right.length ax, .slice aG r215.Rules.length aH, .int .i64 r215.Done] 123 (0, 0)), .blk B207 (.cells #[.int .i64 (0 : Int), .slice none 0 0, .slice none 0 0, .slice none 0 0, .slice none 0 0, .slice none 0 0] 33 (0, 0)), .row 120 3 bO (0 + 1) bP cx, .blk B34 (.cells #[.int .i64 r26.Letters, .int .i64 r26.Start, .slice dx r26.Final.length dy, .slice d6 r26.Next.length d7] 25 (0, 0)), .blk B21 (.cells #[.slice p45 r26.Letters.toNat r26.Letters.toNat, .slice bO (0 + 1) bP, .int .i64 ((0 : Int) + (r26.Final.length : Int))] 83 (0, 0)), .blk B8 (.cells #[.int .i64 (0 : Int), .slice none 0 0, .slice none 0 0, .slice none 0 0, .slice none 0 0, .slice none 0 0] 33 (0, 0))]) (e := t2 (Fl.int .i64) 31 3 (some ⟨bg, 0, none⟩) r215.Elems.length r215.Elems.length ((fun _ => (none, 0))) (List.replicate r215.Elems.length ([] : List Int))) HG (t2fp_new bg)
   replace hB := ((hB.trans (rD.same.fr _)).trans gE.fr).trans (pX.same.fr _)
   replace hB := Fr.gain (e := t2 (Fl.int .i64) 31 3 (some ⟨bg, 0, none⟩) r215.Elems.length r215.Elems.length ((fun _ => (none, 0))) (List.replicate r215.Elems.length ([] : List Int))) hB (Nat.le_trans hw251 hnb278) (t2fp_new bg)
   replace hO := Owns.gain hO HG Bx (t2fp_new bg) hh279 hd277
   obtain ⟨R4, H⟩ := H
   obtain ⟨R5, H⟩ := H
   have hobt := alMakeE (n := (r215.Elems.length : Int)) (r := Rp.str) (d := ([] : Str)) Try.underlying30 ti9 (fun _ _ => ⟨rfl, Nat.zero_le _⟩) rfl R4 R5 (by decide)
   obtain ⟨yt, hal297, DX⟩ := hobt
   refine GoQA.alloc rfl rfl (hal297 rfl rfl) ?_
   intro FB A285 bi A287 pY HH hd290 hnb291 hh292
   replace hO := pY.own hO
   have jW := DX (bl [t2 (Fl.int .i64) 31 3 (some ⟨bg, 0, none⟩) r215.Elems.length r215.Elems.length ((fun _ => (none, 0))) (List.replicate r215.Elems.length ([] : List Int)), .row 3 1 aI aK aJ bx, .blk B223 (.cells #[.int .i64 r215.Points, .bool r215.Monoid, .slice aM r215.Gens.length aN, .slice aB r215.Elems.length aC, .slice ay r215.Prefix.length az, .slice aO r215.Last.length aP, .slice aw r215.Right.length ax, .slice aG r215.Rules.length aH, .int .i64 r215.Done] 123 (0, 0)), .blk B207 (.cells #[.int .i64 (0 : Int), .slice none 0 0, .slice none 0 0, .slice none 0 0, .slice none 0 0, .slice none 0 0] 33 (0, 0)), .row 120 3 bO (0 + 1) bP cx, .blk B34 (.cells #[.int .i64 r26.Letters, .int .i64 r26.Start, .slice dx r26.Final.length dy, .slice d6 r26.Next.length d7] 25 (0, 0)), .blk B21 (.cells #[.slice p45 r26.Letters.toNat r26.Letters.toNat, .slice bO (0 + 1) bP, .int .i64 ((0 : Int) + (r26.Final.length : Int))] 83 (0, 0)), .blk B8 (.cells #[.int .i64 (0 : Int), .slice none 0 0, .slice none 0 0, .slice none 0 0, .slice none 0 0, .slice none 0 0] 33 (0, 0))] ++ A285) FB
   have rE := gainCh (w := FB) (E := [t2 (Fl.int .i64) 31 3 (some ⟨bg, 0, none⟩) r215.Elems.length r215.Elems.length ((fun _ => (none, 0))) (List.replicate r215.Elems.length ([] : List Int)), .row 3 1 aI aK aJ bx, .blk B223 (.cells #[.int .i64 r215.Points, .bool r215.Monoid, .slice aM r215.Gens.length aN, .slice aB r215.Elems.length aC, .slice ay r215.Prefix.length az, .slice aO r215.Last.length aP, .slice aw r215.Right.length ax, .slice aG r215.Rules.length aH, .int .i64 r215.Done] 123 (0, 0)), .blk B207 (.cells #[.int .i64 (0 : Int), .slice none 0 0, .slice none 0 0, .slice none 0 0, .slice none 0 0, .slice none 0 0] 33 (0, 0)), .row 120 3 bO (0 + 1) bP cx, .blk B34 (.cells #[.int .i64 r26.Letters, .int .i64 r26.Start, .slice dx r26.Final.length dy, .slice d6 r26.Next.length d7] 25 (0, 0)), .blk B21 (.cells #[.slice p45 r26.Letters.toNat r26.Letters.toNat, .slice bO (0 + 1) bP, .int .i64 ((0 : Int) + (r26.Final.length : Int))] 83 (0, 0)), .blk B8 (.cells #[.int .i64 (0 : Int), .slice none 0 0, .slice none 0 0, .slice none 0 0, .slice none 0 0, .slice none 0 0] 33 (0, 0))]) (e := .row 9 1 (some ⟨bi, 0, none⟩) r215.Elems.length r215.Elems.length yt) HH rfl
   replace hB := hB.trans (pY.same.fr _)
   replace hB := Fr.gain (e := .row 9 1 (some ⟨bi, 0, none⟩) r215.Elems.length r215.Elems.length yt) hB (Nat.le_trans hw251 hnb291) rfl
   replace hO := Owns.gain hO HH Bx rfl hh292 hd290
   obtain ⟨R6, H⟩ := H
   obtain ⟨E0, H⟩ := H
   have hobt := alMakeE (n := (r215.Elems.length : Int)) (r := Rp.bool) (d := false) Try.underlying22 ti4 (fun _ _ => rfl) rfl R6 E0 (by decide)
   obtain ⟨By, hal314, Pe⟩ := hobt
   refine GoQA.alloc rfl rfl (hal314 rfl rfl) ?_
   intro EY A302 bm A304 oh HI hd307 hnb308 hh309
   replace hO := oh.own hO
   have eP := Pe (bl [.row 9 1 (some ⟨bi, 0, none⟩) r215.Elems.length r215.Elems.length yt, t2 (Fl.int .i64) 31 3 (some ⟨bg, 0, none⟩) r215.Elems.length r215.Elems.length ((fun _ => (none, 0))) (List.replicate r215.Elems.length ([] : List Int)), .row 3 1 aI aK aJ bx, .blk B223 (.cells #[.int .i64 r215.Points, .bool r215.Monoid, .slice aM r215.Gens.length aN, .slice aB r215.Elems.length aC, .slice ay r215.Prefix.length az, .slice aO r215.Last.length aP, .slice aw r215.Right.length ax, .slice aG r215.Rules.length aH, .int .i64 r215.Done] 123 (0, 0)), .blk B207 (.cells #[.int .i64 (0 : Int), .slice none 0 0, .slice none 0 0, .slice none 0 0, .slice none 0 0, .slice none 0 0] 33 (0, 0)), .row 120 3 bO (0 + 1) bP cx, .blk B34 (.cells #[.int .i64 r26.Letters, .int .i64 r26.Start, .slice dx r26.Final.length dy, .slice d6 r26.Next.length d7] 25 (0, 0)), .blk B21 (.cells #[.slice p45 r26.Letters.toNat r26.Letters.toNat, .slice bO (0 + 1) bP, .int .i64 ((0 : Int) + (r26.Final.length : Int))] 83 (0, 0)), .blk B8 (.cells #[.int .i64 (0 : Int), .slice none 0 0, .slice none 0 0, .slice none 0 0, .slice none 0 0, .slice none 0 0] 33 (0, 0))] ++ A302) EY
   have p6 := gainCh (w := EY) (E := [.row 9 1 (some ⟨bi, 0, none⟩) r215.Elems.length r215.Elems.length yt, t2 (Fl.int .i64) 31 3 (some ⟨bg, 0, none⟩) r215.Elems.length r215.Elems.length ((fun _ => (none, 0))) (List.replicate r215.Elems.length ([] : List Int)), .row 3 1 aI aK aJ bx, .blk B223 (.cells #[.int .i64 r215.Points, .bool r215.Monoid, .slice aM r215.Gens.length aN, .slice aB r215.Elems.length aC, .slice ay r215.Prefix.length az, .slice aO r215.Last.length aP, .slice aw r215.Right.length ax, .slice aG r215.Rules.length aH, .int .i64 r215.Done] 123 (0, 0)), .blk B207 (.cells #[.int .i64 (0 : Int), .slice none 0 0, .slice none 0 0, .slice none 0 0, .slice none 0 0, .slice none 0 0] 33 (0, 0)), .row 120 3 bO (0 + 1) bP cx, .blk B34 (.cells #[.int .i64 r26.Letters, .int .i64 r26.Start, .slice dx r26.Final.length dy, .slice d6 r26.Next.length d7] 25 (0, 0)), .blk B21 (.cells #[.slice p45 r26.Letters.toNat r26.Letters.toNat, .slice bO (0 + 1) bP, .int .i64 ((0 : Int) + (r26.Final.length : Int))] 83 (0, 0)), .blk B8 (.cells #[.int .i64 (0 : Int), .slice none 0 0, .slice none 0 0, .slice none 0 0, .slice none 0 0, .slice none 0 0] 33 (0, 0))]) (e := .row 4 1 (some ⟨bm, 0, none⟩) r215.Elems.length r215.Elems.length By) HI rfl
   replace hB := hB.trans (oh.same.fr _)
   replace hB := Fr.gain (e := .row 4 1 (some ⟨bm, 0, none⟩) r215.Elems.length r215.Elems.length By) hB (Nat.le_trans hw251 hnb308) rfl
   replace hO := Owns.gain hO HI Bx rfl hh309 hd307
   refine GoQA.pure rfl (op_build Try.underlying33 ti33 (pl := [(0, 1), (1, 1), (2, 1), (3, 1), (4, 1), (5, 1)]) (vs := [(0, .int .i64 (d_60.length : Int)), (1, .slice (some ⟨bg, 0, none⟩) r215.Elems.length r215.Elems.length), (2, .slice (some ⟨bi, 0, none⟩) r215.Elems.length r215.Elems.length), (3, .slice aI aK aJ), (5, .slice (some ⟨bm, 0, none⟩) r215.Elems.length r215.Elems.length)]) (cs := #[.int .i64 (d_60.length : Int), .slice (some ⟨bg, 0, none⟩) r215.Elems.length r215.Elems.length, .slice (some ⟨bi, 0, none⟩) r215.Elems.length r215.Elems.length, .slice aI aK aJ, .slice none 0 0, .slice (some ⟨bm, 0, none⟩) r215.Elems.length r215.Elems.length]) (by kernel_rfl) rfl (by kernel_rfl)) rfl rfl ?_
   refine GoQA.alloc rfl rfl (alAlloc (cs := #[.int .i64 (0 : Int), .slice none 0 0, .slice none 0 0, .slice none 0 0, .slice none 0 0, .slice none 0 0]) ti33 rfl) ?_
   intro JW A319 c5 A321 m9 HJ hd324 hnb325 hh326
   replace hO := m9.own hO
   have fY := gainCh (w := JW) (E := [.row 4 1 (some ⟨bm, 0, none⟩) r215.Elems.length r215.Elems.length By, .row 9 1 (some ⟨bi, 0, none⟩) r215.Elems.length r215.Elems.length yt, t2 (Fl.int .i64) 31 3 (some ⟨bg, 0, none⟩) r215.Elems.length r215.Elems.length ((fun _ => (none, 0))) (List.replicate r215.Elems.length ([] : List Int)), .row 3 1 aI aK aJ bx, .blk B223 (.cells #[.int .i64 r215.Points, .bool r215.Monoid, .slice aM r215.Gens.length aN, .slice aB r215.Elems.length aC, .slice ay r215.Prefix.length az, .slice aO r215.Last.length aP, .slice aw r215.Right.length ax, .slice aG r215.Rules.length aH, .int .i64 r215.Done] 123 (0, 0)), .blk B207 (.cells #[.int .i64 (0 : Int), .slice none 0 0, .slice none 0 0, .slice none 0 0, .slice none 0 0, .slice none 0 0] 33 (0, 0)), .row 120 3 bO (0 + 1) bP cx, .blk B34 (.cells #[.int .i64 r26.Letters, .int .i64 r26.Start, .slice dx r26.Final.length dy, .slice d6 r26.Next.length d7] 25 (0, 0)), .blk B21 (.cells #[.slice p45 r26.Letters.toNat r26.Letters.toNat, .slice bO (0 + 1) bP, .int .i64 ((0 : Int) + (r26.Final.length : Int))] 83 (0, 0)), .blk B8 (.cells #[.int .i64 (0 : Int), .slice none 0 0, .slice none 0 0, .slice none 0 0, .slice none 0 0, .slice none 0 0] 33 (0, 0))]) (e := .blk c5 (.cells #[.int .i64 (0 : Int), .slice none 0 0, .slice none 0 0, .slice none 0 0, .slice none 0 0, .slice none 0 0] 33 (0, 0))) HJ rfl
   replace hB := hB.trans (m9.same.fr _)
   replace hB := Fr.gain (e := .blk c5 (.cells #[.int .i64 (0 : Int), .slice none 0 0, .slice none 0 0, .slice none 0 0, .slice none 0 0, .slice none 0 0] 33 (0, 0))) hB (Nat.le_trans hw251 hnb325) rfl
   replace hO := Owns.gain hO HJ Bx rfl hh326 hd324
   refine GoQA.lastI rfl rfl ?_
   intro H7 A329 na
   replace hO := na.own hO
   have hobt := oblkStAgg (us := [.int .i64 (d_60.length : Int), .slice (some ⟨bg, 0, none⟩) r215.Elems.length r215.Elems.length, .slice (some ⟨bi, 0, none⟩) r215.Elems.length r215.Elems.length, .slice aI aK aJ, .slice none 0 0, .slice (some ⟨bm, 0, none⟩) r215.Elems.length r215.Elems.length]) (o := 0) (cs' := #[.int .i64 (d_60.length : Int), .slice (some ⟨bg, 0, none⟩) r215.Elems.length r215.Elems.length, .slice (some ⟨bi, 0, none⟩) r215.Elems.length r215.Elems.length, .slice aI aK aJ, .slice none 0 0, .slice (some ⟨bm, 0, none⟩) r215.Elems.length r215.Elems.length]) 0 hO rfl rfl (Nat.le_of_ble_eq_true rfl) rfl
   obtain ⟨Xn, eA, KA⟩ := hobt
   dsimp only [sS, sZ] at eA
   refine GoAt.step (KA ti33 (by exact rfl) (by exact rfl) rfl) (fun h => nomatch h) (Stp.kp hO eA) rfl ?_
   replace hO := eA.own
   refine GoQA.nil ?_
   intro Xo A335 nb ol
   replace hO := nb.own hO
   replace hO := hO.permA ol
   refine zq (zq ?_)
   refine Go1.cut [(0, .pointer (some ⟨B21, 0, none⟩)), (2, .pointer (some ⟨B207, 0, none⟩)), (5, .pointer (some ⟨B223, 0, none⟩)), (7, .int .i64 (r215.Elems.length : Int)), (8, .pointer (some ⟨c5, 0, none⟩))] ⟨rfl, rfl, rfl, rfl, rfl, trivial⟩ ?_
   intro σ _
   refine zr (za rfl (zn (zb ?_)))
   replace hO := hO.drop 8
   replace aT := aT.ch (Ch.assoc _ _ _ _)
   replace hB := (((hB.trans (na.same.fr _)).trans eA.fr).trans (nb.same.fr _)).trans (Owns.dropFr _ _ 8)
   have Z14 := ((((((p6.trans (m9.ch _)).trans fY).trans (na.ch _)).trans eA.ch).trans (nb.ch _)).trans (permCh ol _)).trans (Owns.dropCh _ _ 8)
   replace eP := eP.ch Z14
   have Z15 := ((((((((rE.trans (oh.ch _)).trans p6).trans (m9.ch _)).trans fY).trans (na.ch _)).trans eA.ch).trans (nb.ch _)).trans (permCh ol _)).trans (Owns.dropCh _ _ 8)
   replace jW := jW.ch Z15
   have Z16 := ((((((((((((pX.ch _).trans iD).trans (pY.ch _)).trans rE).trans (oh.ch _)).trans p6).trans (m9.ch _)).trans fY).trans (na.ch _)).trans eA.ch).trans (nb.ch _)).trans (permCh ol _)).trans (Owns.dropCh _ _ 8)
   replace aT := aT.ch Z16
   have Z17 := ((((((((((((gE.ch.trans (pX.ch _)).trans iD).trans (pY.ch _)).trans rE).trans (oh.ch _)).trans p6).trans (m9.ch _)).trans fY).trans (na.ch _)).trans eA.ch).trans (nb.ch _)).trans (permCh ol _)).trans (Owns.dropCh _ _ 8)
   replace gq := gq.ch Z17
   have Z18 := ((((((((((((((rD.ch _).trans gE.ch).trans (pX.ch _)).trans iD).trans (pY.ch _)).trans rE).trans (oh.ch _)).trans p6).trans (m9.ch _)).trans fY).trans (na.ch _)).trans eA.ch).trans (nb.ch _)).trans (permCh ol _)).trans (Owns.dropCh _ _ 8)
   replace aW := aW.ch Z18
   replace af := af.ch Z18
   have Z19 := ((((((((((((((oR.ch.trans (rD.ch _)).trans gE.ch).trans (pX.ch _)).trans iD).trans (pY.ch _)).trans rE).trans (oh.ch _)).trans p6).trans (m9.ch _)).trans fY).trans (na.ch _)).trans eA.ch).trans (nb.ch _)).trans (permCh ol _)).trans (Owns.dropCh _ _ 8)
   replace ag := ag.ch Z19
   have Z20 := ((((((((((((((Z13.trans (rD.ch _)).trans gE.ch).trans (pX.ch _)).trans iD).trans (pY.ch _)).trans rE).trans (oh.ch _)).trans p6).trans (m9.ch _)).trans fY).trans (na.ch _)).trans eA.ch).trans (nb.ch _)).trans (permCh ol _)).trans (Owns.dropCh _ _ 8)
   replace am := am.ch Z20
   replace aa := aa.ch Z20
   replace aj := aj.ch Z20
   replace ai := ai.ch Z20
   have Z21 := (((((((((((((((((((((vJ.ch.trans vK.ch).trans gP.ch).trans Ai).trans vL.ch).trans oQ.ch).trans m6.ch).trans oR.ch).trans (rD.ch _)).trans gE.ch).trans (pX.ch _)).trans iD).trans (pY.ch _)).trans rE).trans (oh.ch _)).trans p6).trans (m9.ch _)).trans fY).trans (na.ch _)).trans eA.ch).trans (nb.ch _)).trans (permCh ol _)).trans (Owns.dropCh _ _ 8)
   replace aA := aA.ch Z21
   have Z22 := ((((((((((((((((((((((wN.ch.trans vJ.ch).trans vK.ch).trans gP.ch).trans Ai).trans vL.ch).trans oQ.ch).trans m6.ch).trans oR.ch).trans (rD.ch _)).trans gE.ch).trans (pX.ch _)).trans iD).trans (pY.ch _)).trans rE).trans (oh.ch _)).trans p6).trans (m9.ch _)).trans fY).trans (na.ch _)).trans eA.ch).trans (nb.ch _)).trans (permCh ol _)).trans (Owns.dropCh _ _ 8)
   replace dq := dq.ch Z22
   have Z23 := (((((((((((((((((((((((((eC.ch.trans Ew).trans lV.ch).trans wN.ch).trans vJ.ch).trans vK.ch).trans gP.ch).trans Ai).trans vL.ch).trans oQ.ch).trans m6.ch).trans oR.ch).trans (rD.ch _)).trans gE.ch).trans (pX.ch _)).trans iD).trans (pY.ch _)).trans rE).trans (oh.ch _)).trans p6).trans (m9.ch _)).trans fY).trans (na.ch _)).trans eA.ch).trans (nb.ch _)).trans (permCh ol _)).trans (Owns.dropCh _ _ 8)
   replace ap := ap.ch Z23
   have Z24 := ((((((((((((((((((((((((((Ah.ch.trans eC.ch).trans Ew).trans lV.ch).trans wN.ch).trans vJ.ch).trans vK.ch).trans gP.ch).trans Ai).trans vL.ch).trans oQ.ch).trans m6.ch).trans oR.ch).trans (rD.ch _)).trans gE.ch).trans (pX.ch _)).trans iD).trans (pY.ch _)).trans rE).trans (oh.ch _)).trans p6).trans (m9.ch _)).trans fY).trans (na.ch _)).trans eA.ch).trans (nb.ch _)).trans (permCh ol _)).trans (Owns.dropCh _ _ 8)
   replace ar := ar.ch Z24
   dsimp only [eS, eZ] at hB hO ap ar dq aW am ag aa aj af ai gq eP jW aT aA
   refine Go1.loopW (S := Nat × List Bool × List Str) (fun s σ w => match s with | (k3_339, d_340, d_343) => ∃ (om : List Value), ∃ (cH : List Value), agrees σ [(0, .pointer (some ⟨B21, 0, none⟩)), (2, .pointer (some ⟨B207, 0, none⟩)), (5, .pointer (some ⟨B223, 0, none⟩)), (7, .int .i64 (r215.Elems.length : Int)), (8, .pointer (some ⟨c5, 0, none⟩)), (9, .int .i64 (k3_339 : Int))] ∧ (fun Z0 => Owns w0.heap.size w Z0 A ∧ Els (Rp.bool) (bl Z0 ++ A) w om d_340 ∧ Els (Rp.str) (bl Z0 ++ A) w cH d_343 ∧ Els (Rp.int .i64) (bl Z0 ++ A) w bx r262 ∧ Els (rppart) (bl Z0 ++ A) w cx ((([] : List part)) ++ ([(⟨((0 : Int) + r26.Start), r26.Final, (0 : Int)⟩ : part)])) ∧ ISl (Rp.sl (Rp.int .i64)) (bl Z0 ++ A) w p45 r26.Letters.toNat d_60 ∧ ISl (Rp.sl (Rp.int .i64)) (bl Z0 ++ A) w aM aN r215.Gens ∧ ISl (Rp.sl (Rp.int .i64)) (bl Z0 ++ A) w aB aC r215.Elems ∧ ISl (Rp.int .i64) (bl Z0 ++ A) w ay az r215.Prefix ∧ ISl (Rp.int .i64) (bl Z0 ++ A) w aO aP r215.Last ∧ ISl (Rp.sl (Rp.int .i64)) (bl Z0 ++ A) w aw ax r215.Right ∧ ISl (rpRule) (bl Z0 ++ A) w aG aH r215.Rules ∧ Fr (bl []) w0 (bl Z0) w) [.blk c5 (.cells #[.int .i64 (d_60.length : Int), .slice (some ⟨bg, 0, none⟩) r215.Elems.length r215.Elems.length, .slice (some ⟨bi, 0, none⟩) r215.Elems.length r215.Elems.length, .slice aI aK aJ, .slice none 0 0, .slice (some ⟨bm, 0, none⟩) r215.Elems.length r215.Elems.length] 33 (0, 0)), .row 4 1 (some ⟨bm, 0, none⟩) r215.Elems.length r215.Elems.length om, .row 9 1 (some ⟨bi, 0, none⟩) r215.Elems.length r215.Elems.length cH, t2 (Fl.int .i64) 31 3 (some ⟨bg, 0, none⟩) r215.Elems.length r215.Elems.length ((fun _ => (none, 0))) (List.replicate r215.Elems.length ([] : List Int)), .row 3 1 aI aK aJ bx, .blk B223 (.cells #[.int .i64 r215.Points, .bool r215.Monoid, .slice aM r215.Gens.length aN, .slice aB r215.Elems.length aC, .slice ay r215.Prefix.length az, .slice aO r215.Last.length aP, .slice aw r215.Right.length ax, .slice aG r215.Rules.length aH, .int .i64 r215.Done] 123 (0, 0)), .blk B207 (.cells #[.int .i64 (0 : Int), .slice none 0 0, .slice none 0 0, .slice none 0 0, .slice none 0 0, .slice none 0 0] 33 (0, 0)), .row 120 3 bO (0 + 1) bP cx, .blk B21 (.cells #[.slice p45 r26.Letters.toNat r26.Letters.toNat, .slice bO (0 + 1) bP, .int .i64 ((0 : Int) + (r26.Final.length : Int))] 83 (0, 0)), .blk B8 (.cells #[.int .i64 (0 : Int), .slice none 0 0, .slice none 0 0, .slice none 0 0, .slice none 0 0, .slice none 0 0] 33 (0, 0))]) H ⟨By, yt, ⟨rfl, rfl, rfl, rfl, rfl, rfl, trivial⟩, hO, eP, jW, aT, aA, aW, am, ag, aa, aj, af, ai, hB⟩ ?_
   intro X3
   refine prE fun k3_339 => prE fun d_340 => fun d_343 => ?_
   intro H hX3 σ Qh
   refine exE fun om => exE fun cH => andE fun hag => andE fun hO => andE fun sJ => andE fun bf => andE fun aT => andE fun aA => andE fun aW => andE fun am => andE fun ag => andE fun aa => andE fun aj => andE fun af => andE fun ai => fun hB => ?_
   dsimp only at H
   refine Go1.keep [(0, .pointer (some ⟨B21, 0, none⟩)), (2, .pointer (some ⟨B207, 0, none⟩)), (5, .pointer (some ⟨B223, 0, none⟩)), (7, .int .i64 (r215.Elems.length : Int)), (8, .pointer (some ⟨c5, 0, none⟩)), (9, .int .i64 (k3_339 : Int))] hag ?_
   refine zq (zq (zr (zm rfl (zm rfl ?_))))
   by_cases CM : (k3_339 : Int) < (r215.Elems.length : Int)
   ·replace H := ifp CM H
    refine zo (fun w => opB (op_lss rfl rfl w) (decide_eq_true CM)) (zn (zt rfl rfl (zk (zq (zb ?_)))))
    refine zq ?_
    refine Go1.drawS 1 [(0, .pure), (1, .stable), (2, .pure), (3, .pure), (4, .stable), (5, .pure), (6, .stable), (7, .pure), (8, .pure), (9, .stable), (10, .pure), (11, .stable), (12, .pure), (13, .stable), (14, .pure), (15, .pure), (16, .stable), (17, .pure), (18, .pure), (19, .loud), (20, .stable), (21, .pure), (22, .pure), (23, .last)] mixed (by kernel_rfl) ?_
    intro Xp Pg
    have oS := Stp.same hO Pg
    replace hO := oS.own
    refine GoQ.pure rfl (op_fieldAddr Try.underlying33 rfl ti30 rfl (by decide)) rfl rfl ?_
    refine GoQ.stable rfl (oblk (i := 2) 0 hO rfl rfl Try.underlying30 rfl rfl) rfl rfl ?_
    refine GoQ.pure rfl (op_move rfl) rfl rfl ?_
    refine GoQ.pure rfl (op_fieldAddr Try.underlying33 rfl ti30 rfl (by decide)) rfl rfl ?_
    refine GoQ.stable rfl (oblk (i := 2) 0 hO rfl rfl Try.underlying30 rfl rfl) rfl rfl ?_
    refine GoQ.pure rfl (op_fieldAddr Try.underlying123 rfl ti31 rfl (by decide)) rfl rfl ?_
    refine GoQ.stable rfl (oblk (i := 4) 5 hO rfl rfl Try.underlying31 rfl rfl) rfl rfl ?_
    refine GoQ.pure rfl (op_move rfl) rfl rfl ?_
    obtain ⟨Cy, H⟩ := H
    obtain ⟨Gm, H⟩ := H
    replace aa := aa.ch oS.ch
    refine GoQ.pure rfl (op_index Try.underlying31 ti3 rfl rfl Cy Gm (aa.some_ Cy Gm)) rfl rfl ?_
    refine GoQ.stable rfl (ldInt aa Cy Gm Try.underlying3 rfl rfl) rfl rfl ?_
    obtain ⟨Ex, H⟩ := H
    obtain ⟨Ey, H⟩ := H
    replace bf := bf.ch oS.ch
    refine GoQ.pure rfl (op_index Try.underlying30 ti9 rfl rfl Ex (ltn (bf.neq hO 2 rfl) Ey) (bf.psome hO 2 rfl Ex Ey)) rfl rfl ?_
    refine GoQ.stable rfl (oldStr 2 hO rfl bf Ex Ey Try.underlying9 rfl rfl) rfl rfl ?_
    have hle354 := Els.str_le bf Ex Ey
    refine GoQ.pure rfl (op_fieldAddr Try.underlying123 rfl ti31 rfl (by decide)) rfl rfl ?_
    refine GoQ.stable rfl (oblk (i := 5) 5 hO rfl rfl Try.underlying31 rfl rfl) rfl rfl ?_
    refine GoQ.pure rfl (op_move rfl) rfl rfl ?_
    obtain ⟨Gn, H⟩ := H
    obtain ⟨Gp, H⟩ := H
    replace aj := aj.ch oS.ch
    refine GoQ.pure rfl (op_index Try.underlying31 ti3 rfl rfl Gn Gp (aj.some_ Gn Gp)) rfl rfl ?_
    refine GoQ.stable rfl (ldInt aj Gn Gp Try.underlying3 rfl rfl) rfl rfl ?_
    obtain ⟨R7, H⟩ := H
    refine GoQ.pure rfl (op_add rfl rfl (wrap_i64 R7)) rfl rfl ?_
    refine GoQ.pure rfl (op_conv Try.underlying3 Try.underlying5 rfl rfl) rfl rfl ?_
    have hobt := obuild (r := Rp.int .u8) (n := 1) (parts := [(0, .int .u8 (IntKind.u8.wrap ((97 : Int) + (ix r215.Last (k3_339 : Int)))))]) (vs := [.int .u8 (IntKind.u8.wrap ((97 : Int) + (ix r215.Last (k3_339 : Int))))]) (xs := [(IntKind.u8.wrap ((97 : Int) + (ix r215.Last (k3_339 : Int))))]) rfl Try.underlying126 ti5 hO (by decide) (by kernel_rfl) (Els.cons rfl rfl (Els.nil _ _ _) (by simp [mx])) rfl
    obtain ⟨H9, Xq, dP, yu, Ph, KB⟩ := hobt
    refine GoQ.loud rfl (KB rfl) Ph rfl rfl ?_
    replace hO := dP.own
    have hle365 := byt_le yu.bd
    refine GoQ.stable rfl (oldBytes 0 hO rfl yu Try.underlying126 Try.underlying5 Try.underlying9 rfl) rfl rfl ?_
    obtain ⟨KC, H⟩ := H
    refine GoQ.pure rfl (op_addS rfl rfl KC) rfl rfl ?_
    obtain ⟨Gq, H⟩ := H
    obtain ⟨Gr, H⟩ := H
    replace bf := bf.ch dP.ch
    refine GoQ.pure rfl (op_index Try.underlying30 ti9 rfl rfl Gq (ltn (bf.neq hO 3 rfl) Gr) (bf.psome hO 3 rfl Gq Gr)) rfl rfl ?_
    have hobt := ost (r := Rp.str) rfl 3 hO rfl bf Gq Gr (v := .string (gstr ((ix d_343 (ix r215.Prefix (k3_339 : Int))) ++ (byt ([(IntKind.u8.wrap ((97 : Int) + (ix r215.Last (k3_339 : Int))))]))))) (u := ((ix d_343 (ix r215.Prefix (k3_339 : Int))) ++ (byt ([(IntKind.u8.wrap ((97 : Int) + (ix r215.Last (k3_339 : Int))))])))) rfl ⟨rfl, (lenApp KC)⟩
    obtain ⟨Xr, Pi, nc, xt, BW⟩ := hobt
    dsimp only [sS, sZ] at nc xt
    refine GoQ.last rfl (BW Try.underlying9 rfl ti9 (by exact rfl) (by exact rfl)) rfl rfl ?_
    replace hO := nc.own
    refine GoQ.nil ?_
    refine Go1.cut [(0, .pointer (some ⟨B21, 0, none⟩)), (2, .pointer (some ⟨B207, 0, none⟩)), (5, .pointer (some ⟨B223, 0, none⟩)), (7, .int .i64 (r215.Elems.length : Int)), (8, .pointer (some ⟨c5, 0, none⟩)), (9, .int .i64 (k3_339 : Int))] ⟨rfl, rfl, rfl, rfl, rfl, rfl, trivial⟩ ?_
    intro σ _
    refine zr (zo (op_fieldAddr Try.underlying33 rfl ti22 rfl (by decide)) (zs (oblk (i := 5) 1 hO rfl rfl Try.underlying22 rfl rfl) (zm rfl ?_)))
    obtain ⟨BV, H⟩ := H
    obtain ⟨xb, H⟩ := H
    have Z25 := (oS.ch.trans dP.ch).trans nc.ch
    replace sJ := sJ.ch Z25
    refine zo (op_index Try.underlying22 ti4 rfl rfl BV (ltn (sJ.neq hO 2 rfl) xb) (sJ.psome hO 2 rfl BV xb)) ?_
    have hobt := ost (r := Rp.bool) rfl 2 hO rfl sJ BV xb (v := .bool true) (u := true) rfl rfl
    obtain ⟨Xs, Pj, ne, Aj, KD⟩ := hobt
    dsimp only [sS, sZ] at ne Aj
    refine zg (KD Try.underlying4 rfl ti4 (by exact rfl) (by exact rfl)) ?_
    replace hO := ne.own
    refine zn ?_
    refine Go1.inBlock ?_
    refine zr (zm rfl ?_)
    replace ag := (ag.ch Z25).ch ne.ch
    refine zo (op_add rfl rfl (wrap_i64 (natbd CM ag.bd))) (za rfl (zn ?_))
    replace hO := hO.drop 0
    replace ag := ag.ch (Owns.dropCh _ _ 0)
    replace Aj := Aj.ch (Owns.dropCh _ _ 0)
    replace xt := (xt.ch ne.ch).ch (Owns.dropCh _ _ 0)
    have Z26 := ((dP.ch.trans nc.ch).trans ne.ch).trans (Owns.dropCh _ _ 0)
    replace aa := aa.ch Z26
    replace aj := aj.ch Z26
    have Z27 := (Z25.trans ne.ch).trans (Owns.dropCh _ _ 0)
    replace aT := aT.ch Z27
    replace aA := aA.ch Z27
    replace aW := aW.ch Z27
    replace am := am.ch Z27
    replace af := af.ch Z27
    replace ai := ai.ch Z27
    replace hB := ((((hB.trans oS.fr).trans dP.fr).trans nc.fr).trans ne.fr).trans (Owns.dropFr _ _ 0)
    dsimp only [eS, eZ] at hB hO aW am ag aa aj af ai Aj xt aT aA
    exact hX3 _ H _ _ ⟨Pj, Pi, ⟨rfl, rfl, rfl, rfl, rfl, rfl, trivial⟩, hO, Aj, xt, aT, aA, aW, am, ag, aa, aj, af, ai, hB⟩
   replace H := ifn CM H
   refine zo (fun w => opB (op_lss rfl rfl w) (decide_eq_false CM)) (zn (zf rfl rfl ?_))
   refine Go1.exit rfl ?_
   refine zq (zq (zr (zo (op_fieldAddr Try.underlying123 rfl ti23 rfl (by decide)) (zs (oblk (i := 6) 5 hO rfl rfl Try.underlying23 rfl rfl) (zo (op_len Try.underlying23 rfl) ?_)))))
   replace H := H af.bd
   refine zm rfl (zn (zb ?_))
   refine Go1.loopW (S := Nat × List Bool × List (List Int)) (fun s σ w => match s with | (k4_382, d_383, d_386) => ∃ (eI : List Value), ∃ (dr : Hd), agrees σ [(0, .pointer (some ⟨B21, 0, none⟩)), (2, .pointer (some ⟨B207, 0, none⟩)), (5, .pointer (some ⟨B223, 0, none⟩)), (7, .int .i64 (r215.Elems.length : Int)), (8, .pointer (some ⟨c5, 0, none⟩)), (86, .slice aw r215.Right.length ax), (87, .int .i64 (r215.Right.length : Int)), (88, .int .i64 (k4_382 : Int))] ∧ (fun Z0 => Owns w0.heap.size w Z0 A ∧ Els (Rp.bool) (bl Z0 ++ A) w eI d_383 ∧ Els (Rp.str) (bl Z0 ++ A) w cH d_343 ∧ Els (Rp.int .i64) (bl Z0 ++ A) w bx r262 ∧ Els (rppart) (bl Z0 ++ A) w cx ((([] : List part)) ++ ([(⟨((0 : Int) + r26.Start), r26.Final, (0 : Int)⟩ : part)])) ∧ ISl (Rp.sl (Rp.int .i64)) (bl Z0 ++ A) w p45 r26.Letters.toNat d_60 ∧ ISl (Rp.sl (Rp.int .i64)) (bl Z0 ++ A) w aM aN r215.Gens ∧ ISl (Rp.sl (Rp.int .i64)) (bl Z0 ++ A) w aB aC r215.Elems ∧ ISl (Rp.int .i64) (bl Z0 ++ A) w ay az r215.Prefix ∧ ISl (Rp.int .i64) (bl Z0 ++ A) w aO aP r215.Last ∧ ISl (Rp.sl (Rp.int .i64)) (bl Z0 ++ A) w aw ax r215.Right ∧ ISl (rpRule) (bl Z0 ++ A) w aG aH r215.Rules ∧ Fr (bl []) w0 (bl Z0) w) [.blk c5 (.cells #[.int .i64 (d_60.length : Int), .slice (some ⟨bg, 0, none⟩) r215.Elems.length r215.Elems.length, .slice (some ⟨bi, 0, none⟩) r215.Elems.length r215.Elems.length, .slice aI aK aJ, .slice none 0 0, .slice (some ⟨bm, 0, none⟩) r215.Elems.length r215.Elems.length] 33 (0, 0)), .row 4 1 (some ⟨bm, 0, none⟩) r215.Elems.length r215.Elems.length eI, .row 9 1 (some ⟨bi, 0, none⟩) r215.Elems.length r215.Elems.length cH, t2 (Fl.int .i64) 31 3 (some ⟨bg, 0, none⟩) r215.Elems.length r215.Elems.length dr d_386, .row 3 1 aI aK aJ bx, .blk B223 (.cells #[.int .i64 r215.Points, .bool r215.Monoid, .slice aM r215.Gens.length aN, .slice aB r215.Elems.length aC, .slice ay r215.Prefix.length az, .slice aO r215.Last.length aP, .slice aw r215.Right.length ax, .slice aG r215.Rules.length aH, .int .i64 r215.Done] 123 (0, 0)), .blk B207 (.cells #[.int .i64 (0 : Int), .slice none 0 0, .slice none 0 0, .slice none 0 0, .slice none 0 0, .slice none 0 0] 33 (0, 0)), .row 120 3 bO (0 + 1) bP cx, .blk B21 (.cells #[.slice p45 r26.Letters.toNat r26.Letters.toNat, .slice bO (0 + 1) bP, .int .i64 ((0 : Int) + (r26.Final.length : Int))] 83 (0, 0)), .blk B8 (.cells #[.int .i64 (0 : Int), .slice none 0 0, .slice none 0 0, .slice none 0 0, .slice none 0 0, .slice none 0 0] 33 (0, 0))]) H ⟨om, (fun _ => (none, 0)), ⟨rfl, rfl, rfl, rfl, rfl, rfl, rfl, rfl, trivial⟩, hO, sJ, bf, aT, aA, aW, am, ag, aa, aj, af, ai, hB⟩ ?_
   intro X4
   refine prE fun k4_382 => prE fun d_383 => fun d_386 => ?_
   intro H hX4 σ Xt
   refine exE fun eI => exE fun dr => andE fun hag => andE fun hO => andE fun cv => andE fun bf => andE fun aT => andE fun aA => andE fun aW => andE fun am => andE fun ag => andE fun aa => andE fun aj => andE fun af => andE fun ai => fun hB => ?_
   dsimp only at H
   refine Go1.keep [(0, .pointer (some ⟨B21, 0, none⟩)), (2, .pointer (some ⟨B207, 0, none⟩)), (5, .pointer (some ⟨B223, 0, none⟩)), (7, .int .i64 (r215.Elems.length : Int)), (8, .pointer (some ⟨c5, 0, none⟩)), (86, .slice aw r215.Right.length ax), (87, .int .i64 (r215.Right.length : Int)), (88, .int .i64 (k4_382 : Int))] hag ?_
   refine zq (zr ?_)
   by_cases AT : (k4_382 : Int) < (r215.Right.length : Int)
   ·replace H := ifp AT H
    refine zo (fun w => opB (op_lss rfl rfl w) (decide_eq_true AT)) (zn (zq (zt rfl rfl (zk (zq ?_)))))
    refine zb (zq (zr (zm rfl ?_)))
    obtain ⟨Gs, H⟩ := H
    obtain ⟨BY, H⟩ := H
    refine zo (op_index Try.underlying23 ti31 rfl rfl Gs BY (af.some_ Gs BY)) ?_
    have hobt := ldSl af Gs BY
    obtain ⟨RJ, Xu, gi, Pk⟩ := hobt
    refine zs (Pk Try.underlying31 rfl rfl) (za rfl (za rfl (zn (zq ?_))))
    refine Go1.drawS 1 [(0, .pure), (1, .stable), (2, .pure), (3, .stable), (4, .pure), (5, .stable), (6, .pure), (7, .pure), (8, .loud), (9, .pure), (10, .pure), (11, .last)] mixed (by kernel_rfl) ?_
    intro Xv Pl
    have nf := Stp.same hO Pl
    replace hO := nf.own
    refine GoQ.pure rfl (op_fieldAddr Try.underlying33 rfl ti22 rfl (by decide)) rfl rfl ?_
    refine GoQ.stable rfl (oblk (i := 5) 0 hO rfl rfl Try.underlying22 rfl rfl) rfl rfl ?_
    refine GoQ.pure rfl (op_fieldAddr Try.underlying33 rfl ti22 rfl (by decide)) rfl rfl ?_
    refine GoQ.stable rfl (oblk (i := 5) 0 hO rfl rfl Try.underlying22 rfl rfl) rfl rfl ?_
    obtain ⟨xB, H⟩ := H
    obtain ⟨xC, H⟩ := H
    replace cv := cv.ch nf.ch
    refine GoQ.pure rfl (op_index Try.underlying22 ti4 rfl rfl xB (ltn (cv.neq hO 1 rfl) xC) (cv.psome hO 1 rfl xB xC)) rfl rfl ?_
    by_cases h400 : ix d_383 (0 : Int) = true
    ·replace H := ifp h400 H
     refine GoQ.stable rfl (fun w hw => opB ((oldBool 1 hO rfl cv xB xC Try.underlying4 rfl rfl) w hw) (h400)) rfl rfl ?_
     refine GoQ.pure rfl (op_move rfl) rfl rfl ?_
     refine GoQ.pass rfl rfl rfl ?_
     refine GoQ.pass rfl rfl rfl ?_
     refine GoQ.pure rfl (op_pickT rfl rfl rfl) rfl rfl ?_
     obtain ⟨Gt, H⟩ := H
     obtain ⟨Gu, H⟩ := H
     refine GoQ.pure rfl (op_index Try.underlying22 ti4 rfl rfl Gt (ltn (cv.neq hO 1 rfl) Gu) (cv.psome hO 1 rfl Gt Gu)) rfl rfl ?_
     have hobt := ost (r := Rp.bool) rfl 1 hO rfl cv Gt Gu (v := .bool true) (u := true) rfl rfl
     obtain ⟨Xw, mX, fe, cT, Cz⟩ := hobt
     dsimp only [sS, sZ] at fe cT
     refine GoQ.last rfl (Cz Try.underlying4 rfl ti4 (by exact rfl) (by exact rfl)) rfl rfl ?_
     replace hO := fe.own
     refine GoQ.nil ?_
     refine zq ?_
     refine Go1.drawS 1 [(0, .pure), (1, .stable), (2, .pure), (3, .pure), (4, .loud), (5, .pure), (6, .last)] mixed (by kernel_rfl) ?_
     intro Q2 D1
     have fd := Stp.same hO D1
     replace hO := fd.own
     refine GoQ.pure rfl (op_fieldAddr Try.underlying33 rfl ti23 rfl (by decide)) rfl rfl ?_
     refine GoQ.stable rfl (oblk (i := 1) 0 hO rfl rfl Try.underlying23 rfl rfl) rfl rfl ?_
     refine GoQ.pure rfl (op_move rfl) rfl rfl ?_
     refine GoQ.pure rfl (op_move rfl) rfl rfl ?_
     obtain ⟨R8, H⟩ := H
     obtain ⟨R9, H⟩ := H
     have hobt := omake (n := (r215.Elems.length : Int)) (r := Rp.int .i64) (d := (0 : Int)) Try.underlying31 ti3 (fun _ _ => rfl) rfl hO R8 R9 (by decide)
     obtain ⟨Xx, tH, Tp, eg, xq, HB, CA⟩ := hobt
     refine GoQ.loud rfl (CA rfl rfl) HB rfl rfl ?_
     replace hO := eg.own
     obtain ⟨Gv, H⟩ := H
     obtain ⟨CB, H⟩ := H
     refine GoQ.pure rfl (op_index Try.underlying23 ti31 rfl rfl Gv (ltn (t2neq 4 hO rfl) CB) (t2some 4 hO rfl Gv CB)) rfl rfl ?_
     have lI := Stp.front 4 hO rfl
     dsimp only [eS, eZ] at lI
     replace hO := lI.own
     have lJ := Stp.front 1 hO rfl
     dsimp only [eS, eZ] at lJ
     replace hO := lJ.own
     replace xq := (xq.ch lI.ch).ch lJ.ch
     have hobt := t2put (hf := (Fl.int .i64)) hO xq Gv CB
     obtain ⟨Xy, ng, KE⟩ := hobt
     refine GoQ.last rfl (KE Try.underlying31 rfl ti31 (by exact rfl) (by exact rfl)) rfl rfl ?_
     replace hO := ng.own
     refine GoQ.nil ?_
     refine zq ?_
     refine Go1.cut [(0, .pointer (some ⟨B21, 0, none⟩)), (2, .pointer (some ⟨B207, 0, none⟩)), (5, .pointer (some ⟨B223, 0, none⟩)), (7, .int .i64 (r215.Elems.length : Int)), (8, .pointer (some ⟨c5, 0, none⟩)), (10, .int .i64 (k4_382 : Int)), (86, .slice aw r215.Right.length ax), (87, .int .i64 (r215.Right.length : Int)), (88, .int .i64 (k4_382 : Int))] ⟨rfl, rfl, rfl, rfl, rfl, rfl, rfl, rfl, rfl, trivial⟩ ?_
     intro σ _
     refine zr (zo (op_fieldAddr Try.underlying33 rfl ti23 rfl (by decide)) (zs (oblk (i := 1) 1 hO rfl rfl Try.underlying23 rfl rfl) (zm rfl ?_)))
     obtain ⟨CO, H⟩ := H
     obtain ⟨yX, H⟩ := H
     refine zo (op_index Try.underlying23 ti31 rfl rfl CO (ltn (t2neq 0 hO rfl) yX) (t2some 0 hO rfl CO yX)) (zs (t2head 0 hO rfl CO yX Try.underlying31 rfl rfl) (zm rfl ?_))
     obtain ⟨Gw, H⟩ := H
     obtain ⟨Gx, H⟩ := H
     refine zo (op_index Try.underlying31 ti3 rfl rfl Gw Gx (t2isome 0 hO rfl CO yX Gw Gx)) ?_
     have hobt := t2st (r := Rp.int .i64) (hf := (Fl.int .i64)) rfl 0 hO rfl CO yX Gw Gx (v := .int .i64 (k4_382 : Int)) (u := (k4_382 : Int)) rfl rfl
     obtain ⟨Xz, mq, KF⟩ := hobt
     dsimp only [sS, sZ] at mq
     refine zg (KF Try.underlying3 rfl ti3 (by exact rfl) (by exact rfl)) ?_
     replace hO := mq.own
     refine zn (zq (zr (za rfl (zn (zb ?_)))))
     have Z28 := ((((fd.ch.trans eg.ch).trans lI.ch).trans lJ.ch).trans ng.ch).trans mq.ch
     replace cT := cT.ch Z28
     have Z29 := ((((((nf.ch.trans fe.ch).trans fd.ch).trans eg.ch).trans lI.ch).trans lJ.ch).trans ng.ch).trans mq.ch
     replace bf := bf.ch Z29
     replace aT := aT.ch Z29
     replace aA := aA.ch Z29
     replace aW := aW.ch Z29
     replace am := am.ch Z29
     replace ag := ag.ch Z29
     replace aa := aa.ch Z29
     replace aj := aj.ch Z29
     replace af := af.ch Z29
     replace ai := ai.ch Z29
     replace hB := (((((((hB.trans nf.fr).trans fe.fr).trans fd.fr).trans eg.fr).trans lI.fr).trans lJ.fr).trans ng.fr).trans mq.fr
     refine Go1.loopW (S := Nat × List (List Int)) (fun s σ w => match s with | (k5_436, d_437) => agrees σ [(0, .pointer (some ⟨B21, 0, none⟩)), (2, .pointer (some ⟨B207, 0, none⟩)), (5, .pointer (some ⟨B223, 0, none⟩)), (7, .int .i64 (r215.Elems.length : Int)), (8, .pointer (some ⟨c5, 0, none⟩)), (10, .int .i64 (k4_382 : Int)), (12, .int .i64 (k5_436 : Int)), (86, .slice aw r215.Right.length ax), (87, .int .i64 (r215.Right.length : Int)), (88, .int .i64 (k4_382 : Int))] ∧ (fun Z0 => Owns w0.heap.size w Z0 A ∧ Els (Rp.bool) (bl Z0 ++ A) w mX (st d_383 (0 : Int) true) ∧ Els (Rp.str) (bl Z0 ++ A) w cH d_343 ∧ Els (Rp.int .i64) (bl Z0 ++ A) w bx r262 ∧ Els (rppart) (bl Z0 ++ A) w cx ((([] : List part)) ++ ([(⟨((0 : Int) + r26.Start), r26.Final, (0 : Int)⟩ : part)])) ∧ ISl (Rp.sl (Rp.int .i64)) (bl Z0 ++ A) w p45 r26.Letters.toNat d_60 ∧ ISl (Rp.sl (Rp.int .i64)) (bl Z0 ++ A) w aM aN r215.Gens ∧ ISl (Rp.sl (Rp.int .i64)) (bl Z0 ++ A) w aB aC r215.Elems ∧ ISl (Rp.int .i64) (bl Z0 ++ A) w ay az r215.Prefix ∧ ISl (Rp.int .i64) (bl Z0 ++ A) w aO aP r215.Last ∧ ISl (Rp.sl (Rp.int .i64)) (bl Z0 ++ A) w aw ax r215.Right ∧ ISl (rpRule) (bl Z0 ++ A) w aG aH r215.Rules ∧ Fr (bl []) w0 (bl Z0) w) [t2 (Fl.int .i64) 31 3 (some ⟨bg, 0, none⟩) r215.Elems.length r215.Elems.length (hup dr (k4_382 : Int).toNat (tH, r215.Elems.length)) d_437, .blk c5 (.cells #[.int .i64 (d_60.length : Int), .slice (some ⟨bg, 0, none⟩) r215.Elems.length r215.Elems.length, .slice (some ⟨bi, 0, none⟩) r215.Elems.length r215.Elems.length, .slice aI aK aJ, .slice none 0 0, .slice (some ⟨bm, 0, none⟩) r215.Elems.length r215.Elems.length] 33 (0, 0)), .row 4 1 (some ⟨bm, 0, none⟩) r215.Elems.length r215.Elems.length mX, .row 9 1 (some ⟨bi, 0, none⟩) r215.Elems.length r215.Elems.length cH, .row 3 1 aI aK aJ bx, .blk B223 (.cells #[.int .i64 r215.Points, .bool r215.Monoid, .slice aM r215.Gens.length aN, .slice aB r215.Elems.length aC, .slice ay r215.Prefix.length az, .slice aO r215.Last.length aP, .slice aw r215.Right.length ax, .slice aG r215.Rules.length aH, .int .i64 r215.Done] 123 (0, 0)), .blk B207 (.cells #[.int .i64 (0 : Int), .slice none 0 0, .slice none 0 0, .slice none 0 0, .slice none 0 0, .slice none 0 0] 33 (0, 0)), .row 120 3 bO (0 + 1) bP cx, .blk B21 (.cells #[.slice p45 r26.Letters.toNat r26.Letters.toNat, .slice bO (0 + 1) bP, .int .i64 ((0 : Int) + (r26.Final.length : Int))] 83 (0, 0)), .blk B8 (.cells #[.int .i64 (0 : Int), .slice none 0 0, .slice none 0 0, .slice none 0 0, .slice none 0 0, .slice none 0 0] 33 (0, 0))]) H ⟨⟨rfl, rfl, rfl, rfl, rfl, rfl, rfl, rfl, rfl, rfl, trivial⟩, hO, cT, bf, aT, aA, aW, am, ag, aa, aj, af, ai, hB⟩ ?_
     intro X5
     refine prE fun k5_436 => fun d_437 => ?_
     intro H hX5 σ XA
     refine andE fun hag => andE fun hO => andE fun cT => andE fun bf => andE fun aT => andE fun aA => andE fun aW => andE fun am => andE fun ag => andE fun aa => andE fun aj => andE fun af => andE fun ai => fun hB => ?_
     dsimp only at H
     refine Go1.keep [(0, .pointer (some ⟨B21, 0, none⟩)), (2, .pointer (some ⟨B207, 0, none⟩)), (5, .pointer (some ⟨B223, 0, none⟩)), (7, .int .i64 (r215.Elems.length : Int)), (8, .pointer (some ⟨c5, 0, none⟩)), (10, .int .i64 (k4_382 : Int)), (12, .int .i64 (k5_436 : Int)), (86, .slice aw r215.Right.length ax), (87, .int .i64 (r215.Right.length : Int)), (88, .int .i64 (k4_382 : Int))] hag ?_
     refine zq (zq (zr (zm rfl (zm rfl ?_))))
     by_cases CP : (k5_436 : Int) < (r215.Elems.length : Int)
     ·replace H := ifp CP H
      refine zo (fun w => opB (op_lss rfl rfl w) (decide_eq_true CP)) (zn (zt rfl rfl (zk (zq (zb ?_)))))
      refine Go1.drawS 1 [(0, .pure), (1, .stable), (2, .pure), (3, .pure), (4, .stable), (5, .pure), (6, .pure), (7, .stable), (8, .pure), (9, .stable), (10, .pure), (11, .pure), (12, .stable), (13, .pure), (14, .stable), (15, .pure), (16, .pure), (17, .stable), (18, .pure), (19, .stable), (20, .pure), (21, .stable), (22, .pure), (23, .stable), (24, .pure), (25, .pure), (26, .stable), (27, .pure), (28, .stable), (29, .pure), (30, .last)] mixed (by kernel_rfl) ?_
      intro XB Pm
      have oT := Stp.same hO Pm
      replace hO := oT.own
      refine GoQ.pure rfl (op_fieldAddr Try.underlying33 rfl ti23 rfl (by decide)) rfl rfl ?_
      refine GoQ.stable rfl (oblk (i := 1) 1 hO rfl rfl Try.underlying23 rfl rfl) rfl rfl ?_
      refine GoQ.pure rfl (op_move rfl) rfl rfl ?_
      obtain ⟨CQ, H⟩ := H
      obtain ⟨CR, H⟩ := H
      refine GoQ.pure rfl (op_index Try.underlying23 ti31 rfl rfl CQ (ltn (t2neq 0 hO rfl) CR) (t2some 0 hO rfl CQ CR)) rfl rfl ?_
      refine GoQ.stable rfl (t2head 0 hO rfl CQ CR Try.underlying31 rfl rfl) rfl rfl ?_
      refine GoQ.pure rfl (op_move rfl) rfl rfl ?_
      refine GoQ.pure rfl (op_fieldAddr Try.underlying123 rfl ti23 rfl (by decide)) rfl rfl ?_
      refine GoQ.stable rfl (oblk (i := 6) 5 hO rfl rfl Try.underlying23 rfl rfl) rfl rfl ?_
      refine GoQ.pure rfl (op_fieldAddr Try.underlying33 rfl ti23 rfl (by decide)) rfl rfl ?_
      refine GoQ.stable rfl (oblk (i := 1) 1 hO rfl rfl Try.underlying23 rfl rfl) rfl rfl ?_
      refine GoQ.pure rfl (op_move rfl) rfl rfl ?_
      obtain ⟨zd, H⟩ := H
      obtain ⟨CT, H⟩ := H
      refine GoQ.pure rfl (op_index Try.underlying23 ti31 rfl rfl zd (ltn (t2neq 0 hO rfl) CT) (t2some 0 hO rfl zd CT)) rfl rfl ?_
      refine GoQ.stable rfl (t2head 0 hO rfl zd CT Try.underlying31 rfl rfl) rfl rfl ?_
      refine GoQ.pure rfl (op_fieldAddr Try.underlying123 rfl ti31 rfl (by decide)) rfl rfl ?_
      refine GoQ.stable rfl (oblk (i := 4) 5 hO rfl rfl Try.underlying31 rfl rfl) rfl rfl ?_
      refine GoQ.pure rfl (op_move rfl) rfl rfl ?_
      obtain ⟨Gy, H⟩ := H
      obtain ⟨Gz, H⟩ := H
      replace aa := aa.ch oT.ch
      refine GoQ.pure rfl (op_index Try.underlying31 ti3 rfl rfl Gy Gz (aa.some_ Gy Gz)) rfl rfl ?_
      refine GoQ.stable rfl (ldInt aa Gy Gz Try.underlying3 rfl rfl) rfl rfl ?_
      obtain ⟨GA, H⟩ := H
      obtain ⟨GB, H⟩ := H
      refine GoQ.pure rfl (op_index Try.underlying31 ti3 rfl rfl GA GB (t2isome 0 hO rfl zd CT GA GB)) rfl rfl ?_
      refine GoQ.stable rfl (t2Int 0 hO rfl zd CT GA GB Try.underlying3 rfl rfl) rfl rfl ?_
      obtain ⟨GC, H⟩ := H
      obtain ⟨GD, H⟩ := H
      replace af := af.ch oT.ch
      refine GoQ.pure rfl (op_index Try.underlying23 ti31 rfl rfl GC GD (af.some_ GC GD)) rfl rfl ?_
      have hobt := ldSl af GC GD
      obtain ⟨XC, XD, Bz, Pn⟩ := hobt
      refine GoQ.stable rfl (Pn Try.underlying31 rfl rfl) rfl rfl ?_
      refine GoQ.pure rfl (op_fieldAddr Try.underlying123 rfl ti31 rfl (by decide)) rfl rfl ?_
      refine GoQ.stable rfl (oblk (i := 5) 5 hO rfl rfl Try.underlying31 rfl rfl) rfl rfl ?_
      refine GoQ.pure rfl (op_move rfl) rfl rfl ?_
      obtain ⟨GE, H⟩ := H
      obtain ⟨GF, H⟩ := H
      replace aj := aj.ch oT.ch
      refine GoQ.pure rfl (op_index Try.underlying31 ti3 rfl rfl GE GF (aj.some_ GE GF)) rfl rfl ?_
      refine GoQ.stable rfl (ldInt aj GE GF Try.underlying3 rfl rfl) rfl rfl ?_
      obtain ⟨GG, H⟩ := H
      obtain ⟨GH, H⟩ := H
      refine GoQ.pure rfl (op_index Try.underlying31 ti3 rfl rfl GG GH (Bz.some_ GG GH)) rfl rfl ?_
      refine GoQ.stable rfl (ldInt Bz GG GH Try.underlying3 rfl rfl) rfl rfl ?_
      obtain ⟨GJ, H⟩ := H
      obtain ⟨GK, H⟩ := H
      refine GoQ.pure rfl (op_index Try.underlying31 ti3 rfl rfl GJ GK (t2isome 0 hO rfl CQ CR GJ GK)) rfl rfl ?_
      have hobt := t2st (r := Rp.int .i64) (hf := (Fl.int .i64)) rfl 0 hO rfl CQ CR GJ GK (v := .int .i64 (ix (ix r215.Right (ix (ix d_437 (k4_382 : Int)) (ix r215.Prefix (k5_436 : Int)))) (ix r215.Last (k5_436 : Int)))) (u := (ix (ix r215.Right (ix (ix d_437 (k4_382 : Int)) (ix r215.Prefix (k5_436 : Int)))) (ix r215.Last (k5_436 : Int)))) rfl rfl
      obtain ⟨XE, mr, KG⟩ := hobt
      dsimp only [sS, sZ] at mr
      refine GoQ.last rfl (KG Try.underlying3 rfl ti3 (by exact rfl) (by exact rfl)) rfl rfl ?_
      replace hO := mr.own
      refine GoQ.nil ?_
      refine Go1.inBlock ?_
      refine Go1.cut [(0, .pointer (some ⟨B21, 0, none⟩)), (2, .pointer (some ⟨B207, 0, none⟩)), (5, .pointer (some ⟨B223, 0, none⟩)), (7, .int .i64 (r215.Elems.length : Int)), (8, .pointer (some ⟨c5, 0, none⟩)), (10, .int .i64 (k4_382 : Int)), (12, .int .i64 (k5_436 : Int)), (86, .slice aw r215.Right.length ax), (87, .int .i64 (r215.Right.length : Int)), (88, .int .i64 (k4_382 : Int))] ⟨rfl, rfl, rfl, rfl, rfl, rfl, rfl, rfl, rfl, rfl, trivial⟩ ?_
      intro σ _
      refine zr (zm rfl ?_)
      replace ag := (ag.ch oT.ch).ch mr.ch
      refine zo (op_add rfl rfl (wrap_i64 (natbd CP ag.bd))) (za rfl (zn ?_))
      replace aa := aa.ch mr.ch
      replace aj := aj.ch mr.ch
      replace af := af.ch mr.ch
      have Z30 := oT.ch.trans mr.ch
      replace cT := cT.ch Z30
      replace bf := bf.ch Z30
      replace aT := aT.ch Z30
      replace aA := aA.ch Z30
      replace aW := aW.ch Z30
      replace am := am.ch Z30
      replace ai := ai.ch Z30
      replace hB := (hB.trans oT.fr).trans mr.fr
      exact hX5 _ H _ _ ⟨⟨rfl, rfl, rfl, rfl, rfl, rfl, rfl, rfl, rfl, rfl, trivial⟩, hO, cT, bf, aT, aA, aW, am, ag, aa, aj, af, ai, hB⟩
     replace H := ifn CP H
     refine zo (fun w => opB (op_lss rfl rfl w) (decide_eq_false CP)) (zn (zf rfl rfl ?_))
     refine Go1.exit rfl ?_
     refine Go1.inBlock ?_
     refine zr (zo (op_add rfl rfl (wrap_i64 (natbd AT af.bd))) (zm rfl (zn ?_)))
     have nh := Stp.front 9 hO rfl
     dsimp only [eS, eZ] at nh
     replace hO := nh.own
     have ni := Stp.front 9 hO rfl
     dsimp only [eS, eZ] at ni
     replace hO := ni.own
     have nj := Stp.front 9 hO rfl
     dsimp only [eS, eZ] at nj
     replace hO := nj.own
     have gO := Stp.front 9 hO rfl
     dsimp only [eS, eZ] at gO
     replace hO := gO.own
     have nk := Stp.front 9 hO rfl
     dsimp only [eS, eZ] at nk
     replace hO := nk.own
     have nm := Stp.front 9 hO rfl
     dsimp only [eS, eZ] at nm
     replace hO := nm.own
     have eF := Stp.front 6 hO rfl
     dsimp only [eS, eZ] at eF
     replace hO := eF.own
     have np := Stp.front 9 hO rfl
     dsimp only [eS, eZ] at np
     replace hO := np.own
     have nq := Stp.front 9 hO rfl
     dsimp only [eS, eZ] at nq
     replace hO := nq.own
     have nr := Stp.front 9 hO rfl
     dsimp only [eS, eZ] at nr
     replace hO := nr.own
     have Z31 := ((((((((nh.ch.trans ni.ch).trans nj.ch).trans gO.ch).trans nk.ch).trans nm.ch).trans eF.ch).trans np.ch).trans nq.ch).trans nr.ch
     replace cT := cT.ch Z31
     replace bf := bf.ch Z31
     replace aT := aT.ch Z31
     replace aA := aA.ch Z31
     replace aW := aW.ch Z31
     replace am := am.ch Z31
     replace ag := ag.ch Z31
     replace aa := aa.ch Z31
     replace aj := aj.ch Z31
     replace af := af.ch Z31
     replace ai := ai.ch Z31
     replace hB := (((((((((hB.trans nh.fr).trans ni.fr).trans nj.fr).trans gO.fr).trans nk.fr).trans nm.fr).trans eF.fr).trans np.fr).trans nq.fr).trans nr.fr
     exact hX4 _ H _ _ ⟨mX, hup dr (k4_382 : Int).toNat (tH, r215.Elems.length), ⟨rfl, rfl, rfl, rfl, rfl, rfl, rfl, rfl, trivial⟩, hO, cT, bf, aT, aA, aW, am, ag, aa, aj, af, ai, hB⟩
    replace H := ifn h400 H
    refine GoQ.stable rfl (fun w hw => opB ((oldBool 1 hO rfl cv xB xC Try.underlying4 rfl rfl) w hw) (Bool.eq_false_iff.2 h400)) rfl rfl ?_
    refine GoQ.pure rfl (op_move rfl) rfl rfl ?_
    refine GoQ.pure rfl (op_move rfl) rfl rfl ?_
    replace gi := gi.ch nf.ch
    refine GoQ.call rfl (op_call body102 rfl (walk_slices_Contains_int hO.lt gi H)) (fun v w hr => by obtain ⟨_, _, hs, _⟩ := hr; assumption) rfl rfl ?_
    rintro XF XG ⟨r475, rfl, Po, H⟩
    have eG := Stp.same hO Po
    replace hO := eG.own
    refine GoQ.pure rfl (op_pickF rfl rfl rfl) rfl rfl ?_
    obtain ⟨GL, H⟩ := H
    obtain ⟨GM, H⟩ := H
    replace cv := cv.ch eG.ch
    refine GoQ.pure rfl (op_index Try.underlying22 ti4 rfl rfl GL (ltn (cv.neq hO 1 rfl) GM) (cv.psome hO 1 rfl GL GM)) rfl rfl ?_
    have hobt := ost (r := Rp.bool) rfl 1 hO rfl cv GL GM (v := .bool r475) (u := r475) rfl rfl
    obtain ⟨XH, p9, ns, eQ, KH⟩ := hobt
    dsimp only [sS, sZ] at ns eQ
    refine GoQ.last rfl (KH Try.underlying4 rfl ti4 (by exact rfl) (by exact rfl)) rfl rfl ?_
    replace hO := ns.own
    refine GoQ.nil ?_
    refine zq ?_
    refine Go1.drawS 1 [(0, .pure), (1, .stable), (2, .pure), (3, .pure), (4, .loud), (5, .pure), (6, .last)] mixed (by kernel_rfl) ?_
    intro Q8 Pp
    have nt := Stp.same hO Pp
    replace hO := nt.own
    refine GoQ.pure rfl (op_fieldAddr Try.underlying33 rfl ti23 rfl (by decide)) rfl rfl ?_
    refine GoQ.stable rfl (oblk (i := 1) 0 hO rfl rfl Try.underlying23 rfl rfl) rfl rfl ?_
    refine GoQ.pure rfl (op_move rfl) rfl rfl ?_
    refine GoQ.pure rfl (op_move rfl) rfl rfl ?_
    obtain ⟨Sa, H⟩ := H
    obtain ⟨Sb, H⟩ := H
    have hobt := omake (n := (r215.Elems.length : Int)) (r := Rp.int .i64) (d := (0 : Int)) Try.underlying31 ti3 (fun _ _ => rfl) rfl hO Sa Sb (by decide)
    obtain ⟨I4, sW, Tq, nu, Ak, Pq, KI⟩ := hobt
    refine GoQ.loud rfl (KI rfl rfl) Pq rfl rfl ?_
    replace hO := nu.own
    obtain ⟨zh, H⟩ := H
    obtain ⟨GN, H⟩ := H
    refine GoQ.pure rfl (op_index Try.underlying23 ti31 rfl rfl zh (ltn (t2neq 4 hO rfl) GN) (t2some 4 hO rfl zh GN)) rfl rfl ?_
    have lK := Stp.front 4 hO rfl
    dsimp only [eS, eZ] at lK
    replace hO := lK.own
    have eh := Stp.front 1 hO rfl
    dsimp only [eS, eZ] at eh
    replace hO := eh.own
    replace Ak := (Ak.ch lK.ch).ch eh.ch
    have hobt := t2put (hf := (Fl.int .i64)) hO Ak zh GN
    obtain ⟨Ra, nw, KJ⟩ := hobt
    refine GoQ.last rfl (KJ Try.underlying31 rfl ti31 (by exact rfl) (by exact rfl)) rfl rfl ?_
    replace hO := nw.own
    refine GoQ.nil ?_
    refine zq (zr (zo (op_fieldAddr Try.underlying33 rfl ti23 rfl (by decide)) (zs (oblk (i := 1) 1 hO rfl rfl Try.underlying23 rfl rfl) (zm rfl ?_))))
    obtain ⟨CU, H⟩ := H
    obtain ⟨CV, H⟩ := H
    refine zo (op_index Try.underlying23 ti31 rfl rfl CU (ltn (t2neq 0 hO rfl) CV) (t2some 0 hO rfl CU CV)) (zs (t2head 0 hO rfl CU CV Try.underlying31 rfl rfl) (zm rfl ?_))
    obtain ⟨GO, H⟩ := H
    obtain ⟨GP, H⟩ := H
    refine zo (op_index Try.underlying31 ti3 rfl rfl GO GP (t2isome 0 hO rfl CU CV GO GP)) ?_
    have hobt := t2st (r := Rp.int .i64) (hf := (Fl.int .i64)) rfl 0 hO rfl CU CV GO GP (v := .int .i64 (k4_382 : Int)) (u := (k4_382 : Int)) rfl rfl
    obtain ⟨XJ, ms, KK⟩ := hobt
    dsimp only [sS, sZ] at ms
    refine zg (KK Try.underlying3 rfl ti3 (by exact rfl) (by exact rfl)) ?_
    replace hO := ms.own
    refine zn (zq ?_)
    refine Go1.cut [(0, .pointer (some ⟨B21, 0, none⟩)), (2, .pointer (some ⟨B207, 0, none⟩)), (5, .pointer (some ⟨B223, 0, none⟩)), (7, .int .i64 (r215.Elems.length : Int)), (8, .pointer (some ⟨c5, 0, none⟩)), (10, .int .i64 (k4_382 : Int)), (86, .slice aw r215.Right.length ax), (87, .int .i64 (r215.Right.length : Int)), (88, .int .i64 (k4_382 : Int))] ⟨rfl, rfl, rfl, rfl, rfl, rfl, rfl, rfl, rfl, trivial⟩ ?_
    intro σ _
    refine zr (za rfl (zn (zb ?_)))
    have Z32 := ((((nt.ch.trans nu.ch).trans lK.ch).trans eh.ch).trans nw.ch).trans ms.ch
    replace eQ := eQ.ch Z32
    have Z33 := (((((((nf.ch.trans eG.ch).trans ns.ch).trans nt.ch).trans nu.ch).trans lK.ch).trans eh.ch).trans nw.ch).trans ms.ch
    replace bf := bf.ch Z33
    replace aT := aT.ch Z33
    replace aA := aA.ch Z33
    replace aW := aW.ch Z33
    replace am := am.ch Z33
    replace ag := ag.ch Z33
    replace aa := aa.ch Z33
    replace aj := aj.ch Z33
    replace af := af.ch Z33
    replace ai := ai.ch Z33
    replace hB := ((((((((hB.trans nf.fr).trans eG.fr).trans ns.fr).trans nt.fr).trans nu.fr).trans lK.fr).trans eh.fr).trans nw.fr).trans ms.fr
    refine Go1.loopW (S := Nat × List (List Int)) (fun s σ w => match s with | (k6_516, d_517) => agrees σ [(0, .pointer (some ⟨B21, 0, none⟩)), (2, .pointer (some ⟨B207, 0, none⟩)), (5, .pointer (some ⟨B223, 0, none⟩)), (7, .int .i64 (r215.Elems.length : Int)), (8, .pointer (some ⟨c5, 0, none⟩)), (10, .int .i64 (k4_382 : Int)), (12, .int .i64 (k6_516 : Int)), (86, .slice aw r215.Right.length ax), (87, .int .i64 (r215.Right.length : Int)), (88, .int .i64 (k4_382 : Int))] ∧ (fun Z0 => Owns w0.heap.size w Z0 A ∧ Els (Rp.bool) (bl Z0 ++ A) w p9 (st d_383 (0 : Int) r475) ∧ Els (Rp.str) (bl Z0 ++ A) w cH d_343 ∧ Els (Rp.int .i64) (bl Z0 ++ A) w bx r262 ∧ Els (rppart) (bl Z0 ++ A) w cx ((([] : List part)) ++ ([(⟨((0 : Int) + r26.Start), r26.Final, (0 : Int)⟩ : part)])) ∧ ISl (Rp.sl (Rp.int .i64)) (bl Z0 ++ A) w p45 r26.Letters.toNat d_60 ∧ ISl (Rp.sl (Rp.int .i64)) (bl Z0 ++ A) w aM aN r215.Gens ∧ ISl (Rp.sl (Rp.int .i64)) (bl Z0 ++ A) w aB aC r215.Elems ∧ ISl (Rp.int .i64) (bl Z0 ++ A) w ay az r215.Prefix ∧ ISl (Rp.int .i64) (bl Z0 ++ A) w aO aP r215.Last ∧ ISl (Rp.sl (Rp.int .i64)) (bl Z0 ++ A) w aw ax r215.Right ∧ ISl (rpRule) (bl Z0 ++ A) w aG aH r215.Rules ∧ Fr (bl []) w0 (bl Z0) w) [t2 (Fl.int .i64) 31 3 (some ⟨bg, 0, none⟩) r215.Elems.length r215.Elems.length (hup dr (k4_382 : Int).toNat (sW, r215.Elems.length)) d_517, .blk c5 (.cells #[.int .i64 (d_60.length : Int), .slice (some ⟨bg, 0, none⟩) r215.Elems.length r215.Elems.length, .slice (some ⟨bi, 0, none⟩) r215.Elems.length r215.Elems.length, .slice aI aK aJ, .slice none 0 0, .slice (some ⟨bm, 0, none⟩) r215.Elems.length r215.Elems.length] 33 (0, 0)), .row 4 1 (some ⟨bm, 0, none⟩) r215.Elems.length r215.Elems.length p9, .row 9 1 (some ⟨bi, 0, none⟩) r215.Elems.length r215.Elems.length cH, .row 3 1 aI aK aJ bx, .blk B223 (.cells #[.int .i64 r215.Points, .bool r215.Monoid, .slice aM r215.Gens.length aN, .slice aB r215.Elems.length aC, .slice ay r215.Prefix.length az, .slice aO r215.Last.length aP, .slice aw r215.Right.length ax, .slice aG r215.Rules.length aH, .int .i64 r215.Done] 123 (0, 0)), .blk B207 (.cells #[.int .i64 (0 : Int), .slice none 0 0, .slice none 0 0, .slice none 0 0, .slice none 0 0, .slice none 0 0] 33 (0, 0)), .row 120 3 bO (0 + 1) bP cx, .blk B21 (.cells #[.slice p45 r26.Letters.toNat r26.Letters.toNat, .slice bO (0 + 1) bP, .int .i64 ((0 : Int) + (r26.Final.length : Int))] 83 (0, 0)), .blk B8 (.cells #[.int .i64 (0 : Int), .slice none 0 0, .slice none 0 0, .slice none 0 0, .slice none 0 0, .slice none 0 0] 33 (0, 0))]) H ⟨⟨rfl, rfl, rfl, rfl, rfl, rfl, rfl, rfl, rfl, rfl, trivial⟩, hO, eQ, bf, aT, aA, aW, am, ag, aa, aj, af, ai, hB⟩ ?_
    intro X6
    refine prE fun k6_516 => fun d_517 => ?_
    intro H hX6 σ XK
    refine andE fun hag => andE fun hO => andE fun eQ => andE fun bf => andE fun aT => andE fun aA => andE fun aW => andE fun am => andE fun ag => andE fun aa => andE fun aj => andE fun af => andE fun ai => fun hB => ?_
    dsimp only at H
    refine Go1.keep [(0, .pointer (some ⟨B21, 0, none⟩)), (2, .pointer (some ⟨B207, 0, none⟩)), (5, .pointer (some ⟨B223, 0, none⟩)), (7, .int .i64 (r215.Elems.length : Int)), (8, .pointer (some ⟨c5, 0, none⟩)), (10, .int .i64 (k4_382 : Int)), (12, .int .i64 (k6_516 : Int)), (86, .slice aw r215.Right.length ax), (87, .int .i64 (r215.Right.length : Int)), (88, .int .i64 (k4_382 : Int))] hag ?_
    refine zq (zq (zr (zm rfl (zm rfl ?_))))
    by_cases CW : (k6_516 : Int) < (r215.Elems.length : Int)
    ·replace H := ifp CW H
     refine zo (fun w => opB (op_lss rfl rfl w) (decide_eq_true CW)) (zn (zt rfl rfl (zk (zq (zb ?_)))))
     refine Go1.drawS 1 [(0, .pure), (1, .stable), (2, .pure), (3, .pure), (4, .stable), (5, .pure), (6, .pure), (7, .stable), (8, .pure), (9, .stable), (10, .pure), (11, .pure), (12, .stable), (13, .pure), (14, .stable), (15, .pure), (16, .pure), (17, .stable), (18, .pure), (19, .stable), (20, .pure), (21, .stable), (22, .pure), (23, .stable), (24, .pure), (25, .pure), (26, .stable), (27, .pure), (28, .stable), (29, .pure), (30, .last)] mixed (by kernel_rfl) ?_
     intro XL Ht
     have oU := Stp.same hO Ht
     replace hO := oU.own
     refine GoQ.pure rfl (op_fieldAddr Try.underlying33 rfl ti23 rfl (by decide)) rfl rfl ?_
     refine GoQ.stable rfl (oblk (i := 1) 1 hO rfl rfl Try.underlying23 rfl rfl) rfl rfl ?_
     refine GoQ.pure rfl (op_move rfl) rfl rfl ?_
     obtain ⟨CX, H⟩ := H
     obtain ⟨C0, H⟩ := H
     refine GoQ.pure rfl (op_index Try.underlying23 ti31 rfl rfl CX (ltn (t2neq 0 hO rfl) C0) (t2some 0 hO rfl CX C0)) rfl rfl ?_
     refine GoQ.stable rfl (t2head 0 hO rfl CX C0 Try.underlying31 rfl rfl) rfl rfl ?_
     refine GoQ.pure rfl (op_move rfl) rfl rfl ?_
     refine GoQ.pure rfl (op_fieldAddr Try.underlying123 rfl ti23 rfl (by decide)) rfl rfl ?_
     refine GoQ.stable rfl (oblk (i := 6) 5 hO rfl rfl Try.underlying23 rfl rfl) rfl rfl ?_
     refine GoQ.pure rfl (op_fieldAddr Try.underlying33 rfl ti23 rfl (by decide)) rfl rfl ?_
     refine GoQ.stable rfl (oblk (i := 1) 1 hO rfl rfl Try.underlying23 rfl rfl) rfl rfl ?_
     refine GoQ.pure rfl (op_move rfl) rfl rfl ?_
     obtain ⟨C1, H⟩ := H
     obtain ⟨C2, H⟩ := H
     refine GoQ.pure rfl (op_index Try.underlying23 ti31 rfl rfl C1 (ltn (t2neq 0 hO rfl) C2) (t2some 0 hO rfl C1 C2)) rfl rfl ?_
     refine GoQ.stable rfl (t2head 0 hO rfl C1 C2 Try.underlying31 rfl rfl) rfl rfl ?_
     refine GoQ.pure rfl (op_fieldAddr Try.underlying123 rfl ti31 rfl (by decide)) rfl rfl ?_
     refine GoQ.stable rfl (oblk (i := 4) 5 hO rfl rfl Try.underlying31 rfl rfl) rfl rfl ?_
     refine GoQ.pure rfl (op_move rfl) rfl rfl ?_
     obtain ⟨GQ, H⟩ := H
     obtain ⟨GR, H⟩ := H
     replace aa := aa.ch oU.ch
     refine GoQ.pure rfl (op_index Try.underlying31 ti3 rfl rfl GQ GR (aa.some_ GQ GR)) rfl rfl ?_
     refine GoQ.stable rfl (ldInt aa GQ GR Try.underlying3 rfl rfl) rfl rfl ?_
     obtain ⟨GT, H⟩ := H
     obtain ⟨Cp, H⟩ := H
     refine GoQ.pure rfl (op_index Try.underlying31 ti3 rfl rfl GT Cp (t2isome 0 hO rfl C1 C2 GT Cp)) rfl rfl ?_
     refine GoQ.stable rfl (t2Int 0 hO rfl C1 C2 GT Cp Try.underlying3 rfl rfl) rfl rfl ?_
     obtain ⟨GU, H⟩ := H
     obtain ⟨GW, H⟩ := H
     replace af := af.ch oU.ch
     refine GoQ.pure rfl (op_index Try.underlying23 ti31 rfl rfl GU GW (af.some_ GU GW)) rfl rfl ?_
     have hobt := ldSl af GU GW
     obtain ⟨XM, XN, BA, Pr⟩ := hobt
     refine GoQ.stable rfl (Pr Try.underlying31 rfl rfl) rfl rfl ?_
     refine GoQ.pure rfl (op_fieldAddr Try.underlying123 rfl ti31 rfl (by decide)) rfl rfl ?_
     refine GoQ.stable rfl (oblk (i := 5) 5 hO rfl rfl Try.underlying31 rfl rfl) rfl rfl ?_
     refine GoQ.pure rfl (op_move rfl) rfl rfl ?_
     obtain ⟨GX, H⟩ := H
     obtain ⟨GY, H⟩ := H
     replace aj := aj.ch oU.ch
     refine GoQ.pure rfl (op_index Try.underlying31 ti3 rfl rfl GX GY (aj.some_ GX GY)) rfl rfl ?_
     refine GoQ.stable rfl (ldInt aj GX GY Try.underlying3 rfl rfl) rfl rfl ?_
     obtain ⟨G0, H⟩ := H
     obtain ⟨G1, H⟩ := H
     refine GoQ.pure rfl (op_index Try.underlying31 ti3 rfl rfl G0 G1 (BA.some_ G0 G1)) rfl rfl ?_
     refine GoQ.stable rfl (ldInt BA G0 G1 Try.underlying3 rfl rfl) rfl rfl ?_
     obtain ⟨G3, H⟩ := H
     obtain ⟨G4, H⟩ := H
     refine GoQ.pure rfl (op_index Try.underlying31 ti3 rfl rfl G3 G4 (t2isome 0 hO rfl CX C0 G3 G4)) rfl rfl ?_
     have hobt := t2st (r := Rp.int .i64) (hf := (Fl.int .i64)) rfl 0 hO rfl CX C0 G3 G4 (v := .int .i64 (ix (ix r215.Right (ix (ix d_517 (k4_382 : Int)) (ix r215.Prefix (k6_516 : Int)))) (ix r215.Last (k6_516 : Int)))) (u := (ix (ix r215.Right (ix (ix d_517 (k4_382 : Int)) (ix r215.Prefix (k6_516 : Int)))) (ix r215.Last (k6_516 : Int)))) rfl rfl
     obtain ⟨XO, mt, KL⟩ := hobt
     dsimp only [sS, sZ] at mt
     refine GoQ.last rfl (KL Try.underlying3 rfl ti3 (by exact rfl) (by exact rfl)) rfl rfl ?_
     replace hO := mt.own
     refine GoQ.nil ?_
     refine Go1.inBlock ?_
     refine Go1.cut [(0, .pointer (some ⟨B21, 0, none⟩)), (2, .pointer (some ⟨B207, 0, none⟩)), (5, .pointer (some ⟨B223, 0, none⟩)), (7, .int .i64 (r215.Elems.length : Int)), (8, .pointer (some ⟨c5, 0, none⟩)), (10, .int .i64 (k4_382 : Int)), (12, .int .i64 (k6_516 : Int)), (86, .slice aw r215.Right.length ax), (87, .int .i64 (r215.Right.length : Int)), (88, .int .i64 (k4_382 : Int))] ⟨rfl, rfl, rfl, rfl, rfl, rfl, rfl, rfl, rfl, rfl, trivial⟩ ?_
     intro σ _
     refine zr (zm rfl ?_)
     replace ag := (ag.ch oU.ch).ch mt.ch
     refine zo (op_add rfl rfl (wrap_i64 (natbd CW ag.bd))) (za rfl (zn ?_))
     replace aa := aa.ch mt.ch
     replace aj := aj.ch mt.ch
     replace af := af.ch mt.ch
     have Z34 := oU.ch.trans mt.ch
     replace eQ := eQ.ch Z34
     replace bf := bf.ch Z34
     replace aT := aT.ch Z34
     replace aA := aA.ch Z34
     replace aW := aW.ch Z34
     replace am := am.ch Z34
     replace ai := ai.ch Z34
     replace hB := (hB.trans oU.fr).trans mt.fr
     exact hX6 _ H _ _ ⟨⟨rfl, rfl, rfl, rfl, rfl, rfl, rfl, rfl, rfl, rfl, trivial⟩, hO, eQ, bf, aT, aA, aW, am, ag, aa, aj, af, ai, hB⟩
    replace H := ifn CW H
    refine zo (fun w => opB (op_lss rfl rfl w) (decide_eq_false CW)) (zn (zf rfl rfl ?_))
    refine Go1.exit rfl ?_
    refine Go1.inBlock ?_
    refine zr (zo (op_add rfl rfl (wrap_i64 (natbd AT af.bd))) (zm rfl (zn ?_)))
    have fx := Stp.front 9 hO rfl
    dsimp only [eS, eZ] at fx
    replace hO := fx.own
    have ny := Stp.front 9 hO rfl
    dsimp only [eS, eZ] at ny
    replace hO := ny.own
    have nA := Stp.front 9 hO rfl
    dsimp only [eS, eZ] at nA
    replace hO := nA.own
    have nB := Stp.front 9 hO rfl
    dsimp only [eS, eZ] at nB
    replace hO := nB.own
    have nC := Stp.front 9 hO rfl
    dsimp only [eS, eZ] at nC
    replace hO := nC.own
    have nE := Stp.front 9 hO rfl
    dsimp only [eS, eZ] at nE
    replace hO := nE.own
    have nF := Stp.front 6 hO rfl
    dsimp only [eS, eZ] at nF
    replace hO := nF.own
    have nG := Stp.front 9 hO rfl
    dsimp only [eS, eZ] at nG
    replace hO := nG.own
    have nH := Stp.front 9 hO rfl
    dsimp only [eS, eZ] at nH
    replace hO := nH.own
    have nI := Stp.front 9 hO rfl
    dsimp only [eS, eZ] at nI
    replace hO := nI.own
    have Z35 := ((((((((fx.ch.trans ny.ch).trans nA.ch).trans nB.ch).trans nC.ch).trans nE.ch).trans nF.ch).trans nG.ch).trans nH.ch).trans nI.ch
    replace eQ := eQ.ch Z35
    replace bf := bf.ch Z35
    replace aT := aT.ch Z35
    replace aA := aA.ch Z35
    replace aW := aW.ch Z35
    replace am := am.ch Z35
    replace ag := ag.ch Z35
    replace aa := aa.ch Z35
    replace aj := aj.ch Z35
    replace af := af.ch Z35
    replace ai := ai.ch Z35
    replace hB := (((((((((hB.trans fx.fr).trans ny.fr).trans nA.fr).trans nB.fr).trans nC.fr).trans nE.fr).trans nF.fr).trans nG.fr).trans nH.fr).trans nI.fr
    exact hX4 _ H _ _ ⟨p9, hup dr (k4_382 : Int).toNat (sW, r215.Elems.length), ⟨rfl, rfl, rfl, rfl, rfl, rfl, rfl, rfl, trivial⟩, hO, eQ, bf, aT, aA, aW, am, ag, aa, aj, af, ai, hB⟩
   replace H := ifn AT H
   refine zo (fun w => opB (op_lss rfl rfl w) (decide_eq_false AT)) (zn (zq (zf rfl rfl ?_)))
   refine Go1.exit rfl ?_
   refine zq (zr (zm rfl (zo (op_nilCheck rfl) (zo (op_fieldAddr Try.underlying83 rfl ti81 rfl (by decide)) (zs (oblk (i := 1) 8 hO rfl rfl Try.underlying81 rfl rfl) ?_)))))
   refine zo (op_lenN Try.underlying81 rfl (aA.neq hO 7 rfl)) ?_
   obtain ⟨Sc, H⟩ := H
   obtain ⟨Sd, H⟩ := H
   have hobt := t2makeS (m := (((([] : List part)) ++ ([(⟨((0 : Int) + r26.Start), r26.Final, (0 : Int)⟩ : part)])).length : Int)) (e' := 4) Fl.bool Try.underlying40 ti22 hO Sc Sd (by decide)
   obtain ⟨XP, iU, oV, Ts, KM, hz565⟩ := hobt
   refine zg (KM rfl rfl) ?_
   replace hO := oV.own
   refine za rfl (zn (zq (zq (zr (zm rfl ?_)))))
   refine zo (op_nilCheck rfl) (zo (op_fieldAddr Try.underlying83 rfl ti81 rfl (by decide)) (zs (oblk (i := 1) 9 hO rfl rfl Try.underlying81 rfl rfl) ?_))
   replace aA := aA.ch oV.ch
   refine zo (op_lenN Try.underlying81 rfl (aA.neq hO 8 rfl)) (zm rfl (zn (zb ?_)))
   replace hO := hO.drop 9
   replace aA := aA.ch (Owns.dropCh _ _ 9)
   have Z36 := oV.ch.trans (Owns.dropCh _ _ 9)
   replace cv := cv.ch Z36
   replace bf := bf.ch Z36
   replace aT := aT.ch Z36
   replace aW := aW.ch Z36
   replace am := am.ch Z36
   replace ag := ag.ch Z36
   replace aa := aa.ch Z36
   replace aj := aj.ch Z36
   replace af := af.ch Z36
   replace ai := ai.ch Z36
   replace hB := (hB.trans oV.fr).trans (Owns.dropFr _ _ 9)
   dsimp only [eS, eZ] at hB hO aW am ag aa aj af ai cv bf aT aA
   refine Go1.loopW (S := Nat × List (List Bool)) (fun s σ w => match s with | (k7_567, d_568) => ∃ (eU : Hd), agrees σ [(2, .pointer (some ⟨B207, 0, none⟩)), (5, .pointer (some ⟨B223, 0, none⟩)), (7, .int .i64 (r215.Elems.length : Int)), (8, .pointer (some ⟨c5, 0, none⟩)), (13, .slice iU (((([] : List part)) ++ ([(⟨((0 : Int) + r26.Start), r26.Final, (0 : Int)⟩ : part)])).length) (((([] : List part)) ++ ([(⟨((0 : Int) + r26.Start), r26.Final, (0 : Int)⟩ : part)])).length)), (162, .slice bO (0 + 1) bP), (163, .int .i64 (((([] : List part)) ++ ([(⟨((0 : Int) + r26.Start), r26.Final, (0 : Int)⟩ : part)])).length : Int)), (164, .int .i64 (k7_567 : Int))] ∧ (fun Z0 => Owns w0.heap.size w Z0 A ∧ Els (Rp.bool) (bl Z0 ++ A) w eI d_383 ∧ Els (Rp.str) (bl Z0 ++ A) w cH d_343 ∧ Els (Rp.int .i64) (bl Z0 ++ A) w bx r262 ∧ Els (rppart) (bl Z0 ++ A) w cx ((([] : List part)) ++ ([(⟨((0 : Int) + r26.Start), r26.Final, (0 : Int)⟩ : part)])) ∧ ISl (Rp.sl (Rp.int .i64)) (bl Z0 ++ A) w aM aN r215.Gens ∧ ISl (Rp.sl (Rp.int .i64)) (bl Z0 ++ A) w aB aC r215.Elems ∧ ISl (Rp.int .i64) (bl Z0 ++ A) w ay az r215.Prefix ∧ ISl (Rp.int .i64) (bl Z0 ++ A) w aO aP r215.Last ∧ ISl (Rp.sl (Rp.int .i64)) (bl Z0 ++ A) w aw ax r215.Right ∧ ISl (rpRule) (bl Z0 ++ A) w aG aH r215.Rules ∧ Fr (bl []) w0 (bl Z0) w) [t2 Fl.bool 22 4 iU (((([] : List part)) ++ ([(⟨((0 : Int) + r26.Start), r26.Final, (0 : Int)⟩ : part)])).length) (((([] : List part)) ++ ([(⟨((0 : Int) + r26.Start), r26.Final, (0 : Int)⟩ : part)])).length) eU d_568, .blk c5 (.cells #[.int .i64 (d_60.length : Int), .slice (some ⟨bg, 0, none⟩) r215.Elems.length r215.Elems.length, .slice (some ⟨bi, 0, none⟩) r215.Elems.length r215.Elems.length, .slice aI aK aJ, .slice none 0 0, .slice (some ⟨bm, 0, none⟩) r215.Elems.length r215.Elems.length] 33 (0, 0)), .row 4 1 (some ⟨bm, 0, none⟩) r215.Elems.length r215.Elems.length eI, .row 9 1 (some ⟨bi, 0, none⟩) r215.Elems.length r215.Elems.length cH, t2 (Fl.int .i64) 31 3 (some ⟨bg, 0, none⟩) r215.Elems.length r215.Elems.length dr d_386, .row 3 1 aI aK aJ bx, .blk B223 (.cells #[.int .i64 r215.Points, .bool r215.Monoid, .slice aM r215.Gens.length aN, .slice aB r215.Elems.length aC, .slice ay r215.Prefix.length az, .slice aO r215.Last.length aP, .slice aw r215.Right.length ax, .slice aG r215.Rules.length aH, .int .i64 r215.Done] 123 (0, 0)), .blk B207 (.cells #[.int .i64 (0 : Int), .slice none 0 0, .slice none 0 0, .slice none 0 0, .slice none 0 0, .slice none 0 0] 33 (0, 0)), .row 120 3 bO (0 + 1) bP cx, .blk B8 (.cells #[.int .i64 (0 : Int), .slice none 0 0, .slice none 0 0, .slice none 0 0, .slice none 0 0, .slice none 0 0] 33 (0, 0))]) H ⟨(fun _ => (none, 0)), ⟨rfl, rfl, rfl, rfl, rfl, rfl, rfl, rfl, trivial⟩, hO, cv, bf, aT, aA, am, ag, aa, aj, af, ai, hB⟩ ?_
   intro X7
   refine prE fun k7_567 => fun d_568 => ?_
   intro H hX7 σ XQ
   refine exE fun eU => andE fun hag => andE fun hO => andE fun cv => andE fun bf => andE fun aT => andE fun aA => andE fun am => andE fun ag => andE fun aa => andE fun aj => andE fun af => andE fun ai => fun hB => ?_
   dsimp only at H
   refine Go1.keep [(2, .pointer (some ⟨B207, 0, none⟩)), (5, .pointer (some ⟨B223, 0, none⟩)), (7, .int .i64 (r215.Elems.length : Int)), (8, .pointer (some ⟨c5, 0, none⟩)), (13, .slice iU (((([] : List part)) ++ ([(⟨((0 : Int) + r26.Start), r26.Final, (0 : Int)⟩ : part)])).length) (((([] : List part)) ++ ([(⟨((0 : Int) + r26.Start), r26.Final, (0 : Int)⟩ : part)])).length)), (162, .slice bO (0 + 1) bP), (163, .int .i64 (((([] : List part)) ++ ([(⟨((0 : Int) + r26.Start), r26.Final, (0 : Int)⟩ : part)])).length : Int)), (164, .int .i64 (k7_567 : Int))] hag ?_
   refine zq (zr ?_)
   by_cases C3 : (k7_567 : Int) < (((([] : List part)) ++ ([(⟨((0 : Int) + r26.Start), r26.Final, (0 : Int)⟩ : part)])).length : Int)
   ·replace H := ifp C3 H
    refine zo (fun w => opB (op_lss rfl rfl w) (decide_eq_true C3)) (zn (zq (zt rfl rfl (zk (zq ?_)))))
    refine zb (zq (zr (zm rfl ?_)))
    obtain ⟨G5, H⟩ := H
    obtain ⟨G6, H⟩ := H
    refine zo (op_index Try.underlying81 ti120 rfl rfl G5 (ltn (aA.neq hO 8 rfl) G6) (aA.psome hO 8 rfl G5 G6)) ?_
    have Ps := oldAggR 8 hO rfl (r := rppart) aA G5 G6
    obtain ⟨Tt, Pt, hR576, KN⟩ := Ps
    replace hR576 := rppart_inv Pt hR576
    obtain ⟨rR, rS, hcs578, iN⟩ := hR576
    subst hcs578
    refine zs (KN Try.underlying120 rfl ti120 rfl) ?_
    have hobt := oalloc (t := 120) (cs := #[.int .i64 (0 : Int), .slice none 0 0, .int .i64 (0 : Int)]) ti120 hO rfl
    obtain ⟨XR, B583, oW, Tu, KO⟩ := hobt
    refine GoR.op KO rfl rfl ?_
    replace hO := oW.own
    refine za rfl ?_
    have hobt := oblkStAgg (us := [.int .i64 ((ix ((([] : List part)) ++ ([(⟨((0 : Int) + r26.Start), r26.Final, (0 : Int)⟩ : part)])) (k7_567 : Int)).start), .slice rR (((ix ((([] : List part)) ++ ([(⟨((0 : Int) + r26.Start), r26.Final, (0 : Int)⟩ : part)])) (k7_567 : Int)).final).length) rS, .int .i64 ((ix ((([] : List part)) ++ ([(⟨((0 : Int) + r26.Start), r26.Final, (0 : Int)⟩ : part)])) (k7_567 : Int)).shift)]) (o := 0) (cs' := #[.int .i64 ((ix ((([] : List part)) ++ ([(⟨((0 : Int) + r26.Start), r26.Final, (0 : Int)⟩ : part)])) (k7_567 : Int)).start), .slice rR (((ix ((([] : List part)) ++ ([(⟨((0 : Int) + r26.Start), r26.Final, (0 : Int)⟩ : part)])) (k7_567 : Int)).final).length) rS, .int .i64 ((ix ((([] : List part)) ++ ([(⟨((0 : Int) + r26.Start), r26.Final, (0 : Int)⟩ : part)])) (k7_567 : Int)).shift)]) 0 hO rfl rfl (Nat.le_of_ble_eq_true rfl) rfl
    obtain ⟨XS, nJ, KP⟩ := hobt
    dsimp only [sS, sZ] at nJ
    refine zg (KP ti120 (by exact rfl) (by exact rfl) rfl) ?_
    replace hO := nJ.own
    refine zn (zq (zr (zm rfl (zm rfl (zm rfl ?_)))))
    obtain ⟨Se, H⟩ := H
    obtain ⟨FG, H⟩ := H
    have hobt := omake (n := (r215.Elems.length : Int)) (r := Rp.bool) (d := false) Try.underlying22 ti4 (fun _ _ => rfl) rfl hO Se FG (by decide)
    obtain ⟨XT, tI, Tv, oX, Al, Tw, KQ⟩ := hobt
    refine zg (KQ rfl rfl) ?_
    replace hO := oX.own
    obtain ⟨Cq, H⟩ := H
    obtain ⟨G7, H⟩ := H
    refine zo (op_index Try.underlying40 ti22 rfl rfl Cq (ltn (t2neq 2 hO rfl) G7) (t2some 2 hO rfl Cq G7)) ?_
    have mv := Stp.front 2 hO rfl
    dsimp only [eS, eZ] at mv
    replace hO := mv.own
    have gj := Stp.front 1 hO rfl
    dsimp only [eS, eZ] at gj
    replace hO := gj.own
    replace Al := (Al.ch mv.ch).ch gj.ch
    have hobt := t2put (hf := Fl.bool) hO Al Cq G7
    obtain ⟨XU, oY, KR⟩ := hobt
    refine zg (KR Try.underlying22 rfl ti22 (by exact rfl) (by exact rfl)) ?_
    replace hO := oY.own
    refine zn (zq (zr (zo (op_fieldAddr Try.underlying123 rfl ti23 rfl (by decide)) (zs (oblk (i := 3) 7 hO rfl rfl Try.underlying23 rfl rfl) (zo (op_len Try.underlying23 rfl) ?_)))))
    refine zm rfl (zn (zb ?_))
    have Z37 := ((((oW.ch.trans nJ.ch).trans oX.ch).trans mv.ch).trans gj.ch).trans oY.ch
    replace cv := cv.ch Z37
    replace bf := bf.ch Z37
    replace aT := aT.ch Z37
    replace aA := aA.ch Z37
    replace am := am.ch Z37
    replace ag := ag.ch Z37
    replace aa := aa.ch Z37
    replace aj := aj.ch Z37
    replace af := af.ch Z37
    replace ai := ai.ch Z37
    replace iN := iN.ch Z37
    replace hB := (((((hB.trans oW.fr).trans nJ.fr).trans oX.fr).trans mv.fr).trans gj.fr).trans oY.fr
    refine Go1.loopW (S := Nat × List (List Bool)) (fun s σ w => match s with | (k8_609, d_610) => agrees σ [(2, .pointer (some ⟨B207, 0, none⟩)), (5, .pointer (some ⟨B223, 0, none⟩)), (7, .int .i64 (r215.Elems.length : Int)), (8, .pointer (some ⟨c5, 0, none⟩)), (13, .slice iU (((([] : List part)) ++ ([(⟨((0 : Int) + r26.Start), r26.Final, (0 : Int)⟩ : part)])).length) (((([] : List part)) ++ ([(⟨((0 : Int) + r26.Start), r26.Final, (0 : Int)⟩ : part)])).length)), (14, .int .i64 (k7_567 : Int)), (15, .pointer (some ⟨B583, 0, none⟩)), (162, .slice bO (0 + 1) bP), (163, .int .i64 (((([] : List part)) ++ ([(⟨((0 : Int) + r26.Start), r26.Final, (0 : Int)⟩ : part)])).length : Int)), (164, .int .i64 (k7_567 : Int)), (175, .slice aB r215.Elems.length aC), (176, .int .i64 (r215.Elems.length : Int)), (177, .int .i64 (k8_609 : Int))] ∧ (fun Z0 => Owns w0.heap.size w Z0 A ∧ Els (Rp.bool) (bl Z0 ++ A) w eI d_383 ∧ Els (Rp.str) (bl Z0 ++ A) w cH d_343 ∧ Els (Rp.int .i64) (bl Z0 ++ A) w bx r262 ∧ Els (rppart) (bl Z0 ++ A) w cx ((([] : List part)) ++ ([(⟨((0 : Int) + r26.Start), r26.Final, (0 : Int)⟩ : part)])) ∧ ISl (Rp.sl (Rp.int .i64)) (bl Z0 ++ A) w aM aN r215.Gens ∧ ISl (Rp.sl (Rp.int .i64)) (bl Z0 ++ A) w aB aC r215.Elems ∧ ISl (Rp.int .i64) (bl Z0 ++ A) w ay az r215.Prefix ∧ ISl (Rp.int .i64) (bl Z0 ++ A) w aO aP r215.Last ∧ ISl (Rp.sl (Rp.int .i64)) (bl Z0 ++ A) w aw ax r215.Right ∧ ISl (rpRule) (bl Z0 ++ A) w aG aH r215.Rules ∧ ISl (Rp.bool) (bl Z0 ++ A) w rR rS ((ix ((([] : List part)) ++ ([(⟨((0 : Int) + r26.Start), r26.Final, (0 : Int)⟩ : part)])) (k7_567 : Int)).final) ∧ Fr (bl []) w0 (bl Z0) w) [t2 Fl.bool 22 4 iU (((([] : List part)) ++ ([(⟨((0 : Int) + r26.Start), r26.Final, (0 : Int)⟩ : part)])).length) (((([] : List part)) ++ ([(⟨((0 : Int) + r26.Start), r26.Final, (0 : Int)⟩ : part)])).length) (hup eU (k7_567 : Int).toNat (tI, r215.Elems.length)) d_610, .blk B583 (.cells #[.int .i64 ((ix ((([] : List part)) ++ ([(⟨((0 : Int) + r26.Start), r26.Final, (0 : Int)⟩ : part)])) (k7_567 : Int)).start), .slice rR (((ix ((([] : List part)) ++ ([(⟨((0 : Int) + r26.Start), r26.Final, (0 : Int)⟩ : part)])) (k7_567 : Int)).final).length) rS, .int .i64 ((ix ((([] : List part)) ++ ([(⟨((0 : Int) + r26.Start), r26.Final, (0 : Int)⟩ : part)])) (k7_567 : Int)).shift)] 120 (0, 0)), .blk c5 (.cells #[.int .i64 (d_60.length : Int), .slice (some ⟨bg, 0, none⟩) r215.Elems.length r215.Elems.length, .slice (some ⟨bi, 0, none⟩) r215.Elems.length r215.Elems.length, .slice aI aK aJ, .slice none 0 0, .slice (some ⟨bm, 0, none⟩) r215.Elems.length r215.Elems.length] 33 (0, 0)), .row 4 1 (some ⟨bm, 0, none⟩) r215.Elems.length r215.Elems.length eI, .row 9 1 (some ⟨bi, 0, none⟩) r215.Elems.length r215.Elems.length cH, t2 (Fl.int .i64) 31 3 (some ⟨bg, 0, none⟩) r215.Elems.length r215.Elems.length dr d_386, .row 3 1 aI aK aJ bx, .blk B223 (.cells #[.int .i64 r215.Points, .bool r215.Monoid, .slice aM r215.Gens.length aN, .slice aB r215.Elems.length aC, .slice ay r215.Prefix.length az, .slice aO r215.Last.length aP, .slice aw r215.Right.length ax, .slice aG r215.Rules.length aH, .int .i64 r215.Done] 123 (0, 0)), .blk B207 (.cells #[.int .i64 (0 : Int), .slice none 0 0, .slice none 0 0, .slice none 0 0, .slice none 0 0, .slice none 0 0] 33 (0, 0)), .row 120 3 bO (0 + 1) bP cx, .blk B8 (.cells #[.int .i64 (0 : Int), .slice none 0 0, .slice none 0 0, .slice none 0 0, .slice none 0 0, .slice none 0 0] 33 (0, 0))]) H ⟨⟨rfl, rfl, rfl, rfl, rfl, rfl, rfl, rfl, rfl, rfl, rfl, rfl, rfl, trivial⟩, hO, cv, bf, aT, aA, am, ag, aa, aj, af, ai, iN, hB⟩ ?_
    intro X8
    refine prE fun k8_609 => fun d_610 => ?_
    intro H hX8 σ XV
    refine andE fun hag => andE fun hO => andE fun cv => andE fun bf => andE fun aT => andE fun aA => andE fun am => andE fun ag => andE fun aa => andE fun aj => andE fun af => andE fun ai => andE fun iN => fun hB => ?_
    dsimp only at H
    refine Go1.keep [(2, .pointer (some ⟨B207, 0, none⟩)), (5, .pointer (some ⟨B223, 0, none⟩)), (7, .int .i64 (r215.Elems.length : Int)), (8, .pointer (some ⟨c5, 0, none⟩)), (13, .slice iU (((([] : List part)) ++ ([(⟨((0 : Int) + r26.Start), r26.Final, (0 : Int)⟩ : part)])).length) (((([] : List part)) ++ ([(⟨((0 : Int) + r26.Start), r26.Final, (0 : Int)⟩ : part)])).length)), (14, .int .i64 (k7_567 : Int)), (15, .pointer (some ⟨B583, 0, none⟩)), (162, .slice bO (0 + 1) bP), (163, .int .i64 (((([] : List part)) ++ ([(⟨((0 : Int) + r26.Start), r26.Final, (0 : Int)⟩ : part)])).length : Int)), (164, .int .i64 (k7_567 : Int)), (175, .slice aB r215.Elems.length aC), (176, .int .i64 (r215.Elems.length : Int)), (177, .int .i64 (k8_609 : Int))] hag ?_
    refine zq (zr ?_)
    by_cases wz : (k8_609 : Int) < (r215.Elems.length : Int)
    ·replace H := ifp wz H
     refine zo (fun w => opB (op_lss rfl rfl w) (decide_eq_true wz)) (zn (zq (zt rfl rfl (zk (zq ?_)))))
     refine zb (zq (zr (zm rfl ?_)))
     obtain ⟨G8, H⟩ := H
     obtain ⟨G9, H⟩ := H
     refine zo (op_index Try.underlying23 ti31 rfl rfl G8 G9 (ag.some_ G8 G9)) ?_
     have hobt := ldSl ag G8 G9
     obtain ⟨XW, XX, xv, Pu⟩ := hobt
     refine zs (Pu Try.underlying31 rfl rfl) (za rfl (za rfl (zn ?_)))
     refine Go1.drawS 1 [(0, .pure), (1, .pure), (2, .pure), (3, .stable), (4, .pure), (5, .stable), (6, .pure), (7, .loud), (8, .pure), (9, .last)] mixed (by kernel_rfl) ?_
     intro Re Pv
     have gs := Stp.same hO Pv
     replace hO := gs.own
     refine GoQ.pure rfl (op_move rfl) rfl rfl ?_
     refine GoQ.pure rfl (op_move rfl) rfl rfl ?_
     obtain ⟨C4, H⟩ := H
     obtain ⟨C5, H⟩ := H
     refine GoQ.pure rfl (op_index Try.underlying40 ti22 rfl rfl C4 (ltn (t2neq 0 hO rfl) C5) (t2some 0 hO rfl C4 C5)) rfl rfl ?_
     refine GoQ.stable rfl (t2head 0 hO rfl C4 C5 Try.underlying22 rfl rfl) rfl rfl ?_
     refine GoQ.pure rfl (op_move rfl) rfl rfl ?_
     refine GoQ.stable rfl (oblkAgg (vs := [.int .i64 ((ix ((([] : List part)) ++ ([(⟨((0 : Int) + r26.Start), r26.Final, (0 : Int)⟩ : part)])) (k7_567 : Int)).start), .slice rR (((ix ((([] : List part)) ++ ([(⟨((0 : Int) + r26.Start), r26.Final, (0 : Int)⟩ : part)])) (k7_567 : Int)).final).length) rS, .int .i64 ((ix ((([] : List part)) ++ ([(⟨((0 : Int) + r26.Start), r26.Final, (0 : Int)⟩ : part)])) (k7_567 : Int)).shift)]) (i := 0) 1 hO rfl rfl Try.underlying120 rfl ti120 rfl) rfl rfl ?_
     refine GoQ.pure rfl (op_move rfl) rfl rfl ?_
     replace iN := iN.ch gs.ch
     replace xv := xv.ch gs.ch
     refine GoQ.call rfl (op_call body103 rfl (walk_syntactic_part_accept (p := (⟨((ix ((([] : List part)) ++ ([(⟨((0 : Int) + r26.Start), r26.Final, (0 : Int)⟩ : part)])) (k7_567 : Int)).start), (ix ((([] : List part)) ++ ([(⟨((0 : Int) + r26.Start), r26.Final, (0 : Int)⟩ : part)])) (k7_567 : Int)).final, ((ix ((([] : List part)) ++ ([(⟨((0 : Int) + r26.Start), r26.Final, (0 : Int)⟩ : part)])) (k7_567 : Int)).shift)⟩ : part)) hO.lt iN xv H)) (fun v w hr => by obtain ⟨_, _, hs, _⟩ := hr; assumption) rfl rfl ?_
     rintro XY X0 ⟨r623, rfl, Pw, H⟩
     have nK := Stp.same hO Pw
     replace hO := nK.own
     obtain ⟨Ha, H⟩ := H
     obtain ⟨Hb, H⟩ := H
     refine GoQ.pure rfl (op_index Try.underlying22 ti4 rfl rfl Ha Hb (t2isome 0 hO rfl C4 C5 Ha Hb)) rfl rfl ?_
     have hobt := t2st (r := Rp.bool) (hf := Fl.bool) rfl 0 hO rfl C4 C5 Ha Hb (v := .bool r623) (u := r623) rfl rfl
     obtain ⟨Ya, mw, KS⟩ := hobt
     dsimp only [sS, sZ] at mw
     refine GoQ.last rfl (KS Try.underlying4 rfl ti4 (by exact rfl) (by exact rfl)) rfl rfl ?_
     replace hO := mw.own
     refine GoQ.nil ?_
     refine Go1.inBlock ?_
     refine zr ?_
     have Z38 := (gs.ch.trans nK.ch).trans mw.ch
     replace ag := ag.ch Z38
     refine zo (op_add rfl rfl (wrap_i64 (natbd wz ag.bd))) (zm rfl (zn ?_))
     replace iN := (iN.ch nK.ch).ch mw.ch
     replace cv := cv.ch Z38
     replace bf := bf.ch Z38
     replace aT := aT.ch Z38
     replace aA := aA.ch Z38
     replace am := am.ch Z38
     replace aa := aa.ch Z38
     replace aj := aj.ch Z38
     replace af := af.ch Z38
     replace ai := ai.ch Z38
     replace hB := ((hB.trans gs.fr).trans nK.fr).trans mw.fr
     exact hX8 _ H _ _ ⟨⟨rfl, rfl, rfl, rfl, rfl, rfl, rfl, rfl, rfl, rfl, rfl, rfl, rfl, trivial⟩, hO, cv, bf, aT, aA, am, ag, aa, aj, af, ai, iN, hB⟩
    replace H := ifn wz H
    refine zo (fun w => opB (op_lss rfl rfl w) (decide_eq_false wz)) (zn (zq (zf rfl rfl ?_)))
    refine Go1.exit rfl ?_
    refine Go1.inBlock ?_
    refine zr (zo (op_add rfl rfl (wrap_i64 (natbd C3 aA.bd))) (zm rfl (zn ?_)))
    replace hO := hO.drop 1
    replace am := am.ch (Owns.dropCh _ _ 1)
    replace ag := ag.ch (Owns.dropCh _ _ 1)
    replace aa := aa.ch (Owns.dropCh _ _ 1)
    replace aj := aj.ch (Owns.dropCh _ _ 1)
    replace af := af.ch (Owns.dropCh _ _ 1)
    replace ai := ai.ch (Owns.dropCh _ _ 1)
    replace iN := iN.ch (Owns.dropCh _ _ 1)
    replace cv := cv.ch (Owns.dropCh _ _ 1)
    replace bf := bf.ch (Owns.dropCh _ _ 1)
    replace aT := aT.ch (Owns.dropCh _ _ 1)
    replace aA := aA.ch (Owns.dropCh _ _ 1)
    replace hB := hB.trans (Owns.dropFr _ _ 1)
    dsimp only [eS, eZ] at hB hO am ag aa aj af ai iN cv bf aT aA
    exact hX7 _ H _ _ ⟨hup eU (k7_567 : Int).toNat (tI, r215.Elems.length), ⟨rfl, rfl, rfl, rfl, rfl, rfl, rfl, rfl, trivial⟩, hO, cv, bf, aT, aA, am, ag, aa, aj, af, ai, hB⟩
   replace H := ifn C3 H
   refine zo (fun w => opB (op_lss rfl rfl w) (decide_eq_false C3)) (zn (zq (zf rfl rfl ?_)))
   refine Go1.exit rfl ?_
   refine zq ?_
   refine Go1.cut [(2, .pointer (some ⟨B207, 0, none⟩)), (8, .pointer (some ⟨c5, 0, none⟩)), (13, .slice iU (((([] : List part)) ++ ([(⟨((0 : Int) + r26.Start), r26.Final, (0 : Int)⟩ : part)])).length) (((([] : List part)) ++ ([(⟨((0 : Int) + r26.Start), r26.Final, (0 : Int)⟩ : part)])).length))] ⟨rfl, rfl, rfl, trivial⟩ ?_
   intro σ _
   refine zr (zs (oblkAgg (vs := [.int .i64 (d_60.length : Int), .slice (some ⟨bg, 0, none⟩) r215.Elems.length r215.Elems.length, .slice (some ⟨bi, 0, none⟩) r215.Elems.length r215.Elems.length, .slice aI aK aJ, .slice none 0 0, .slice (some ⟨bm, 0, none⟩) r215.Elems.length r215.Elems.length]) (i := 0) 1 hO rfl rfl Try.underlying33 rfl ti33 rfl) (zm rfl ?_))
   have hobt := oblkStAgg (us := [.int .i64 (d_60.length : Int), .slice (some ⟨bg, 0, none⟩) r215.Elems.length r215.Elems.length, .slice (some ⟨bi, 0, none⟩) r215.Elems.length r215.Elems.length, .slice aI aK aJ, .slice none 0 0, .slice (some ⟨bm, 0, none⟩) r215.Elems.length r215.Elems.length]) (o := 0) (cs' := #[.int .i64 (d_60.length : Int), .slice (some ⟨bg, 0, none⟩) r215.Elems.length r215.Elems.length, .slice (some ⟨bi, 0, none⟩) r215.Elems.length r215.Elems.length, .slice aI aK aJ, .slice none 0 0, .slice (some ⟨bm, 0, none⟩) r215.Elems.length r215.Elems.length]) 7 hO rfl rfl (Nat.le_of_ble_eq_true rfl) rfl
   obtain ⟨Yb, o3, KT⟩ := hobt
   dsimp only [sS, sZ] at o3
   refine zg (KT ti33 (by exact rfl) (by exact rfl) rfl) ?_
   replace hO := o3.own
   refine za rfl (za rfl (zn ?_))
   refine Go1.retC3V Try.func63 rfl rfl (run_loadBlk (vs := [.int .i64 (d_60.length : Int), .slice (some ⟨bg, 0, none⟩) r215.Elems.length r215.Elems.length, .slice (some ⟨bi, 0, none⟩) r215.Elems.length r215.Elems.length, .slice aI aK aJ, .slice none 0 0, .slice (some ⟨bm, 0, none⟩) r215.Elems.length r215.Elems.length]) 7 hO rfl rfl Try.underlying33 rfl ti33) (show _ = .slice iU (((([] : List part)) ++ ([(⟨((0 : Int) + r26.Start), r26.Final, (0 : Int)⟩ : part)])).length) (((([] : List part)) ++ ([(⟨((0 : Int) + r26.Start), r26.Final, (0 : Int)⟩ : part)])).length) from rfl) (show _ = .int .i64 (0 : Int) from rfl) ?_
   refine hR205 _ _ ?_
   refine zm rfl (zo (op_extract rfl rfl) (zo (op_extract rfl rfl) (zo (op_extract rfl rfl) ?_)))
   have hobt := oalloc (t := 33) (cs := #[.int .i64 (0 : Int), .slice none 0 0, .slice none 0 0, .slice none 0 0, .slice none 0 0, .slice none 0 0]) ti33 hO rfl
   obtain ⟨Rg, B638, qP, Tx, KU⟩ := hobt
   refine GoR.op KU rfl rfl ?_
   replace hO := qP.own
   have hobt := oblkStAgg (us := [.int .i64 (d_60.length : Int), .slice (some ⟨bg, 0, none⟩) r215.Elems.length r215.Elems.length, .slice (some ⟨bi, 0, none⟩) r215.Elems.length r215.Elems.length, .slice aI aK aJ, .slice none 0 0, .slice (some ⟨bm, 0, none⟩) r215.Elems.length r215.Elems.length]) (o := 0) (cs' := #[.int .i64 (d_60.length : Int), .slice (some ⟨bg, 0, none⟩) r215.Elems.length r215.Elems.length, .slice (some ⟨bi, 0, none⟩) r215.Elems.length r215.Elems.length, .slice aI aK aJ, .slice none 0 0, .slice (some ⟨bm, 0, none⟩) r215.Elems.length r215.Elems.length]) 0 hO rfl rfl (Nat.le_of_ble_eq_true rfl) rfl
   obtain ⟨Yc, o4, Cr⟩ := hobt
   dsimp only [sS, sZ] at o4
   refine zg (Cr ti33 (by exact rfl) (by exact rfl) rfl) ?_
   replace hO := o4.own
   refine za rfl (za rfl (zn (zq (zq (zr ?_)))))
   refine zm rfl (zo (fun w => opB (op_neq rfl rfl w) (ndT (by decide))) (zn (zf rfl rfl (zk (zq ?_)))))
   refine zr (zm rfl ?_)
   obtain ⟨Ez, H⟩ := H
   obtain ⟨EA, H⟩ := H
   refine zo (op_index Try.underlying40 ti22 rfl rfl Ez (ltn (t2neq 1 hO rfl) EA) (t2some 1 hO rfl Ez EA)) (zs (t2head 1 hO rfl Ez EA Try.underlying22 rfl rfl) (zo (op_fieldAddr Try.underlying33 rfl ti22 rfl (by decide)) ?_))
   have hobt := oblkSt2 (v := .slice (eU (0 : Int).toNat).1 ((ix d_568 (0 : Int)).length) (eU (0 : Int).toNat).2) (i := 4) (cs' := #[.int .i64 (d_60.length : Int), .slice (some ⟨bg, 0, none⟩) r215.Elems.length r215.Elems.length, .slice (some ⟨bi, 0, none⟩) r215.Elems.length r215.Elems.length, .slice aI aK aJ, .slice (eU (0 : Int).toNat).1 ((ix d_568 (0 : Int)).length) (eU (0 : Int).toNat).2, .slice (some ⟨bm, 0, none⟩) r215.Elems.length r215.Elems.length]) 0 hO rfl rfl rfl rfl
   obtain ⟨Yd, o5, KV⟩ := hobt
   dsimp only [sS, sZ] at o5
   refine zg (KV Try.underlying22 rfl ti22 (by exact rfl) (by exact rfl)) ?_
   replace hO := o5.own
   refine zn (zq ?_)
   refine Go1.cut [(2, .pointer (some ⟨B8, 0, none⟩)), (7, .pointer (some ⟨B638, 0, none⟩))] ⟨rfl, rfl, trivial⟩ ?_
   intro σ _
   refine zr (zs (oblkAgg (vs := [.int .i64 (d_60.length : Int), .slice (some ⟨bg, 0, none⟩) r215.Elems.length r215.Elems.length, .slice (some ⟨bi, 0, none⟩) r215.Elems.length r215.Elems.length, .slice aI aK aJ, .slice (eU (0 : Int).toNat).1 ((ix d_568 (0 : Int)).length) (eU (0 : Int).toNat).2, .slice (some ⟨bm, 0, none⟩) r215.Elems.length r215.Elems.length]) (i := 0) 0 hO rfl rfl Try.underlying33 rfl ti33 rfl) ?_)
   have hobt := oblkStAgg (us := [.int .i64 (d_60.length : Int), .slice (some ⟨bg, 0, none⟩) r215.Elems.length r215.Elems.length, .slice (some ⟨bi, 0, none⟩) r215.Elems.length r215.Elems.length, .slice aI aK aJ, .slice (eU (0 : Int).toNat).1 ((ix d_568 (0 : Int)).length) (eU (0 : Int).toNat).2, .slice (some ⟨bm, 0, none⟩) r215.Elems.length r215.Elems.length]) (o := 0) (cs' := #[.int .i64 (d_60.length : Int), .slice (some ⟨bg, 0, none⟩) r215.Elems.length r215.Elems.length, .slice (some ⟨bi, 0, none⟩) r215.Elems.length r215.Elems.length, .slice aI aK aJ, .slice (eU (0 : Int).toNat).1 ((ix d_568 (0 : Int)).length) (eU (0 : Int).toNat).2, .slice (some ⟨bm, 0, none⟩) r215.Elems.length r215.Elems.length]) 10 hO rfl rfl (Nat.le_of_ble_eq_true rfl) rfl
   obtain ⟨Ri, o6, KW⟩ := hobt
   dsimp only [sS, sZ] at o6
   refine zg (KW ti33 (by exact rfl) (by exact rfl) rfl) ?_
   replace hO := o6.own
   refine za rfl (zn ?_)
   have hobt := t2freezeA 5 hO rfl
   obtain ⟨hO1, tJ, um, Px⟩ := hobt
   dsimp only [eS, eZ] at hO1 tJ um
   replace hB := (((((hB.trans o3.fr).trans qP.fr).trans o4.fr).trans o5.fr).trans o6.fr).trans (Owns.dropFr _ _ 5)
   dsimp only [eS, eZ] at hB
   replace hO := hO1; clear hO1
   have Z39 := ((((o3.ch.trans qP.ch).trans o4.ch).trans o5.ch).trans o6.ch).trans tJ
   replace bf := bf.ch Z39
   have hobt := freeze 4 hO rfl bf
   obtain ⟨hO1, tK, wi, Py⟩ := hobt
   dsimp only [eS, eZ] at hO1 tK wi
   replace hB := hB.trans (Owns.dropFr _ _ 4)
   dsimp only [eS, eZ] at hB
   replace hO := hO1; clear hO1
   replace aT := (aT.ch Z39).ch tK
   have hobt := freeze 4 hO rfl aT
   obtain ⟨hO1, tL, yv, Pz⟩ := hobt
   dsimp only [eS, eZ] at hO1 tL yv
   replace hB := hB.trans (Owns.dropFr _ _ 4)
   dsimp only [eS, eZ] at hB
   replace hO := hO1; clear hO1
   have EB := t2lendIn 1 hO rfl Ez EA
   have hobt := t2freezeA 1 hO rfl
   obtain ⟨hO1, sU, EC, Ty⟩ := hobt
   dsimp only [eS, eZ] at hO1 sU EC
   replace hB := hB.trans (Owns.dropFr _ _ 1)
   dsimp only [eS, eZ] at hB
   replace hO := hO1; clear hO1
   have Z40 := ((Z39.trans tK).trans tL).trans sU
   replace cv := cv.ch Z40
   have hobt := freeze 2 hO rfl cv
   obtain ⟨hO1, sd, HK, PA⟩ := hobt
   dsimp only [eS, eZ] at hO1 sd HK
   replace hB := hB.trans (Owns.dropFr _ _ 2)
   dsimp only [eS, eZ] at hB
   replace hO := hO1; clear hO1
   refine Go1.retC2 Try.func19 rfl rfl (run_loadBlk (vs := [.int .i64 (d_60.length : Int), .slice (some ⟨bg, 0, none⟩) r215.Elems.length r215.Elems.length, .slice (some ⟨bi, 0, none⟩) r215.Elems.length r215.Elems.length, .slice aI aK aJ, .slice (eU (0 : Int).toNat).1 ((ix d_568 (0 : Int)).length) (eU (0 : Int).toNat).2, .slice (some ⟨bm, 0, none⟩) r215.Elems.length r215.Elems.length]) 5 hO rfl rfl Try.underlying33 rfl ti33) ?_
   replace EB := EB.ch sd
   replace yv := (yv.ch sU).ch sd
   have Z41 := (tL.trans sU).trans sd
   replace wi := wi.ch Z41
   have Z42 := ((tK.trans tL).trans sU).trans sd
   replace um := um.ch Z42
   exact ⟨(⟨(d_60.length : Int), d_386, d_343, r262, (ix d_568 (0 : Int)), d_383⟩ : Syntactic), (0 : Int), (some ⟨bg, 0, none⟩), r215.Elems.length, (some ⟨bi, 0, none⟩), r215.Elems.length, aI, aJ, (eU (0 : Int).toNat).1, (eU (0 : Int).toNat).2, (some ⟨bm, 0, none⟩), r215.Elems.length, (congrArg (fun l => Value.tuple (List.toArray l)) (cons_eq (congrArg (fun l => Value.agg (List.toArray l)) (cons_eq rfl (cons_eq (congrArg (fun nn => Value.slice (some ⟨bg, 0, none⟩) nn r215.Elems.length) Px) (cons_eq (congrArg (fun nn => Value.slice (some ⟨bi, 0, none⟩) nn r215.Elems.length) Py) (cons_eq (congrArg (fun nn => Value.slice aI nn aJ) Pz) (cons_eq rfl (cons_eq (congrArg (fun nn => Value.slice (some ⟨bm, 0, none⟩) nn r215.Elems.length) PA) rfl))))))) (cons_eq rfl rfl))), hB.same, (um.ch (Ch.weak _ _ _)), (wi.ch (Ch.weak _ _ _)), (yv.ch (Ch.weak _ _ _)), (EB.ch (Ch.weak _ _ _)), (HK.ch (Ch.weak _ _ _)), H⟩
  replace H := ifn xo H
  refine zo (fun w => opB (op_neq rfl rfl w) (ndF xo)) (zn (zt rfl rfl (zq (zr (zo (op_build Try.underlying33 ti33 (pl := [(0, 1), (1, 1), (2, 1), (3, 1), (4, 1), (5, 1)]) (vs := []) (cs := #[.int .i64 (0 : Int), .slice none 0 0, .slice none 0 0, .slice none 0 0, .slice none 0 0, .slice none 0 0]) (by kernel_rfl) rfl (by kernel_rfl)) ?_)))))
  refine zm rfl ?_
  have hobt := oblkStAgg (us := [.int .i64 (0 : Int), .slice none 0 0, .slice none 0 0, .slice none 0 0, .slice none 0 0, .slice none 0 0]) (o := 0) (cs' := #[.int .i64 (0 : Int), .slice none 0 0, .slice none 0 0, .slice none 0 0, .slice none 0 0, .slice none 0 0]) 1 hO rfl rfl (Nat.le_of_ble_eq_true rfl) rfl
  obtain ⟨Ye, nM, KX⟩ := hobt
  dsimp only [sS, sZ] at nM
  refine zg (KX ti33 (by exact rfl) (by exact rfl) rfl) ?_
  replace hO := nM.own
  refine za rfl (za rfl (zn ?_))
  refine Go1.retC3V Try.func63 rfl rfl (run_loadBlk (vs := [.int .i64 (0 : Int), .slice none 0 0, .slice none 0 0, .slice none 0 0, .slice none 0 0, .slice none 0 0]) 1 hO rfl rfl Try.underlying33 rfl ti33) (show _ = .slice none 0 0 from rfl) (show _ = .int .i64 r216 from rfl) ?_
  refine hR205 _ _ ?_
  refine zm rfl (zo (op_extract rfl rfl) (zo (op_extract rfl rfl) (zo (op_extract rfl rfl) ?_)))
  have hobt := oalloc (t := 33) (cs := #[.int .i64 (0 : Int), .slice none 0 0, .slice none 0 0, .slice none 0 0, .slice none 0 0, .slice none 0 0]) ti33 hO rfl
  obtain ⟨Yf, B674, o7, Tz, KY⟩ := hobt
  refine GoR.op KY rfl rfl ?_
  replace hO := o7.own
  have hobt := oblkStAgg (us := [.int .i64 (0 : Int), .slice none 0 0, .slice none 0 0, .slice none 0 0, .slice none 0 0, .slice none 0 0]) (o := 0) (cs' := #[.int .i64 (0 : Int), .slice none 0 0, .slice none 0 0, .slice none 0 0, .slice none 0 0, .slice none 0 0]) 0 hO rfl rfl (Nat.le_of_ble_eq_true rfl) rfl
  obtain ⟨Yg, nN, K1⟩ := hobt
  dsimp only [sS, sZ] at nN
  refine zg (K1 ti33 (by exact rfl) (by exact rfl) rfl) ?_
  replace hO := nN.own
  refine za rfl (za rfl (zn (zq (zq (zr ?_)))))
  refine zm rfl (zo (fun w => opB (op_neq rfl rfl w) (ndF xo)) (zn (zt rfl rfl (zq (zr ?_)))))
  refine zo (op_build Try.underlying33 ti33 (pl := [(0, 1), (1, 1), (2, 1), (3, 1), (4, 1), (5, 1)]) (vs := []) (cs := #[.int .i64 (0 : Int), .slice none 0 0, .slice none 0 0, .slice none 0 0, .slice none 0 0, .slice none 0 0]) (by kernel_rfl) rfl (by kernel_rfl)) (zm rfl ?_)
  have hobt := oblkStAgg (us := [.int .i64 (0 : Int), .slice none 0 0, .slice none 0 0, .slice none 0 0, .slice none 0 0, .slice none 0 0]) (o := 0) (cs' := #[.int .i64 (0 : Int), .slice none 0 0, .slice none 0 0, .slice none 0 0, .slice none 0 0, .slice none 0 0]) 6 hO rfl rfl (Nat.le_of_ble_eq_true rfl) rfl
  obtain ⟨Yh, nO, K2⟩ := hobt
  dsimp only [sS, sZ] at nO
  refine zg (K2 ti33 (by exact rfl) (by exact rfl) rfl) ?_
  replace hO := nO.own
  refine za rfl (zn ?_)
  refine Go1.retC2 Try.func19 rfl rfl (run_loadBlk (vs := [.int .i64 (0 : Int), .slice none 0 0, .slice none 0 0, .slice none 0 0, .slice none 0 0, .slice none 0 0]) 6 hO rfl rfl Try.underlying33 rfl ti33) ?_
  replace hB := ((((((hB.trans vL.fr).trans oQ.fr).trans m6.fr).trans nM.fr).trans o7.fr).trans nN.fr).trans nO.fr
  exact ⟨(⟨(0 : Int), ([] : List (List Int)), ([] : List Str), ([] : List Int), ([] : List Bool), ([] : List Bool)⟩ : Syntactic), r216, none, 0, none, 0, none, 0, none, 0, none, 0, rfl, hB.same, (ISl.null _ _ _), (ISl.null _ _ _), (ISl.null _ _ _), (ISl.null _ _ _), (ISl.null _ _ _), H⟩
 replace H := ifn h19 H
 refine zo (fun w => opB (op_neq rfl rfl w) (ndF h19)) (zn (zt rfl rfl (zq ?_)))
 refine Go1.cut [(2, .pointer (some ⟨B8, 0, none⟩)), (4, .int .i64 r13)] ⟨rfl, rfl, trivial⟩ ?_
 intro σ _
 refine zr (zo (op_build Try.underlying33 ti33 (pl := [(0, 1), (1, 1), (2, 1), (3, 1), (4, 1), (5, 1)]) (vs := []) (cs := #[.int .i64 (0 : Int), .slice none 0 0, .slice none 0 0, .slice none 0 0, .slice none 0 0, .slice none 0 0]) (by kernel_rfl) rfl (by kernel_rfl)) (zm rfl ?_))
 have hobt := oblkStAgg (us := [.int .i64 (0 : Int), .slice none 0 0, .slice none 0 0, .slice none 0 0, .slice none 0 0, .slice none 0 0]) (o := 0) (cs' := #[.int .i64 (0 : Int), .slice none 0 0, .slice none 0 0, .slice none 0 0, .slice none 0 0, .slice none 0 0]) 0 hO rfl rfl (Nat.le_of_ble_eq_true rfl) rfl
 obtain ⟨Yi, Am, K3⟩ := hobt
 refine zg (K3 ti33 (by exact rfl) (by exact rfl) rfl) ?_
 replace hO := Am.own
 refine za rfl (zn ?_)
 refine Go1.retC2 Try.func19 rfl rfl (run_loadBlk (vs := [.int .i64 (0 : Int), .slice none 0 0, .slice none 0 0, .slice none 0 0, .slice none 0 0, .slice none 0 0]) 0 hO rfl rfl Try.underlying33 rfl ti33) ?_
 replace hB := (((hB.trans dG.fr).trans gr.fr).trans ji.fr).trans Am.fr
 exact ⟨(⟨(0 : Int), ([] : List (List Int)), ([] : List Str), ([] : List Int), ([] : List Bool), ([] : List Bool)⟩ : Syntactic), r13, none, 0, none, 0, none, 0, none, 0, none, 0, rfl, hB.same, (ISl.null _ _ _), (ISl.null _ _ _), (ISl.null _ _ _), (ISl.null _ _ _), (ISl.null _ _ _), H⟩
end Sg
