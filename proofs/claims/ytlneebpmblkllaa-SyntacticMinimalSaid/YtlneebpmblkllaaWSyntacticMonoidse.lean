/- -/
import Derived.Test.YtlneebpmblkllaaTi
import Derived.Test.YtlneebpmblkllaaWSyntacticMonoids
import Derived.Test.YtlneebpmblkllaaWSyntacticMonoidsb
import Derived.Test.YtlneebpmblkllaaWSyntacticMonoidsd
import Derived.Test.YtlneebpmblkllaaAl
namespace Sg
open Go Go.RowKit Go.Proofs
set_option linter.unusedVariables false
set_option linter.unusedSimpArgs false
set_option maxRecDepth 100000
set_option maxHeartbeats 4000000
theorem body63 : Body Try.prog 63 := ⟨Try.f63, Try.func63, rfl, by kernel_rfl⟩
theorem body62 : Body Try.prog 62 := ⟨Try.f62, Try.func62, rfl, by kernel_rfl⟩
theorem body19 : Body Try.prog 19 := ⟨Try.f19, Try.func19, rfl, by kernel_rfl⟩
theorem walk_syntactic_Of {A : List Nat} {w0 : World} {aU : Option Addr} {aV : Nat} {aX : Option Addr} {aY : Nat} {d : DFA} (hA : ∀ b ∈ A, b < w0.heap.size) (ah : ISl (Rp.bool) A w0 aU aV d.Final) (ak : ISl (Rp.sl (Rp.int .i64)) A w0 aX aY d.Next) {K : Syntactic → Int → Prop} (H : syntactic_Of d K) :
    CallsV Try.prog 19 #[.agg #[.int .i64 d.Letters, .int .i64 d.Start, .slice aU d.Final.length aV, .slice aX d.Next.length aY]] w0 (fun v w' => ∃ (r0 : Syntactic), ∃ (r1 : Int), ∃ (Ag : Option Addr), ∃ (Ah : Nat), ∃ (Ai : Option Addr), ∃ (Aj : Nat), ∃ (yF : Option Addr), ∃ (yG : Nat), ∃ (yH : Option Addr), ∃ (yI : Nat), ∃ (A8 : Option Addr), ∃ (A9 : Nat), v = .tuple #[.agg #[.int .i64 r0.Letters, .slice Ag r0.Table.length Ah, .slice Ai r0.Words.length Aj, .slice yF r0.Images.length yG, .slice yH r0.Accept.length yI, .slice A8 r0.Plus.length A9], .int .i64 r1] ∧ Same w0 w' ∧ ISl (Rp.sl (Rp.int .i64)) A w' Ag Ah r0.Table ∧ ISl (Rp.str) A w' Ai Aj r0.Words ∧ ISl (Rp.int .i64) A w' yF yG r0.Images ∧ ISl (Rp.bool) A w' yH yI r0.Accept ∧ ISl (Rp.bool) A w' A8 A9 r0.Plus ∧ K r0 r1) := by
 refine CallsV.of (l := [.agg #[.int .i64 d.Letters, .int .i64 d.Start, .slice aU d.Final.length aV, .slice aX d.Next.length aY]]) Try.func19 rfl Try.ntmps19 rfl ?_
 have hO := Owns.start hA
 have hB := Fr.refl (bl []) w0
 unfold syntactic_Of at H
 refine zq (zr ?_)
 have hobt := obox (t := 25) (v := .agg #[.int .i64 d.Letters, .int .i64 d.Start, .slice aU d.Final.length aV, .slice aX d.Next.length aY]) (cs := #[.int .i64 d.Letters, .int .i64 d.Start, .slice aU d.Final.length aV, .slice aX d.Next.length aY]) hO rfl
 obtain ⟨w1, B2, dG, hs4, lb⟩ := hobt
 refine zg (lb rfl) ?_
 replace hO := dG.own
 have hobt := oalloc (t := 33) (cs := #[.int .i64 (0 : Int), .slice none 0 0, .slice none 0 0, .slice none 0 0, .slice none 0 0, .slice none 0 0]) ti33 hO rfl
 obtain ⟨w7, B8, gr, xa, tn⟩ := hobt
 refine GoR.op tn rfl rfl ?_
 replace hO := gr.own
 refine za rfl (zn (zq (zq ?_)))
 refine Go1.cut [(1, .pointer (some ⟨B2, 0, none⟩)), (2, .pointer (some ⟨B8, 0, none⟩))] ⟨rfl, rfl, trivial⟩ ?_
 intro σ _
 refine zr (zs (oblkAgg (vs := [.int .i64 d.Letters, .int .i64 d.Start, .slice aU d.Final.length aV, .slice aX d.Next.length aY]) (i := 0) 1 hO rfl rfl Try.underlying25 rfl ti25 rfl) ?_)
 have Z1 := ((Ch.start A w0).trans dG.ch).trans gr.ch
 replace ah := ah.ch Z1
 replace ak := ak.ch Z1
 refine GoR.call (op_call body61 rfl (walk_dfa_Validate (d := d) hO.lt ah ak H)) rfl rfl ?_
 rintro v17 w14 ⟨r13, rfl, yN, H⟩
 have ji := Stp.same hO yN
 replace hO := ji.own
 refine za rfl (zn (zq (zr (zm rfl ?_))))
 by_cases h19 : r13 = (0 : Int)
 ·replace H := ifp h19 H
  refine zo (fun w => opB (op_neq rfl rfl w) (ndT h19)) (zn (zf rfl rfl (zk (zq (zr ?_)))))
  have hobt := oalloc (t := 83) (cs := #[.slice none 0 0, .slice none 0 0, .int .i64 (0 : Int)]) ti83 hO rfl
  obtain ⟨w20, B21, mO, Fo, zO⟩ := hobt
  refine GoR.op zO rfl rfl ?_
  replace hO := mO.own
  refine zn (zq (zq (zr (zs (oblkAgg (vs := [.int .i64 d.Letters, .int .i64 d.Start, .slice aU d.Final.length aV, .slice aX d.Next.length aY]) (i := 0) 2 hO rfl rfl Try.underlying25 rfl ti25 rfl) ?_))))
  have Z2 := ji.ch.trans mO.ch
  replace ah := ah.ch Z2
  replace ak := ak.ch Z2
  refine GoR.call (op_call body22 rfl (walk_minimize_Minimal (d := d) hO.lt ah ak H)) rfl rfl ?_
  rintro v30 w27 ⟨r26, dx, dy, d6, d7, rfl, BH, ap, ar, H⟩
  have m8 := Stp.same hO BH
  replace hO := m8.own
  refine GoR.inl (vs := [.pointer (some ⟨B21, 0, none⟩), .agg #[.int .i64 r26.Letters, .int .i64 r26.Start, .slice dx r26.Final.length dy, .slice d6 r26.Next.length d7]]) (caps := []) rfl rfl body62 Try.func62 rfl Try.ntmps62 rfl rfl rfl ?_
  intro RhR32 hR32
  refine zq (zr ?_)
  have hobt := obox (t := 25) (v := .agg #[.int .i64 r26.Letters, .int .i64 r26.Start, .slice dx r26.Final.length dy, .slice d6 r26.Next.length d7]) (cs := #[.int .i64 r26.Letters, .int .i64 r26.Start, .slice dx r26.Final.length dy, .slice d6 r26.Next.length d7]) hO rfl
  obtain ⟨w33, B34, yr, Kr, O5⟩ := hobt
  refine zg (O5 rfl) ?_
  replace hO := yr.own
  refine za rfl (zn (zq (zr (zo (op_fieldAddr Try.underlying25 rfl ti22 rfl (by decide)) (zs (oblk (i := 2) 0 hO rfl rfl Try.underlying22 rfl rfl) ?_)))))
  refine zo (op_len Try.underlying22 rfl) ?_
  replace ap := ap.ch yr.ch
  replace H := H ap.bd
  refine za rfl (zn (zq (zq (zr (zm rfl ?_)))))
  refine zo (op_nilCheck rfl) (zo (op_fieldAddr Try.underlying83 rfl ti3 rfl (by decide)) (zs (oblk (i := 2) 1 hO rfl rfl Try.underlying3 rfl rfl) (zm rfl ?_)))
  obtain ⟨h39, H⟩ := H
  refine zo (op_add rfl rfl (wrap_i64 h39)) ?_
  by_cases h40 : (32 : Int) < ((0 : Int) + (r26.Final.length : Int))
  ·replace H := ifp h40 H
   refine zo (fun w => opB (op_gtr rfl rfl w) (decide_eq_true h40)) (zn (zt rfl rfl (zq ?_)))
   refine Go1.cut [] trivial ?_
   intro σ _
   refine zr (za rfl (zn ?_))
   refine Go1.ret1V Try.func62 rfl (show _ = .int .i64 (3 : Int) from rfl) ?_
   refine hR32 _ _ ?_
   refine za rfl (zn (zq (zr (zm rfl (zo (fun w => opB (op_neq rfl rfl w) (ndF (by decide))) ?_)))))
   refine zn (zt rfl rfl (zq (zr (zo (op_build Try.underlying33 ti33 (pl := [(0, 1), (1, 1), (2, 1), (3, 1), (4, 1), (5, 1)]) (vs := []) (cs := #[.int .i64 (0 : Int), .slice none 0 0, .slice none 0 0, .slice none 0 0, .slice none 0 0, .slice none 0 0]) (by kernel_rfl) rfl (by kernel_rfl)) (zm rfl ?_)))))
   have hobt := oblkStAgg (us := [.int .i64 (0 : Int), .slice none 0 0, .slice none 0 0, .slice none 0 0, .slice none 0 0, .slice none 0 0]) (o := 0) (cs' := #[.int .i64 (0 : Int), .slice none 0 0, .slice none 0 0, .slice none 0 0, .slice none 0 0, .slice none 0 0]) 2 hO rfl rfl (Nat.le_of_ble_eq_true rfl) rfl
   obtain ⟨w41, pp, zL⟩ := hobt
   refine zg (zL ti33 (by exact rfl) (by exact rfl) rfl) ?_
   replace hO := pp.own
   refine za rfl (zn ?_)
   refine Go1.retC2 Try.func19 rfl rfl (run_loadBlk (vs := [.int .i64 (0 : Int), .slice none 0 0, .slice none 0 0, .slice none 0 0, .slice none 0 0, .slice none 0 0]) 2 hO rfl rfl Try.underlying33 rfl ti33) ?_
   replace hB := ((((((hB.trans dG.fr).trans gr.fr).trans ji.fr).trans mO.fr).trans m8.fr).trans yr.fr).trans pp.fr
   exact ⟨(⟨(0 : Int), ([] : List (List Int)), ([] : List Str), ([] : List Int), ([] : List Bool), ([] : List Bool)⟩ : Syntactic), (3 : Int), none, 0, none, 0, none, 0, none, 0, none, 0, rfl, hB.same, (ISl.null _ _ _), (ISl.null _ _ _), (ISl.null _ _ _), (ISl.null _ _ _), (ISl.null _ _ _), H⟩
  replace H := ifn h40 H
  refine zo (fun w => opB (op_gtr rfl rfl w) (decide_eq_false h40)) (zn (zf rfl rfl (zk (zq (zq ?_)))))
  refine zr (zm rfl (zo (op_nilCheck rfl) (zo (op_fieldAddr Try.underlying83 rfl ti23 rfl (by decide)) (zs (oblk (i := 0) 1 hO rfl rfl Try.underlying23 rfl rfl) (zo (fun w => opB (op_nilSlice Try.underlying23 rfl rfl w) rfl) ?_)))))
  refine zn (zt rfl rfl (zr (zm rfl (zo (op_fieldAddr Try.underlying25 rfl ti3 rfl (by decide)) (zs (oblk (i := 0) 0 hO rfl rfl Try.underlying3 rfl rfl) ?_)))))
  obtain ⟨h51, H⟩ := H
  obtain ⟨h52, H⟩ := H
  have hobt := t2makeS (m := r26.Letters) (e' := 3) (Fl.int .i64) Try.underlying23 ti31 hO h51 h52 (by decide)
  obtain ⟨w44, p45, yt, Xc, O6, hz54⟩ := hobt
  refine zg (O6 rfl rfl) ?_
  replace hO := yt.own
  refine zo (op_nilCheck rfl) (zo (op_fieldAddr Try.underlying83 rfl ti23 rfl (by decide)) ?_)
  have hobt := oblkSt2 (v := .slice p45 r26.Letters.toNat r26.Letters.toNat) (i := 0) (cs' := #[.slice p45 r26.Letters.toNat r26.Letters.toNat, .slice none 0 0, .int .i64 (0 : Int)]) 2 hO rfl rfl rfl rfl
  obtain ⟨w55, lP, O7⟩ := hobt
  dsimp only [sS, sZ] at lP
  refine zg (O7 Try.underlying23 rfl ti23 (by exact rfl) (by exact rfl)) ?_
  replace hO := lP.own
  refine zn (zq (zq ?_))
  refine Go1.cut [(0, .pointer (some ⟨B21, 0, none⟩)), (3, .pointer (some ⟨B34, 0, none⟩)), (5, .int .i64 (r26.Final.length : Int))] ⟨rfl, rfl, rfl, trivial⟩ ?_
  intro σ _
  refine zr (zm rfl (zo (op_nilCheck rfl) (zo (op_fieldAddr Try.underlying83 rfl ti23 rfl (by decide)) (zs (oblk (i := 0) 2 hO rfl rfl Try.underlying23 rfl rfl) (zo (op_lenN Try.underlying23 rfl (t2neq 0 hO rfl)) ?_)))))
  refine zm rfl (zn (zb ?_))
  replace hO := hO.drop 4
  have Z3 := (yt.ch.trans lP.ch).trans (Owns.dropCh _ _ 4)
  replace ap := ap.ch Z3
  have Z4 := ((yr.ch.trans yt.ch).trans lP.ch).trans (Owns.dropCh _ _ 4)
  replace ar := ar.ch Z4
  have Z5 := (((m8.ch.trans yr.ch).trans yt.ch).trans lP.ch).trans (Owns.dropCh _ _ 4)
  replace ah := ah.ch Z5
  replace ak := ak.ch Z5
  replace hB := ((((((((hB.trans dG.fr).trans gr.fr).trans ji.fr).trans mO.fr).trans m8.fr).trans yr.fr).trans yt.fr).trans lP.fr).trans (Owns.dropFr _ _ 4)
  dsimp only [eS, eZ] at hB hO ah ak ap ar
  refine Go1.loopW (S := Nat × List (List Int)) (fun s σ w => match s with | (k1_59, d_60) => ∃ (zE : Hd), agrees σ [(0, .pointer (some ⟨B21, 0, none⟩)), (3, .pointer (some ⟨B34, 0, none⟩)), (5, .int .i64 (r26.Final.length : Int)), (33, .int .i64 ((List.replicate r26.Letters.toNat ([] : List Int)).length : Int)), (34, .int .i64 (k1_59 : Int))] ∧ (fun Z0 => Owns w0.heap.size w Z0 A ∧ ISl (Rp.bool) (bl Z0 ++ A) w dx dy r26.Final ∧ ISl (Rp.sl (Rp.int .i64)) (bl Z0 ++ A) w d6 d7 r26.Next ∧ Fr (bl []) w0 (bl Z0) w) [t2 (Fl.int .i64) 31 3 p45 r26.Letters.toNat r26.Letters.toNat zE d_60, .blk B34 (.cells #[.int .i64 r26.Letters, .int .i64 r26.Start, .slice dx r26.Final.length dy, .slice d6 r26.Next.length d7] 25 (0, 0)), .blk B21 (.cells #[.slice p45 r26.Letters.toNat r26.Letters.toNat, .slice none 0 0, .int .i64 (0 : Int)] 83 (0, 0)), .blk B8 (.cells #[.int .i64 (0 : Int), .slice none 0 0, .slice none 0 0, .slice none 0 0, .slice none 0 0, .slice none 0 0] 33 (0, 0))]) H ⟨(fun _ => (none, 0)), ⟨rfl, rfl, rfl, rfl, rfl, trivial⟩, hO, ap, ar, hB⟩ ?_
  intro X1
  refine prE fun k1_59 => fun d_60 => ?_
  intro H hX1 σ w58
  refine exE fun zE => andE fun hag => andE fun hO => andE fun ap => andE fun ar => fun hB => ?_
  dsimp only at H
  refine Go1.keep [(0, .pointer (some ⟨B21, 0, none⟩)), (3, .pointer (some ⟨B34, 0, none⟩)), (5, .int .i64 (r26.Final.length : Int)), (33, .int .i64 ((List.replicate r26.Letters.toNat ([] : List Int)).length : Int)), (34, .int .i64 (k1_59 : Int))] hag ?_
  refine zq (zr ?_)
  by_cases h62 : (k1_59 : Int) < ((List.replicate r26.Letters.toNat ([] : List Int)).length : Int)
  ·replace H := ifp h62 H
   refine zo (fun w => opB (op_lss rfl rfl w) (decide_eq_true h62)) (zn (zq (zt rfl rfl (zk (zq ?_)))))
   refine zb (zq (zr (zm rfl (za rfl (zn ?_)))))
   refine zq (zr (zm rfl (zm rfl (zn (zb ?_)))))
   refine Go1.loopW (S := Nat × List (List Int)) (fun s σ w => match s with | (k2_64, d_65) => ∃ (ph : Hd), agrees σ [(0, .pointer (some ⟨B21, 0, none⟩)), (3, .pointer (some ⟨B34, 0, none⟩)), (5, .int .i64 (r26.Final.length : Int)), (6, .int .i64 (k1_59 : Int)), (33, .int .i64 ((List.replicate r26.Letters.toNat ([] : List Int)).length : Int)), (34, .int .i64 (k1_59 : Int)), (37, .int .i64 (r26.Final.length : Int)), (38, .int .i64 (k2_64 : Int))] ∧ (fun Z0 => Owns w0.heap.size w Z0 A ∧ ISl (Rp.bool) (bl Z0 ++ A) w dx dy r26.Final ∧ ISl (Rp.sl (Rp.int .i64)) (bl Z0 ++ A) w d6 d7 r26.Next ∧ Fr (bl []) w0 (bl Z0) w) [t2 (Fl.int .i64) 31 3 p45 r26.Letters.toNat r26.Letters.toNat ph d_65, .blk B34 (.cells #[.int .i64 r26.Letters, .int .i64 r26.Start, .slice dx r26.Final.length dy, .slice d6 r26.Next.length d7] 25 (0, 0)), .blk B21 (.cells #[.slice p45 r26.Letters.toNat r26.Letters.toNat, .slice none 0 0, .int .i64 (0 : Int)] 83 (0, 0)), .blk B8 (.cells #[.int .i64 (0 : Int), .slice none 0 0, .slice none 0 0, .slice none 0 0, .slice none 0 0, .slice none 0 0] 33 (0, 0))]) H ⟨zE, ⟨rfl, rfl, rfl, rfl, rfl, rfl, rfl, rfl, trivial⟩, hO, ap, ar, hB⟩ ?_
   intro X2
   refine prE fun k2_64 => fun d_65 => ?_
   intro H hX2 σ w63
   refine exE fun ph => andE fun hag => andE fun hO => andE fun ap => andE fun ar => fun hB => ?_
   dsimp only at H
   refine Go1.keep [(0, .pointer (some ⟨B21, 0, none⟩)), (3, .pointer (some ⟨B34, 0, none⟩)), (5, .int .i64 (r26.Final.length : Int)), (6, .int .i64 (k1_59 : Int)), (33, .int .i64 ((List.replicate r26.Letters.toNat ([] : List Int)).length : Int)), (34, .int .i64 (k1_59 : Int)), (37, .int .i64 (r26.Final.length : Int)), (38, .int .i64 (k2_64 : Int))] hag ?_
   refine zq (zr ?_)
   by_cases h67 : (k2_64 : Int) < (r26.Final.length : Int)
   ·replace H := ifp h67 H
    refine zo (fun w => opB (op_lss rfl rfl w) (decide_eq_true h67)) (zn (zq (zt rfl rfl (zk (zq ?_)))))
    refine zb (zq (zr (zm rfl (za rfl (zn ?_)))))
    refine Go1.drawT (ok := fun _ => True) Same.tr [26, 28] 29 (.qp 0 (.qp 1 (.qp 2 (.qp 4 (.qp 5 (.qp 6 (.qp 7 (.qs 8 (.qp 9 (.qp 10 (.qs 11 (.qp 12 (.qp 13 (.qp 14 (.qs 15 (.qp 16 (.qs 17 (.qp 18 (.qp 19 (.qs 20 (.qp 21 (.qp 22 (.qs 23 (.qp 24 (.alt 3 (.alt 25 (.alt 26 (.qp 27 (.alt 28 .nil .fin)) .fin) .fin) (.alt 25 (.alt 3 (.alt 26 (.qp 27 (.alt 28 .nil .fin)) .fin) (.alt 26 (.alt 3 (.qp 27 (.alt 28 .nil .fin)) .fin) .fin)) .fin)))))))))))))))))))))))))) mixed (by kernel_rfl) ?_
    intro w68 RV
    have BB := Stp.same hO RV
    replace hO := BB.own
    refine GoT.pure rfl (op_move rfl) rfl rfl ?_
    refine GoT.pure rfl (op_nilCheck rfl) rfl rfl ?_
    refine GoT.pure rfl (op_fieldAddr Try.underlying83 rfl ti23 rfl (by decide)) rfl rfl ?_
    refine GoT.pure rfl (op_move rfl) rfl rfl ?_
    refine GoT.pure rfl (op_move rfl) rfl rfl ?_
    refine GoT.pure rfl (op_nilCheck rfl) rfl rfl ?_
    refine GoT.pure rfl (op_fieldAddr Try.underlying83 rfl ti23 rfl (by decide)) rfl rfl ?_
    refine GoT.stable rfl (oblk (i := 0) 2 hO rfl rfl Try.underlying23 rfl rfl) rfl rfl ?_
    refine GoT.pure rfl (op_move rfl) rfl rfl ?_
    obtain ⟨h71, H⟩ := H
    obtain ⟨h72, H⟩ := H
    refine GoT.pure rfl (op_index Try.underlying23 ti31 rfl rfl h71 (ltn (t2neq 0 hO rfl) h72) (t2some 0 hO rfl h71 h72)) rfl rfl ?_
    refine GoT.stable rfl (t2head 0 hO rfl h71 h72 Try.underlying31 rfl rfl) rfl rfl ?_
    refine GoT.pure rfl (op_move rfl) rfl rfl ?_
    refine GoT.pure rfl (op_nilCheck rfl) rfl rfl ?_
    refine GoT.pure rfl (op_fieldAddr Try.underlying83 rfl ti3 rfl (by decide)) rfl rfl ?_
    refine GoT.stable rfl (oblk (i := 2) 2 hO rfl rfl Try.underlying3 rfl rfl) rfl rfl ?_
    refine GoT.pure rfl (op_fieldAddr Try.underlying25 rfl ti23 rfl (by decide)) rfl rfl ?_
    refine GoT.stable rfl (oblk (i := 3) 1 hO rfl rfl Try.underlying23 rfl rfl) rfl rfl ?_
    refine GoT.pure rfl (op_move rfl) rfl rfl ?_
    obtain ⟨h73, H⟩ := H
    obtain ⟨h74, H⟩ := H
    replace ar := ar.ch BB.ch
    refine GoT.pure rfl (op_index Try.underlying23 ti31 rfl rfl h73 h74 (ar.some_ h73 h74)) rfl rfl ?_
    have hobt := ldSl ar h73 h74
    obtain ⟨p75, c76, ff, RW⟩ := hobt
    refine GoT.stable rfl (RW Try.underlying31 rfl rfl) rfl rfl ?_
    refine GoT.pure rfl (op_move rfl) rfl rfl ?_
    obtain ⟨h79, H⟩ := H
    obtain ⟨h80, H⟩ := H
    refine GoT.pure rfl (op_index Try.underlying31 ti3 rfl rfl h79 h80 (ff.some_ h79 h80)) rfl rfl ?_
    refine GoT.stable rfl (ldInt ff h79 h80 Try.underlying3 rfl rfl) rfl rfl ?_
    obtain ⟨h81, H⟩ := H
    refine GoT.pure rfl (op_add rfl rfl (wrap_i64 h81)) rfl rfl ?_
    refine GoT.both ?_ ?_
    ·skip
     skip
     refine GoT.step rfl ((oblk (i := 0) 2 hO rfl rfl Try.underlying23 rfl rfl) _ (Same.refl _)) (Same.refl _) rfl rfl ?_
     skip
     have hobt := obuild (r := Rp.int .i64) (n := 1) (parts := [(0, .int .i64 ((0 : Int) + (ix (ix r26.Next (k2_64 : Int)) (k1_59 : Int))))]) (vs := [.int .i64 ((0 : Int) + (ix (ix r26.Next (k2_64 : Int)) (k1_59 : Int)))]) (xs := [((0 : Int) + (ix (ix r26.Next (k2_64 : Int)) (k1_59 : Int)))]) rfl Try.underlying31 ti3 hO (by decide) (by kernel_rfl) (Els.cons rfl rfl (Els.nil _ _ _) (by simp [mx])) rfl
     obtain ⟨w82, p83, sa, yT, RX, DU⟩ := hobt
     refine GoT.step rfl (DU rfl) RX rfl rfl ?_
     replace hO := sa.own
     skip
     have sM := Stp.front 1 hO rfl
     dsimp only [eS, eZ] at sM
     replace hO := sM.own
     have hobt := t2take (hf := (Fl.int .i64)) hO h71 h72
     obtain ⟨RY, yu, R0⟩ := hobt
     replace hO := yu.own
     have Gn := R0 (bl [.row 3 1 (ph (k1_59 : Int).toNat).1 ((ix d_65 (k1_59 : Int)).length) ((ph (k1_59 : Int).toNat).2) RY, t2h (Fl.int .i64) 31 3 p45 r26.Letters.toNat r26.Letters.toNat ph d_65 (k1_59 : Int).toNat, .row 3 1 p83 1 1 [.int .i64 ((0 : Int) + (ix (ix r26.Next (k2_64 : Int)) (k1_59 : Int)))], .blk B34 (.cells #[.int .i64 r26.Letters, .int .i64 r26.Start, .slice dx r26.Final.length dy, .slice d6 r26.Next.length d7] 25 (0, 0)), .blk B21 (.cells #[.slice p45 r26.Letters.toNat r26.Letters.toNat, .slice none 0 0, .int .i64 (0 : Int)] 83 (0, 0)), .blk B8 (.cells #[.int .i64 (0 : Int), .slice none 0 0, .slice none 0 0, .slice none 0 0, .slice none 0 0, .slice none 0 0] 33 (0, 0))] ++ A)
     replace yT := (yT.ch sM.ch).ch yu.ch
     have hobt := freeze 2 hO rfl yT
     obtain ⟨hO1, CR, wH, R2⟩ := hobt
     dsimp only [eS, eZ] at hO1 CR wH
     replace hB := ((((hB.trans BB.fr).trans sa.fr).trans sM.fr).trans yu.fr).trans (Owns.dropFr _ _ 2)
     dsimp only [eS, eZ] at hB
     replace hO := hO1; clear hO1
     obtain ⟨h98, H⟩ := H
     replace Gn := Gn.ch CR
     have hobt := oapp Try.underlying31 ti3 rfl 0 hO rfl Gn wH R2 h98 (by decide)
     obtain ⟨w99, R3, R4, To, iV, yv, CQ⟩ := hobt
     dsimp only [sS, sZ] at iV yv
     refine GoT.stepX rfl (CQ (by exact rfl) (by exact rfl)) rfl rfl rfl ?_
     replace hO := iV.own
     obtain ⟨qU, H⟩ := H
     obtain ⟨tc, H⟩ := H
     refine GoT.pure rfl (op_index Try.underlying23 ti31 rfl rfl qU (ltn (t2neqH 1 hO rfl) tc) (t2someH 1 hO rfl qU tc)) rfl rfl ?_
     skip
     have uJ := Stp.front 1 hO rfl
     dsimp only [eS, eZ] at uJ
     replace hO := uJ.own
     have uK := Stp.front 1 hO rfl
     dsimp only [eS, eZ] at uK
     replace hO := uK.own
     replace yv := (yv.ch uJ.ch).ch uK.ch
     have hobt := t2fix (hf := (Fl.int .i64)) hO yv qU tc rfl
     obtain ⟨Xd, wO, Ks⟩ := hobt
     refine GoT.stepX rfl (Ks Try.underlying31 rfl ti31 (by exact rfl) (by exact rfl)) rfl rfl rfl ?_
     replace hO := wO.own
     refine GoT.nil ?_
     refine Go1.inBlock ?_
     refine Go1.cut [(0, .pointer (some ⟨B21, 0, none⟩)), (3, .pointer (some ⟨B34, 0, none⟩)), (5, .int .i64 (r26.Final.length : Int)), (6, .int .i64 (k1_59 : Int)), (33, .int .i64 ((List.replicate r26.Letters.toNat ([] : List Int)).length : Int)), (34, .int .i64 (k1_59 : Int)), (37, .int .i64 (r26.Final.length : Int)), (38, .int .i64 (k2_64 : Int))] ⟨rfl, rfl, rfl, rfl, rfl, rfl, rfl, rfl, trivial⟩ ?_
     intro σ _
     refine zr ?_
     have Z6 := (((((((BB.ch.trans sa.ch).trans sM.ch).trans yu.ch).trans CR).trans iV.ch).trans uJ.ch).trans uK.ch).trans wO.ch
     replace ap := ap.ch Z6
     refine zo (op_add rfl rfl (wrap_i64 (natbd h67 ap.bd))) (zm rfl (zn ?_))
     replace hB := (((hB.trans iV.fr).trans uJ.fr).trans uK.fr).trans wO.fr
     have Z7 := ((((((sa.ch.trans sM.ch).trans yu.ch).trans CR).trans iV.ch).trans uJ.ch).trans uK.ch).trans wO.ch
     replace ar := ar.ch Z7
     exact hX2 _ H _ _ ⟨hup ph (k1_59 : Int).toNat (R3, R4), ⟨rfl, rfl, rfl, rfl, rfl, rfl, rfl, rfl, trivial⟩, hO, ap, ar, hB⟩
    skip
    have hobt := obuild (r := Rp.int .i64) (n := 1) (parts := [(0, .int .i64 ((0 : Int) + (ix (ix r26.Next (k2_64 : Int)) (k1_59 : Int))))]) (vs := [.int .i64 ((0 : Int) + (ix (ix r26.Next (k2_64 : Int)) (k1_59 : Int)))]) (xs := [((0 : Int) + (ix (ix r26.Next (k2_64 : Int)) (k1_59 : Int)))]) rfl Try.underlying31 ti3 hO (by decide) (by kernel_rfl) (Els.cons rfl rfl (Els.nil _ _ _) (by simp [mx])) rfl
    obtain ⟨Xe, Kt, x5, uq, O8, Ku⟩ := hobt
    refine GoT.step rfl (Ku rfl) O8 rfl rfl ?_
    replace hO := x5.own
    refine GoT.both ?_ ?_
    ·skip
     skip
     refine GoT.step rfl ((oblk (i := 0) 3 hO rfl rfl Try.underlying23 rfl rfl) _ (Same.refl _)) (Same.refl _) rfl rfl ?_
     skip
     have en := Stp.front 1 hO rfl
     dsimp only [eS, eZ] at en
     replace hO := en.own
     have hobt := t2take (hf := (Fl.int .i64)) hO h71 h72
     obtain ⟨O9, wP, io⟩ := hobt
     replace hO := wP.own
     have xl := io (bl [.row 3 1 (ph (k1_59 : Int).toNat).1 ((ix d_65 (k1_59 : Int)).length) ((ph (k1_59 : Int).toNat).2) O9, t2h (Fl.int .i64) 31 3 p45 r26.Letters.toNat r26.Letters.toNat ph d_65 (k1_59 : Int).toNat, .row 3 1 Kt 1 1 [.int .i64 ((0 : Int) + (ix (ix r26.Next (k2_64 : Int)) (k1_59 : Int)))], .blk B34 (.cells #[.int .i64 r26.Letters, .int .i64 r26.Start, .slice dx r26.Final.length dy, .slice d6 r26.Next.length d7] 25 (0, 0)), .blk B21 (.cells #[.slice p45 r26.Letters.toNat r26.Letters.toNat, .slice none 0 0, .int .i64 (0 : Int)] 83 (0, 0)), .blk B8 (.cells #[.int .i64 (0 : Int), .slice none 0 0, .slice none 0 0, .slice none 0 0, .slice none 0 0, .slice none 0 0] 33 (0, 0))] ++ A)
     replace uq := (uq.ch en.ch).ch wP.ch
     have hobt := freeze 2 hO rfl uq
     obtain ⟨hO1, Ak, ur, Pa⟩ := hobt
     dsimp only [eS, eZ] at hO1 Ak ur
     replace hB := ((((hB.trans BB.fr).trans x5.fr).trans en.fr).trans wP.fr).trans (Owns.dropFr _ _ 2)
     dsimp only [eS, eZ] at hB
     replace hO := hO1; clear hO1
     obtain ⟨R5, H⟩ := H
     replace xl := xl.ch Ak
     have hobt := oapp Try.underlying31 ti3 rfl 0 hO rfl xl ur Pa R5 (by decide)
     obtain ⟨QE, ip, iB, Tp, vM, yw, Kv⟩ := hobt
     dsimp only [sS, sZ] at vM yw
     refine GoT.stepX rfl (Kv (by exact rfl) (by exact rfl)) rfl rfl rfl ?_
     replace hO := vM.own
     obtain ⟨xJ, H⟩ := H
     obtain ⟨yU, H⟩ := H
     refine GoT.pure rfl (op_index Try.underlying23 ti31 rfl rfl xJ (ltn (t2neqH 1 hO rfl) yU) (t2someH 1 hO rfl xJ yU)) rfl rfl ?_
     skip
     have iA := Stp.front 1 hO rfl
     dsimp only [eS, eZ] at iA
     replace hO := iA.own
     have uL := Stp.front 1 hO rfl
     dsimp only [eS, eZ] at uL
     replace hO := uL.own
     replace yw := (yw.ch iA.ch).ch uL.ch
     have hobt := t2fix (hf := (Fl.int .i64)) hO yw xJ yU rfl
     obtain ⟨RE, wQ, Kw⟩ := hobt
     refine GoT.stepX rfl (Kw Try.underlying31 rfl ti31 (by exact rfl) (by exact rfl)) rfl rfl rfl ?_
     replace hO := wQ.own
     refine GoT.nil ?_
     refine Go1.inBlock ?_
     refine zr ?_
     have Z8 := (((((((BB.ch.trans x5.ch).trans en.ch).trans wP.ch).trans Ak).trans vM.ch).trans iA.ch).trans uL.ch).trans wQ.ch
     replace ap := ap.ch Z8
     refine zo (op_add rfl rfl (wrap_i64 (natbd h67 ap.bd))) (zm rfl (zn ?_))
     replace hB := (((hB.trans vM.fr).trans iA.fr).trans uL.fr).trans wQ.fr
     have Z9 := ((((((x5.ch.trans en.ch).trans wP.ch).trans Ak).trans vM.ch).trans iA.ch).trans uL.ch).trans wQ.ch
     replace ar := ar.ch Z9
     exact hX2 _ H _ _ ⟨hup ph (k1_59 : Int).toNat (ip, iB), ⟨rfl, rfl, rfl, rfl, rfl, rfl, rfl, rfl, trivial⟩, hO, ap, ar, hB⟩
    skip
    have iu := Stp.front 1 hO rfl
    dsimp only [eS, eZ] at iu
    replace hO := iu.own
    have hobt := t2take (hf := (Fl.int .i64)) hO h71 h72
    obtain ⟨Dy, lg, dm⟩ := hobt
    replace hO := lg.own
    have EA := dm (bl [.row 3 1 (ph (k1_59 : Int).toNat).1 ((ix d_65 (k1_59 : Int)).length) ((ph (k1_59 : Int).toNat).2) Dy, t2h (Fl.int .i64) 31 3 p45 r26.Letters.toNat r26.Letters.toNat ph d_65 (k1_59 : Int).toNat, .row 3 1 Kt 1 1 [.int .i64 ((0 : Int) + (ix (ix r26.Next (k2_64 : Int)) (k1_59 : Int)))], .blk B34 (.cells #[.int .i64 r26.Letters, .int .i64 r26.Start, .slice dx r26.Final.length dy, .slice d6 r26.Next.length d7] 25 (0, 0)), .blk B21 (.cells #[.slice p45 r26.Letters.toNat r26.Letters.toNat, .slice none 0 0, .int .i64 (0 : Int)] 83 (0, 0)), .blk B8 (.cells #[.int .i64 (0 : Int), .slice none 0 0, .slice none 0 0, .slice none 0 0, .slice none 0 0, .slice none 0 0] 33 (0, 0))] ++ A)
    replace uq := (uq.ch iu.ch).ch lg.ch
    have hobt := freeze 2 hO rfl uq
    obtain ⟨hO1, Al, ut, Pb⟩ := hobt
    dsimp only [eS, eZ] at hO1 Al ut
    replace hB := ((((hB.trans BB.fr).trans x5.fr).trans iu.fr).trans lg.fr).trans (Owns.dropFr _ _ 2)
    dsimp only [eS, eZ] at hB
    replace hO := hO1; clear hO1
    obtain ⟨xr, H⟩ := H
    replace EA := EA.ch Al
    have hobt := oapp Try.underlying31 ti3 rfl 0 hO rfl EA ut Pb xr (by decide)
    obtain ⟨Xf, DX, DY, Tq, vN, yy, Kx⟩ := hobt
    dsimp only [sS, sZ] at vN yy
    refine GoT.stepX rfl (Kx (by exact rfl) (by exact rfl)) rfl rfl rfl ?_
    replace hO := vN.own
    skip
    refine GoT.step rfl ((oblk (i := 0) 3 hO rfl rfl Try.underlying23 rfl rfl) _ (Same.refl _)) (Same.refl _) rfl rfl ?_
    obtain ⟨Gp, H⟩ := H
    obtain ⟨BP, H⟩ := H
    refine GoT.pure rfl (op_index Try.underlying23 ti31 rfl rfl Gp (ltn (t2neqH 1 hO rfl) BP) (t2someH 1 hO rfl Gp BP)) rfl rfl ?_
    skip
    have iW := Stp.front 1 hO rfl
    dsimp only [eS, eZ] at iW
    replace hO := iW.own
    have uM := Stp.front 1 hO rfl
    dsimp only [eS, eZ] at uM
    replace hO := uM.own
    replace yy := (yy.ch iW.ch).ch uM.ch
    have hobt := t2fix (hf := (Fl.int .i64)) hO yy Gp BP rfl
    obtain ⟨QV, wR, Ce⟩ := hobt
    refine GoT.stepX rfl (Ce Try.underlying31 rfl ti31 (by exact rfl) (by exact rfl)) rfl rfl rfl ?_
    replace hO := wR.own
    refine GoT.nil ?_
    refine Go1.inBlock ?_
    refine zr ?_
    have Z10 := (((((((BB.ch.trans x5.ch).trans iu.ch).trans lg.ch).trans Al).trans vN.ch).trans iW.ch).trans uM.ch).trans wR.ch
    replace ap := ap.ch Z10
    refine zo (op_add rfl rfl (wrap_i64 (natbd h67 ap.bd))) (zm rfl (zn ?_))
    replace hB := (((hB.trans vN.fr).trans iW.fr).trans uM.fr).trans wR.fr
    have Z11 := ((((((x5.ch.trans iu.ch).trans lg.ch).trans Al).trans vN.ch).trans iW.ch).trans uM.ch).trans wR.ch
    replace ar := ar.ch Z11
    exact hX2 _ H _ _ ⟨hup ph (k1_59 : Int).toNat (DX, DY), ⟨rfl, rfl, rfl, rfl, rfl, rfl, rfl, rfl, trivial⟩, hO, ap, ar, hB⟩
   replace H := ifn h67 H
   refine zo (fun w => opB (op_lss rfl rfl w) (decide_eq_false h67)) (zn (zq (zf rfl rfl ?_)))
   refine Go1.exit rfl ?_
   refine Go1.inBlock ?_
   refine zr ?_
   obtain ⟨Cz, H⟩ := H
   refine zo (op_add rfl rfl (wrap_i64 Cz)) (zm rfl (zn ?_))
   exact hX1 _ H _ _ ⟨ph, ⟨rfl, rfl, rfl, rfl, rfl, trivial⟩, hO, ap, ar, hB⟩
  replace H := ifn h62 H
  refine zo (fun w => opB (op_lss rfl rfl w) (decide_eq_false h62)) (zn (zq (zf rfl rfl ?_)))
  refine Go1.exit rfl ?_
  refine zq ?_
  refine Go1.drawS 4 [(0, .pure), (1, .pure), (2, .pure), (3, .pure), (4, .stable), (5, .pure), (6, .pure), (7, .pure), (8, .stable), (9, .pure), (10, .stable), (11, .pure), (12, .pure), (13, .stable), (14, .pure), (15, .pure), (16, .pure), (17, .stable), (18, .pure), (19, .loud), (20, .last), (21, .pure), (22, .pure), (23, .last)] mixed (by kernel_rfl) ?_
  intro QG Pc
  have Am := Stp.same hO Pc
  replace hO := Am.own
  refine GoQ.pure rfl (op_move rfl) rfl rfl ?_
  refine GoQ.pure rfl (op_move rfl) rfl rfl ?_
  refine GoQ.pure rfl (op_nilCheck rfl) rfl rfl ?_
  refine GoQ.pure rfl (op_fieldAddr Try.underlying83 rfl ti81 rfl (by decide)) rfl rfl ?_
  refine GoQ.stable rfl (oblk (i := 1) 2 hO rfl rfl Try.underlying81 rfl rfl) rfl rfl ?_
  refine GoQ.pure rfl (op_move rfl) rfl rfl ?_
  refine GoQ.pure rfl (op_nilCheck rfl) rfl rfl ?_
  refine GoQ.pure rfl (op_fieldAddr Try.underlying83 rfl ti3 rfl (by decide)) rfl rfl ?_
  refine GoQ.stable rfl (oblk (i := 2) 2 hO rfl rfl Try.underlying3 rfl rfl) rfl rfl ?_
  refine GoQ.pure rfl (op_fieldAddr Try.underlying25 rfl ti3 rfl (by decide)) rfl rfl ?_
  refine GoQ.stable rfl (oblk (i := 1) 1 hO rfl rfl Try.underlying3 rfl rfl) rfl rfl ?_
  obtain ⟨AJ, H⟩ := H
  refine GoQ.pure rfl (op_add rfl rfl (wrap_i64 AJ)) rfl rfl ?_
  refine GoQ.pure rfl (op_fieldAddr Try.underlying25 rfl ti22 rfl (by decide)) rfl rfl ?_
  refine GoQ.stable rfl (oblk (i := 2) 1 hO rfl rfl Try.underlying22 rfl rfl) rfl rfl ?_
  refine GoQ.pure rfl (op_move rfl) rfl rfl ?_
  refine GoQ.pure rfl (op_nilCheck rfl) rfl rfl ?_
  refine GoQ.pure rfl (op_fieldAddr Try.underlying83 rfl ti3 rfl (by decide)) rfl rfl ?_
  refine GoQ.stable rfl (oblk (i := 2) 2 hO rfl rfl Try.underlying3 rfl rfl) rfl rfl ?_
  refine GoQ.pure rfl (op_build Try.underlying120 ti120 (pl := [(0, 1), (1, 1), (2, 1)]) (vs := [(0, .int .i64 ((0 : Int) + r26.Start)), (1, .slice dx r26.Final.length dy), (2, .int .i64 (0 : Int))]) (cs := #[.int .i64 ((0 : Int) + r26.Start), .slice dx r26.Final.length dy, .int .i64 (0 : Int)]) (by kernel_rfl) rfl (by kernel_rfl)) rfl rfl ?_
  replace ap := ap.ch Am.ch
  have hobt := obuildN (r := rppart) (n := 1) (parts := [(0, .agg #[.int .i64 ((0 : Int) + r26.Start), .slice dx r26.Final.length dy, .int .i64 (0 : Int)])]) (vs := [.int .i64 ((0 : Int) + r26.Start), .slice dx r26.Final.length dy, .int .i64 (0 : Int)]) (xs := [(⟨((0 : Int) + r26.Start), r26.Final, (0 : Int)⟩ : part)]) Try.underlying81 ti120 hO (by decide) (by decide) (by kernel_rfl) (Els.consR (us := [.int .i64 ((0 : Int) + r26.Start), .slice dx r26.Final.length dy, .int .i64 (0 : Int)]) rfl ⟨rfl, ⟨dx, dy, rfl, ap⟩, rfl⟩ (Els.nil _ _ _) (by simp [mx])) rfl
  obtain ⟨JM, Xg, eC, tC, Hw, Cf⟩ := hobt
  refine GoQ.loud rfl (Cf rfl) Hw rfl rfl ?_
  replace hO := eC.own
  have hobt := freeze 0 hO rfl tC
  obtain ⟨hO1, EB, dq, Pd⟩ := hobt
  dsimp only [eS, eZ] at hO1 EB dq
  replace hB := ((hB.trans Am.fr).trans eC.fr).trans (Owns.dropFr _ _ 0)
  dsimp only [eS, eZ] at hB
  replace hO := hO1; clear hO1
  have lY := Stp.nil (e := 120) (r := 3) hO
  replace hO := lY.own
  have Pe := Els.nil (rppart) (bl (.row 120 3 none 0 0 [] :: [t2 (Fl.int .i64) 31 3 p45 r26.Letters.toNat r26.Letters.toNat zE d_60, .blk B34 (.cells #[.int .i64 r26.Letters, .int .i64 r26.Start, .slice dx r26.Final.length dy, .slice d6 r26.Next.length d7] 25 (0, 0)), .blk B21 (.cells #[.slice p45 r26.Letters.toNat r26.Letters.toNat, .slice none 0 0, .int .i64 (0 : Int)] 83 (0, 0)), .blk B8 (.cells #[.int .i64 (0 : Int), .slice none 0 0, .slice none 0 0, .slice none 0 0, .slice none 0 0, .slice none 0 0] 33 (0, 0))]) ++ A) JM
  obtain ⟨R6, H⟩ := H
  replace dq := dq.ch lY.ch
  have hobt := oapp Try.underlying81 ti120 rfl 0 hO rfl Pe dq Pd R6 (by decide)
  obtain ⟨Xh, bO, bP, cx, wS, aA, Ky⟩ := hobt
  dsimp only [sS, sZ] at wS aA
  refine GoQ.last rfl (Ky (by exact rfl) (by exact rfl)) rfl rfl ?_
  replace hO := wS.own
  refine GoQ.pure rfl (op_nilCheck rfl) rfl rfl ?_
  refine GoQ.pure rfl (op_fieldAddr Try.underlying83 rfl ti81 rfl (by decide)) rfl rfl ?_
  have hobt := oblkSt2 (v := .slice bO (0 + 1) bP) (i := 1) (cs' := #[.slice p45 r26.Letters.toNat r26.Letters.toNat, .slice bO (0 + 1) bP, .int .i64 (0 : Int)]) 3 hO rfl rfl rfl rfl
  obtain ⟨P9, vO, Kz⟩ := hobt
  dsimp only [sS, sZ] at vO
  refine GoQ.last rfl (Kz Try.underlying81 rfl ti81 (by exact rfl) (by exact rfl)) rfl rfl ?_
  replace hO := vO.own
  refine GoQ.nil ?_
  refine zq ?_
  refine Go1.cut [(0, .pointer (some ⟨B21, 0, none⟩)), (5, .int .i64 (r26.Final.length : Int))] ⟨rfl, rfl, trivial⟩ ?_
  intro σ _
  refine zr (zm rfl (zo (op_nilCheck rfl) (zo (op_fieldAddr Try.underlying83 rfl ti3 rfl (by decide)) (zs (oblk (i := 2) 3 hO rfl rfl Try.underlying3 rfl rfl) (zm rfl ?_)))))
  obtain ⟨Cj, H⟩ := H
  refine zo (op_add rfl rfl (wrap_i64 Cj)) (zo (op_nilCheck rfl) (zo (op_fieldAddr Try.underlying83 rfl ti3 rfl (by decide)) ?_))
  have hobt := oblkSt2 (v := .int .i64 ((0 : Int) + (r26.Final.length : Int))) (i := 2) (cs' := #[.slice p45 r26.Letters.toNat r26.Letters.toNat, .slice bO (0 + 1) bP, .int .i64 ((0 : Int) + (r26.Final.length : Int))]) 3 hO rfl rfl rfl rfl
  obtain ⟨QW, vP, BS⟩ := hobt
  dsimp only [sS, sZ] at vP
  refine zg (BS Try.underlying3 rfl ti3 (by exact rfl) (by exact rfl)) ?_
  replace hO := vP.own
  refine zn (zq (zr (za rfl (zn ?_))))
  refine Go1.ret1V Try.func62 rfl (show _ = .int .i64 (0 : Int) from rfl) ?_
  refine hR32 _ _ ?_
  refine za rfl (zn (zq (zr (zm rfl (zo (fun w => opB (op_neq rfl rfl w) (ndT (by decide))) ?_)))))
  refine zn (zf rfl rfl (zk (zq (zr ?_))))
  refine GoR.inl (vs := [.pointer (some ⟨B21, 0, none⟩)]) (caps := []) rfl rfl body63 Try.func63 rfl Try.ntmps63 rfl rfl rfl ?_
  intro RhR205 hR205
  refine zq (zr ?_)
  have hobt := oalloc (t := 33) (cs := #[.int .i64 (0 : Int), .slice none 0 0, .slice none 0 0, .slice none 0 0, .slice none 0 0, .slice none 0 0]) ti33 hO rfl
  obtain ⟨RF, B207, gP, Ts, CA⟩ := hobt
  refine GoR.op CA rfl rfl ?_
  replace hO := gP.own
  refine za rfl (za rfl (zn (zq (zr (zm rfl ?_)))))
  refine zo (op_nilCheck rfl) (zo (op_fieldAddr Try.underlying83 rfl ti23 rfl (by decide)) (zs (oblk (i := 0) 4 hO rfl rfl Try.underlying23 rfl rfl) ?_))
  have hobt := t2freezeA 2 hO rfl
  obtain ⟨hO1, Ao, aW, HK⟩ := hobt
  dsimp only [eS, eZ] at hO1 Ao aW
  replace hB := (((((hB.trans lY.fr).trans wS.fr).trans vO.fr).trans vP.fr).trans gP.fr).trans (Owns.dropFr _ _ 2)
  dsimp only [eS, eZ] at hB
  replace hO := hO1; clear hO1
  refine GoR.call (op_call body101 (show ([.slice p45 r26.Letters.toNat r26.Letters.toNat, .bool true] : List Value) = [.slice p45 d_60.length r26.Letters.toNat, .bool true] from by rw [← HK]) (walk_enumerate_Build hO.lt aW H)) rfl rfl ?_
  rintro Xi Xj ⟨r215, r216, aM, aN, aB, aC, ay, az, aO, aP, aw, ax, aG, aH, rfl, Pg, am, ag, aa, aj, af, ai, H⟩
  have vQ := Stp.same hO Pg
  replace hO := vQ.own
  refine zm rfl (zo (op_extract rfl rfl) (zo (op_extract rfl rfl) ?_))
  have hobt := oalloc (t := 123) (cs := #[.int .i64 (0 : Int), .bool false, .slice none 0 0, .slice none 0 0, .slice none 0 0, .slice none 0 0, .slice none 0 0, .slice none 0 0, .int .i64 (0 : Int)]) ti123 hO rfl
  obtain ⟨Qb, B223, oT, Tt, KA⟩ := hobt
  refine GoR.op KA rfl rfl ?_
  replace hO := oT.own
  have hobt := oblkStAgg (us := [.int .i64 r215.Points, .bool r215.Monoid, .slice aM r215.Gens.length aN, .slice aB r215.Elems.length aC, .slice ay r215.Prefix.length az, .slice aO r215.Last.length aP, .slice aw r215.Right.length ax, .slice aG r215.Rules.length aH, .int .i64 r215.Done]) (o := 0) (cs' := #[.int .i64 r215.Points, .bool r215.Monoid, .slice aM r215.Gens.length aN, .slice aB r215.Elems.length aC, .slice ay r215.Prefix.length az, .slice aO r215.Last.length aP, .slice aw r215.Right.length ax, .slice aG r215.Rules.length aH, .int .i64 r215.Done]) 0 hO rfl rfl (Nat.le_of_ble_eq_true rfl) rfl
  obtain ⟨Xk, m9, KB⟩ := hobt
  dsimp only [sS, sZ] at m9
  refine zg (KB ti123 (by exact rfl) (by exact rfl) rfl) ?_
  replace hO := m9.own
  refine za rfl (zn (zq (zq ?_)))
  refine Go1.cut [(0, .pointer (some ⟨B21, 0, none⟩)), (2, .pointer (some ⟨B207, 0, none⟩)), (5, .pointer (some ⟨B223, 0, none⟩)), (6, .int .i64 r216)] ⟨rfl, rfl, rfl, rfl, trivial⟩ ?_
  intro σ _
  refine zr (zm rfl ?_)
  by_cases xv : r216 = (0 : Int)
  ·replace H := ifp xv H
   refine zo (fun w => opB (op_neq rfl rfl w) (ndT xv)) (zn (zf rfl rfl (zk (zq (zr ?_)))))
   refine zo (op_fieldAddr Try.underlying123 rfl ti23 rfl (by decide)) (zs (oblk (i := 3) 0 hO rfl rfl Try.underlying23 rfl rfl) (zo (op_len Try.underlying23 rfl) ?_))
   replace ag := (ag.ch oT.ch).ch m9.ch
   replace H := H ag.bd
   refine za rfl (zn (zq (zq (zr (zm rfl ?_)))))
   by_cases xw : (400 : Int) < (r215.Elems.length : Int)
   ·replace H := ifp xw H
    refine zo (fun w => opB (op_gtr rfl rfl w) (decide_eq_true xw)) (zn (zt rfl rfl (zq (zr (zo (op_build Try.underlying33 ti33 (pl := [(0, 1), (1, 1), (2, 1), (3, 1), (4, 1), (5, 1)]) (vs := []) (cs := #[.int .i64 (0 : Int), .slice none 0 0, .slice none 0 0, .slice none 0 0, .slice none 0 0, .slice none 0 0]) (by kernel_rfl) rfl (by kernel_rfl)) ?_)))))
    have hobt := oblkStAgg (us := [.int .i64 (0 : Int), .slice none 0 0, .slice none 0 0, .slice none 0 0, .slice none 0 0, .slice none 0 0]) (o := 0) (cs' := #[.int .i64 (0 : Int), .slice none 0 0, .slice none 0 0, .slice none 0 0, .slice none 0 0, .slice none 0 0]) 1 hO rfl rfl (Nat.le_of_ble_eq_true rfl) rfl
    obtain ⟨QY, na, KC⟩ := hobt
    dsimp only [sS, sZ] at na
    refine zg (KC ti33 (by exact rfl) (by exact rfl) rfl) ?_
    replace hO := na.own
    refine za rfl (za rfl (zn ?_))
    refine Go1.retC3V Try.func63 rfl rfl (run_loadBlk (vs := [.int .i64 (0 : Int), .slice none 0 0, .slice none 0 0, .slice none 0 0, .slice none 0 0, .slice none 0 0]) 1 hO rfl rfl Try.underlying33 rfl ti33) (show _ = .slice none 0 0 from rfl) (show _ = .int .i64 (3 : Int) from rfl) ?_
    refine hR205 _ _ ?_
    refine zm rfl (zo (op_extract rfl rfl) (zo (op_extract rfl rfl) (zo (op_extract rfl rfl) ?_)))
    have hobt := oalloc (t := 33) (cs := #[.int .i64 (0 : Int), .slice none 0 0, .slice none 0 0, .slice none 0 0, .slice none 0 0, .slice none 0 0]) ti33 hO rfl
    obtain ⟨Qc, B237, iq, Tu, KD⟩ := hobt
    refine GoR.op KD rfl rfl ?_
    replace hO := iq.own
    have hobt := oblkStAgg (us := [.int .i64 (0 : Int), .slice none 0 0, .slice none 0 0, .slice none 0 0, .slice none 0 0, .slice none 0 0]) (o := 0) (cs' := #[.int .i64 (0 : Int), .slice none 0 0, .slice none 0 0, .slice none 0 0, .slice none 0 0, .slice none 0 0]) 0 hO rfl rfl (Nat.le_of_ble_eq_true rfl) rfl
    obtain ⟨Xl, nb, KE⟩ := hobt
    dsimp only [sS, sZ] at nb
    refine zg (KE ti33 (by exact rfl) (by exact rfl) rfl) ?_
    replace hO := nb.own
    refine za rfl (za rfl (zn (zq (zq ?_))))
    refine Go1.cut [(2, .pointer (some ⟨B8, 0, none⟩)), (7, .pointer (some ⟨B237, 0, none⟩)), (8, .slice none 0 0), (9, .int .i64 (3 : Int))] ⟨rfl, rfl, rfl, rfl, trivial⟩ ?_
    intro σ _
    refine zr (zm rfl (zo (fun w => opB (op_neq rfl rfl w) (ndF (by decide))) (zn (zt rfl rfl (zq ?_)))))
    refine zr (zo (op_build Try.underlying33 ti33 (pl := [(0, 1), (1, 1), (2, 1), (3, 1), (4, 1), (5, 1)]) (vs := []) (cs := #[.int .i64 (0 : Int), .slice none 0 0, .slice none 0 0, .slice none 0 0, .slice none 0 0, .slice none 0 0]) (by kernel_rfl) rfl (by kernel_rfl)) (zm rfl ?_))
    have hobt := oblkStAgg (us := [.int .i64 (0 : Int), .slice none 0 0, .slice none 0 0, .slice none 0 0, .slice none 0 0, .slice none 0 0]) (o := 0) (cs' := #[.int .i64 (0 : Int), .slice none 0 0, .slice none 0 0, .slice none 0 0, .slice none 0 0, .slice none 0 0]) 6 hO rfl rfl (Nat.le_of_ble_eq_true rfl) rfl
    obtain ⟨Q1, fX, Cp⟩ := hobt
    dsimp only [sS, sZ] at fX
    refine zg (Cp ti33 (by exact rfl) (by exact rfl) rfl) ?_
    replace hO := fX.own
    refine za rfl (zn ?_)
    refine Go1.retC2 Try.func19 rfl rfl (run_loadBlk (vs := [.int .i64 (0 : Int), .slice none 0 0, .slice none 0 0, .slice none 0 0, .slice none 0 0, .slice none 0 0]) 6 hO rfl rfl Try.underlying33 rfl ti33) ?_
    replace hB := ((((((hB.trans vQ.fr).trans oT.fr).trans m9.fr).trans na.fr).trans iq.fr).trans nb.fr).trans fX.fr
    exact ⟨(⟨(0 : Int), ([] : List (List Int)), ([] : List Str), ([] : List Int), ([] : List Bool), ([] : List Bool)⟩ : Syntactic), (3 : Int), none, 0, none, 0, none, 0, none, 0, none, 0, rfl, hB.same, (ISl.null _ _ _), (ISl.null _ _ _), (ISl.null _ _ _), (ISl.null _ _ _), (ISl.null _ _ _), H⟩
   replace H := ifn xw H
   refine zo (fun w => opB (op_gtr rfl rfl w) (decide_eq_false xw)) (zn (zf rfl rfl (zk (zq ?_))))
   refine Go1.drawA Same.tr A 1 [(0, .pure), (1, .pure), (2, .pure), (3, .stable), (4, .pure), (5, .pure), (7, .pure), (9, .pure), (10, .stable), (11, .pure), (12, .stable), (14, .pure), (13, .loud), (6, .alloc), (8, .alloc), (15, .alloc), (16, .pure), (17, .alloc), (18, .last)] mixed (by kernel_rfl) trivial hO.bd ?_
   intro Xm Ph
   have oU := Stp.same hO Ph
   replace hO := oU.own
   have BC := hO.le
   replace hB := (((hB.trans vQ.fr).trans oT.fr).trans m9.fr).trans oU.fr
   have hw251 := hB.ch.size
   refine GoQA.pure rfl (op_move rfl) rfl rfl ?_
   refine GoQA.pure rfl (op_nilCheck rfl) rfl rfl ?_
   refine GoQA.pure rfl (op_fieldAddr Try.underlying83 rfl ti23 rfl (by decide)) rfl rfl ?_
   refine GoQA.stable rfl (oblk (i := 0) 4 hO rfl rfl Try.underlying23 rfl rfl) rfl rfl ?_
   refine GoQA.pure rfl (op_lenN Try.underlying23 rfl HK) rfl rfl ?_
   have Z12 := ((vQ.ch.trans oT.ch).trans m9.ch).trans oU.ch
   replace aW := aW.ch Z12
   replace H := H aW.bd
   refine GoQA.pure rfl (op_move rfl) rfl rfl ?_
   refine GoQA.pure rfl (op_move rfl) rfl rfl ?_
   refine GoQA.pure rfl (op_fieldAddr Try.underlying123 rfl ti23 rfl (by decide)) rfl rfl ?_
   refine GoQA.stable rfl (oblk (i := 6) 0 hO rfl rfl Try.underlying23 rfl rfl) rfl rfl ?_
   obtain ⟨Gq, H⟩ := H
   obtain ⟨Gr, H⟩ := H
   have Z13 := (oT.ch.trans m9.ch).trans oU.ch
   replace af := af.ch Z13
   refine GoQA.pure rfl (op_index Try.underlying23 ti31 rfl rfl Gq Gr (af.some_ Gq Gr)) rfl rfl ?_
   have hobt := ldSl af Gq Gr
   obtain ⟨Xn, Xo, gq, Pi⟩ := hobt
   refine GoQA.stable rfl (Pi Try.underlying31 rfl rfl) rfl rfl ?_
   refine GoQA.pure rfl (op_move rfl) rfl rfl ?_
   refine GoQA.loudI rfl rfl ?_
   intro Xp A260 rI
   replace hO := rI.own hO
   replace gq := gq.ch (rI.ch _)
   refine GoAt.call (op_call body86 rfl (walk_slices_Clone_int hO.lt gq H)) (fun v w hr => ⟨fun _ => (by obtain ⟨_, _, _, _, _, _, hs, _, _, _⟩ := hr; exact hs), Same.kp hO (by obtain ⟨_, _, _, _, _, _, hs, _, _, _⟩ := hr; exact hs)⟩) rfl ?_
   rintro Xq Xr ⟨r262, aK, aI, aJ, bx, rfl, Pj, hN266, aT, H⟩
   have gE := Stp.more hO Pj hN266
   dsimp only [List.cons_append, List.nil_append] at gE
   replace hO := gE.own
   obtain ⟨R7, H⟩ := H
   obtain ⟨R8, H⟩ := H
   refine GoQA.alloc rfl rfl (alMake2 (e' := 3) (Fl.int .i64) Try.underlying23 ti31 R7 R8 (by decide) rfl rfl) ?_
   intro JT A272 bg A274 p9 HL hd277 hnb278 hh279
   replace hO := p9.own hO
   have iD := gainCh (w := JT) (E := [.row 3 1 aI aK aJ bx, .blk B223 (.cells #[.int .i64 r215.Points, .bool r215.Monoid, .slice aM r215.Gens.length aN, .slice aB r215.Elems.length aC, .slice ay r215.Prefix.length az, .slice aO r215.Last.length aP, .slice aw r215.Right.length ax, .slice aG r215.Rules.length aH, .int .i64 r215.Done] 123 (0, 0)), .blk B207 (.cells #[.int .i64 (0 : Int), .slice none 0 0, .slice none 0 0, .slice none 0 0, .slice none 0 0, .slice none 0 0] 33 (0, 0)), .row 120 3 bO (0 + 1) bP cx, .blk B34 (.cells #[.int .i64 r26.Letters, .int .i64 r26.Start, .slice dx r26.Final.length dy, .slice d6 r26.Next.length d7] 25 (0, 0)), .blk B21 (.cells #[.slice p45 r26.Letters.toNat r26.Letters.toNat, .slice bO (0 + 1) bP, .int .i64 ((0 : Int) + (r26.Final.length : Int))] 83 (0, 0)), .blk B8 (.cells #[.int .i64 (0 : Int), .slice none 0 0, .slice none 0 0, .slice none 0 0, .slice none 0 0, .slice none 0 0] 33 (0, 0))]) (e := t2 (Fl.int .i64) 31 3 (some ⟨bg, 0, none⟩) r215.Elems.length r215.Elems.length ((fun _ => (none, 0))) (List.replicate r215.Elems.length ([] : List Int))) HL (t2fp_new bg)
   replace hB := ((hB.trans (rI.same.fr _)).trans gE.fr).trans (p9.same.fr _)
   replace hB := Fr.gain (e := t2 (Fl.int .i64) 31 3 (some ⟨bg, 0, none⟩) r215.Elems.length r215.Elems.length ((fun _ => (none, 0))) (List.replicate r215.Elems.length ([] : List Int))) hB (Nat.le_trans hw251 hnb278) (t2fp_new bg)
   replace hO := Owns.gain hO HL BC (t2fp_new bg) hh279 hd277
   obtain ⟨R9, H⟩ := H
   obtain ⟨Sa, H⟩ := H
   have hobt := alMakeE (n := (r215.Elems.length : Int)) (r := Rp.str) (d := ([] : Str)) Try.underlying30 ti9 (fun _ _ => ⟨rfl, Nat.zero_le _⟩) rfl R9 Sa (by decide)
   obtain ⟨yz, hal297, D3⟩ := hobt
   refine GoQA.alloc rfl rfl (hal297 rfl rfl) ?_
   intro FG A285 bi A287 qa HM hd290 hnb291 hh292
   replace hO := qa.own hO
   have jW := D3 (bl [t2 (Fl.int .i64) 31 3 (some ⟨bg, 0, none⟩) r215.Elems.length r215.Elems.length ((fun _ => (none, 0))) (List.replicate r215.Elems.length ([] : List Int)), .row 3 1 aI aK aJ bx, .blk B223 (.cells #[.int .i64 r215.Points, .bool r215.Monoid, .slice aM r215.Gens.length aN, .slice aB r215.Elems.length aC, .slice ay r215.Prefix.length az, .slice aO r215.Last.length aP, .slice aw r215.Right.length ax, .slice aG r215.Rules.length aH, .int .i64 r215.Done] 123 (0, 0)), .blk B207 (.cells #[.int .i64 (0 : Int), .slice none 0 0, .slice none 0 0, .slice none 0 0, .slice none 0 0, .slice none 0 0] 33 (0, 0)), .row 120 3 bO (0 + 1) bP cx, .blk B34 (.cells #[.int .i64 r26.Letters, .int .i64 r26.Start, .slice dx r26.Final.length dy, .slice d6 r26.Next.length d7] 25 (0, 0)), .blk B21 (.cells #[.slice p45 r26.Letters.toNat r26.Letters.toNat, .slice bO (0 + 1) bP, .int .i64 ((0 : Int) + (r26.Final.length : Int))] 83 (0, 0)), .blk B8 (.cells #[.int .i64 (0 : Int), .slice none 0 0, .slice none 0 0, .slice none 0 0, .slice none 0 0, .slice none 0 0] 33 (0, 0))] ++ A285) FG
   have rJ := gainCh (w := FG) (E := [t2 (Fl.int .i64) 31 3 (some ⟨bg, 0, none⟩) r215.Elems.length r215.Elems.length ((fun _ => (none, 0))) (List.replicate r215.Elems.length ([] : List Int)), .row 3 1 aI aK aJ bx, .blk B223 (.cells #[.int .i64 r215.Points, .bool r215.Monoid, .slice aM r215.Gens.length aN, .slice aB r215.Elems.length aC, .slice ay r215.Prefix.length az, .slice aO r215.Last.length aP, .slice aw r215.Right.length ax, .slice aG r215.Rules.length aH, .int .i64 r215.Done] 123 (0, 0)), .blk B207 (.cells #[.int .i64 (0 : Int), .slice none 0 0, .slice none 0 0, .slice none 0 0, .slice none 0 0, .slice none 0 0] 33 (0, 0)), .row 120 3 bO (0 + 1) bP cx, .blk B34 (.cells #[.int .i64 r26.Letters, .int .i64 r26.Start, .slice dx r26.Final.length dy, .slice d6 r26.Next.length d7] 25 (0, 0)), .blk B21 (.cells #[.slice p45 r26.Letters.toNat r26.Letters.toNat, .slice bO (0 + 1) bP, .int .i64 ((0 : Int) + (r26.Final.length : Int))] 83 (0, 0)), .blk B8 (.cells #[.int .i64 (0 : Int), .slice none 0 0, .slice none 0 0, .slice none 0 0, .slice none 0 0, .slice none 0 0] 33 (0, 0))]) (e := .row 9 1 (some ⟨bi, 0, none⟩) r215.Elems.length r215.Elems.length yz) HM rfl
   replace hB := hB.trans (qa.same.fr _)
   replace hB := Fr.gain (e := .row 9 1 (some ⟨bi, 0, none⟩) r215.Elems.length r215.Elems.length yz) hB (Nat.le_trans hw251 hnb291) rfl
   replace hO := Owns.gain hO HM BC rfl hh292 hd290
   obtain ⟨Sb, H⟩ := H
   obtain ⟨E7, H⟩ := H
   have hobt := alMakeE (n := (r215.Elems.length : Int)) (r := Rp.bool) (d := false) Try.underlying22 ti4 (fun _ _ => rfl) rfl Sb E7 (by decide)
   obtain ⟨BD, hal314, Pk⟩ := hobt
   refine GoQA.alloc rfl rfl (hal314 rfl rfl) ?_
   intro E6 A302 bm A304 oo HN hd307 hnb308 hh309
   replace hO := oo.own hO
   have eP := Pk (bl [.row 9 1 (some ⟨bi, 0, none⟩) r215.Elems.length r215.Elems.length yz, t2 (Fl.int .i64) 31 3 (some ⟨bg, 0, none⟩) r215.Elems.length r215.Elems.length ((fun _ => (none, 0))) (List.replicate r215.Elems.length ([] : List Int)), .row 3 1 aI aK aJ bx, .blk B223 (.cells #[.int .i64 r215.Points, .bool r215.Monoid, .slice aM r215.Gens.length aN, .slice aB r215.Elems.length aC, .slice ay r215.Prefix.length az, .slice aO r215.Last.length aP, .slice aw r215.Right.length ax, .slice aG r215.Rules.length aH, .int .i64 r215.Done] 123 (0, 0)), .blk B207 (.cells #[.int .i64 (0 : Int), .slice none 0 0, .slice none 0 0, .slice none 0 0, .slice none 0 0, .slice none 0 0] 33 (0, 0)), .row 120 3 bO (0 + 1) bP cx, .blk B34 (.cells #[.int .i64 r26.Letters, .int .i64 r26.Start, .slice dx r26.Final.length dy, .slice d6 r26.Next.length d7] 25 (0, 0)), .blk B21 (.cells #[.slice p45 r26.Letters.toNat r26.Letters.toNat, .slice bO (0 + 1) bP, .int .i64 ((0 : Int) + (r26.Final.length : Int))] 83 (0, 0)), .blk B8 (.cells #[.int .i64 (0 : Int), .slice none 0 0, .slice none 0 0, .slice none 0 0, .slice none 0 0, .slice none 0 0] 33 (0, 0))] ++ A302) E6
   have qb := gainCh (w := E6) (E := [.row 9 1 (some ⟨bi, 0, none⟩) r215.Elems.length r215.Elems.length yz, t2 (Fl.int .i64) 31 3 (some ⟨bg, 0, none⟩) r215.Elems.length r215.Elems.length ((fun _ => (none, 0))) (List.replicate r215.Elems.length ([] : List Int)), .row 3 1 aI aK aJ bx, .blk B223 (.cells #[.int .i64 r215.Points, .bool r215.Monoid, .slice aM r215.Gens.length aN, .slice aB r215.Elems.length aC, .slice ay r215.Prefix.length az, .slice aO r215.Last.length aP, .slice aw r215.Right.length ax, .slice aG r215.Rules.length aH, .int .i64 r215.Done] 123 (0, 0)), .blk B207 (.cells #[.int .i64 (0 : Int), .slice none 0 0, .slice none 0 0, .slice none 0 0, .slice none 0 0, .slice none 0 0] 33 (0, 0)), .row 120 3 bO (0 + 1) bP cx, .blk B34 (.cells #[.int .i64 r26.Letters, .int .i64 r26.Start, .slice dx r26.Final.length dy, .slice d6 r26.Next.length d7] 25 (0, 0)), .blk B21 (.cells #[.slice p45 r26.Letters.toNat r26.Letters.toNat, .slice bO (0 + 1) bP, .int .i64 ((0 : Int) + (r26.Final.length : Int))] 83 (0, 0)), .blk B8 (.cells #[.int .i64 (0 : Int), .slice none 0 0, .slice none 0 0, .slice none 0 0, .slice none 0 0, .slice none 0 0] 33 (0, 0))]) (e := .row 4 1 (some ⟨bm, 0, none⟩) r215.Elems.length r215.Elems.length BD) HN rfl
   replace hB := hB.trans (oo.same.fr _)
   replace hB := Fr.gain (e := .row 4 1 (some ⟨bm, 0, none⟩) r215.Elems.length r215.Elems.length BD) hB (Nat.le_trans hw251 hnb308) rfl
   replace hO := Owns.gain hO HN BC rfl hh309 hd307
   refine GoQA.pure rfl (op_build Try.underlying33 ti33 (pl := [(0, 1), (1, 1), (2, 1), (3, 1), (4, 1), (5, 1)]) (vs := [(0, .int .i64 (d_60.length : Int)), (1, .slice (some ⟨bg, 0, none⟩) r215.Elems.length r215.Elems.length), (2, .slice (some ⟨bi, 0, none⟩) r215.Elems.length r215.Elems.length), (3, .slice aI aK aJ), (5, .slice (some ⟨bm, 0, none⟩) r215.Elems.length r215.Elems.length)]) (cs := #[.int .i64 (d_60.length : Int), .slice (some ⟨bg, 0, none⟩) r215.Elems.length r215.Elems.length, .slice (some ⟨bi, 0, none⟩) r215.Elems.length r215.Elems.length, .slice aI aK aJ, .slice none 0 0, .slice (some ⟨bm, 0, none⟩) r215.Elems.length r215.Elems.length]) (by kernel_rfl) rfl (by kernel_rfl)) rfl rfl ?_
   refine GoQA.alloc rfl rfl (alAlloc (cs := #[.int .i64 (0 : Int), .slice none 0 0, .slice none 0 0, .slice none 0 0, .slice none 0 0, .slice none 0 0]) ti33 rfl) ?_
   intro J2 A319 c5 A321 nc HO hd324 hnb325 hh326
   replace hO := nc.own hO
   have fY := gainCh (w := J2) (E := [.row 4 1 (some ⟨bm, 0, none⟩) r215.Elems.length r215.Elems.length BD, .row 9 1 (some ⟨bi, 0, none⟩) r215.Elems.length r215.Elems.length yz, t2 (Fl.int .i64) 31 3 (some ⟨bg, 0, none⟩) r215.Elems.length r215.Elems.length ((fun _ => (none, 0))) (List.replicate r215.Elems.length ([] : List Int)), .row 3 1 aI aK aJ bx, .blk B223 (.cells #[.int .i64 r215.Points, .bool r215.Monoid, .slice aM r215.Gens.length aN, .slice aB r215.Elems.length aC, .slice ay r215.Prefix.length az, .slice aO r215.Last.length aP, .slice aw r215.Right.length ax, .slice aG r215.Rules.length aH, .int .i64 r215.Done] 123 (0, 0)), .blk B207 (.cells #[.int .i64 (0 : Int), .slice none 0 0, .slice none 0 0, .slice none 0 0, .slice none 0 0, .slice none 0 0] 33 (0, 0)), .row 120 3 bO (0 + 1) bP cx, .blk B34 (.cells #[.int .i64 r26.Letters, .int .i64 r26.Start, .slice dx r26.Final.length dy, .slice d6 r26.Next.length d7] 25 (0, 0)), .blk B21 (.cells #[.slice p45 r26.Letters.toNat r26.Letters.toNat, .slice bO (0 + 1) bP, .int .i64 ((0 : Int) + (r26.Final.length : Int))] 83 (0, 0)), .blk B8 (.cells #[.int .i64 (0 : Int), .slice none 0 0, .slice none 0 0, .slice none 0 0, .slice none 0 0, .slice none 0 0] 33 (0, 0))]) (e := .blk c5 (.cells #[.int .i64 (0 : Int), .slice none 0 0, .slice none 0 0, .slice none 0 0, .slice none 0 0, .slice none 0 0] 33 (0, 0))) HO rfl
   replace hB := hB.trans (nc.same.fr _)
   replace hB := Fr.gain (e := .blk c5 (.cells #[.int .i64 (0 : Int), .slice none 0 0, .slice none 0 0, .slice none 0 0, .slice none 0 0, .slice none 0 0] 33 (0, 0))) hB (Nat.le_trans hw251 hnb325) rfl
   replace hO := Owns.gain hO HO BC rfl hh326 hd324
   refine GoQA.lastI rfl rfl ?_
   intro Ic A329 ne
   replace hO := ne.own hO
   have hobt := oblkStAgg (us := [.int .i64 (d_60.length : Int), .slice (some ⟨bg, 0, none⟩) r215.Elems.length r215.Elems.length, .slice (some ⟨bi, 0, none⟩) r215.Elems.length r215.Elems.length, .slice aI aK aJ, .slice none 0 0, .slice (some ⟨bm, 0, none⟩) r215.Elems.length r215.Elems.length]) (o := 0) (cs' := #[.int .i64 (d_60.length : Int), .slice (some ⟨bg, 0, none⟩) r215.Elems.length r215.Elems.length, .slice (some ⟨bi, 0, none⟩) r215.Elems.length r215.Elems.length, .slice aI aK aJ, .slice none 0 0, .slice (some ⟨bm, 0, none⟩) r215.Elems.length r215.Elems.length]) 0 hO rfl rfl (Nat.le_of_ble_eq_true rfl) rfl
   obtain ⟨Xs, eA, KF⟩ := hobt
   dsimp only [sS, sZ] at eA
   refine GoAt.step (KF ti33 (by exact rfl) (by exact rfl) rfl) (fun h => nomatch h) (Stp.kp hO eA) rfl ?_
   replace hO := eA.own
   refine GoQA.nil ?_
   intro Xt A335 nf oq
   replace hO := nf.own hO
   replace hO := hO.permA oq
   refine zq (zq ?_)
   refine Go1.cut [(0, .pointer (some ⟨B21, 0, none⟩)), (2, .pointer (some ⟨B207, 0, none⟩)), (5, .pointer (some ⟨B223, 0, none⟩)), (7, .int .i64 (r215.Elems.length : Int)), (8, .pointer (some ⟨c5, 0, none⟩))] ⟨rfl, rfl, rfl, rfl, rfl, trivial⟩ ?_
   intro σ _
   refine zr (za rfl (zn (zb ?_)))
   replace hO := hO.drop 8
   replace aT := aT.ch (Ch.assoc _ _ _ _)
   replace hB := (((hB.trans (ne.same.fr _)).trans eA.fr).trans (nf.same.fr _)).trans (Owns.dropFr _ _ 8)
   have Z14 := ((((((qb.trans (nc.ch _)).trans fY).trans (ne.ch _)).trans eA.ch).trans (nf.ch _)).trans (permCh oq _)).trans (Owns.dropCh _ _ 8)
   replace eP := eP.ch Z14
   have Z15 := ((((((((rJ.trans (oo.ch _)).trans qb).trans (nc.ch _)).trans fY).trans (ne.ch _)).trans eA.ch).trans (nf.ch _)).trans (permCh oq _)).trans (Owns.dropCh _ _ 8)
   replace jW := jW.ch Z15
   have Z16 := ((((((((((((p9.ch _).trans iD).trans (qa.ch _)).trans rJ).trans (oo.ch _)).trans qb).trans (nc.ch _)).trans fY).trans (ne.ch _)).trans eA.ch).trans (nf.ch _)).trans (permCh oq _)).trans (Owns.dropCh _ _ 8)
   replace aT := aT.ch Z16
   have Z17 := ((((((((((((gE.ch.trans (p9.ch _)).trans iD).trans (qa.ch _)).trans rJ).trans (oo.ch _)).trans qb).trans (nc.ch _)).trans fY).trans (ne.ch _)).trans eA.ch).trans (nf.ch _)).trans (permCh oq _)).trans (Owns.dropCh _ _ 8)
   replace gq := gq.ch Z17
   have Z18 := ((((((((((((((rI.ch _).trans gE.ch).trans (p9.ch _)).trans iD).trans (qa.ch _)).trans rJ).trans (oo.ch _)).trans qb).trans (nc.ch _)).trans fY).trans (ne.ch _)).trans eA.ch).trans (nf.ch _)).trans (permCh oq _)).trans (Owns.dropCh _ _ 8)
   replace aW := aW.ch Z18
   replace af := af.ch Z18
   have Z19 := ((((((((((((((oU.ch.trans (rI.ch _)).trans gE.ch).trans (p9.ch _)).trans iD).trans (qa.ch _)).trans rJ).trans (oo.ch _)).trans qb).trans (nc.ch _)).trans fY).trans (ne.ch _)).trans eA.ch).trans (nf.ch _)).trans (permCh oq _)).trans (Owns.dropCh _ _ 8)
   replace ag := ag.ch Z19
   have Z20 := ((((((((((((((Z13.trans (rI.ch _)).trans gE.ch).trans (p9.ch _)).trans iD).trans (qa.ch _)).trans rJ).trans (oo.ch _)).trans qb).trans (nc.ch _)).trans fY).trans (ne.ch _)).trans eA.ch).trans (nf.ch _)).trans (permCh oq _)).trans (Owns.dropCh _ _ 8)
   replace am := am.ch Z20
   replace aa := aa.ch Z20
   replace aj := aj.ch Z20
   replace ai := ai.ch Z20
   have Z21 := (((((((((((((((((((((vO.ch.trans vP.ch).trans gP.ch).trans Ao).trans vQ.ch).trans oT.ch).trans m9.ch).trans oU.ch).trans (rI.ch _)).trans gE.ch).trans (p9.ch _)).trans iD).trans (qa.ch _)).trans rJ).trans (oo.ch _)).trans qb).trans (nc.ch _)).trans fY).trans (ne.ch _)).trans eA.ch).trans (nf.ch _)).trans (permCh oq _)).trans (Owns.dropCh _ _ 8)
   replace aA := aA.ch Z21
   have Z22 := ((((((((((((((((((((((wS.ch.trans vO.ch).trans vP.ch).trans gP.ch).trans Ao).trans vQ.ch).trans oT.ch).trans m9.ch).trans oU.ch).trans (rI.ch _)).trans gE.ch).trans (p9.ch _)).trans iD).trans (qa.ch _)).trans rJ).trans (oo.ch _)).trans qb).trans (nc.ch _)).trans fY).trans (ne.ch _)).trans eA.ch).trans (nf.ch _)).trans (permCh oq _)).trans (Owns.dropCh _ _ 8)
   replace dq := dq.ch Z22
   have Z23 := (((((((((((((((((((((((((eC.ch.trans EB).trans lY.ch).trans wS.ch).trans vO.ch).trans vP.ch).trans gP.ch).trans Ao).trans vQ.ch).trans oT.ch).trans m9.ch).trans oU.ch).trans (rI.ch _)).trans gE.ch).trans (p9.ch _)).trans iD).trans (qa.ch _)).trans rJ).trans (oo.ch _)).trans qb).trans (nc.ch _)).trans fY).trans (ne.ch _)).trans eA.ch).trans (nf.ch _)).trans (permCh oq _)).trans (Owns.dropCh _ _ 8)
   replace ap := ap.ch Z23
   have Z24 := ((((((((((((((((((((((((((Am.ch.trans eC.ch).trans EB).trans lY.ch).trans wS.ch).trans vO.ch).trans vP.ch).trans gP.ch).trans Ao).trans vQ.ch).trans oT.ch).trans m9.ch).trans oU.ch).trans (rI.ch _)).trans gE.ch).trans (p9.ch _)).trans iD).trans (qa.ch _)).trans rJ).trans (oo.ch _)).trans qb).trans (nc.ch _)).trans fY).trans (ne.ch _)).trans eA.ch).trans (nf.ch _)).trans (permCh oq _)).trans (Owns.dropCh _ _ 8)
   replace ar := ar.ch Z24
   dsimp only [eS, eZ] at hB hO ap ar dq aW am ag aa aj af ai gq eP jW aT aA
   refine Go1.loopW (S := Nat × List Bool × List Str) (fun s σ w => match s with | (k3_339, d_340, d_343) => ∃ (ot : List Value), ∃ (cH : List Value), agrees σ [(0, .pointer (some ⟨B21, 0, none⟩)), (2, .pointer (some ⟨B207, 0, none⟩)), (5, .pointer (some ⟨B223, 0, none⟩)), (7, .int .i64 (r215.Elems.length : Int)), (8, .pointer (some ⟨c5, 0, none⟩)), (9, .int .i64 (k3_339 : Int))] ∧ (fun Z0 => Owns w0.heap.size w Z0 A ∧ Els (Rp.bool) (bl Z0 ++ A) w ot d_340 ∧ Els (Rp.str) (bl Z0 ++ A) w cH d_343 ∧ Els (Rp.int .i64) (bl Z0 ++ A) w bx r262 ∧ Els (rppart) (bl Z0 ++ A) w cx ((([] : List part)) ++ ([(⟨((0 : Int) + r26.Start), r26.Final, (0 : Int)⟩ : part)])) ∧ ISl (Rp.sl (Rp.int .i64)) (bl Z0 ++ A) w p45 r26.Letters.toNat d_60 ∧ ISl (Rp.sl (Rp.int .i64)) (bl Z0 ++ A) w aM aN r215.Gens ∧ ISl (Rp.sl (Rp.int .i64)) (bl Z0 ++ A) w aB aC r215.Elems ∧ ISl (Rp.int .i64) (bl Z0 ++ A) w ay az r215.Prefix ∧ ISl (Rp.int .i64) (bl Z0 ++ A) w aO aP r215.Last ∧ ISl (Rp.sl (Rp.int .i64)) (bl Z0 ++ A) w aw ax r215.Right ∧ ISl (rpRule) (bl Z0 ++ A) w aG aH r215.Rules ∧ Fr (bl []) w0 (bl Z0) w) [.blk c5 (.cells #[.int .i64 (d_60.length : Int), .slice (some ⟨bg, 0, none⟩) r215.Elems.length r215.Elems.length, .slice (some ⟨bi, 0, none⟩) r215.Elems.length r215.Elems.length, .slice aI aK aJ, .slice none 0 0, .slice (some ⟨bm, 0, none⟩) r215.Elems.length r215.Elems.length] 33 (0, 0)), .row 4 1 (some ⟨bm, 0, none⟩) r215.Elems.length r215.Elems.length ot, .row 9 1 (some ⟨bi, 0, none⟩) r215.Elems.length r215.Elems.length cH, t2 (Fl.int .i64) 31 3 (some ⟨bg, 0, none⟩) r215.Elems.length r215.Elems.length ((fun _ => (none, 0))) (List.replicate r215.Elems.length ([] : List Int)), .row 3 1 aI aK aJ bx, .blk B223 (.cells #[.int .i64 r215.Points, .bool r215.Monoid, .slice aM r215.Gens.length aN, .slice aB r215.Elems.length aC, .slice ay r215.Prefix.length az, .slice aO r215.Last.length aP, .slice aw r215.Right.length ax, .slice aG r215.Rules.length aH, .int .i64 r215.Done] 123 (0, 0)), .blk B207 (.cells #[.int .i64 (0 : Int), .slice none 0 0, .slice none 0 0, .slice none 0 0, .slice none 0 0, .slice none 0 0] 33 (0, 0)), .row 120 3 bO (0 + 1) bP cx, .blk B21 (.cells #[.slice p45 r26.Letters.toNat r26.Letters.toNat, .slice bO (0 + 1) bP, .int .i64 ((0 : Int) + (r26.Final.length : Int))] 83 (0, 0)), .blk B8 (.cells #[.int .i64 (0 : Int), .slice none 0 0, .slice none 0 0, .slice none 0 0, .slice none 0 0, .slice none 0 0] 33 (0, 0))]) H ⟨BD, yz, ⟨rfl, rfl, rfl, rfl, rfl, rfl, trivial⟩, hO, eP, jW, aT, aA, aW, am, ag, aa, aj, af, ai, hB⟩ ?_
   intro X3
   refine prE fun k3_339 => prE fun d_340 => fun d_343 => ?_
   intro H hX3 σ Qm
   refine exE fun ot => exE fun cH => andE fun hag => andE fun hO => andE fun sO => andE fun bf => andE fun aT => andE fun aA => andE fun aW => andE fun am => andE fun ag => andE fun aa => andE fun aj => andE fun af => andE fun ai => fun hB => ?_
   dsimp only at H
   refine Go1.keep [(0, .pointer (some ⟨B21, 0, none⟩)), (2, .pointer (some ⟨B207, 0, none⟩)), (5, .pointer (some ⟨B223, 0, none⟩)), (7, .int .i64 (r215.Elems.length : Int)), (8, .pointer (some ⟨c5, 0, none⟩)), (9, .int .i64 (k3_339 : Int))] hag ?_
   refine zq (zq (zr (zm rfl (zm rfl ?_))))
   by_cases CT : (k3_339 : Int) < (r215.Elems.length : Int)
   ·replace H := ifp CT H
    refine zo (fun w => opB (op_lss rfl rfl w) (decide_eq_true CT)) (zn (zt rfl rfl (zk (zq (zb ?_)))))
    refine zq ?_
    refine Go1.drawS 1 [(0, .pure), (1, .stable), (2, .pure), (3, .pure), (4, .stable), (5, .pure), (6, .stable), (7, .pure), (8, .pure), (9, .stable), (10, .pure), (11, .stable), (12, .pure), (13, .stable), (14, .pure), (15, .pure), (16, .stable), (17, .pure), (18, .pure), (19, .loud), (20, .stable), (21, .pure), (22, .pure), (23, .last)] mixed (by kernel_rfl) ?_
    intro Xu Pl
    have oV := Stp.same hO Pl
    replace hO := oV.own
    refine GoQ.pure rfl (op_fieldAddr Try.underlying33 rfl ti30 rfl (by decide)) rfl rfl ?_
    refine GoQ.stable rfl (oblk (i := 2) 0 hO rfl rfl Try.underlying30 rfl rfl) rfl rfl ?_
    refine GoQ.pure rfl (op_move rfl) rfl rfl ?_
    refine GoQ.pure rfl (op_fieldAddr Try.underlying33 rfl ti30 rfl (by decide)) rfl rfl ?_
    refine GoQ.stable rfl (oblk (i := 2) 0 hO rfl rfl Try.underlying30 rfl rfl) rfl rfl ?_
    refine GoQ.pure rfl (op_fieldAddr Try.underlying123 rfl ti31 rfl (by decide)) rfl rfl ?_
    refine GoQ.stable rfl (oblk (i := 4) 5 hO rfl rfl Try.underlying31 rfl rfl) rfl rfl ?_
    refine GoQ.pure rfl (op_move rfl) rfl rfl ?_
    obtain ⟨CD, H⟩ := H
    obtain ⟨Gs, H⟩ := H
    replace aa := aa.ch oV.ch
    refine GoQ.pure rfl (op_index Try.underlying31 ti3 rfl rfl CD Gs (aa.some_ CD Gs)) rfl rfl ?_
    refine GoQ.stable rfl (ldInt aa CD Gs Try.underlying3 rfl rfl) rfl rfl ?_
    obtain ⟨EC, H⟩ := H
    obtain ⟨ED, H⟩ := H
    replace bf := bf.ch oV.ch
    refine GoQ.pure rfl (op_index Try.underlying30 ti9 rfl rfl EC (ltn (bf.neq hO 2 rfl) ED) (bf.psome hO 2 rfl EC ED)) rfl rfl ?_
    refine GoQ.stable rfl (oldStr 2 hO rfl bf EC ED Try.underlying9 rfl rfl) rfl rfl ?_
    have hle354 := Els.str_le bf EC ED
    refine GoQ.pure rfl (op_fieldAddr Try.underlying123 rfl ti31 rfl (by decide)) rfl rfl ?_
    refine GoQ.stable rfl (oblk (i := 5) 5 hO rfl rfl Try.underlying31 rfl rfl) rfl rfl ?_
    refine GoQ.pure rfl (op_move rfl) rfl rfl ?_
    obtain ⟨Gt, H⟩ := H
    obtain ⟨Gu, H⟩ := H
    replace aj := aj.ch oV.ch
    refine GoQ.pure rfl (op_index Try.underlying31 ti3 rfl rfl Gt Gu (aj.some_ Gt Gu)) rfl rfl ?_
    refine GoQ.stable rfl (ldInt aj Gt Gu Try.underlying3 rfl rfl) rfl rfl ?_
    obtain ⟨Sc, H⟩ := H
    refine GoQ.pure rfl (op_add rfl rfl (wrap_i64 Sc)) rfl rfl ?_
    refine GoQ.pure rfl (op_conv Try.underlying3 Try.underlying5 rfl rfl) rfl rfl ?_
    have hobt := obuild (r := Rp.int .u8) (n := 1) (parts := [(0, .int .u8 (IntKind.u8.wrap ((97 : Int) + (ix r215.Last (k3_339 : Int)))))]) (vs := [.int .u8 (IntKind.u8.wrap ((97 : Int) + (ix r215.Last (k3_339 : Int))))]) (xs := [(IntKind.u8.wrap ((97 : Int) + (ix r215.Last (k3_339 : Int))))]) rfl Try.underlying126 ti5 hO (by decide) (by kernel_rfl) (Els.cons rfl rfl (Els.nil _ _ _) (by simp [mx])) rfl
    obtain ⟨Ie, Xv, dP, yA, Pm, KG⟩ := hobt
    refine GoQ.loud rfl (KG rfl) Pm rfl rfl ?_
    replace hO := dP.own
    have hle365 := byt_le yA.bd
    refine GoQ.stable rfl (oldBytes 0 hO rfl yA Try.underlying126 Try.underlying5 Try.underlying9 rfl) rfl rfl ?_
    obtain ⟨KH, H⟩ := H
    refine GoQ.pure rfl (op_addS rfl rfl KH) rfl rfl ?_
    obtain ⟨Gv, H⟩ := H
    obtain ⟨Gw, H⟩ := H
    replace bf := bf.ch dP.ch
    refine GoQ.pure rfl (op_index Try.underlying30 ti9 rfl rfl Gv (ltn (bf.neq hO 3 rfl) Gw) (bf.psome hO 3 rfl Gv Gw)) rfl rfl ?_
    have hobt := ost (r := Rp.str) rfl 3 hO rfl bf Gv Gw (v := .string (gstr ((ix d_343 (ix r215.Prefix (k3_339 : Int))) ++ (byt ([(IntKind.u8.wrap ((97 : Int) + (ix r215.Last (k3_339 : Int))))]))))) (u := ((ix d_343 (ix r215.Prefix (k3_339 : Int))) ++ (byt ([(IntKind.u8.wrap ((97 : Int) + (ix r215.Last (k3_339 : Int))))])))) rfl ⟨rfl, (lenApp KH)⟩
    obtain ⟨Xw, Pn, ng, xA, B5⟩ := hobt
    dsimp only [sS, sZ] at ng xA
    refine GoQ.last rfl (B5 Try.underlying9 rfl ti9 (by exact rfl) (by exact rfl)) rfl rfl ?_
    replace hO := ng.own
    refine GoQ.nil ?_
    refine Go1.cut [(0, .pointer (some ⟨B21, 0, none⟩)), (2, .pointer (some ⟨B207, 0, none⟩)), (5, .pointer (some ⟨B223, 0, none⟩)), (7, .int .i64 (r215.Elems.length : Int)), (8, .pointer (some ⟨c5, 0, none⟩)), (9, .int .i64 (k3_339 : Int))] ⟨rfl, rfl, rfl, rfl, rfl, rfl, trivial⟩ ?_
    intro σ _
    refine zr (zo (op_fieldAddr Try.underlying33 rfl ti22 rfl (by decide)) (zs (oblk (i := 5) 1 hO rfl rfl Try.underlying22 rfl rfl) (zm rfl ?_)))
    obtain ⟨B3, H⟩ := H
    obtain ⟨xh, H⟩ := H
    have Z25 := (oV.ch.trans dP.ch).trans ng.ch
    replace sO := sO.ch Z25
    refine zo (op_index Try.underlying22 ti4 rfl rfl B3 (ltn (sO.neq hO 2 rfl) xh) (sO.psome hO 2 rfl B3 xh)) ?_
    have hobt := ost (r := Rp.bool) rfl 2 hO rfl sO B3 xh (v := .bool true) (u := true) rfl rfl
    obtain ⟨Xx, Po, nh, Ap, KI⟩ := hobt
    dsimp only [sS, sZ] at nh Ap
    refine zg (KI Try.underlying4 rfl ti4 (by exact rfl) (by exact rfl)) ?_
    replace hO := nh.own
    refine zn ?_
    refine Go1.inBlock ?_
    refine zr (zm rfl ?_)
    replace ag := (ag.ch Z25).ch nh.ch
    refine zo (op_add rfl rfl (wrap_i64 (natbd CT ag.bd))) (za rfl (zn ?_))
    replace hO := hO.drop 0
    replace ag := ag.ch (Owns.dropCh _ _ 0)
    replace Ap := Ap.ch (Owns.dropCh _ _ 0)
    replace xA := (xA.ch nh.ch).ch (Owns.dropCh _ _ 0)
    have Z26 := ((dP.ch.trans ng.ch).trans nh.ch).trans (Owns.dropCh _ _ 0)
    replace aa := aa.ch Z26
    replace aj := aj.ch Z26
    have Z27 := (Z25.trans nh.ch).trans (Owns.dropCh _ _ 0)
    replace aT := aT.ch Z27
    replace aA := aA.ch Z27
    replace aW := aW.ch Z27
    replace am := am.ch Z27
    replace af := af.ch Z27
    replace ai := ai.ch Z27
    replace hB := ((((hB.trans oV.fr).trans dP.fr).trans ng.fr).trans nh.fr).trans (Owns.dropFr _ _ 0)
    dsimp only [eS, eZ] at hB hO aW am ag aa aj af ai Ap xA aT aA
    exact hX3 _ H _ _ ⟨Po, Pn, ⟨rfl, rfl, rfl, rfl, rfl, rfl, trivial⟩, hO, Ap, xA, aT, aA, aW, am, ag, aa, aj, af, ai, hB⟩
   replace H := ifn CT H
   refine zo (fun w => opB (op_lss rfl rfl w) (decide_eq_false CT)) (zn (zf rfl rfl ?_))
   refine Go1.exit rfl ?_
   refine zq (zq (zr (zo (op_fieldAddr Try.underlying123 rfl ti23 rfl (by decide)) (zs (oblk (i := 6) 5 hO rfl rfl Try.underlying23 rfl rfl) (zo (op_len Try.underlying23 rfl) ?_)))))
   replace H := H af.bd
   refine zm rfl (zn (zb ?_))
   refine Go1.loopW (S := Nat × List Bool × List (List Int)) (fun s σ w => match s with | (k4_382, d_383, d_386) => ∃ (eI : List Value), ∃ (dr : Hd), agrees σ [(0, .pointer (some ⟨B21, 0, none⟩)), (2, .pointer (some ⟨B207, 0, none⟩)), (5, .pointer (some ⟨B223, 0, none⟩)), (7, .int .i64 (r215.Elems.length : Int)), (8, .pointer (some ⟨c5, 0, none⟩)), (86, .slice aw r215.Right.length ax), (87, .int .i64 (r215.Right.length : Int)), (88, .int .i64 (k4_382 : Int))] ∧ (fun Z0 => Owns w0.heap.size w Z0 A ∧ Els (Rp.bool) (bl Z0 ++ A) w eI d_383 ∧ Els (Rp.str) (bl Z0 ++ A) w cH d_343 ∧ Els (Rp.int .i64) (bl Z0 ++ A) w bx r262 ∧ Els (rppart) (bl Z0 ++ A) w cx ((([] : List part)) ++ ([(⟨((0 : Int) + r26.Start), r26.Final, (0 : Int)⟩ : part)])) ∧ ISl (Rp.sl (Rp.int .i64)) (bl Z0 ++ A) w p45 r26.Letters.toNat d_60 ∧ ISl (Rp.sl (Rp.int .i64)) (bl Z0 ++ A) w aM aN r215.Gens ∧ ISl (Rp.sl (Rp.int .i64)) (bl Z0 ++ A) w aB aC r215.Elems ∧ ISl (Rp.int .i64) (bl Z0 ++ A) w ay az r215.Prefix ∧ ISl (Rp.int .i64) (bl Z0 ++ A) w aO aP r215.Last ∧ ISl (Rp.sl (Rp.int .i64)) (bl Z0 ++ A) w aw ax r215.Right ∧ ISl (rpRule) (bl Z0 ++ A) w aG aH r215.Rules ∧ Fr (bl []) w0 (bl Z0) w) [.blk c5 (.cells #[.int .i64 (d_60.length : Int), .slice (some ⟨bg, 0, none⟩) r215.Elems.length r215.Elems.length, .slice (some ⟨bi, 0, none⟩) r215.Elems.length r215.Elems.length, .slice aI aK aJ, .slice none 0 0, .slice (some ⟨bm, 0, none⟩) r215.Elems.length r215.Elems.length] 33 (0, 0)), .row 4 1 (some ⟨bm, 0, none⟩) r215.Elems.length r215.Elems.length eI, .row 9 1 (some ⟨bi, 0, none⟩) r215.Elems.length r215.Elems.length cH, t2 (Fl.int .i64) 31 3 (some ⟨bg, 0, none⟩) r215.Elems.length r215.Elems.length dr d_386, .row 3 1 aI aK aJ bx, .blk B223 (.cells #[.int .i64 r215.Points, .bool r215.Monoid, .slice aM r215.Gens.length aN, .slice aB r215.Elems.length aC, .slice ay r215.Prefix.length az, .slice aO r215.Last.length aP, .slice aw r215.Right.length ax, .slice aG r215.Rules.length aH, .int .i64 r215.Done] 123 (0, 0)), .blk B207 (.cells #[.int .i64 (0 : Int), .slice none 0 0, .slice none 0 0, .slice none 0 0, .slice none 0 0, .slice none 0 0] 33 (0, 0)), .row 120 3 bO (0 + 1) bP cx, .blk B21 (.cells #[.slice p45 r26.Letters.toNat r26.Letters.toNat, .slice bO (0 + 1) bP, .int .i64 ((0 : Int) + (r26.Final.length : Int))] 83 (0, 0)), .blk B8 (.cells #[.int .i64 (0 : Int), .slice none 0 0, .slice none 0 0, .slice none 0 0, .slice none 0 0, .slice none 0 0] 33 (0, 0))]) H ⟨ot, (fun _ => (none, 0)), ⟨rfl, rfl, rfl, rfl, rfl, rfl, rfl, rfl, trivial⟩, hO, sO, bf, aT, aA, aW, am, ag, aa, aj, af, ai, hB⟩ ?_
   intro X4
   refine prE fun k4_382 => prE fun d_383 => fun d_386 => ?_
   intro H hX4 σ Xy
   refine exE fun eI => exE fun dr => andE fun hag => andE fun hO => andE fun cv => andE fun bf => andE fun aT => andE fun aA => andE fun aW => andE fun am => andE fun ag => andE fun aa => andE fun aj => andE fun af => andE fun ai => fun hB => ?_
   dsimp only at H
   refine Go1.keep [(0, .pointer (some ⟨B21, 0, none⟩)), (2, .pointer (some ⟨B207, 0, none⟩)), (5, .pointer (some ⟨B223, 0, none⟩)), (7, .int .i64 (r215.Elems.length : Int)), (8, .pointer (some ⟨c5, 0, none⟩)), (86, .slice aw r215.Right.length ax), (87, .int .i64 (r215.Right.length : Int)), (88, .int .i64 (k4_382 : Int))] hag ?_
   refine zq (zr ?_)
   by_cases AY : (k4_382 : Int) < (r215.Right.length : Int)
   ·replace H := ifp AY H
    refine zo (fun w => opB (op_lss rfl rfl w) (decide_eq_true AY)) (zn (zq (zt rfl rfl (zk (zq ?_)))))
    refine zb (zq (zr (zm rfl ?_)))
    obtain ⟨Gx, H⟩ := H
    obtain ⟨B7, H⟩ := H
    refine zo (op_index Try.underlying23 ti31 rfl rfl Gx B7 (af.some_ Gx B7)) ?_
    have hobt := ldSl af Gx B7
    obtain ⟨RO, Xz, gi, Pp⟩ := hobt
    refine zs (Pp Try.underlying31 rfl rfl) (za rfl (za rfl (zn (zq ?_))))
    refine Go1.drawS 1 [(0, .pure), (1, .stable), (2, .pure), (3, .stable), (4, .pure), (5, .stable), (6, .pure), (7, .pure), (8, .loud), (9, .pure), (10, .pure), (11, .last)] mixed (by kernel_rfl) ?_
    intro XA Pq
    have ni := Stp.same hO Pq
    replace hO := ni.own
    refine GoQ.pure rfl (op_fieldAddr Try.underlying33 rfl ti22 rfl (by decide)) rfl rfl ?_
    refine GoQ.stable rfl (oblk (i := 5) 0 hO rfl rfl Try.underlying22 rfl rfl) rfl rfl ?_
    refine GoQ.pure rfl (op_fieldAddr Try.underlying33 rfl ti22 rfl (by decide)) rfl rfl ?_
    refine GoQ.stable rfl (oblk (i := 5) 0 hO rfl rfl Try.underlying22 rfl rfl) rfl rfl ?_
    obtain ⟨xG, H⟩ := H
    obtain ⟨xH, H⟩ := H
    replace cv := cv.ch ni.ch
    refine GoQ.pure rfl (op_index Try.underlying22 ti4 rfl rfl xG (ltn (cv.neq hO 1 rfl) xH) (cv.psome hO 1 rfl xG xH)) rfl rfl ?_
    by_cases h400 : ix d_383 (0 : Int) = true
    ·replace H := ifp h400 H
     refine GoQ.stable rfl (fun w hw => opB ((oldBool 1 hO rfl cv xG xH Try.underlying4 rfl rfl) w hw) (h400)) rfl rfl ?_
     refine GoQ.pure rfl (op_move rfl) rfl rfl ?_
     refine GoQ.pass rfl rfl rfl ?_
     refine GoQ.pass rfl rfl rfl ?_
     refine GoQ.pure rfl (op_pickT rfl rfl rfl) rfl rfl ?_
     obtain ⟨Gy, H⟩ := H
     obtain ⟨Gz, H⟩ := H
     refine GoQ.pure rfl (op_index Try.underlying22 ti4 rfl rfl Gy (ltn (cv.neq hO 1 rfl) Gz) (cv.psome hO 1 rfl Gy Gz)) rfl rfl ?_
     have hobt := ost (r := Rp.bool) rfl 1 hO rfl cv Gy Gz (v := .bool true) (u := true) rfl rfl
     obtain ⟨XB, m5, fe, cT, CE⟩ := hobt
     dsimp only [sS, sZ] at fe cT
     refine GoQ.last rfl (CE Try.underlying4 rfl ti4 (by exact rfl) (by exact rfl)) rfl rfl ?_
     replace hO := fe.own
     refine GoQ.nil ?_
     refine zq ?_
     refine Go1.drawS 1 [(0, .pure), (1, .stable), (2, .pure), (3, .pure), (4, .loud), (5, .pure), (6, .last)] mixed (by kernel_rfl) ?_
     intro Q7 D6
     have fd := Stp.same hO D6
     replace hO := fd.own
     refine GoQ.pure rfl (op_fieldAddr Try.underlying33 rfl ti23 rfl (by decide)) rfl rfl ?_
     refine GoQ.stable rfl (oblk (i := 1) 0 hO rfl rfl Try.underlying23 rfl rfl) rfl rfl ?_
     refine GoQ.pure rfl (op_move rfl) rfl rfl ?_
     refine GoQ.pure rfl (op_move rfl) rfl rfl ?_
     obtain ⟨Sd, H⟩ := H
     obtain ⟨Se, H⟩ := H
     have hobt := omake (n := (r215.Elems.length : Int)) (r := Rp.int .i64) (d := (0 : Int)) Try.underlying31 ti3 (fun _ _ => rfl) rfl hO Sd Se (by decide)
     obtain ⟨XC, tM, Tv, eg, xx, HG, CF⟩ := hobt
     refine GoQ.loud rfl (CF rfl rfl) HG rfl rfl ?_
     replace hO := eg.own
     obtain ⟨GA, H⟩ := H
     obtain ⟨CG, H⟩ := H
     refine GoQ.pure rfl (op_index Try.underlying23 ti31 rfl rfl GA (ltn (t2neq 4 hO rfl) CG) (t2some 4 hO rfl GA CG)) rfl rfl ?_
     have lL := Stp.front 4 hO rfl
     dsimp only [eS, eZ] at lL
     replace hO := lL.own
     have lM := Stp.front 1 hO rfl
     dsimp only [eS, eZ] at lM
     replace hO := lM.own
     replace xx := (xx.ch lL.ch).ch lM.ch
     have hobt := t2put (hf := (Fl.int .i64)) hO xx GA CG
     obtain ⟨XD, nj, KJ⟩ := hobt
     refine GoQ.last rfl (KJ Try.underlying31 rfl ti31 (by exact rfl) (by exact rfl)) rfl rfl ?_
     replace hO := nj.own
     refine GoQ.nil ?_
     refine zq ?_
     refine Go1.cut [(0, .pointer (some ⟨B21, 0, none⟩)), (2, .pointer (some ⟨B207, 0, none⟩)), (5, .pointer (some ⟨B223, 0, none⟩)), (7, .int .i64 (r215.Elems.length : Int)), (8, .pointer (some ⟨c5, 0, none⟩)), (10, .int .i64 (k4_382 : Int)), (86, .slice aw r215.Right.length ax), (87, .int .i64 (r215.Right.length : Int)), (88, .int .i64 (k4_382 : Int))] ⟨rfl, rfl, rfl, rfl, rfl, rfl, rfl, rfl, rfl, trivial⟩ ?_
     intro σ _
     refine zr (zo (op_fieldAddr Try.underlying33 rfl ti23 rfl (by decide)) (zs (oblk (i := 1) 1 hO rfl rfl Try.underlying23 rfl rfl) (zm rfl ?_)))
     obtain ⟨CU, H⟩ := H
     obtain ⟨y6, H⟩ := H
     refine zo (op_index Try.underlying23 ti31 rfl rfl CU (ltn (t2neq 0 hO rfl) y6) (t2some 0 hO rfl CU y6)) (zs (t2head 0 hO rfl CU y6 Try.underlying31 rfl rfl) (zm rfl ?_))
     obtain ⟨GB, H⟩ := H
     obtain ⟨GC, H⟩ := H
     refine zo (op_index Try.underlying31 ti3 rfl rfl GB GC (t2isome 0 hO rfl CU y6 GB GC)) ?_
     have hobt := t2st (r := Rp.int .i64) (hf := (Fl.int .i64)) rfl 0 hO rfl CU y6 GB GC (v := .int .i64 (k4_382 : Int)) (u := (k4_382 : Int)) rfl rfl
     obtain ⟨XE, mt, KK⟩ := hobt
     dsimp only [sS, sZ] at mt
     refine zg (KK Try.underlying3 rfl ti3 (by exact rfl) (by exact rfl)) ?_
     replace hO := mt.own
     refine zn (zq (zr (za rfl (zn (zb ?_)))))
     have Z28 := ((((fd.ch.trans eg.ch).trans lL.ch).trans lM.ch).trans nj.ch).trans mt.ch
     replace cT := cT.ch Z28
     have Z29 := ((((((ni.ch.trans fe.ch).trans fd.ch).trans eg.ch).trans lL.ch).trans lM.ch).trans nj.ch).trans mt.ch
     replace bf := bf.ch Z29
     replace aT := aT.ch Z29
     replace aA := aA.ch Z29
     replace aW := aW.ch Z29
     replace am := am.ch Z29
     replace ag := ag.ch Z29
     replace aa := aa.ch Z29
     replace aj := aj.ch Z29
     replace af := af.ch Z29
     replace ai := ai.ch Z29
     replace hB := (((((((hB.trans ni.fr).trans fe.fr).trans fd.fr).trans eg.fr).trans lL.fr).trans lM.fr).trans nj.fr).trans mt.fr
     refine Go1.loopW (S := Nat × List (List Int)) (fun s σ w => match s with | (k5_436, d_437) => agrees σ [(0, .pointer (some ⟨B21, 0, none⟩)), (2, .pointer (some ⟨B207, 0, none⟩)), (5, .pointer (some ⟨B223, 0, none⟩)), (7, .int .i64 (r215.Elems.length : Int)), (8, .pointer (some ⟨c5, 0, none⟩)), (10, .int .i64 (k4_382 : Int)), (12, .int .i64 (k5_436 : Int)), (86, .slice aw r215.Right.length ax), (87, .int .i64 (r215.Right.length : Int)), (88, .int .i64 (k4_382 : Int))] ∧ (fun Z0 => Owns w0.heap.size w Z0 A ∧ Els (Rp.bool) (bl Z0 ++ A) w m5 (st d_383 (0 : Int) true) ∧ Els (Rp.str) (bl Z0 ++ A) w cH d_343 ∧ Els (Rp.int .i64) (bl Z0 ++ A) w bx r262 ∧ Els (rppart) (bl Z0 ++ A) w cx ((([] : List part)) ++ ([(⟨((0 : Int) + r26.Start), r26.Final, (0 : Int)⟩ : part)])) ∧ ISl (Rp.sl (Rp.int .i64)) (bl Z0 ++ A) w p45 r26.Letters.toNat d_60 ∧ ISl (Rp.sl (Rp.int .i64)) (bl Z0 ++ A) w aM aN r215.Gens ∧ ISl (Rp.sl (Rp.int .i64)) (bl Z0 ++ A) w aB aC r215.Elems ∧ ISl (Rp.int .i64) (bl Z0 ++ A) w ay az r215.Prefix ∧ ISl (Rp.int .i64) (bl Z0 ++ A) w aO aP r215.Last ∧ ISl (Rp.sl (Rp.int .i64)) (bl Z0 ++ A) w aw ax r215.Right ∧ ISl (rpRule) (bl Z0 ++ A) w aG aH r215.Rules ∧ Fr (bl []) w0 (bl Z0) w) [t2 (Fl.int .i64) 31 3 (some ⟨bg, 0, none⟩) r215.Elems.length r215.Elems.length (hup dr (k4_382 : Int).toNat (tM, r215.Elems.length)) d_437, .blk c5 (.cells #[.int .i64 (d_60.length : Int), .slice (some ⟨bg, 0, none⟩) r215.Elems.length r215.Elems.length, .slice (some ⟨bi, 0, none⟩) r215.Elems.length r215.Elems.length, .slice aI aK aJ, .slice none 0 0, .slice (some ⟨bm, 0, none⟩) r215.Elems.length r215.Elems.length] 33 (0, 0)), .row 4 1 (some ⟨bm, 0, none⟩) r215.Elems.length r215.Elems.length m5, .row 9 1 (some ⟨bi, 0, none⟩) r215.Elems.length r215.Elems.length cH, .row 3 1 aI aK aJ bx, .blk B223 (.cells #[.int .i64 r215.Points, .bool r215.Monoid, .slice aM r215.Gens.length aN, .slice aB r215.Elems.length aC, .slice ay r215.Prefix.length az, .slice aO r215.Last.length aP, .slice aw r215.Right.length ax, .slice aG r215.Rules.length aH, .int .i64 r215.Done] 123 (0, 0)), .blk B207 (.cells #[.int .i64 (0 : Int), .slice none 0 0, .slice none 0 0, .slice none 0 0, .slice none 0 0, .slice none 0 0] 33 (0, 0)), .row 120 3 bO (0 + 1) bP cx, .blk B21 (.cells #[.slice p45 r26.Letters.toNat r26.Letters.toNat, .slice bO (0 + 1) bP, .int .i64 ((0 : Int) + (r26.Final.length : Int))] 83 (0, 0)), .blk B8 (.cells #[.int .i64 (0 : Int), .slice none 0 0, .slice none 0 0, .slice none 0 0, .slice none 0 0, .slice none 0 0] 33 (0, 0))]) H ⟨⟨rfl, rfl, rfl, rfl, rfl, rfl, rfl, rfl, rfl, rfl, trivial⟩, hO, cT, bf, aT, aA, aW, am, ag, aa, aj, af, ai, hB⟩ ?_
     intro X5
     refine prE fun k5_436 => fun d_437 => ?_
     intro H hX5 σ XF
     refine andE fun hag => andE fun hO => andE fun cT => andE fun bf => andE fun aT => andE fun aA => andE fun aW => andE fun am => andE fun ag => andE fun aa => andE fun aj => andE fun af => andE fun ai => fun hB => ?_
     dsimp only at H
     refine Go1.keep [(0, .pointer (some ⟨B21, 0, none⟩)), (2, .pointer (some ⟨B207, 0, none⟩)), (5, .pointer (some ⟨B223, 0, none⟩)), (7, .int .i64 (r215.Elems.length : Int)), (8, .pointer (some ⟨c5, 0, none⟩)), (10, .int .i64 (k4_382 : Int)), (12, .int .i64 (k5_436 : Int)), (86, .slice aw r215.Right.length ax), (87, .int .i64 (r215.Right.length : Int)), (88, .int .i64 (k4_382 : Int))] hag ?_
     refine zq (zq (zr (zm rfl (zm rfl ?_))))
     by_cases CV : (k5_436 : Int) < (r215.Elems.length : Int)
     ·replace H := ifp CV H
      refine zo (fun w => opB (op_lss rfl rfl w) (decide_eq_true CV)) (zn (zt rfl rfl (zk (zq (zb ?_)))))
      refine Go1.drawS 1 [(0, .pure), (1, .stable), (2, .pure), (3, .pure), (4, .stable), (5, .pure), (6, .pure), (7, .stable), (8, .pure), (9, .stable), (10, .pure), (11, .pure), (12, .stable), (13, .pure), (14, .stable), (15, .pure), (16, .pure), (17, .stable), (18, .pure), (19, .stable), (20, .pure), (21, .stable), (22, .pure), (23, .stable), (24, .pure), (25, .pure), (26, .stable), (27, .pure), (28, .stable), (29, .pure), (30, .last)] mixed (by kernel_rfl) ?_
      intro XG Pr
      have oW := Stp.same hO Pr
      replace hO := oW.own
      refine GoQ.pure rfl (op_fieldAddr Try.underlying33 rfl ti23 rfl (by decide)) rfl rfl ?_
      refine GoQ.stable rfl (oblk (i := 1) 1 hO rfl rfl Try.underlying23 rfl rfl) rfl rfl ?_
      refine GoQ.pure rfl (op_move rfl) rfl rfl ?_
      obtain ⟨CW, H⟩ := H
      obtain ⟨CX, H⟩ := H
      refine GoQ.pure rfl (op_index Try.underlying23 ti31 rfl rfl CW (ltn (t2neq 0 hO rfl) CX) (t2some 0 hO rfl CW CX)) rfl rfl ?_
      refine GoQ.stable rfl (t2head 0 hO rfl CW CX Try.underlying31 rfl rfl) rfl rfl ?_
      refine GoQ.pure rfl (op_move rfl) rfl rfl ?_
      refine GoQ.pure rfl (op_fieldAddr Try.underlying123 rfl ti23 rfl (by decide)) rfl rfl ?_
      refine GoQ.stable rfl (oblk (i := 6) 5 hO rfl rfl Try.underlying23 rfl rfl) rfl rfl ?_
      refine GoQ.pure rfl (op_fieldAddr Try.underlying33 rfl ti23 rfl (by decide)) rfl rfl ?_
      refine GoQ.stable rfl (oblk (i := 1) 1 hO rfl rfl Try.underlying23 rfl rfl) rfl rfl ?_
      refine GoQ.pure rfl (op_move rfl) rfl rfl ?_
      obtain ⟨zu, H⟩ := H
      obtain ⟨C0, H⟩ := H
      refine GoQ.pure rfl (op_index Try.underlying23 ti31 rfl rfl zu (ltn (t2neq 0 hO rfl) C0) (t2some 0 hO rfl zu C0)) rfl rfl ?_
      refine GoQ.stable rfl (t2head 0 hO rfl zu C0 Try.underlying31 rfl rfl) rfl rfl ?_
      refine GoQ.pure rfl (op_fieldAddr Try.underlying123 rfl ti31 rfl (by decide)) rfl rfl ?_
      refine GoQ.stable rfl (oblk (i := 4) 5 hO rfl rfl Try.underlying31 rfl rfl) rfl rfl ?_
      refine GoQ.pure rfl (op_move rfl) rfl rfl ?_
      obtain ⟨GD, H⟩ := H
      obtain ⟨GE, H⟩ := H
      replace aa := aa.ch oW.ch
      refine GoQ.pure rfl (op_index Try.underlying31 ti3 rfl rfl GD GE (aa.some_ GD GE)) rfl rfl ?_
      refine GoQ.stable rfl (ldInt aa GD GE Try.underlying3 rfl rfl) rfl rfl ?_
      obtain ⟨GF, H⟩ := H
      obtain ⟨GG, H⟩ := H
      refine GoQ.pure rfl (op_index Try.underlying31 ti3 rfl rfl GF GG (t2isome 0 hO rfl zu C0 GF GG)) rfl rfl ?_
      refine GoQ.stable rfl (t2Int 0 hO rfl zu C0 GF GG Try.underlying3 rfl rfl) rfl rfl ?_
      obtain ⟨GH, H⟩ := H
      obtain ⟨GJ, H⟩ := H
      replace af := af.ch oW.ch
      refine GoQ.pure rfl (op_index Try.underlying23 ti31 rfl rfl GH GJ (af.some_ GH GJ)) rfl rfl ?_
      have hobt := ldSl af GH GJ
      obtain ⟨XH, XJ, BE, Ps⟩ := hobt
      refine GoQ.stable rfl (Ps Try.underlying31 rfl rfl) rfl rfl ?_
      refine GoQ.pure rfl (op_fieldAddr Try.underlying123 rfl ti31 rfl (by decide)) rfl rfl ?_
      refine GoQ.stable rfl (oblk (i := 5) 5 hO rfl rfl Try.underlying31 rfl rfl) rfl rfl ?_
      refine GoQ.pure rfl (op_move rfl) rfl rfl ?_
      obtain ⟨GK, H⟩ := H
      obtain ⟨GL, H⟩ := H
      replace aj := aj.ch oW.ch
      refine GoQ.pure rfl (op_index Try.underlying31 ti3 rfl rfl GK GL (aj.some_ GK GL)) rfl rfl ?_
      refine GoQ.stable rfl (ldInt aj GK GL Try.underlying3 rfl rfl) rfl rfl ?_
      obtain ⟨GM, H⟩ := H
      obtain ⟨GN, H⟩ := H
      refine GoQ.pure rfl (op_index Try.underlying31 ti3 rfl rfl GM GN (BE.some_ GM GN)) rfl rfl ?_
      refine GoQ.stable rfl (ldInt BE GM GN Try.underlying3 rfl rfl) rfl rfl ?_
      obtain ⟨GO, H⟩ := H
      obtain ⟨GP, H⟩ := H
      refine GoQ.pure rfl (op_index Try.underlying31 ti3 rfl rfl GO GP (t2isome 0 hO rfl CW CX GO GP)) rfl rfl ?_
      have hobt := t2st (r := Rp.int .i64) (hf := (Fl.int .i64)) rfl 0 hO rfl CW CX GO GP (v := .int .i64 (ix (ix r215.Right (ix (ix d_437 (k4_382 : Int)) (ix r215.Prefix (k5_436 : Int)))) (ix r215.Last (k5_436 : Int)))) (u := (ix (ix r215.Right (ix (ix d_437 (k4_382 : Int)) (ix r215.Prefix (k5_436 : Int)))) (ix r215.Last (k5_436 : Int)))) rfl rfl
      obtain ⟨XK, mv, KL⟩ := hobt
      dsimp only [sS, sZ] at mv
      refine GoQ.last rfl (KL Try.underlying3 rfl ti3 (by exact rfl) (by exact rfl)) rfl rfl ?_
      replace hO := mv.own
      refine GoQ.nil ?_
      refine Go1.inBlock ?_
      refine Go1.cut [(0, .pointer (some ⟨B21, 0, none⟩)), (2, .pointer (some ⟨B207, 0, none⟩)), (5, .pointer (some ⟨B223, 0, none⟩)), (7, .int .i64 (r215.Elems.length : Int)), (8, .pointer (some ⟨c5, 0, none⟩)), (10, .int .i64 (k4_382 : Int)), (12, .int .i64 (k5_436 : Int)), (86, .slice aw r215.Right.length ax), (87, .int .i64 (r215.Right.length : Int)), (88, .int .i64 (k4_382 : Int))] ⟨rfl, rfl, rfl, rfl, rfl, rfl, rfl, rfl, rfl, rfl, trivial⟩ ?_
      intro σ _
      refine zr (zm rfl ?_)
      replace ag := (ag.ch oW.ch).ch mv.ch
      refine zo (op_add rfl rfl (wrap_i64 (natbd CV ag.bd))) (za rfl (zn ?_))
      replace aa := aa.ch mv.ch
      replace aj := aj.ch mv.ch
      replace af := af.ch mv.ch
      have Z30 := oW.ch.trans mv.ch
      replace cT := cT.ch Z30
      replace bf := bf.ch Z30
      replace aT := aT.ch Z30
      replace aA := aA.ch Z30
      replace aW := aW.ch Z30
      replace am := am.ch Z30
      replace ai := ai.ch Z30
      replace hB := (hB.trans oW.fr).trans mv.fr
      exact hX5 _ H _ _ ⟨⟨rfl, rfl, rfl, rfl, rfl, rfl, rfl, rfl, rfl, rfl, trivial⟩, hO, cT, bf, aT, aA, aW, am, ag, aa, aj, af, ai, hB⟩
     replace H := ifn CV H
     refine zo (fun w => opB (op_lss rfl rfl w) (decide_eq_false CV)) (zn (zf rfl rfl ?_))
     refine Go1.exit rfl ?_
     refine Go1.inBlock ?_
     refine zr (zo (op_add rfl rfl (wrap_i64 (natbd AY af.bd))) (zm rfl (zn ?_)))
     have nk := Stp.front 9 hO rfl
     dsimp only [eS, eZ] at nk
     replace hO := nk.own
     have nm := Stp.front 9 hO rfl
     dsimp only [eS, eZ] at nm
     replace hO := nm.own
     have np := Stp.front 9 hO rfl
     dsimp only [eS, eZ] at np
     replace hO := np.own
     have gO := Stp.front 9 hO rfl
     dsimp only [eS, eZ] at gO
     replace hO := gO.own
     have nq := Stp.front 9 hO rfl
     dsimp only [eS, eZ] at nq
     replace hO := nq.own
     have nr := Stp.front 9 hO rfl
     dsimp only [eS, eZ] at nr
     replace hO := nr.own
     have eF := Stp.front 6 hO rfl
     dsimp only [eS, eZ] at eF
     replace hO := eF.own
     have ns := Stp.front 9 hO rfl
     dsimp only [eS, eZ] at ns
     replace hO := ns.own
     have nt := Stp.front 9 hO rfl
     dsimp only [eS, eZ] at nt
     replace hO := nt.own
     have nu := Stp.front 9 hO rfl
     dsimp only [eS, eZ] at nu
     replace hO := nu.own
     have Z31 := ((((((((nk.ch.trans nm.ch).trans np.ch).trans gO.ch).trans nq.ch).trans nr.ch).trans eF.ch).trans ns.ch).trans nt.ch).trans nu.ch
     replace cT := cT.ch Z31
     replace bf := bf.ch Z31
     replace aT := aT.ch Z31
     replace aA := aA.ch Z31
     replace aW := aW.ch Z31
     replace am := am.ch Z31
     replace ag := ag.ch Z31
     replace aa := aa.ch Z31
     replace aj := aj.ch Z31
     replace af := af.ch Z31
     replace ai := ai.ch Z31
     replace hB := (((((((((hB.trans nk.fr).trans nm.fr).trans np.fr).trans gO.fr).trans nq.fr).trans nr.fr).trans eF.fr).trans ns.fr).trans nt.fr).trans nu.fr
     exact hX4 _ H _ _ ⟨m5, hup dr (k4_382 : Int).toNat (tM, r215.Elems.length), ⟨rfl, rfl, rfl, rfl, rfl, rfl, rfl, rfl, trivial⟩, hO, cT, bf, aT, aA, aW, am, ag, aa, aj, af, ai, hB⟩
    replace H := ifn h400 H
    refine GoQ.stable rfl (fun w hw => opB ((oldBool 1 hO rfl cv xG xH Try.underlying4 rfl rfl) w hw) (Bool.eq_false_iff.2 h400)) rfl rfl ?_
    refine GoQ.pure rfl (op_move rfl) rfl rfl ?_
    refine GoQ.pure rfl (op_move rfl) rfl rfl ?_
    replace gi := gi.ch ni.ch
    refine GoQ.call rfl (op_call body102 rfl (walk_slices_Contains_int hO.lt gi H)) (fun v w hr => by obtain ⟨_, _, hs, _⟩ := hr; assumption) rfl rfl ?_
    rintro XL XM ⟨r475, rfl, Pt, H⟩
    have eG := Stp.same hO Pt
    replace hO := eG.own
    refine GoQ.pure rfl (op_pickF rfl rfl rfl) rfl rfl ?_
    obtain ⟨GQ, H⟩ := H
    obtain ⟨GR, H⟩ := H
    replace cv := cv.ch eG.ch
    refine GoQ.pure rfl (op_index Try.underlying22 ti4 rfl rfl GQ (ltn (cv.neq hO 1 rfl) GR) (cv.psome hO 1 rfl GQ GR)) rfl rfl ?_
    have hobt := ost (r := Rp.bool) rfl 1 hO rfl cv GQ GR (v := .bool r475) (u := r475) rfl rfl
    obtain ⟨XN, qc, nw, eQ, KM⟩ := hobt
    dsimp only [sS, sZ] at nw eQ
    refine GoQ.last rfl (KM Try.underlying4 rfl ti4 (by exact rfl) (by exact rfl)) rfl rfl ?_
    replace hO := nw.own
    refine GoQ.nil ?_
    refine zq ?_
    refine Go1.drawS 1 [(0, .pure), (1, .stable), (2, .pure), (3, .pure), (4, .loud), (5, .pure), (6, .last)] mixed (by kernel_rfl) ?_
    intro Rd Pu
    have ny := Stp.same hO Pu
    replace hO := ny.own
    refine GoQ.pure rfl (op_fieldAddr Try.underlying33 rfl ti23 rfl (by decide)) rfl rfl ?_
    refine GoQ.stable rfl (oblk (i := 1) 0 hO rfl rfl Try.underlying23 rfl rfl) rfl rfl ?_
    refine GoQ.pure rfl (op_move rfl) rfl rfl ?_
    refine GoQ.pure rfl (op_move rfl) rfl rfl ?_
    obtain ⟨Sf, H⟩ := H
    obtain ⟨Sh, H⟩ := H
    have hobt := omake (n := (r215.Elems.length : Int)) (r := Rp.int .i64) (d := (0 : Int)) Try.underlying31 ti3 (fun _ _ => rfl) rfl hO Sf Sh (by decide)
    obtain ⟨I9, te, Tw, nA, Aq, Pv, KN⟩ := hobt
    refine GoQ.loud rfl (KN rfl rfl) Pv rfl rfl ?_
    replace hO := nA.own
    obtain ⟨zw, H⟩ := H
    obtain ⟨GT, H⟩ := H
    refine GoQ.pure rfl (op_index Try.underlying23 ti31 rfl rfl zw (ltn (t2neq 4 hO rfl) GT) (t2some 4 hO rfl zw GT)) rfl rfl ?_
    have lN := Stp.front 4 hO rfl
    dsimp only [eS, eZ] at lN
    replace hO := lN.own
    have eh := Stp.front 1 hO rfl
    dsimp only [eS, eZ] at eh
    replace hO := eh.own
    replace Aq := (Aq.ch lN.ch).ch eh.ch
    have hobt := t2put (hf := (Fl.int .i64)) hO Aq zw GT
    obtain ⟨Rf, nB, KO⟩ := hobt
    refine GoQ.last rfl (KO Try.underlying31 rfl ti31 (by exact rfl) (by exact rfl)) rfl rfl ?_
    replace hO := nB.own
    refine GoQ.nil ?_
    refine zq (zr (zo (op_fieldAddr Try.underlying33 rfl ti23 rfl (by decide)) (zs (oblk (i := 1) 1 hO rfl rfl Try.underlying23 rfl rfl) (zm rfl ?_))))
    obtain ⟨C1, H⟩ := H
    obtain ⟨C2, H⟩ := H
    refine zo (op_index Try.underlying23 ti31 rfl rfl C1 (ltn (t2neq 0 hO rfl) C2) (t2some 0 hO rfl C1 C2)) (zs (t2head 0 hO rfl C1 C2 Try.underlying31 rfl rfl) (zm rfl ?_))
    obtain ⟨GU, H⟩ := H
    obtain ⟨GW, H⟩ := H
    refine zo (op_index Try.underlying31 ti3 rfl rfl GU GW (t2isome 0 hO rfl C1 C2 GU GW)) ?_
    have hobt := t2st (r := Rp.int .i64) (hf := (Fl.int .i64)) rfl 0 hO rfl C1 C2 GU GW (v := .int .i64 (k4_382 : Int)) (u := (k4_382 : Int)) rfl rfl
    obtain ⟨XO, mw, KP⟩ := hobt
    dsimp only [sS, sZ] at mw
    refine zg (KP Try.underlying3 rfl ti3 (by exact rfl) (by exact rfl)) ?_
    replace hO := mw.own
    refine zn (zq ?_)
    refine Go1.cut [(0, .pointer (some ⟨B21, 0, none⟩)), (2, .pointer (some ⟨B207, 0, none⟩)), (5, .pointer (some ⟨B223, 0, none⟩)), (7, .int .i64 (r215.Elems.length : Int)), (8, .pointer (some ⟨c5, 0, none⟩)), (10, .int .i64 (k4_382 : Int)), (86, .slice aw r215.Right.length ax), (87, .int .i64 (r215.Right.length : Int)), (88, .int .i64 (k4_382 : Int))] ⟨rfl, rfl, rfl, rfl, rfl, rfl, rfl, rfl, rfl, trivial⟩ ?_
    intro σ _
    refine zr (za rfl (zn (zb ?_)))
    have Z32 := ((((ny.ch.trans nA.ch).trans lN.ch).trans eh.ch).trans nB.ch).trans mw.ch
    replace eQ := eQ.ch Z32
    have Z33 := (((((((ni.ch.trans eG.ch).trans nw.ch).trans ny.ch).trans nA.ch).trans lN.ch).trans eh.ch).trans nB.ch).trans mw.ch
    replace bf := bf.ch Z33
    replace aT := aT.ch Z33
    replace aA := aA.ch Z33
    replace aW := aW.ch Z33
    replace am := am.ch Z33
    replace ag := ag.ch Z33
    replace aa := aa.ch Z33
    replace aj := aj.ch Z33
    replace af := af.ch Z33
    replace ai := ai.ch Z33
    replace hB := ((((((((hB.trans ni.fr).trans eG.fr).trans nw.fr).trans ny.fr).trans nA.fr).trans lN.fr).trans eh.fr).trans nB.fr).trans mw.fr
    refine Go1.loopW (S := Nat × List (List Int)) (fun s σ w => match s with | (k6_516, d_517) => agrees σ [(0, .pointer (some ⟨B21, 0, none⟩)), (2, .pointer (some ⟨B207, 0, none⟩)), (5, .pointer (some ⟨B223, 0, none⟩)), (7, .int .i64 (r215.Elems.length : Int)), (8, .pointer (some ⟨c5, 0, none⟩)), (10, .int .i64 (k4_382 : Int)), (12, .int .i64 (k6_516 : Int)), (86, .slice aw r215.Right.length ax), (87, .int .i64 (r215.Right.length : Int)), (88, .int .i64 (k4_382 : Int))] ∧ (fun Z0 => Owns w0.heap.size w Z0 A ∧ Els (Rp.bool) (bl Z0 ++ A) w qc (st d_383 (0 : Int) r475) ∧ Els (Rp.str) (bl Z0 ++ A) w cH d_343 ∧ Els (Rp.int .i64) (bl Z0 ++ A) w bx r262 ∧ Els (rppart) (bl Z0 ++ A) w cx ((([] : List part)) ++ ([(⟨((0 : Int) + r26.Start), r26.Final, (0 : Int)⟩ : part)])) ∧ ISl (Rp.sl (Rp.int .i64)) (bl Z0 ++ A) w p45 r26.Letters.toNat d_60 ∧ ISl (Rp.sl (Rp.int .i64)) (bl Z0 ++ A) w aM aN r215.Gens ∧ ISl (Rp.sl (Rp.int .i64)) (bl Z0 ++ A) w aB aC r215.Elems ∧ ISl (Rp.int .i64) (bl Z0 ++ A) w ay az r215.Prefix ∧ ISl (Rp.int .i64) (bl Z0 ++ A) w aO aP r215.Last ∧ ISl (Rp.sl (Rp.int .i64)) (bl Z0 ++ A) w aw ax r215.Right ∧ ISl (rpRule) (bl Z0 ++ A) w aG aH r215.Rules ∧ Fr (bl []) w0 (bl Z0) w) [t2 (Fl.int .i64) 31 3 (some ⟨bg, 0, none⟩) r215.Elems.length r215.Elems.length (hup dr (k4_382 : Int).toNat (te, r215.Elems.length)) d_517, .blk c5 (.cells #[.int .i64 (d_60.length : Int), .slice (some ⟨bg, 0, none⟩) r215.Elems.length r215.Elems.length, .slice (some ⟨bi, 0, none⟩) r215.Elems.length r215.Elems.length, .slice aI aK aJ, .slice none 0 0, .slice (some ⟨bm, 0, none⟩) r215.Elems.length r215.Elems.length] 33 (0, 0)), .row 4 1 (some ⟨bm, 0, none⟩) r215.Elems.length r215.Elems.length qc, .row 9 1 (some ⟨bi, 0, none⟩) r215.Elems.length r215.Elems.length cH, .row 3 1 aI aK aJ bx, .blk B223 (.cells #[.int .i64 r215.Points, .bool r215.Monoid, .slice aM r215.Gens.length aN, .slice aB r215.Elems.length aC, .slice ay r215.Prefix.length az, .slice aO r215.Last.length aP, .slice aw r215.Right.length ax, .slice aG r215.Rules.length aH, .int .i64 r215.Done] 123 (0, 0)), .blk B207 (.cells #[.int .i64 (0 : Int), .slice none 0 0, .slice none 0 0, .slice none 0 0, .slice none 0 0, .slice none 0 0] 33 (0, 0)), .row 120 3 bO (0 + 1) bP cx, .blk B21 (.cells #[.slice p45 r26.Letters.toNat r26.Letters.toNat, .slice bO (0 + 1) bP, .int .i64 ((0 : Int) + (r26.Final.length : Int))] 83 (0, 0)), .blk B8 (.cells #[.int .i64 (0 : Int), .slice none 0 0, .slice none 0 0, .slice none 0 0, .slice none 0 0, .slice none 0 0] 33 (0, 0))]) H ⟨⟨rfl, rfl, rfl, rfl, rfl, rfl, rfl, rfl, rfl, rfl, trivial⟩, hO, eQ, bf, aT, aA, aW, am, ag, aa, aj, af, ai, hB⟩ ?_
    intro X6
    refine prE fun k6_516 => fun d_517 => ?_
    intro H hX6 σ XP
    refine andE fun hag => andE fun hO => andE fun eQ => andE fun bf => andE fun aT => andE fun aA => andE fun aW => andE fun am => andE fun ag => andE fun aa => andE fun aj => andE fun af => andE fun ai => fun hB => ?_
    dsimp only at H
    refine Go1.keep [(0, .pointer (some ⟨B21, 0, none⟩)), (2, .pointer (some ⟨B207, 0, none⟩)), (5, .pointer (some ⟨B223, 0, none⟩)), (7, .int .i64 (r215.Elems.length : Int)), (8, .pointer (some ⟨c5, 0, none⟩)), (10, .int .i64 (k4_382 : Int)), (12, .int .i64 (k6_516 : Int)), (86, .slice aw r215.Right.length ax), (87, .int .i64 (r215.Right.length : Int)), (88, .int .i64 (k4_382 : Int))] hag ?_
    refine zq (zq (zr (zm rfl (zm rfl ?_))))
    by_cases C3 : (k6_516 : Int) < (r215.Elems.length : Int)
    ·replace H := ifp C3 H
     refine zo (fun w => opB (op_lss rfl rfl w) (decide_eq_true C3)) (zn (zt rfl rfl (zk (zq (zb ?_)))))
     refine Go1.drawS 1 [(0, .pure), (1, .stable), (2, .pure), (3, .pure), (4, .stable), (5, .pure), (6, .pure), (7, .stable), (8, .pure), (9, .stable), (10, .pure), (11, .pure), (12, .stable), (13, .pure), (14, .stable), (15, .pure), (16, .pure), (17, .stable), (18, .pure), (19, .stable), (20, .pure), (21, .stable), (22, .pure), (23, .stable), (24, .pure), (25, .pure), (26, .stable), (27, .pure), (28, .stable), (29, .pure), (30, .last)] mixed (by kernel_rfl) ?_
     intro XQ Hy
     have oX := Stp.same hO Hy
     replace hO := oX.own
     refine GoQ.pure rfl (op_fieldAddr Try.underlying33 rfl ti23 rfl (by decide)) rfl rfl ?_
     refine GoQ.stable rfl (oblk (i := 1) 1 hO rfl rfl Try.underlying23 rfl rfl) rfl rfl ?_
     refine GoQ.pure rfl (op_move rfl) rfl rfl ?_
     obtain ⟨C4, H⟩ := H
     obtain ⟨C5, H⟩ := H
     refine GoQ.pure rfl (op_index Try.underlying23 ti31 rfl rfl C4 (ltn (t2neq 0 hO rfl) C5) (t2some 0 hO rfl C4 C5)) rfl rfl ?_
     refine GoQ.stable rfl (t2head 0 hO rfl C4 C5 Try.underlying31 rfl rfl) rfl rfl ?_
     refine GoQ.pure rfl (op_move rfl) rfl rfl ?_
     refine GoQ.pure rfl (op_fieldAddr Try.underlying123 rfl ti23 rfl (by decide)) rfl rfl ?_
     refine GoQ.stable rfl (oblk (i := 6) 5 hO rfl rfl Try.underlying23 rfl rfl) rfl rfl ?_
     refine GoQ.pure rfl (op_fieldAddr Try.underlying33 rfl ti23 rfl (by decide)) rfl rfl ?_
     refine GoQ.stable rfl (oblk (i := 1) 1 hO rfl rfl Try.underlying23 rfl rfl) rfl rfl ?_
     refine GoQ.pure rfl (op_move rfl) rfl rfl ?_
     obtain ⟨C6, H⟩ := H
     obtain ⟨C7, H⟩ := H
     refine GoQ.pure rfl (op_index Try.underlying23 ti31 rfl rfl C6 (ltn (t2neq 0 hO rfl) C7) (t2some 0 hO rfl C6 C7)) rfl rfl ?_
     refine GoQ.stable rfl (t2head 0 hO rfl C6 C7 Try.underlying31 rfl rfl) rfl rfl ?_
     refine GoQ.pure rfl (op_fieldAddr Try.underlying123 rfl ti31 rfl (by decide)) rfl rfl ?_
     refine GoQ.stable rfl (oblk (i := 4) 5 hO rfl rfl Try.underlying31 rfl rfl) rfl rfl ?_
     refine GoQ.pure rfl (op_move rfl) rfl rfl ?_
     obtain ⟨GX, H⟩ := H
     obtain ⟨GY, H⟩ := H
     replace aa := aa.ch oX.ch
     refine GoQ.pure rfl (op_index Try.underlying31 ti3 rfl rfl GX GY (aa.some_ GX GY)) rfl rfl ?_
     refine GoQ.stable rfl (ldInt aa GX GY Try.underlying3 rfl rfl) rfl rfl ?_
     obtain ⟨G0, H⟩ := H
     obtain ⟨Cu, H⟩ := H
     refine GoQ.pure rfl (op_index Try.underlying31 ti3 rfl rfl G0 Cu (t2isome 0 hO rfl C6 C7 G0 Cu)) rfl rfl ?_
     refine GoQ.stable rfl (t2Int 0 hO rfl C6 C7 G0 Cu Try.underlying3 rfl rfl) rfl rfl ?_
     obtain ⟨G1, H⟩ := H
     obtain ⟨G3, H⟩ := H
     replace af := af.ch oX.ch
     refine GoQ.pure rfl (op_index Try.underlying23 ti31 rfl rfl G1 G3 (af.some_ G1 G3)) rfl rfl ?_
     have hobt := ldSl af G1 G3
     obtain ⟨XR, XS, BG, Pw⟩ := hobt
     refine GoQ.stable rfl (Pw Try.underlying31 rfl rfl) rfl rfl ?_
     refine GoQ.pure rfl (op_fieldAddr Try.underlying123 rfl ti31 rfl (by decide)) rfl rfl ?_
     refine GoQ.stable rfl (oblk (i := 5) 5 hO rfl rfl Try.underlying31 rfl rfl) rfl rfl ?_
     refine GoQ.pure rfl (op_move rfl) rfl rfl ?_
     obtain ⟨G4, H⟩ := H
     obtain ⟨G5, H⟩ := H
     replace aj := aj.ch oX.ch
     refine GoQ.pure rfl (op_index Try.underlying31 ti3 rfl rfl G4 G5 (aj.some_ G4 G5)) rfl rfl ?_
     refine GoQ.stable rfl (ldInt aj G4 G5 Try.underlying3 rfl rfl) rfl rfl ?_
     obtain ⟨G6, H⟩ := H
     obtain ⟨G7, H⟩ := H
     refine GoQ.pure rfl (op_index Try.underlying31 ti3 rfl rfl G6 G7 (BG.some_ G6 G7)) rfl rfl ?_
     refine GoQ.stable rfl (ldInt BG G6 G7 Try.underlying3 rfl rfl) rfl rfl ?_
     obtain ⟨G8, H⟩ := H
     obtain ⟨G9, H⟩ := H
     refine GoQ.pure rfl (op_index Try.underlying31 ti3 rfl rfl G8 G9 (t2isome 0 hO rfl C4 C5 G8 G9)) rfl rfl ?_
     have hobt := t2st (r := Rp.int .i64) (hf := (Fl.int .i64)) rfl 0 hO rfl C4 C5 G8 G9 (v := .int .i64 (ix (ix r215.Right (ix (ix d_517 (k4_382 : Int)) (ix r215.Prefix (k6_516 : Int)))) (ix r215.Last (k6_516 : Int)))) (u := (ix (ix r215.Right (ix (ix d_517 (k4_382 : Int)) (ix r215.Prefix (k6_516 : Int)))) (ix r215.Last (k6_516 : Int)))) rfl rfl
     obtain ⟨XT, my, KQ⟩ := hobt
     dsimp only [sS, sZ] at my
     refine GoQ.last rfl (KQ Try.underlying3 rfl ti3 (by exact rfl) (by exact rfl)) rfl rfl ?_
     replace hO := my.own
     refine GoQ.nil ?_
     refine Go1.inBlock ?_
     refine Go1.cut [(0, .pointer (some ⟨B21, 0, none⟩)), (2, .pointer (some ⟨B207, 0, none⟩)), (5, .pointer (some ⟨B223, 0, none⟩)), (7, .int .i64 (r215.Elems.length : Int)), (8, .pointer (some ⟨c5, 0, none⟩)), (10, .int .i64 (k4_382 : Int)), (12, .int .i64 (k6_516 : Int)), (86, .slice aw r215.Right.length ax), (87, .int .i64 (r215.Right.length : Int)), (88, .int .i64 (k4_382 : Int))] ⟨rfl, rfl, rfl, rfl, rfl, rfl, rfl, rfl, rfl, rfl, trivial⟩ ?_
     intro σ _
     refine zr (zm rfl ?_)
     replace ag := (ag.ch oX.ch).ch my.ch
     refine zo (op_add rfl rfl (wrap_i64 (natbd C3 ag.bd))) (za rfl (zn ?_))
     replace aa := aa.ch my.ch
     replace aj := aj.ch my.ch
     replace af := af.ch my.ch
     have Z34 := oX.ch.trans my.ch
     replace eQ := eQ.ch Z34
     replace bf := bf.ch Z34
     replace aT := aT.ch Z34
     replace aA := aA.ch Z34
     replace aW := aW.ch Z34
     replace am := am.ch Z34
     replace ai := ai.ch Z34
     replace hB := (hB.trans oX.fr).trans my.fr
     exact hX6 _ H _ _ ⟨⟨rfl, rfl, rfl, rfl, rfl, rfl, rfl, rfl, rfl, rfl, trivial⟩, hO, eQ, bf, aT, aA, aW, am, ag, aa, aj, af, ai, hB⟩
    replace H := ifn C3 H
    refine zo (fun w => opB (op_lss rfl rfl w) (decide_eq_false C3)) (zn (zf rfl rfl ?_))
    refine Go1.exit rfl ?_
    refine Go1.inBlock ?_
    refine zr (zo (op_add rfl rfl (wrap_i64 (natbd AY af.bd))) (zm rfl (zn ?_)))
    have fx := Stp.front 9 hO rfl
    dsimp only [eS, eZ] at fx
    replace hO := fx.own
    have nC := Stp.front 9 hO rfl
    dsimp only [eS, eZ] at nC
    replace hO := nC.own
    have nE := Stp.front 9 hO rfl
    dsimp only [eS, eZ] at nE
    replace hO := nE.own
    have nF := Stp.front 9 hO rfl
    dsimp only [eS, eZ] at nF
    replace hO := nF.own
    have nG := Stp.front 9 hO rfl
    dsimp only [eS, eZ] at nG
    replace hO := nG.own
    have nH := Stp.front 9 hO rfl
    dsimp only [eS, eZ] at nH
    replace hO := nH.own
    have nI := Stp.front 6 hO rfl
    dsimp only [eS, eZ] at nI
    replace hO := nI.own
    have nJ := Stp.front 9 hO rfl
    dsimp only [eS, eZ] at nJ
    replace hO := nJ.own
    have nK := Stp.front 9 hO rfl
    dsimp only [eS, eZ] at nK
    replace hO := nK.own
    have nM := Stp.front 9 hO rfl
    dsimp only [eS, eZ] at nM
    replace hO := nM.own
    have Z35 := ((((((((fx.ch.trans nC.ch).trans nE.ch).trans nF.ch).trans nG.ch).trans nH.ch).trans nI.ch).trans nJ.ch).trans nK.ch).trans nM.ch
    replace eQ := eQ.ch Z35
    replace bf := bf.ch Z35
    replace aT := aT.ch Z35
    replace aA := aA.ch Z35
    replace aW := aW.ch Z35
    replace am := am.ch Z35
    replace ag := ag.ch Z35
    replace aa := aa.ch Z35
    replace aj := aj.ch Z35
    replace af := af.ch Z35
    replace ai := ai.ch Z35
    replace hB := (((((((((hB.trans fx.fr).trans nC.fr).trans nE.fr).trans nF.fr).trans nG.fr).trans nH.fr).trans nI.fr).trans nJ.fr).trans nK.fr).trans nM.fr
    exact hX4 _ H _ _ ⟨qc, hup dr (k4_382 : Int).toNat (te, r215.Elems.length), ⟨rfl, rfl, rfl, rfl, rfl, rfl, rfl, rfl, trivial⟩, hO, eQ, bf, aT, aA, aW, am, ag, aa, aj, af, ai, hB⟩
   replace H := ifn AY H
   refine zo (fun w => opB (op_lss rfl rfl w) (decide_eq_false AY)) (zn (zq (zf rfl rfl ?_)))
   refine Go1.exit rfl ?_
   refine zq (zr (zm rfl (zo (op_nilCheck rfl) (zo (op_fieldAddr Try.underlying83 rfl ti81 rfl (by decide)) (zs (oblk (i := 1) 8 hO rfl rfl Try.underlying81 rfl rfl) ?_)))))
   refine zo (op_lenN Try.underlying81 rfl (aA.neq hO 7 rfl)) ?_
   obtain ⟨Si, H⟩ := H
   obtain ⟨Sj, H⟩ := H
   have hobt := t2makeS (m := (((([] : List part)) ++ ([(⟨((0 : Int) + r26.Start), r26.Final, (0 : Int)⟩ : part)])).length : Int)) (e' := 4) Fl.bool Try.underlying40 ti22 hO Si Sj (by decide)
   obtain ⟨XU, iU, oY, Tx, KR, hz565⟩ := hobt
   refine zg (KR rfl rfl) ?_
   replace hO := oY.own
   refine za rfl (zn (zq (zq (zr (zm rfl ?_)))))
   refine zo (op_nilCheck rfl) (zo (op_fieldAddr Try.underlying83 rfl ti81 rfl (by decide)) (zs (oblk (i := 1) 9 hO rfl rfl Try.underlying81 rfl rfl) ?_))
   replace aA := aA.ch oY.ch
   refine zo (op_lenN Try.underlying81 rfl (aA.neq hO 8 rfl)) (zm rfl (zn (zb ?_)))
   replace hO := hO.drop 9
   replace aA := aA.ch (Owns.dropCh _ _ 9)
   have Z36 := oY.ch.trans (Owns.dropCh _ _ 9)
   replace cv := cv.ch Z36
   replace bf := bf.ch Z36
   replace aT := aT.ch Z36
   replace aW := aW.ch Z36
   replace am := am.ch Z36
   replace ag := ag.ch Z36
   replace aa := aa.ch Z36
   replace aj := aj.ch Z36
   replace af := af.ch Z36
   replace ai := ai.ch Z36
   replace hB := (hB.trans oY.fr).trans (Owns.dropFr _ _ 9)
   dsimp only [eS, eZ] at hB hO aW am ag aa aj af ai cv bf aT aA
   refine Go1.loopW (S := Nat × List (List Bool)) (fun s σ w => match s with | (k7_567, d_568) => ∃ (eU : Hd), agrees σ [(2, .pointer (some ⟨B207, 0, none⟩)), (5, .pointer (some ⟨B223, 0, none⟩)), (7, .int .i64 (r215.Elems.length : Int)), (8, .pointer (some ⟨c5, 0, none⟩)), (13, .slice iU (((([] : List part)) ++ ([(⟨((0 : Int) + r26.Start), r26.Final, (0 : Int)⟩ : part)])).length) (((([] : List part)) ++ ([(⟨((0 : Int) + r26.Start), r26.Final, (0 : Int)⟩ : part)])).length)), (162, .slice bO (0 + 1) bP), (163, .int .i64 (((([] : List part)) ++ ([(⟨((0 : Int) + r26.Start), r26.Final, (0 : Int)⟩ : part)])).length : Int)), (164, .int .i64 (k7_567 : Int))] ∧ (fun Z0 => Owns w0.heap.size w Z0 A ∧ Els (Rp.bool) (bl Z0 ++ A) w eI d_383 ∧ Els (Rp.str) (bl Z0 ++ A) w cH d_343 ∧ Els (Rp.int .i64) (bl Z0 ++ A) w bx r262 ∧ Els (rppart) (bl Z0 ++ A) w cx ((([] : List part)) ++ ([(⟨((0 : Int) + r26.Start), r26.Final, (0 : Int)⟩ : part)])) ∧ ISl (Rp.sl (Rp.int .i64)) (bl Z0 ++ A) w aM aN r215.Gens ∧ ISl (Rp.sl (Rp.int .i64)) (bl Z0 ++ A) w aB aC r215.Elems ∧ ISl (Rp.int .i64) (bl Z0 ++ A) w ay az r215.Prefix ∧ ISl (Rp.int .i64) (bl Z0 ++ A) w aO aP r215.Last ∧ ISl (Rp.sl (Rp.int .i64)) (bl Z0 ++ A) w aw ax r215.Right ∧ ISl (rpRule) (bl Z0 ++ A) w aG aH r215.Rules ∧ Fr (bl []) w0 (bl Z0) w) [t2 Fl.bool 22 4 iU (((([] : List part)) ++ ([(⟨((0 : Int) + r26.Start), r26.Final, (0 : Int)⟩ : part)])).length) (((([] : List part)) ++ ([(⟨((0 : Int) + r26.Start), r26.Final, (0 : Int)⟩ : part)])).length) eU d_568, .blk c5 (.cells #[.int .i64 (d_60.length : Int), .slice (some ⟨bg, 0, none⟩) r215.Elems.length r215.Elems.length, .slice (some ⟨bi, 0, none⟩) r215.Elems.length r215.Elems.length, .slice aI aK aJ, .slice none 0 0, .slice (some ⟨bm, 0, none⟩) r215.Elems.length r215.Elems.length] 33 (0, 0)), .row 4 1 (some ⟨bm, 0, none⟩) r215.Elems.length r215.Elems.length eI, .row 9 1 (some ⟨bi, 0, none⟩) r215.Elems.length r215.Elems.length cH, t2 (Fl.int .i64) 31 3 (some ⟨bg, 0, none⟩) r215.Elems.length r215.Elems.length dr d_386, .row 3 1 aI aK aJ bx, .blk B223 (.cells #[.int .i64 r215.Points, .bool r215.Monoid, .slice aM r215.Gens.length aN, .slice aB r215.Elems.length aC, .slice ay r215.Prefix.length az, .slice aO r215.Last.length aP, .slice aw r215.Right.length ax, .slice aG r215.Rules.length aH, .int .i64 r215.Done] 123 (0, 0)), .blk B207 (.cells #[.int .i64 (0 : Int), .slice none 0 0, .slice none 0 0, .slice none 0 0, .slice none 0 0, .slice none 0 0] 33 (0, 0)), .row 120 3 bO (0 + 1) bP cx, .blk B8 (.cells #[.int .i64 (0 : Int), .slice none 0 0, .slice none 0 0, .slice none 0 0, .slice none 0 0, .slice none 0 0] 33 (0, 0))]) H ⟨(fun _ => (none, 0)), ⟨rfl, rfl, rfl, rfl, rfl, rfl, rfl, rfl, trivial⟩, hO, cv, bf, aT, aA, am, ag, aa, aj, af, ai, hB⟩ ?_
   intro X7
   refine prE fun k7_567 => fun d_568 => ?_
   intro H hX7 σ XV
   refine exE fun eU => andE fun hag => andE fun hO => andE fun cv => andE fun bf => andE fun aT => andE fun aA => andE fun am => andE fun ag => andE fun aa => andE fun aj => andE fun af => andE fun ai => fun hB => ?_
   dsimp only at H
   refine Go1.keep [(2, .pointer (some ⟨B207, 0, none⟩)), (5, .pointer (some ⟨B223, 0, none⟩)), (7, .int .i64 (r215.Elems.length : Int)), (8, .pointer (some ⟨c5, 0, none⟩)), (13, .slice iU (((([] : List part)) ++ ([(⟨((0 : Int) + r26.Start), r26.Final, (0 : Int)⟩ : part)])).length) (((([] : List part)) ++ ([(⟨((0 : Int) + r26.Start), r26.Final, (0 : Int)⟩ : part)])).length)), (162, .slice bO (0 + 1) bP), (163, .int .i64 (((([] : List part)) ++ ([(⟨((0 : Int) + r26.Start), r26.Final, (0 : Int)⟩ : part)])).length : Int)), (164, .int .i64 (k7_567 : Int))] hag ?_
   refine zq (zr ?_)
   by_cases C8 : (k7_567 : Int) < (((([] : List part)) ++ ([(⟨((0 : Int) + r26.Start), r26.Final, (0 : Int)⟩ : part)])).length : Int)
   ·replace H := ifp C8 H
    refine zo (fun w => opB (op_lss rfl rfl w) (decide_eq_true C8)) (zn (zq (zt rfl rfl (zk (zq ?_)))))
    refine zb (zq (zr (zm rfl ?_)))
    obtain ⟨Ha, H⟩ := H
    obtain ⟨Hb, H⟩ := H
    refine zo (op_index Try.underlying81 ti120 rfl rfl Ha (ltn (aA.neq hO 8 rfl) Hb) (aA.psome hO 8 rfl Ha Hb)) ?_
    have Px := oldAggR 8 hO rfl (r := rppart) aA Ha Hb
    obtain ⟨Ty, Py, hR576, KS⟩ := Px
    replace hR576 := rppart_inv Py hR576
    obtain ⟨rW, rX, hcs578, iN⟩ := hR576
    subst hcs578
    refine zs (KS Try.underlying120 rfl ti120 rfl) ?_
    have hobt := oalloc (t := 120) (cs := #[.int .i64 (0 : Int), .slice none 0 0, .int .i64 (0 : Int)]) ti120 hO rfl
    obtain ⟨XW, B583, o3, Tz, KT⟩ := hobt
    refine GoR.op KT rfl rfl ?_
    replace hO := o3.own
    refine za rfl ?_
    have hobt := oblkStAgg (us := [.int .i64 ((ix ((([] : List part)) ++ ([(⟨((0 : Int) + r26.Start), r26.Final, (0 : Int)⟩ : part)])) (k7_567 : Int)).start), .slice rW (((ix ((([] : List part)) ++ ([(⟨((0 : Int) + r26.Start), r26.Final, (0 : Int)⟩ : part)])) (k7_567 : Int)).final).length) rX, .int .i64 ((ix ((([] : List part)) ++ ([(⟨((0 : Int) + r26.Start), r26.Final, (0 : Int)⟩ : part)])) (k7_567 : Int)).shift)]) (o := 0) (cs' := #[.int .i64 ((ix ((([] : List part)) ++ ([(⟨((0 : Int) + r26.Start), r26.Final, (0 : Int)⟩ : part)])) (k7_567 : Int)).start), .slice rW (((ix ((([] : List part)) ++ ([(⟨((0 : Int) + r26.Start), r26.Final, (0 : Int)⟩ : part)])) (k7_567 : Int)).final).length) rX, .int .i64 ((ix ((([] : List part)) ++ ([(⟨((0 : Int) + r26.Start), r26.Final, (0 : Int)⟩ : part)])) (k7_567 : Int)).shift)]) 0 hO rfl rfl (Nat.le_of_ble_eq_true rfl) rfl
    obtain ⟨XX, nN, KU⟩ := hobt
    dsimp only [sS, sZ] at nN
    refine zg (KU ti120 (by exact rfl) (by exact rfl) rfl) ?_
    replace hO := nN.own
    refine zn (zq (zr (zm rfl (zm rfl (zm rfl ?_)))))
    obtain ⟨Sk, H⟩ := H
    obtain ⟨FL, H⟩ := H
    have hobt := omake (n := (r215.Elems.length : Int)) (r := Rp.bool) (d := false) Try.underlying22 ti4 (fun _ _ => rfl) rfl hO Sk FL (by decide)
    obtain ⟨XY, tN, TA, o4, Ar, TB, KV⟩ := hobt
    refine zg (KV rfl rfl) ?_
    replace hO := o4.own
    obtain ⟨Cv, H⟩ := H
    obtain ⟨Hc, H⟩ := H
    refine zo (op_index Try.underlying40 ti22 rfl rfl Cv (ltn (t2neq 2 hO rfl) Hc) (t2some 2 hO rfl Cv Hc)) ?_
    have mz := Stp.front 2 hO rfl
    dsimp only [eS, eZ] at mz
    replace hO := mz.own
    have gj := Stp.front 1 hO rfl
    dsimp only [eS, eZ] at gj
    replace hO := gj.own
    replace Ar := (Ar.ch mz.ch).ch gj.ch
    have hobt := t2put (hf := Fl.bool) hO Ar Cv Hc
    obtain ⟨X0, o5, KW⟩ := hobt
    refine zg (KW Try.underlying22 rfl ti22 (by exact rfl) (by exact rfl)) ?_
    replace hO := o5.own
    refine zn (zq (zr (zo (op_fieldAddr Try.underlying123 rfl ti23 rfl (by decide)) (zs (oblk (i := 3) 7 hO rfl rfl Try.underlying23 rfl rfl) (zo (op_len Try.underlying23 rfl) ?_)))))
    refine zm rfl (zn (zb ?_))
    have Z37 := ((((o3.ch.trans nN.ch).trans o4.ch).trans mz.ch).trans gj.ch).trans o5.ch
    replace cv := cv.ch Z37
    replace bf := bf.ch Z37
    replace aT := aT.ch Z37
    replace aA := aA.ch Z37
    replace am := am.ch Z37
    replace ag := ag.ch Z37
    replace aa := aa.ch Z37
    replace aj := aj.ch Z37
    replace af := af.ch Z37
    replace ai := ai.ch Z37
    replace iN := iN.ch Z37
    replace hB := (((((hB.trans o3.fr).trans nN.fr).trans o4.fr).trans mz.fr).trans gj.fr).trans o5.fr
    refine Go1.loopW (S := Nat × List (List Bool)) (fun s σ w => match s with | (k8_609, d_610) => agrees σ [(2, .pointer (some ⟨B207, 0, none⟩)), (5, .pointer (some ⟨B223, 0, none⟩)), (7, .int .i64 (r215.Elems.length : Int)), (8, .pointer (some ⟨c5, 0, none⟩)), (13, .slice iU (((([] : List part)) ++ ([(⟨((0 : Int) + r26.Start), r26.Final, (0 : Int)⟩ : part)])).length) (((([] : List part)) ++ ([(⟨((0 : Int) + r26.Start), r26.Final, (0 : Int)⟩ : part)])).length)), (14, .int .i64 (k7_567 : Int)), (15, .pointer (some ⟨B583, 0, none⟩)), (162, .slice bO (0 + 1) bP), (163, .int .i64 (((([] : List part)) ++ ([(⟨((0 : Int) + r26.Start), r26.Final, (0 : Int)⟩ : part)])).length : Int)), (164, .int .i64 (k7_567 : Int)), (175, .slice aB r215.Elems.length aC), (176, .int .i64 (r215.Elems.length : Int)), (177, .int .i64 (k8_609 : Int))] ∧ (fun Z0 => Owns w0.heap.size w Z0 A ∧ Els (Rp.bool) (bl Z0 ++ A) w eI d_383 ∧ Els (Rp.str) (bl Z0 ++ A) w cH d_343 ∧ Els (Rp.int .i64) (bl Z0 ++ A) w bx r262 ∧ Els (rppart) (bl Z0 ++ A) w cx ((([] : List part)) ++ ([(⟨((0 : Int) + r26.Start), r26.Final, (0 : Int)⟩ : part)])) ∧ ISl (Rp.sl (Rp.int .i64)) (bl Z0 ++ A) w aM aN r215.Gens ∧ ISl (Rp.sl (Rp.int .i64)) (bl Z0 ++ A) w aB aC r215.Elems ∧ ISl (Rp.int .i64) (bl Z0 ++ A) w ay az r215.Prefix ∧ ISl (Rp.int .i64) (bl Z0 ++ A) w aO aP r215.Last ∧ ISl (Rp.sl (Rp.int .i64)) (bl Z0 ++ A) w aw ax r215.Right ∧ ISl (rpRule) (bl Z0 ++ A) w aG aH r215.Rules ∧ ISl (Rp.bool) (bl Z0 ++ A) w rW rX ((ix ((([] : List part)) ++ ([(⟨((0 : Int) + r26.Start), r26.Final, (0 : Int)⟩ : part)])) (k7_567 : Int)).final) ∧ Fr (bl []) w0 (bl Z0) w) [t2 Fl.bool 22 4 iU (((([] : List part)) ++ ([(⟨((0 : Int) + r26.Start), r26.Final, (0 : Int)⟩ : part)])).length) (((([] : List part)) ++ ([(⟨((0 : Int) + r26.Start), r26.Final, (0 : Int)⟩ : part)])).length) (hup eU (k7_567 : Int).toNat (tN, r215.Elems.length)) d_610, .blk B583 (.cells #[.int .i64 ((ix ((([] : List part)) ++ ([(⟨((0 : Int) + r26.Start), r26.Final, (0 : Int)⟩ : part)])) (k7_567 : Int)).start), .slice rW (((ix ((([] : List part)) ++ ([(⟨((0 : Int) + r26.Start), r26.Final, (0 : Int)⟩ : part)])) (k7_567 : Int)).final).length) rX, .int .i64 ((ix ((([] : List part)) ++ ([(⟨((0 : Int) + r26.Start), r26.Final, (0 : Int)⟩ : part)])) (k7_567 : Int)).shift)] 120 (0, 0)), .blk c5 (.cells #[.int .i64 (d_60.length : Int), .slice (some ⟨bg, 0, none⟩) r215.Elems.length r215.Elems.length, .slice (some ⟨bi, 0, none⟩) r215.Elems.length r215.Elems.length, .slice aI aK aJ, .slice none 0 0, .slice (some ⟨bm, 0, none⟩) r215.Elems.length r215.Elems.length] 33 (0, 0)), .row 4 1 (some ⟨bm, 0, none⟩) r215.Elems.length r215.Elems.length eI, .row 9 1 (some ⟨bi, 0, none⟩) r215.Elems.length r215.Elems.length cH, t2 (Fl.int .i64) 31 3 (some ⟨bg, 0, none⟩) r215.Elems.length r215.Elems.length dr d_386, .row 3 1 aI aK aJ bx, .blk B223 (.cells #[.int .i64 r215.Points, .bool r215.Monoid, .slice aM r215.Gens.length aN, .slice aB r215.Elems.length aC, .slice ay r215.Prefix.length az, .slice aO r215.Last.length aP, .slice aw r215.Right.length ax, .slice aG r215.Rules.length aH, .int .i64 r215.Done] 123 (0, 0)), .blk B207 (.cells #[.int .i64 (0 : Int), .slice none 0 0, .slice none 0 0, .slice none 0 0, .slice none 0 0, .slice none 0 0] 33 (0, 0)), .row 120 3 bO (0 + 1) bP cx, .blk B8 (.cells #[.int .i64 (0 : Int), .slice none 0 0, .slice none 0 0, .slice none 0 0, .slice none 0 0, .slice none 0 0] 33 (0, 0))]) H ⟨⟨rfl, rfl, rfl, rfl, rfl, rfl, rfl, rfl, rfl, rfl, rfl, rfl, rfl, trivial⟩, hO, cv, bf, aT, aA, am, ag, aa, aj, af, ai, iN, hB⟩ ?_
    intro X8
    refine prE fun k8_609 => fun d_610 => ?_
    intro H hX8 σ Ya
    refine andE fun hag => andE fun hO => andE fun cv => andE fun bf => andE fun aT => andE fun aA => andE fun am => andE fun ag => andE fun aa => andE fun aj => andE fun af => andE fun ai => andE fun iN => fun hB => ?_
    dsimp only at H
    refine Go1.keep [(2, .pointer (some ⟨B207, 0, none⟩)), (5, .pointer (some ⟨B223, 0, none⟩)), (7, .int .i64 (r215.Elems.length : Int)), (8, .pointer (some ⟨c5, 0, none⟩)), (13, .slice iU (((([] : List part)) ++ ([(⟨((0 : Int) + r26.Start), r26.Final, (0 : Int)⟩ : part)])).length) (((([] : List part)) ++ ([(⟨((0 : Int) + r26.Start), r26.Final, (0 : Int)⟩ : part)])).length)), (14, .int .i64 (k7_567 : Int)), (15, .pointer (some ⟨B583, 0, none⟩)), (162, .slice bO (0 + 1) bP), (163, .int .i64 (((([] : List part)) ++ ([(⟨((0 : Int) + r26.Start), r26.Final, (0 : Int)⟩ : part)])).length : Int)), (164, .int .i64 (k7_567 : Int)), (175, .slice aB r215.Elems.length aC), (176, .int .i64 (r215.Elems.length : Int)), (177, .int .i64 (k8_609 : Int))] hag ?_
    refine zq (zr ?_)
    by_cases wE : (k8_609 : Int) < (r215.Elems.length : Int)
    ·replace H := ifp wE H
     refine zo (fun w => opB (op_lss rfl rfl w) (decide_eq_true wE)) (zn (zq (zt rfl rfl (zk (zq ?_)))))
     refine zb (zq (zr (zm rfl ?_)))
     obtain ⟨He, H⟩ := H
     obtain ⟨Hf, H⟩ := H
     refine zo (op_index Try.underlying23 ti31 rfl rfl He Hf (ag.some_ He Hf)) ?_
     have hobt := ldSl ag He Hf
     obtain ⟨Yb, Yc, xB, Pz⟩ := hobt
     refine zs (Pz Try.underlying31 rfl rfl) (za rfl (za rfl (zn ?_)))
     refine Go1.drawS 1 [(0, .pure), (1, .pure), (2, .pure), (3, .stable), (4, .pure), (5, .stable), (6, .pure), (7, .loud), (8, .pure), (9, .last)] mixed (by kernel_rfl) ?_
     intro Rj PA
     have gs := Stp.same hO PA
     replace hO := gs.own
     refine GoQ.pure rfl (op_move rfl) rfl rfl ?_
     refine GoQ.pure rfl (op_move rfl) rfl rfl ?_
     obtain ⟨C9, H⟩ := H
     obtain ⟨Db, H⟩ := H
     refine GoQ.pure rfl (op_index Try.underlying40 ti22 rfl rfl C9 (ltn (t2neq 0 hO rfl) Db) (t2some 0 hO rfl C9 Db)) rfl rfl ?_
     refine GoQ.stable rfl (t2head 0 hO rfl C9 Db Try.underlying22 rfl rfl) rfl rfl ?_
     refine GoQ.pure rfl (op_move rfl) rfl rfl ?_
     refine GoQ.stable rfl (oblkAgg (vs := [.int .i64 ((ix ((([] : List part)) ++ ([(⟨((0 : Int) + r26.Start), r26.Final, (0 : Int)⟩ : part)])) (k7_567 : Int)).start), .slice rW (((ix ((([] : List part)) ++ ([(⟨((0 : Int) + r26.Start), r26.Final, (0 : Int)⟩ : part)])) (k7_567 : Int)).final).length) rX, .int .i64 ((ix ((([] : List part)) ++ ([(⟨((0 : Int) + r26.Start), r26.Final, (0 : Int)⟩ : part)])) (k7_567 : Int)).shift)]) (i := 0) 1 hO rfl rfl Try.underlying120 rfl ti120 rfl) rfl rfl ?_
     refine GoQ.pure rfl (op_move rfl) rfl rfl ?_
     replace iN := iN.ch gs.ch
     replace xB := xB.ch gs.ch
     refine GoQ.call rfl (op_call body103 rfl (walk_syntactic_part_accept (p := (⟨((ix ((([] : List part)) ++ ([(⟨((0 : Int) + r26.Start), r26.Final, (0 : Int)⟩ : part)])) (k7_567 : Int)).start), (ix ((([] : List part)) ++ ([(⟨((0 : Int) + r26.Start), r26.Final, (0 : Int)⟩ : part)])) (k7_567 : Int)).final, ((ix ((([] : List part)) ++ ([(⟨((0 : Int) + r26.Start), r26.Final, (0 : Int)⟩ : part)])) (k7_567 : Int)).shift)⟩ : part)) hO.lt iN xB H)) (fun v w hr => by obtain ⟨_, _, hs, _⟩ := hr; assumption) rfl rfl ?_
     rintro Yd Ye ⟨r623, rfl, PB, H⟩
     have nO := Stp.same hO PB
     replace hO := nO.own
     obtain ⟨Hg, H⟩ := H
     obtain ⟨Hh, H⟩ := H
     refine GoQ.pure rfl (op_index Try.underlying22 ti4 rfl rfl Hg Hh (t2isome 0 hO rfl C9 Db Hg Hh)) rfl rfl ?_
     have hobt := t2st (r := Rp.bool) (hf := Fl.bool) rfl 0 hO rfl C9 Db Hg Hh (v := .bool r623) (u := r623) rfl rfl
     obtain ⟨Yf, mA, KX⟩ := hobt
     dsimp only [sS, sZ] at mA
     refine GoQ.last rfl (KX Try.underlying4 rfl ti4 (by exact rfl) (by exact rfl)) rfl rfl ?_
     replace hO := mA.own
     refine GoQ.nil ?_
     refine Go1.inBlock ?_
     refine zr ?_
     have Z38 := (gs.ch.trans nO.ch).trans mA.ch
     replace ag := ag.ch Z38
     refine zo (op_add rfl rfl (wrap_i64 (natbd wE ag.bd))) (zm rfl (zn ?_))
     replace iN := (iN.ch nO.ch).ch mA.ch
     replace cv := cv.ch Z38
     replace bf := bf.ch Z38
     replace aT := aT.ch Z38
     replace aA := aA.ch Z38
     replace am := am.ch Z38
     replace aa := aa.ch Z38
     replace aj := aj.ch Z38
     replace af := af.ch Z38
     replace ai := ai.ch Z38
     replace hB := ((hB.trans gs.fr).trans nO.fr).trans mA.fr
     exact hX8 _ H _ _ ⟨⟨rfl, rfl, rfl, rfl, rfl, rfl, rfl, rfl, rfl, rfl, rfl, rfl, rfl, trivial⟩, hO, cv, bf, aT, aA, am, ag, aa, aj, af, ai, iN, hB⟩
    replace H := ifn wE H
    refine zo (fun w => opB (op_lss rfl rfl w) (decide_eq_false wE)) (zn (zq (zf rfl rfl ?_)))
    refine Go1.exit rfl ?_
    refine Go1.inBlock ?_
    refine zr (zo (op_add rfl rfl (wrap_i64 (natbd C8 aA.bd))) (zm rfl (zn ?_)))
    replace hO := hO.drop 1
    replace am := am.ch (Owns.dropCh _ _ 1)
    replace ag := ag.ch (Owns.dropCh _ _ 1)
    replace aa := aa.ch (Owns.dropCh _ _ 1)
    replace aj := aj.ch (Owns.dropCh _ _ 1)
    replace af := af.ch (Owns.dropCh _ _ 1)
    replace ai := ai.ch (Owns.dropCh _ _ 1)
    replace iN := iN.ch (Owns.dropCh _ _ 1)
    replace cv := cv.ch (Owns.dropCh _ _ 1)
    replace bf := bf.ch (Owns.dropCh _ _ 1)
    replace aT := aT.ch (Owns.dropCh _ _ 1)
    replace aA := aA.ch (Owns.dropCh _ _ 1)
    replace hB := hB.trans (Owns.dropFr _ _ 1)
    dsimp only [eS, eZ] at hB hO am ag aa aj af ai iN cv bf aT aA
    exact hX7 _ H _ _ ⟨hup eU (k7_567 : Int).toNat (tN, r215.Elems.length), ⟨rfl, rfl, rfl, rfl, rfl, rfl, rfl, rfl, trivial⟩, hO, cv, bf, aT, aA, am, ag, aa, aj, af, ai, hB⟩
   replace H := ifn C8 H
   refine zo (fun w => opB (op_lss rfl rfl w) (decide_eq_false C8)) (zn (zq (zf rfl rfl ?_)))
   refine Go1.exit rfl ?_
   refine zq ?_
   refine Go1.cut [(2, .pointer (some ⟨B207, 0, none⟩)), (8, .pointer (some ⟨c5, 0, none⟩)), (13, .slice iU (((([] : List part)) ++ ([(⟨((0 : Int) + r26.Start), r26.Final, (0 : Int)⟩ : part)])).length) (((([] : List part)) ++ ([(⟨((0 : Int) + r26.Start), r26.Final, (0 : Int)⟩ : part)])).length))] ⟨rfl, rfl, rfl, trivial⟩ ?_
   intro σ _
   refine zr (zs (oblkAgg (vs := [.int .i64 (d_60.length : Int), .slice (some ⟨bg, 0, none⟩) r215.Elems.length r215.Elems.length, .slice (some ⟨bi, 0, none⟩) r215.Elems.length r215.Elems.length, .slice aI aK aJ, .slice none 0 0, .slice (some ⟨bm, 0, none⟩) r215.Elems.length r215.Elems.length]) (i := 0) 1 hO rfl rfl Try.underlying33 rfl ti33 rfl) (zm rfl ?_))
   have hobt := oblkStAgg (us := [.int .i64 (d_60.length : Int), .slice (some ⟨bg, 0, none⟩) r215.Elems.length r215.Elems.length, .slice (some ⟨bi, 0, none⟩) r215.Elems.length r215.Elems.length, .slice aI aK aJ, .slice none 0 0, .slice (some ⟨bm, 0, none⟩) r215.Elems.length r215.Elems.length]) (o := 0) (cs' := #[.int .i64 (d_60.length : Int), .slice (some ⟨bg, 0, none⟩) r215.Elems.length r215.Elems.length, .slice (some ⟨bi, 0, none⟩) r215.Elems.length r215.Elems.length, .slice aI aK aJ, .slice none 0 0, .slice (some ⟨bm, 0, none⟩) r215.Elems.length r215.Elems.length]) 7 hO rfl rfl (Nat.le_of_ble_eq_true rfl) rfl
   obtain ⟨Yg, o6, KY⟩ := hobt
   dsimp only [sS, sZ] at o6
   refine zg (KY ti33 (by exact rfl) (by exact rfl) rfl) ?_
   replace hO := o6.own
   refine za rfl (za rfl (zn ?_))
   refine Go1.retC3V Try.func63 rfl rfl (run_loadBlk (vs := [.int .i64 (d_60.length : Int), .slice (some ⟨bg, 0, none⟩) r215.Elems.length r215.Elems.length, .slice (some ⟨bi, 0, none⟩) r215.Elems.length r215.Elems.length, .slice aI aK aJ, .slice none 0 0, .slice (some ⟨bm, 0, none⟩) r215.Elems.length r215.Elems.length]) 7 hO rfl rfl Try.underlying33 rfl ti33) (show _ = .slice iU (((([] : List part)) ++ ([(⟨((0 : Int) + r26.Start), r26.Final, (0 : Int)⟩ : part)])).length) (((([] : List part)) ++ ([(⟨((0 : Int) + r26.Start), r26.Final, (0 : Int)⟩ : part)])).length) from rfl) (show _ = .int .i64 (0 : Int) from rfl) ?_
   refine hR205 _ _ ?_
   refine zm rfl (zo (op_extract rfl rfl) (zo (op_extract rfl rfl) (zo (op_extract rfl rfl) ?_)))
   have hobt := oalloc (t := 33) (cs := #[.int .i64 (0 : Int), .slice none 0 0, .slice none 0 0, .slice none 0 0, .slice none 0 0, .slice none 0 0]) ti33 hO rfl
   obtain ⟨Rl, B638, qS, TC, K1⟩ := hobt
   refine GoR.op K1 rfl rfl ?_
   replace hO := qS.own
   have hobt := oblkStAgg (us := [.int .i64 (d_60.length : Int), .slice (some ⟨bg, 0, none⟩) r215.Elems.length r215.Elems.length, .slice (some ⟨bi, 0, none⟩) r215.Elems.length r215.Elems.length, .slice aI aK aJ, .slice none 0 0, .slice (some ⟨bm, 0, none⟩) r215.Elems.length r215.Elems.length]) (o := 0) (cs' := #[.int .i64 (d_60.length : Int), .slice (some ⟨bg, 0, none⟩) r215.Elems.length r215.Elems.length, .slice (some ⟨bi, 0, none⟩) r215.Elems.length r215.Elems.length, .slice aI aK aJ, .slice none 0 0, .slice (some ⟨bm, 0, none⟩) r215.Elems.length r215.Elems.length]) 0 hO rfl rfl (Nat.le_of_ble_eq_true rfl) rfl
   obtain ⟨Yh, o7, Cw⟩ := hobt
   dsimp only [sS, sZ] at o7
   refine zg (Cw ti33 (by exact rfl) (by exact rfl) rfl) ?_
   replace hO := o7.own
   refine za rfl (za rfl (zn (zq (zq (zr ?_)))))
   refine zm rfl (zo (fun w => opB (op_neq rfl rfl w) (ndT (by decide))) (zn (zf rfl rfl (zk (zq ?_)))))
   refine zr (zm rfl ?_)
   obtain ⟨EE, H⟩ := H
   obtain ⟨EF, H⟩ := H
   refine zo (op_index Try.underlying40 ti22 rfl rfl EE (ltn (t2neq 1 hO rfl) EF) (t2some 1 hO rfl EE EF)) (zs (t2head 1 hO rfl EE EF Try.underlying22 rfl rfl) (zo (op_fieldAddr Try.underlying33 rfl ti22 rfl (by decide)) ?_))
   have hobt := oblkSt2 (v := .slice (eU (0 : Int).toNat).1 ((ix d_568 (0 : Int)).length) (eU (0 : Int).toNat).2) (i := 4) (cs' := #[.int .i64 (d_60.length : Int), .slice (some ⟨bg, 0, none⟩) r215.Elems.length r215.Elems.length, .slice (some ⟨bi, 0, none⟩) r215.Elems.length r215.Elems.length, .slice aI aK aJ, .slice (eU (0 : Int).toNat).1 ((ix d_568 (0 : Int)).length) (eU (0 : Int).toNat).2, .slice (some ⟨bm, 0, none⟩) r215.Elems.length r215.Elems.length]) 0 hO rfl rfl rfl rfl
   obtain ⟨Yi, o8, K2⟩ := hobt
   dsimp only [sS, sZ] at o8
   refine zg (K2 Try.underlying22 rfl ti22 (by exact rfl) (by exact rfl)) ?_
   replace hO := o8.own
   refine zn (zq ?_)
   refine Go1.cut [(2, .pointer (some ⟨B8, 0, none⟩)), (7, .pointer (some ⟨B638, 0, none⟩))] ⟨rfl, rfl, trivial⟩ ?_
   intro σ _
   refine zr (zs (oblkAgg (vs := [.int .i64 (d_60.length : Int), .slice (some ⟨bg, 0, none⟩) r215.Elems.length r215.Elems.length, .slice (some ⟨bi, 0, none⟩) r215.Elems.length r215.Elems.length, .slice aI aK aJ, .slice (eU (0 : Int).toNat).1 ((ix d_568 (0 : Int)).length) (eU (0 : Int).toNat).2, .slice (some ⟨bm, 0, none⟩) r215.Elems.length r215.Elems.length]) (i := 0) 0 hO rfl rfl Try.underlying33 rfl ti33 rfl) ?_)
   have hobt := oblkStAgg (us := [.int .i64 (d_60.length : Int), .slice (some ⟨bg, 0, none⟩) r215.Elems.length r215.Elems.length, .slice (some ⟨bi, 0, none⟩) r215.Elems.length r215.Elems.length, .slice aI aK aJ, .slice (eU (0 : Int).toNat).1 ((ix d_568 (0 : Int)).length) (eU (0 : Int).toNat).2, .slice (some ⟨bm, 0, none⟩) r215.Elems.length r215.Elems.length]) (o := 0) (cs' := #[.int .i64 (d_60.length : Int), .slice (some ⟨bg, 0, none⟩) r215.Elems.length r215.Elems.length, .slice (some ⟨bi, 0, none⟩) r215.Elems.length r215.Elems.length, .slice aI aK aJ, .slice (eU (0 : Int).toNat).1 ((ix d_568 (0 : Int)).length) (eU (0 : Int).toNat).2, .slice (some ⟨bm, 0, none⟩) r215.Elems.length r215.Elems.length]) 10 hO rfl rfl (Nat.le_of_ble_eq_true rfl) rfl
   obtain ⟨Rn, o9, K3⟩ := hobt
   dsimp only [sS, sZ] at o9
   refine zg (K3 ti33 (by exact rfl) (by exact rfl) rfl) ?_
   replace hO := o9.own
   refine za rfl (zn ?_)
   have hobt := t2freezeA 5 hO rfl
   obtain ⟨hO1, tO, uu, PC⟩ := hobt
   dsimp only [eS, eZ] at hO1 tO uu
   replace hB := (((((hB.trans o6.fr).trans qS.fr).trans o7.fr).trans o8.fr).trans o9.fr).trans (Owns.dropFr _ _ 5)
   dsimp only [eS, eZ] at hB
   replace hO := hO1; clear hO1
   have Z39 := ((((o6.ch.trans qS.ch).trans o7.ch).trans o8.ch).trans o9.ch).trans tO
   replace bf := bf.ch Z39
   have hobt := freeze 4 hO rfl bf
   obtain ⟨hO1, tP, wo, PD⟩ := hobt
   dsimp only [eS, eZ] at hO1 tP wo
   replace hB := hB.trans (Owns.dropFr _ _ 4)
   dsimp only [eS, eZ] at hB
   replace hO := hO1; clear hO1
   replace aT := (aT.ch Z39).ch tP
   have hobt := freeze 4 hO rfl aT
   obtain ⟨hO1, tQ, yB, PE⟩ := hobt
   dsimp only [eS, eZ] at hO1 tQ yB
   replace hB := hB.trans (Owns.dropFr _ _ 4)
   dsimp only [eS, eZ] at hB
   replace hO := hO1; clear hO1
   have EG := t2lendIn 1 hO rfl EE EF
   have hobt := t2freezeA 1 hO rfl
   obtain ⟨hO1, ta, EH, TD⟩ := hobt
   dsimp only [eS, eZ] at hO1 ta EH
   replace hB := hB.trans (Owns.dropFr _ _ 1)
   dsimp only [eS, eZ] at hB
   replace hO := hO1; clear hO1
   have Z40 := ((Z39.trans tP).trans tQ).trans ta
   replace cv := cv.ch Z40
   have hobt := freeze 2 hO rfl cv
   obtain ⟨hO1, sm, HP, PF⟩ := hobt
   dsimp only [eS, eZ] at hO1 sm HP
   replace hB := hB.trans (Owns.dropFr _ _ 2)
   dsimp only [eS, eZ] at hB
   replace hO := hO1; clear hO1
   refine Go1.retC2 Try.func19 rfl rfl (run_loadBlk (vs := [.int .i64 (d_60.length : Int), .slice (some ⟨bg, 0, none⟩) r215.Elems.length r215.Elems.length, .slice (some ⟨bi, 0, none⟩) r215.Elems.length r215.Elems.length, .slice aI aK aJ, .slice (eU (0 : Int).toNat).1 ((ix d_568 (0 : Int)).length) (eU (0 : Int).toNat).2, .slice (some ⟨bm, 0, none⟩) r215.Elems.length r215.Elems.length]) 5 hO rfl rfl Try.underlying33 rfl ti33) ?_
   replace EG := EG.ch sm
   replace yB := (yB.ch ta).ch sm
   have Z41 := (tQ.trans ta).trans sm
   replace wo := wo.ch Z41
   have Z42 := ((tP.trans tQ).trans ta).trans sm
   replace uu := uu.ch Z42
   exact ⟨(⟨(d_60.length : Int), d_386, d_343, r262, (ix d_568 (0 : Int)), d_383⟩ : Syntactic), (0 : Int), (some ⟨bg, 0, none⟩), r215.Elems.length, (some ⟨bi, 0, none⟩), r215.Elems.length, aI, aJ, (eU (0 : Int).toNat).1, (eU (0 : Int).toNat).2, (some ⟨bm, 0, none⟩), r215.Elems.length, (congrArg (fun l => Value.tuple (List.toArray l)) (cons_eq (congrArg (fun l => Value.agg (List.toArray l)) (cons_eq rfl (cons_eq (congrArg (fun nn => Value.slice (some ⟨bg, 0, none⟩) nn r215.Elems.length) PC) (cons_eq (congrArg (fun nn => Value.slice (some ⟨bi, 0, none⟩) nn r215.Elems.length) PD) (cons_eq (congrArg (fun nn => Value.slice aI nn aJ) PE) (cons_eq rfl (cons_eq (congrArg (fun nn => Value.slice (some ⟨bm, 0, none⟩) nn r215.Elems.length) PF) rfl))))))) (cons_eq rfl rfl))), hB.same, (uu.ch (Ch.weak _ _ _)), (wo.ch (Ch.weak _ _ _)), (yB.ch (Ch.weak _ _ _)), (EG.ch (Ch.weak _ _ _)), (HP.ch (Ch.weak _ _ _)), H⟩
  replace H := ifn xv H
  refine zo (fun w => opB (op_neq rfl rfl w) (ndF xv)) (zn (zt rfl rfl (zq (zr (zo (op_build Try.underlying33 ti33 (pl := [(0, 1), (1, 1), (2, 1), (3, 1), (4, 1), (5, 1)]) (vs := []) (cs := #[.int .i64 (0 : Int), .slice none 0 0, .slice none 0 0, .slice none 0 0, .slice none 0 0, .slice none 0 0]) (by kernel_rfl) rfl (by kernel_rfl)) ?_)))))
  refine zm rfl ?_
  have hobt := oblkStAgg (us := [.int .i64 (0 : Int), .slice none 0 0, .slice none 0 0, .slice none 0 0, .slice none 0 0, .slice none 0 0]) (o := 0) (cs' := #[.int .i64 (0 : Int), .slice none 0 0, .slice none 0 0, .slice none 0 0, .slice none 0 0, .slice none 0 0]) 1 hO rfl rfl (Nat.le_of_ble_eq_true rfl) rfl
  obtain ⟨Yj, nP, K4⟩ := hobt
  dsimp only [sS, sZ] at nP
  refine zg (K4 ti33 (by exact rfl) (by exact rfl) rfl) ?_
  replace hO := nP.own
  refine za rfl (za rfl (zn ?_))
  refine Go1.retC3V Try.func63 rfl rfl (run_loadBlk (vs := [.int .i64 (0 : Int), .slice none 0 0, .slice none 0 0, .slice none 0 0, .slice none 0 0, .slice none 0 0]) 1 hO rfl rfl Try.underlying33 rfl ti33) (show _ = .slice none 0 0 from rfl) (show _ = .int .i64 r216 from rfl) ?_
  refine hR205 _ _ ?_
  refine zm rfl (zo (op_extract rfl rfl) (zo (op_extract rfl rfl) (zo (op_extract rfl rfl) ?_)))
  have hobt := oalloc (t := 33) (cs := #[.int .i64 (0 : Int), .slice none 0 0, .slice none 0 0, .slice none 0 0, .slice none 0 0, .slice none 0 0]) ti33 hO rfl
  obtain ⟨Yk, B674, pc, TE, K5⟩ := hobt
  refine GoR.op K5 rfl rfl ?_
  replace hO := pc.own
  have hobt := oblkStAgg (us := [.int .i64 (0 : Int), .slice none 0 0, .slice none 0 0, .slice none 0 0, .slice none 0 0, .slice none 0 0]) (o := 0) (cs' := #[.int .i64 (0 : Int), .slice none 0 0, .slice none 0 0, .slice none 0 0, .slice none 0 0, .slice none 0 0]) 0 hO rfl rfl (Nat.le_of_ble_eq_true rfl) rfl
  obtain ⟨Yl, nQ, K6⟩ := hobt
  dsimp only [sS, sZ] at nQ
  refine zg (K6 ti33 (by exact rfl) (by exact rfl) rfl) ?_
  replace hO := nQ.own
  refine za rfl (za rfl (zn (zq (zq (zr ?_)))))
  refine zm rfl (zo (fun w => opB (op_neq rfl rfl w) (ndF xv)) (zn (zt rfl rfl (zq (zr ?_)))))
  refine zo (op_build Try.underlying33 ti33 (pl := [(0, 1), (1, 1), (2, 1), (3, 1), (4, 1), (5, 1)]) (vs := []) (cs := #[.int .i64 (0 : Int), .slice none 0 0, .slice none 0 0, .slice none 0 0, .slice none 0 0, .slice none 0 0]) (by kernel_rfl) rfl (by kernel_rfl)) (zm rfl ?_)
  have hobt := oblkStAgg (us := [.int .i64 (0 : Int), .slice none 0 0, .slice none 0 0, .slice none 0 0, .slice none 0 0, .slice none 0 0]) (o := 0) (cs' := #[.int .i64 (0 : Int), .slice none 0 0, .slice none 0 0, .slice none 0 0, .slice none 0 0, .slice none 0 0]) 6 hO rfl rfl (Nat.le_of_ble_eq_true rfl) rfl
  obtain ⟨Ym, nS, K7⟩ := hobt
  dsimp only [sS, sZ] at nS
  refine zg (K7 ti33 (by exact rfl) (by exact rfl) rfl) ?_
  replace hO := nS.own
  refine za rfl (zn ?_)
  refine Go1.retC2 Try.func19 rfl rfl (run_loadBlk (vs := [.int .i64 (0 : Int), .slice none 0 0, .slice none 0 0, .slice none 0 0, .slice none 0 0, .slice none 0 0]) 6 hO rfl rfl Try.underlying33 rfl ti33) ?_
  replace hB := ((((((hB.trans vQ.fr).trans oT.fr).trans m9.fr).trans nP.fr).trans pc.fr).trans nQ.fr).trans nS.fr
  exact ⟨(⟨(0 : Int), ([] : List (List Int)), ([] : List Str), ([] : List Int), ([] : List Bool), ([] : List Bool)⟩ : Syntactic), r216, none, 0, none, 0, none, 0, none, 0, none, 0, rfl, hB.same, (ISl.null _ _ _), (ISl.null _ _ _), (ISl.null _ _ _), (ISl.null _ _ _), (ISl.null _ _ _), H⟩
 replace H := ifn h19 H
 refine zo (fun w => opB (op_neq rfl rfl w) (ndF h19)) (zn (zt rfl rfl (zq ?_)))
 refine Go1.cut [(2, .pointer (some ⟨B8, 0, none⟩)), (4, .int .i64 r13)] ⟨rfl, rfl, trivial⟩ ?_
 intro σ _
 refine zr (zo (op_build Try.underlying33 ti33 (pl := [(0, 1), (1, 1), (2, 1), (3, 1), (4, 1), (5, 1)]) (vs := []) (cs := #[.int .i64 (0 : Int), .slice none 0 0, .slice none 0 0, .slice none 0 0, .slice none 0 0, .slice none 0 0]) (by kernel_rfl) rfl (by kernel_rfl)) (zm rfl ?_))
 have hobt := oblkStAgg (us := [.int .i64 (0 : Int), .slice none 0 0, .slice none 0 0, .slice none 0 0, .slice none 0 0, .slice none 0 0]) (o := 0) (cs' := #[.int .i64 (0 : Int), .slice none 0 0, .slice none 0 0, .slice none 0 0, .slice none 0 0, .slice none 0 0]) 0 hO rfl rfl (Nat.le_of_ble_eq_true rfl) rfl
 obtain ⟨Yn, At, K8⟩ := hobt
 refine zg (K8 ti33 (by exact rfl) (by exact rfl) rfl) ?_
 replace hO := At.own
 refine za rfl (zn ?_)
 refine Go1.retC2 Try.func19 rfl rfl (run_loadBlk (vs := [.int .i64 (0 : Int), .slice none 0 0, .slice none 0 0, .slice none 0 0, .slice none 0 0, .slice none 0 0]) 0 hO rfl rfl Try.underlying33 rfl ti33) ?_
 replace hB := (((hB.trans dG.fr).trans gr.fr).trans ji.fr).trans At.fr
 exact ⟨(⟨(0 : Int), ([] : List (List Int)), ([] : List Str), ([] : List Int), ([] : List Bool), ([] : List Bool)⟩ : Syntactic), r13, none, 0, none, 0, none, 0, none, 0, none, 0, rfl, hB.same, (ISl.null _ _ _), (ISl.null _ _ _), (ISl.null _ _ _), (ISl.null _ _ _), (ISl.null _ _ _), H⟩
end Sg
