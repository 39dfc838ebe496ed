/- -/
import Derived.Test.YtlneebpmblkllaaTi
import Derived.Test.YtlneebpmblkllaaWSyntacticMonoids
import Derived.Test.YtlneebpmblkllaaWSyntacticMonoidsb
import Derived.Test.YtlneebpmblkllaaWSyntacticMonoidsd
import Derived.Test.YtlneebpmblkllaaAl
namespace Sg
open Go Go.RowKit Go.Proofs
set_option linter.unusedVariables false
set_option linter.unusedSimpArgs false
set_option maxRecDepth 100000
set_option maxHeartbeats 4000000
theorem body63 : Body Try.prog 63 := ⟨Try.f63, Try.func63, rfl, by kernel_rfl⟩
theorem body62 : Body Try.prog 62 := ⟨Try.f62, Try.func62, rfl, by kernel_rfl⟩
theorem body19 : Body Try.prog 19 := ⟨Try.f19, Try.func19, rfl, by kernel_rfl⟩
theorem walk_syntactic_Of {A : List Nat} {w0 : World} {bn : Option Addr} {bo : Nat} {bt : Option Addr} {bu : Nat} {d : DFA} (hA : ∀ b ∈ A, b < w0.heap.size) (ag : ISl (Rp.bool) A w0 bn bo d.Final) (ak : ISl (Rp.sl (Rp.int .i64)) A w0 bt bu d.Next) {K : Syntactic → Int → Prop} (H : J0P d K) :
    CallsV Try.prog 19 #[.agg #[.int .i64 d.Letters, .int .i64 d.Start, .slice bn d.Final.length bo, .slice bt d.Next.length bu]] w0 (fun v w' => ∃ (r0 : Syntactic) (r1 : Int) (AG : Option Addr) (AH : Nat) (AI : Option Addr) (AJ : Nat) (y5 : Option Addr) (y6 : Nat) (y7 : Option Addr) (y8 : Nat) (BC : Option Addr) (BD : Nat), v = .tuple #[.agg #[.int .i64 r0.Letters, .slice AG r0.Table.length AH, .slice AI r0.Words.length AJ, .slice y5 r0.Images.length y6, .slice y7 r0.Accept.length y8, .slice BC r0.Plus.length BD], .int .i64 r1] ∧ Same w0 w' ∧ ISl (Rp.sl (Rp.int .i64)) A w' AG AH r0.Table ∧ ISl (Rp.str) A w' AI AJ r0.Words ∧ ISl (Rp.int .i64) A w' y5 y6 r0.Images ∧ ISl (Rp.bool) A w' y7 y8 r0.Accept ∧ ISl (Rp.bool) A w' BC BD r0.Plus ∧ K r0 r1) := by
 refine CallsV.of (l := [.agg #[.int .i64 d.Letters, .int .i64 d.Start, .slice bn d.Final.length bo, .slice bt d.Next.length bu]]) Try.func19 rfl Try.ntmps19 rfl ?_
 have hO := Owns.start hA
 have hB := Fr.refl (bl []) w0
 unfold J0P at H
 refine zq (zr ?_)
 have zz := obox (t := 25) (v := .agg #[.int .i64 d.Letters, .int .i64 d.Start, .slice bn d.Final.length bo, .slice bt d.Next.length bu]) (cs := #[.int .i64 d.Letters, .int .i64 d.Start, .slice bn d.Final.length bo, .slice bt d.Next.length bu]) hO rfl
 obtain ⟨w1, B2, c5, hs4, iQ⟩ := zz
 refine zg (iQ rfl) ?_
 replace hO := c5.own
 have zz := oalloc (t := 33) (cs := #[.int .i64 0, .slice none 0 0, .slice none 0 0, .slice none 0 0, .slice none 0 0, .slice none 0 0]) ti33 hO rfl
 obtain ⟨w7, B8, f7, wX, tw⟩ := zz
 refine GoR.op tw rfl rfl ?_
 replace hO := f7.own
 refine za rfl (zn (zq (zq ?_)))
 refine Go1.cut [(1, .pointer (some ⟨B2, 0, none⟩)), (2, .pointer (some ⟨B8, 0, none⟩))] ⟨rfl, rfl, trivial⟩ ?_
 intro σ _
 refine zr (zs (J0n (vs := [.int .i64 d.Letters, .int .i64 d.Start, .slice bn d.Final.length bo, .slice bt d.Next.length bu]) (i := 0) 1 hO rfl rfl Try.underlying25 rfl ti25 rfl) ?_)
 have Z1 := ((Ch.start A w0).trans c5.ch).trans f7.ch
 replace ag := ag.ch Z1
 replace ak := ak.ch Z1
 refine GoR.call (J0a body61 rfl (J18 (d := d) hO.lt ag ak H)) rfl rfl ?_
 rintro v17 w14 ⟨r13, rfl, xw, H⟩
 have gG := Stp.same hO xw
 replace hO := gG.own
 refine za rfl (zn (zq (zr (zm rfl ?_))))
 by_cases h19 : r13 = (0 : Int)
 ·replace H := ifp h19 H
  refine zo (fun w => opB (J0g rfl rfl w) (ndT h19)) (zn (zf rfl rfl (zk (zq (zr ?_)))))
  have zz := oalloc (t := 83) (cs := #[.slice none 0 0, .slice none 0 0, .int .i64 0]) ti83 hO rfl
  obtain ⟨w20, B21, gH, FS, Ag⟩ := zz
  refine GoR.op Ag rfl rfl ?_
  replace hO := gH.own
  refine zn (zq (zq (zr (zs (J0n (vs := [.int .i64 d.Letters, .int .i64 d.Start, .slice bn d.Final.length bo, .slice bt d.Next.length bu]) (i := 0) 2 hO rfl rfl Try.underlying25 rfl ti25 rfl) ?_))))
  have Z2 := gG.ch.trans gH.ch
  replace ag := ag.ch Z2
  replace ak := ak.ch Z2
  refine GoR.call (J0a body22 rfl (walk_minimize_Minimal (d := d) hO.lt ag ak H)) rfl rfl ?_
  rintro v30 w27 ⟨r26, eo, eA, fF, fG, rfl, KX, ap, ar, H⟩
  have uk := Stp.same hO KX
  replace hO := uk.own
  refine GoR.inl (vs := [.pointer (some ⟨B21, 0, none⟩), .agg #[.int .i64 r26.Letters, .int .i64 r26.Start, .slice eo r26.Final.length eA, .slice fF r26.Next.length fG]]) (caps := []) rfl rfl body62 Try.func62 rfl Try.ntmps62 rfl rfl rfl ?_
  intro RhR32 hR32
  refine zq (zr ?_)
  have zz := obox (t := 25) (v := .agg #[.int .i64 r26.Letters, .int .i64 r26.Start, .slice eo r26.Final.length eA, .slice fF r26.Next.length fG]) (cs := #[.int .i64 r26.Letters, .int .i64 r26.Start, .slice eo r26.Final.length eA, .slice fF r26.Next.length fG]) hO rfl
  obtain ⟨w33, B34, yO, E3, PF⟩ := zz
  refine zg (PF rfl) ?_
  replace hO := yO.own
  refine za rfl (zn (zq (zr (zo (J00 Try.underlying25 rfl ti22 rfl (by decide)) (zs (oblk (i := 2) 0 hO rfl rfl Try.underlying22 rfl rfl) ?_)))))
  refine zo (J0d Try.underlying22 rfl) ?_
  replace ap := ap.ch yO.ch
  replace H := H ap.bd
  refine za rfl (zn (zq (zq (zr (zm rfl ?_)))))
  refine zo (J01 rfl) (zo (J00 Try.underlying83 rfl ti3 rfl (by decide)) (zs (oblk (i := 2) 1 hO rfl rfl Try.underlying3 rfl rfl) (zm rfl ?_)))
  obtain ⟨h39, H⟩ := H
  refine zo (J0c rfl rfl (wrap_i64 h39)) ?_
  by_cases h40 : (32 : Int) < ((0 : Int) + (r26.Final.length : Int))
  ·replace H := ifp h40 H
   refine zo (fun w => opB (J1a rfl rfl w) (decide_eq_true h40)) (zn (zt rfl rfl (zq ?_)))
   refine Go1.cut [] trivial ?_
   intro σ _
   refine zr (za rfl (zn ?_))
   refine Go1.ret1V Try.func62 rfl (show _ = .int .i64 3 from rfl) ?_
   refine hR32 _ _ ?_
   refine za rfl (zn (zq (zr (zm rfl (zo (fun w => opB (J0g rfl rfl w) (ndF (by decide))) ?_)))))
   refine zn (zt rfl rfl (zq (zr (zo (J0s Try.underlying33 ti33 (pl := [(0, 1), (1, 1), (2, 1), (3, 1), (4, 1), (5, 1)]) (vs := []) (cs := #[.int .i64 0, .slice none 0 0, .slice none 0 0, .slice none 0 0, .slice none 0 0, .slice none 0 0]) (by kernel_rfl) rfl (by kernel_rfl)) (zm rfl ?_)))))
   have zz := J0b (us := [.int .i64 0, .slice none 0 0, .slice none 0 0, .slice none 0 0, .slice none 0 0, .slice none 0 0]) (o := 0) (cs' := #[.int .i64 0, .slice none 0 0, .slice none 0 0, .slice none 0 0, .slice none 0 0, .slice none 0 0]) 2 hO rfl rfl (Nat.le_of_ble_eq_true rfl) rfl
   obtain ⟨w41, qK, Ad⟩ := zz
   refine zg (Ad ti33 (by exact rfl) (by exact rfl) rfl) ?_
   replace hO := qK.own
   refine za rfl (zn ?_)
   refine Go1.retC2 Try.func19 rfl rfl (J0h (vs := [.int .i64 0, .slice none 0 0, .slice none 0 0, .slice none 0 0, .slice none 0 0, .slice none 0 0]) 2 hO rfl rfl Try.underlying33 rfl ti33) ?_
   replace hB := ((((((hB.trans c5.fr).trans f7.fr).trans gG.fr).trans gH.fr).trans uk.fr).trans yO.fr).trans qK.fr
   exact ⟨(⟨(0 : Int), ([] : List (List Int)), ([] : List Str), ([] : List Int), ([] : List Bool), ([] : List Bool)⟩ : Syntactic), (3 : Int), none, 0, none, 0, none, 0, none, 0, none, 0, rfl, hB.same, (ISl.null _ _ _), (ISl.null _ _ _), (ISl.null _ _ _), (ISl.null _ _ _), (ISl.null _ _ _), H⟩
  replace H := ifn h40 H
  refine zo (fun w => opB (J1a rfl rfl w) (decide_eq_false h40)) (zn (zf rfl rfl (zk (zq (zq ?_)))))
  refine zr (zm rfl (zo (J01 rfl) (zo (J00 Try.underlying83 rfl ti23 rfl (by decide)) (zs (oblk (i := 0) 1 hO rfl rfl Try.underlying23 rfl rfl) (zo (fun w => opB (op_nilSlice Try.underlying23 rfl rfl w) rfl) ?_)))))
  refine zn (zt rfl rfl (zr (zm rfl (zo (J00 Try.underlying25 rfl ti3 rfl (by decide)) (zs (oblk (i := 0) 0 hO rfl rfl Try.underlying3 rfl rfl) ?_)))))
  obtain ⟨h51, H⟩ := H
  obtain ⟨h52, H⟩ := H
  have zz := t2makeS (m := r26.Letters) (e' := 3) (Fl.int .i64) Try.underlying23 ti31 hO h51 h52 (by decide)
  obtain ⟨w44, p45, yP, Yr, PG, hz54⟩ := zz
  refine zg (PG rfl rfl) ?_
  replace hO := yP.own
  refine zo (J01 rfl) (zo (J00 Try.underlying83 rfl ti23 rfl (by decide)) ?_)
  have zz := J0f (v := .slice p45 r26.Letters.toNat r26.Letters.toNat) (i := 0) (cs' := #[.slice p45 r26.Letters.toNat r26.Letters.toNat, .slice none 0 0, .int .i64 0]) 2 hO rfl rfl rfl rfl
  obtain ⟨w55, og, PH⟩ := zz
  dsimp only [sS, sZ] at og
  refine zg (PH Try.underlying23 rfl ti23 (by exact rfl) (by exact rfl)) ?_
  replace hO := og.own
  refine zn (zq (zq ?_))
  refine Go1.cut [(0, .pointer (some ⟨B21, 0, none⟩)), (3, .pointer (some ⟨B34, 0, none⟩)), (5, .int .i64 (r26.Final.length : Int))] ⟨rfl, rfl, rfl, trivial⟩ ?_
  intro σ _
  refine zr (zm rfl (zo (J01 rfl) (zo (J00 Try.underlying83 rfl ti23 rfl (by decide)) (zs (oblk (i := 0) 2 hO rfl rfl Try.underlying23 rfl rfl) (zo (J0w Try.underlying23 rfl (t2neq 0 hO rfl)) ?_)))))
  refine zm rfl (zn (zb ?_))
  replace hO := hO.drop 4
  have Z3 := (yP.ch.trans og.ch).trans (Owns.J04 _ _ 4)
  replace ap := ap.ch Z3
  have Z4 := ((yO.ch.trans yP.ch).trans og.ch).trans (Owns.J04 _ _ 4)
  replace ar := ar.ch Z4
  have Z5 := (((uk.ch.trans yO.ch).trans yP.ch).trans og.ch).trans (Owns.J04 _ _ 4)
  replace ag := ag.ch Z5
  replace ak := ak.ch Z5
  replace hB := ((((((((hB.trans c5.fr).trans f7.fr).trans gG.fr).trans gH.fr).trans uk.fr).trans yO.fr).trans yP.fr).trans og.fr).trans (Owns.J09 _ _ 4)
  dsimp only [eS, eZ] at hB hO ag ak ap ar
  refine Go1.loopW (S := Nat × List (List Int)) (fun s σ w => match s with | (k1_59, d_60) => ∃ (z6 : Hd), agrees σ [(0, .pointer (some ⟨B21, 0, none⟩)), (3, .pointer (some ⟨B34, 0, none⟩)), (5, .int .i64 (r26.Final.length : Int)), (33, .int .i64 ((List.replicate r26.Letters.toNat ([] : List Int)).length : Int)), (34, .int .i64 (k1_59 : Int))] ∧ (fun Z0 => Owns w0.heap.size w Z0 A ∧ ISl (Rp.bool) (bl Z0 ++ A) w eo eA r26.Final ∧ ISl (Rp.sl (Rp.int .i64)) (bl Z0 ++ A) w fF fG r26.Next ∧ Fr (bl []) w0 (bl Z0) w) [t2 (Fl.int .i64) 31 3 p45 r26.Letters.toNat r26.Letters.toNat z6 d_60, .blk B34 (.cells #[.int .i64 r26.Letters, .int .i64 r26.Start, .slice eo r26.Final.length eA, .slice fF r26.Next.length fG] 25 (0, 0)), .blk B21 (.cells #[.slice p45 r26.Letters.toNat r26.Letters.toNat, .slice none 0 0, .int .i64 0] 83 (0, 0)), .blk B8 (.cells #[.int .i64 0, .slice none 0 0, .slice none 0 0, .slice none 0 0, .slice none 0 0, .slice none 0 0] 33 (0, 0))]) H ⟨(fun _ => (none, 0)), ⟨rfl, rfl, rfl, rfl, rfl, trivial⟩, hO, ap, ar, hB⟩ ?_
  intro X1
  refine prE fun k1_59 => fun d_60 => ?_
  intro H hX1 σ w58
  refine exE fun z6 => andE fun hag => andE fun hO => andE fun ap => andE fun ar => fun hB => ?_
  dsimp only at H
  refine Go1.keep [(0, .pointer (some ⟨B21, 0, none⟩)), (3, .pointer (some ⟨B34, 0, none⟩)), (5, .int .i64 (r26.Final.length : Int)), (33, .int .i64 ((List.replicate r26.Letters.toNat ([] : List Int)).length : Int)), (34, .int .i64 (k1_59 : Int))] hag ?_
  refine zq (zr ?_)
  by_cases h62 : (k1_59 : Int) < ((List.replicate r26.Letters.toNat ([] : List Int)).length : Int)
  ·replace H := ifp h62 H
   refine zo (fun w => opB (J08 rfl rfl w) (decide_eq_true h62)) (zn (zq (zt rfl rfl (zk (zq ?_)))))
   refine zb (zq (zr (zm rfl (za rfl (zn ?_)))))
   refine zq (zr (zm rfl (zm rfl (zn (zb ?_)))))
   refine Go1.loopW (S := Nat × List (List Int)) (fun s σ w => match s with | (k2_64, d_65) => ∃ (ia : Hd), agrees σ [(0, .pointer (some ⟨B21, 0, none⟩)), (3, .pointer (some ⟨B34, 0, none⟩)), (5, .int .i64 (r26.Final.length : Int)), (6, .int .i64 (k1_59 : Int)), (33, .int .i64 ((List.replicate r26.Letters.toNat ([] : List Int)).length : Int)), (34, .int .i64 (k1_59 : Int)), (37, .int .i64 (r26.Final.length : Int)), (38, .int .i64 (k2_64 : Int))] ∧ (fun Z0 => Owns w0.heap.size w Z0 A ∧ ISl (Rp.bool) (bl Z0 ++ A) w eo eA r26.Final ∧ ISl (Rp.sl (Rp.int .i64)) (bl Z0 ++ A) w fF fG r26.Next ∧ Fr (bl []) w0 (bl Z0) w) [t2 (Fl.int .i64) 31 3 p45 r26.Letters.toNat r26.Letters.toNat ia d_65, .blk B34 (.cells #[.int .i64 r26.Letters, .int .i64 r26.Start, .slice eo r26.Final.length eA, .slice fF r26.Next.length fG] 25 (0, 0)), .blk B21 (.cells #[.slice p45 r26.Letters.toNat r26.Letters.toNat, .slice none 0 0, .int .i64 0] 83 (0, 0)), .blk B8 (.cells #[.int .i64 0, .slice none 0 0, .slice none 0 0, .slice none 0 0, .slice none 0 0, .slice none 0 0] 33 (0, 0))]) H ⟨z6, ⟨rfl, rfl, rfl, rfl, rfl, rfl, rfl, rfl, trivial⟩, hO, ap, ar, hB⟩ ?_
   intro X2
   refine prE fun k2_64 => fun d_65 => ?_
   intro H hX2 σ w63
   refine exE fun ia => andE fun hag => andE fun hO => andE fun ap => andE fun ar => fun hB => ?_
   dsimp only at H
   refine Go1.keep [(0, .pointer (some ⟨B21, 0, none⟩)), (3, .pointer (some ⟨B34, 0, none⟩)), (5, .int .i64 (r26.Final.length : Int)), (6, .int .i64 (k1_59 : Int)), (33, .int .i64 ((List.replicate r26.Letters.toNat ([] : List Int)).length : Int)), (34, .int .i64 (k1_59 : Int)), (37, .int .i64 (r26.Final.length : Int)), (38, .int .i64 (k2_64 : Int))] hag ?_
   refine zq (zr ?_)
   by_cases h67 : (k2_64 : Int) < (r26.Final.length : Int)
   ·replace H := ifp h67 H
    refine zo (fun w => opB (J08 rfl rfl w) (decide_eq_true h67)) (zn (zq (zt rfl rfl (zk (zq ?_)))))
    refine zb (zq (zr (zm rfl (za rfl (zn ?_)))))
    refine Go1.drawT (ok := fun _ => True) Same.tr [26, 28] 29 (.qp 0 (.qp 1 (.qp 2 (.qp 4 (.qp 5 (.qp 6 (.qp 7 (.qs 8 (.qp 9 (.qp 10 (.qs 11 (.qp 12 (.qp 13 (.qp 14 (.qs 15 (.qp 16 (.qs 17 (.qp 18 (.qp 19 (.qs 20 (.qp 21 (.qp 22 (.qs 23 (.qp 24 (.alt 3 (.alt 25 (.alt 26 (.qp 27 (.alt 28 .nil .fin)) .fin) .fin) (.alt 25 (.alt 3 (.alt 26 (.qp 27 (.alt 28 .nil .fin)) .fin) (.alt 26 (.alt 3 (.qp 27 (.alt 28 .nil .fin)) .fin) .fin)) .fin)))))))))))))))))))))))))) mixed (by kernel_rfl) ?_
    intro w68 SA
    have Ca := Stp.same hO SA
    replace hO := Ca.own
    refine GoT.pure rfl (J03 rfl) rfl rfl ?_
    refine GoT.pure rfl (J01 rfl) rfl rfl ?_
    refine GoT.pure rfl (J00 Try.underlying83 rfl ti23 rfl (by decide)) rfl rfl ?_
    refine GoT.pure rfl (J03 rfl) rfl rfl ?_
    refine GoT.pure rfl (J03 rfl) rfl rfl ?_
    refine GoT.pure rfl (J01 rfl) rfl rfl ?_
    refine GoT.pure rfl (J00 Try.underlying83 rfl ti23 rfl (by decide)) rfl rfl ?_
    refine GoT.stable rfl (oblk (i := 0) 2 hO rfl rfl Try.underlying23 rfl rfl) rfl rfl ?_
    refine GoT.pure rfl (J03 rfl) rfl rfl ?_
    obtain ⟨h71, H⟩ := H
    obtain ⟨h72, H⟩ := H
    refine GoT.pure rfl (J02 Try.underlying23 ti31 rfl rfl h71 (ltn (t2neq 0 hO rfl) h72) (t2some 0 hO rfl h71 h72)) rfl rfl ?_
    refine GoT.stable rfl (t2head 0 hO rfl h71 h72 Try.underlying31 rfl rfl) rfl rfl ?_
    refine GoT.pure rfl (J03 rfl) rfl rfl ?_
    refine GoT.pure rfl (J01 rfl) rfl rfl ?_
    refine GoT.pure rfl (J00 Try.underlying83 rfl ti3 rfl (by decide)) rfl rfl ?_
    refine GoT.stable rfl (oblk (i := 2) 2 hO rfl rfl Try.underlying3 rfl rfl) rfl rfl ?_
    refine GoT.pure rfl (J00 Try.underlying25 rfl ti23 rfl (by decide)) rfl rfl ?_
    refine GoT.stable rfl (oblk (i := 3) 1 hO rfl rfl Try.underlying23 rfl rfl) rfl rfl ?_
    refine GoT.pure rfl (J03 rfl) rfl rfl ?_
    obtain ⟨h73, H⟩ := H
    obtain ⟨h74, H⟩ := H
    replace ar := ar.ch Ca.ch
    refine GoT.pure rfl (J02 Try.underlying23 ti31 rfl rfl h73 h74 (ar.some_ h73 h74)) rfl rfl ?_
    have zz := ldSl ar h73 h74
    obtain ⟨p75, c76, gm, SB⟩ := zz
    refine GoT.stable rfl (SB Try.underlying31 rfl rfl) rfl rfl ?_
    refine GoT.pure rfl (J03 rfl) rfl rfl ?_
    obtain ⟨h79, H⟩ := H
    obtain ⟨h80, H⟩ := H
    refine GoT.pure rfl (J02 Try.underlying31 ti3 rfl rfl h79 h80 (gm.some_ h79 h80)) rfl rfl ?_
    refine GoT.stable rfl (ldInt gm h79 h80 Try.underlying3 rfl rfl) rfl rfl ?_
    obtain ⟨h81, H⟩ := H
    refine GoT.pure rfl (J0c rfl rfl (wrap_i64 h81)) rfl rfl ?_
    refine GoT.both ?_ ?_
    ·skip
     skip
     refine GoT.step rfl ((oblk (i := 0) 2 hO rfl rfl Try.underlying23 rfl rfl) _ (Same.refl _)) (Same.refl _) rfl rfl ?_
     skip
     have zz := J0j (r := Rp.int .i64) (n := 1) (parts := [(0, .int .i64 ((0 : Int) + (ix (ix r26.Next (k2_64 : Int)) (k1_59 : Int))))]) (vs := [.int .i64 ((0 : Int) + (ix (ix r26.Next (k2_64 : Int)) (k1_59 : Int)))]) (xs := [((0 : Int) + (ix (ix r26.Next (k2_64 : Int)) (k1_59 : Int)))]) rfl Try.underlying31 ti3 hO (by decide) (by kernel_rfl) (Els.cons rfl rfl (Els.nil _ _ _) (by simp [mx])) rfl
     obtain ⟨w82, p83, tx, zA, SC, El⟩ := zz
     refine GoT.step rfl (El rfl) SC rfl rfl ?_
     replace hO := tx.own
     skip
     have jY := Stp.front 1 hO rfl
     dsimp only [eS, eZ] at jY
     replace hO := jY.own
     have zz := t2take (hf := (Fl.int .i64)) hO h71 h72
     obtain ⟨SD, yQ, SE⟩ := zz
     replace hO := yQ.own
     have GQ := SE (bl [.row 3 1 (ia (k1_59 : Int).toNat).1 ((ix d_65 (k1_59 : Int)).length) ((ia (k1_59 : Int).toNat).2) SD, t2h (Fl.int .i64) 31 3 p45 r26.Letters.toNat r26.Letters.toNat ia d_65 (k1_59 : Int).toNat, .row 3 1 p83 1 1 [.int .i64 ((0 : Int) + (ix (ix r26.Next (k2_64 : Int)) (k1_59 : Int)))], .blk B34 (.cells #[.int .i64 r26.Letters, .int .i64 r26.Start, .slice eo r26.Final.length eA, .slice fF r26.Next.length fG] 25 (0, 0)), .blk B21 (.cells #[.slice p45 r26.Letters.toNat r26.Letters.toNat, .slice none 0 0, .int .i64 0] 83 (0, 0)), .blk B8 (.cells #[.int .i64 0, .slice none 0 0, .slice none 0 0, .slice none 0 0, .slice none 0 0, .slice none 0 0] 33 (0, 0))] ++ A)
     replace zA := (zA.ch jY.ch).ch yQ.ch
     have zz := freeze 2 hO rfl zA
     obtain ⟨hO1, Do, xg, SF⟩ := zz
     dsimp only [eS, eZ] at hO1 Do xg
     replace hB := ((((hB.trans Ca.fr).trans tx.fr).trans jY.fr).trans yQ.fr).trans (Owns.J09 _ _ 2)
     dsimp only [eS, eZ] at hB
     replace hO := hO1; clear hO1
     obtain ⟨h98, H⟩ := H
     replace GQ := GQ.ch Do
     have zz := oapp Try.underlying31 ti3 rfl 0 hO rfl GQ xg SF h98 (by decide)
     obtain ⟨w99, SG, SJ, UB, jS, yR, Dn⟩ := zz
     dsimp only [sS, sZ] at jS yR
     refine GoT.stepX rfl (Dn (by exact rfl) (by exact rfl)) rfl rfl rfl ?_
     replace hO := jS.own
     obtain ⟨nN, H⟩ := H
     obtain ⟨qG, H⟩ := H
     refine GoT.pure rfl (J02 Try.underlying23 ti31 rfl rfl nN (ltn (t2neqH 1 hO rfl) qG) (t2someH 1 hO rfl nN qG)) rfl rfl ?_
     skip
     have vJ := Stp.front 1 hO rfl
     dsimp only [eS, eZ] at vJ
     replace hO := vJ.own
     have kE := Stp.front 1 hO rfl
     dsimp only [eS, eZ] at kE
     replace hO := kE.own
     replace yR := (yR.ch vJ.ch).ch kE.ch
     have zz := t2fix (hf := (Fl.int .i64)) hO yR nN qG rfl
     obtain ⟨Ys, ma, KY⟩ := zz
     refine GoT.stepX rfl (KY Try.underlying31 rfl ti31 (by exact rfl) (by exact rfl)) rfl rfl rfl ?_
     replace hO := ma.own
     refine GoT.nil ?_
     refine Go1.inBlock ?_
     refine Go1.cut [(0, .pointer (some ⟨B21, 0, none⟩)), (3, .pointer (some ⟨B34, 0, none⟩)), (5, .int .i64 (r26.Final.length : Int)), (6, .int .i64 (k1_59 : Int)), (33, .int .i64 ((List.replicate r26.Letters.toNat ([] : List Int)).length : Int)), (34, .int .i64 (k1_59 : Int)), (37, .int .i64 (r26.Final.length : Int)), (38, .int .i64 (k2_64 : Int))] ⟨rfl, rfl, rfl, rfl, rfl, rfl, rfl, rfl, trivial⟩ ?_
     intro σ _
     refine zr ?_
     have Z6 := (((((((Ca.ch.trans tx.ch).trans jY.ch).trans yQ.ch).trans Do).trans jS.ch).trans vJ.ch).trans kE.ch).trans ma.ch
     replace ap := ap.ch Z6
     refine zo (J0c rfl rfl (wrap_i64 (natbd h67 ap.bd))) (zm rfl (zn ?_))
     replace hB := (((hB.trans jS.fr).trans vJ.fr).trans kE.fr).trans ma.fr
     have Z7 := ((((((tx.ch.trans jY.ch).trans yQ.ch).trans Do).trans jS.ch).trans vJ.ch).trans kE.ch).trans ma.ch
     replace ar := ar.ch Z7
     exact hX2 _ H _ _ ⟨hup ia (k1_59 : Int).toNat (SG, SJ), ⟨rfl, rfl, rfl, rfl, rfl, rfl, rfl, rfl, trivial⟩, hO, ap, ar, hB⟩
    skip
    have zz := J0j (r := Rp.int .i64) (n := 1) (parts := [(0, .int .i64 ((0 : Int) + (ix (ix r26.Next (k2_64 : Int)) (k1_59 : Int))))]) (vs := [.int .i64 ((0 : Int) + (ix (ix r26.Next (k2_64 : Int)) (k1_59 : Int)))]) (xs := [((0 : Int) + (ix (ix r26.Next (k2_64 : Int)) (k1_59 : Int)))]) rfl Try.underlying31 ti3 hO (by decide) (by kernel_rfl) (Els.cons rfl rfl (Els.nil _ _ _) (by simp [mx])) rfl
    obtain ⟨Yt, K1, mM, vn, PJ, Dp⟩ := zz
    refine GoT.step rfl (Dp rfl) PJ rfl rfl ?_
    replace hO := mM.own
    refine GoT.both ?_ ?_
    ·skip
     skip
     refine GoT.step rfl ((oblk (i := 0) 3 hO rfl rfl Try.underlying23 rfl rfl) _ (Same.refl _)) (Same.refl _) rfl rfl ?_
     skip
     have fL := Stp.front 1 hO rfl
     dsimp only [eS, eZ] at fL
     replace hO := fL.own
     have zz := t2take (hf := (Fl.int .i64)) hO h71 h72
     obtain ⟨PK, xn, jk⟩ := zz
     replace hO := xn.own
     have xG := jk (bl [.row 3 1 (ia (k1_59 : Int).toNat).1 ((ix d_65 (k1_59 : Int)).length) ((ia (k1_59 : Int).toNat).2) PK, t2h (Fl.int .i64) 31 3 p45 r26.Letters.toNat r26.Letters.toNat ia d_65 (k1_59 : Int).toNat, .row 3 1 K1 1 1 [.int .i64 ((0 : Int) + (ix (ix r26.Next (k2_64 : Int)) (k1_59 : Int)))], .blk B34 (.cells #[.int .i64 r26.Letters, .int .i64 r26.Start, .slice eo r26.Final.length eA, .slice fF r26.Next.length fG] 25 (0, 0)), .blk B21 (.cells #[.slice p45 r26.Letters.toNat r26.Letters.toNat, .slice none 0 0, .int .i64 0] 83 (0, 0)), .blk B8 (.cells #[.int .i64 0, .slice none 0 0, .slice none 0 0, .slice none 0 0, .slice none 0 0, .slice none 0 0] 33 (0, 0))] ++ A)
     replace vn := (vn.ch fL.ch).ch xn.ch
     have zz := freeze 2 hO rfl vn
     obtain ⟨hO1, AK, vo, PM⟩ := zz
     dsimp only [eS, eZ] at hO1 AK vo
     replace hB := ((((hB.trans Ca.fr).trans mM.fr).trans fL.fr).trans xn.fr).trans (Owns.J09 _ _ 2)
     dsimp only [eS, eZ] at hB
     replace hO := hO1; clear hO1
     obtain ⟨SK, H⟩ := H
     replace xG := xG.ch AK
     have zz := oapp Try.underlying31 ti3 rfl 0 hO rfl xG vo PM SK (by decide)
     obtain ⟨Rk, jl, ju, UC, wx, yS, K2⟩ := zz
     dsimp only [sS, sZ] at wx yS
     refine GoT.stepX rfl (K2 (by exact rfl) (by exact rfl)) rfl rfl rfl ?_
     replace hO := wx.own
     obtain ⟨x5, H⟩ := H
     obtain ⟨zB, H⟩ := H
     refine GoT.pure rfl (J02 Try.underlying23 ti31 rfl rfl x5 (ltn (t2neqH 1 hO rfl) zB) (t2someH 1 hO rfl x5 zB)) rfl rfl ?_
     skip
     have jt := Stp.front 1 hO rfl
     dsimp only [eS, eZ] at jt
     replace hO := jt.own
     have vK := Stp.front 1 hO rfl
     dsimp only [eS, eZ] at vK
     replace hO := vK.own
     replace yS := (yS.ch jt.ch).ch vK.ch
     have zz := t2fix (hf := (Fl.int .i64)) hO yS x5 zB rfl
     obtain ⟨Sl, xo, K3⟩ := zz
     refine GoT.stepX rfl (K3 Try.underlying31 rfl ti31 (by exact rfl) (by exact rfl)) rfl rfl rfl ?_
     replace hO := xo.own
     refine GoT.nil ?_
     refine Go1.inBlock ?_
     refine zr ?_
     have Z8 := (((((((Ca.ch.trans mM.ch).trans fL.ch).trans xn.ch).trans AK).trans wx.ch).trans jt.ch).trans vK.ch).trans xo.ch
     replace ap := ap.ch Z8
     refine zo (J0c rfl rfl (wrap_i64 (natbd h67 ap.bd))) (zm rfl (zn ?_))
     replace hB := (((hB.trans wx.fr).trans jt.fr).trans vK.fr).trans xo.fr
     have Z9 := ((((((mM.ch.trans fL.ch).trans xn.ch).trans AK).trans wx.ch).trans jt.ch).trans vK.ch).trans xo.ch
     replace ar := ar.ch Z9
     exact hX2 _ H _ _ ⟨hup ia (k1_59 : Int).toNat (jl, ju), ⟨rfl, rfl, rfl, rfl, rfl, rfl, rfl, rfl, trivial⟩, hO, ap, ar, hB⟩
    skip
    have jp := Stp.front 1 hO rfl
    dsimp only [eS, eZ] at jp
    replace hO := jp.own
    have zz := t2take (hf := (Fl.int .i64)) hO h71 h72
    obtain ⟨D3, mp, d5⟩ := zz
    replace hO := mp.own
    have E4 := d5 (bl [.row 3 1 (ia (k1_59 : Int).toNat).1 ((ix d_65 (k1_59 : Int)).length) ((ia (k1_59 : Int).toNat).2) D3, t2h (Fl.int .i64) 31 3 p45 r26.Letters.toNat r26.Letters.toNat ia d_65 (k1_59 : Int).toNat, .row 3 1 K1 1 1 [.int .i64 ((0 : Int) + (ix (ix r26.Next (k2_64 : Int)) (k1_59 : Int)))], .blk B34 (.cells #[.int .i64 r26.Letters, .int .i64 r26.Start, .slice eo r26.Final.length eA, .slice fF r26.Next.length fG] 25 (0, 0)), .blk B21 (.cells #[.slice p45 r26.Letters.toNat r26.Letters.toNat, .slice none 0 0, .int .i64 0] 83 (0, 0)), .blk B8 (.cells #[.int .i64 0, .slice none 0 0, .slice none 0 0, .slice none 0 0, .slice none 0 0, .slice none 0 0] 33 (0, 0))] ++ A)
    replace vn := (vn.ch jp.ch).ch mp.ch
    have zz := freeze 2 hO rfl vn
    obtain ⟨hO1, AM, vp, PO⟩ := zz
    dsimp only [eS, eZ] at hO1 AM vp
    replace hB := ((((hB.trans Ca.fr).trans mM.fr).trans jp.fr).trans mp.fr).trans (Owns.J09 _ _ 2)
    dsimp only [eS, eZ] at hB
    replace hO := hO1; clear hO1
    obtain ⟨xK, H⟩ := H
    replace E4 := E4.ch AM
    have zz := oapp Try.underlying31 ti3 rfl 0 hO rfl E4 vp PO xK (by decide)
    obtain ⟨Yu, En, Eo, UD, wy, yT, K4⟩ := zz
    dsimp only [sS, sZ] at wy yT
    refine GoT.stepX rfl (K4 (by exact rfl) (by exact rfl)) rfl rfl rfl ?_
    replace hO := wy.own
    skip
    refine GoT.step rfl ((oblk (i := 0) 3 hO rfl rfl Try.underlying23 rfl rfl) _ (Same.refl _)) (Same.refl _) rfl rfl ?_
    obtain ⟨GR, H⟩ := H
    obtain ⟨Cl, H⟩ := H
    refine GoT.pure rfl (J02 Try.underlying23 ti31 rfl rfl GR (ltn (t2neqH 1 hO rfl) Cl) (t2someH 1 hO rfl GR Cl)) rfl rfl ?_
    skip
    have jT := Stp.front 1 hO rfl
    dsimp only [eS, eZ] at jT
    replace hO := jT.own
    have vL := Stp.front 1 hO rfl
    dsimp only [eS, eZ] at vL
    replace hO := vL.own
    replace yT := (yT.ch jT.ch).ch vL.ch
    have zz := t2fix (hf := (Fl.int .i64)) hO yT GR Cl rfl
    obtain ⟨RA, xp, CH⟩ := zz
    refine GoT.stepX rfl (CH Try.underlying31 rfl ti31 (by exact rfl) (by exact rfl)) rfl rfl rfl ?_
    replace hO := xp.own
    refine GoT.nil ?_
    refine Go1.inBlock ?_
    refine zr ?_
    have Z10 := (((((((Ca.ch.trans mM.ch).trans jp.ch).trans mp.ch).trans AM).trans wy.ch).trans jT.ch).trans vL.ch).trans xp.ch
    replace ap := ap.ch Z10
    refine zo (J0c rfl rfl (wrap_i64 (natbd h67 ap.bd))) (zm rfl (zn ?_))
    replace hB := (((hB.trans wy.fr).trans jT.fr).trans vL.fr).trans xp.fr
    have Z11 := ((((((mM.ch.trans jp.ch).trans mp.ch).trans AM).trans wy.ch).trans jT.ch).trans vL.ch).trans xp.ch
    replace ar := ar.ch Z11
    exact hX2 _ H _ _ ⟨hup ia (k1_59 : Int).toNat (En, Eo), ⟨rfl, rfl, rfl, rfl, rfl, rfl, rfl, rfl, trivial⟩, hO, ap, ar, hB⟩
   replace H := ifn h67 H
   refine zo (fun w => opB (J08 rfl rfl w) (decide_eq_false h67)) (zn (zq (zf rfl rfl ?_)))
   refine Go1.exit rfl ?_
   refine Go1.inBlock ?_
   refine zr ?_
   obtain ⟨C7, H⟩ := H
   refine zo (J0c rfl rfl (wrap_i64 C7)) (zm rfl (zn ?_))
   exact hX1 _ H _ _ ⟨ia, ⟨rfl, rfl, rfl, rfl, rfl, trivial⟩, hO, ap, ar, hB⟩
  replace H := ifn h62 H
  refine zo (fun w => opB (J08 rfl rfl w) (decide_eq_false h62)) (zn (zq (zf rfl rfl ?_)))
  refine Go1.exit rfl ?_
  refine zq ?_
  refine Go1.drawS 4 [(0, .pure), (1, .pure), (2, .pure), (3, .pure), (4, .stable), (5, .pure), (6, .pure), (7, .pure), (8, .stable), (9, .pure), (10, .stable), (11, .pure), (12, .pure), (13, .stable), (14, .pure), (15, .pure), (16, .pure), (17, .stable), (18, .pure), (19, .loud), (20, .last), (21, .pure), (22, .pure), (23, .last)] mixed (by kernel_rfl) ?_
  intro Rm PP
  have AO := Stp.same hO PP
  replace hO := AO.own
  refine GoQ.pure rfl (J03 rfl) rfl rfl ?_
  refine GoQ.pure rfl (J03 rfl) rfl rfl ?_
  refine GoQ.pure rfl (J01 rfl) rfl rfl ?_
  refine GoQ.pure rfl (J00 Try.underlying83 rfl ti81 rfl (by decide)) rfl rfl ?_
  refine GoQ.stable rfl (oblk (i := 1) 2 hO rfl rfl Try.underlying81 rfl rfl) rfl rfl ?_
  refine GoQ.pure rfl (J03 rfl) rfl rfl ?_
  refine GoQ.pure rfl (J01 rfl) rfl rfl ?_
  refine GoQ.pure rfl (J00 Try.underlying83 rfl ti3 rfl (by decide)) rfl rfl ?_
  refine GoQ.stable rfl (oblk (i := 2) 2 hO rfl rfl Try.underlying3 rfl rfl) rfl rfl ?_
  refine GoQ.pure rfl (J00 Try.underlying25 rfl ti3 rfl (by decide)) rfl rfl ?_
  refine GoQ.stable rfl (oblk (i := 1) 1 hO rfl rfl Try.underlying3 rfl rfl) rfl rfl ?_
  obtain ⟨Bf, H⟩ := H
  refine GoQ.pure rfl (J0c rfl rfl (wrap_i64 Bf)) rfl rfl ?_
  refine GoQ.pure rfl (J00 Try.underlying25 rfl ti22 rfl (by decide)) rfl rfl ?_
  refine GoQ.stable rfl (oblk (i := 2) 1 hO rfl rfl Try.underlying22 rfl rfl) rfl rfl ?_
  refine GoQ.pure rfl (J03 rfl) rfl rfl ?_
  refine GoQ.pure rfl (J01 rfl) rfl rfl ?_
  refine GoQ.pure rfl (J00 Try.underlying83 rfl ti3 rfl (by decide)) rfl rfl ?_
  refine GoQ.stable rfl (oblk (i := 2) 2 hO rfl rfl Try.underlying3 rfl rfl) rfl rfl ?_
  refine GoQ.pure rfl (J0s Try.underlying120 ti120 (pl := [(0, 1), (1, 1), (2, 1)]) (vs := [(0, .int .i64 ((0 : Int) + r26.Start)), (1, .slice eo r26.Final.length eA), (2, .int .i64 0)]) (cs := #[.int .i64 ((0 : Int) + r26.Start), .slice eo r26.Final.length eA, .int .i64 0]) (by kernel_rfl) rfl (by kernel_rfl)) rfl rfl ?_
  replace ap := ap.ch AO.ch
  have zz := obuildN (r := rppart) (n := 1) (parts := [(0, .agg #[.int .i64 ((0 : Int) + r26.Start), .slice eo r26.Final.length eA, .int .i64 0])]) (vs := [.int .i64 ((0 : Int) + r26.Start), .slice eo r26.Final.length eA, .int .i64 0]) (xs := [(⟨((0 : Int) + r26.Start), r26.Final, (0 : Int)⟩ : part)]) Try.underlying81 ti120 hO (by decide) (by decide) (by kernel_rfl) (Els.consR (us := [.int .i64 ((0 : Int) + r26.Start), .slice eo r26.Final.length eA, .int .i64 0]) rfl ⟨rfl, ⟨eo, eA, rfl, ap⟩, rfl⟩ (Els.nil _ _ _) (by simp [mx])) rfl
  obtain ⟨Kj, Yv, fQ, uG, H1, CJ⟩ := zz
  refine GoQ.loud rfl (CJ rfl) H1 rfl rfl ?_
  replace hO := fQ.own
  have zz := freeze 0 hO rfl uG
  obtain ⟨hO1, E5, d8, PQ⟩ := zz
  dsimp only [eS, eZ] at hO1 E5 d8
  replace hB := ((hB.trans AO.fr).trans fQ.fr).trans (Owns.J09 _ _ 0)
  dsimp only [eS, eZ] at hB
  replace hO := hO1; clear hO1
  have m6 := Stp.nil (e := 120) (r := 3) hO
  replace hO := m6.own
  have PR := Els.nil (rppart) (bl (.row 120 3 none 0 0 [] :: [t2 (Fl.int .i64) 31 3 p45 r26.Letters.toNat r26.Letters.toNat z6 d_60, .blk B34 (.cells #[.int .i64 r26.Letters, .int .i64 r26.Start, .slice eo r26.Final.length eA, .slice fF r26.Next.length fG] 25 (0, 0)), .blk B21 (.cells #[.slice p45 r26.Letters.toNat r26.Letters.toNat, .slice none 0 0, .int .i64 0] 83 (0, 0)), .blk B8 (.cells #[.int .i64 0, .slice none 0 0, .slice none 0 0, .slice none 0 0, .slice none 0 0, .slice none 0 0] 33 (0, 0))]) ++ A) Kj
  obtain ⟨SM, H⟩ := H
  replace d8 := d8.ch m6.ch
  have zz := oapp Try.underlying81 ti120 rfl 0 hO rfl PR d8 PQ SM (by decide)
  obtain ⟨Yw, cA, cB, dh, xq, aB, K5⟩ := zz
  dsimp only [sS, sZ] at xq aB
  refine GoQ.last rfl (K5 (by exact rfl) (by exact rfl)) rfl rfl ?_
  replace hO := xq.own
  refine GoQ.pure rfl (J01 rfl) rfl rfl ?_
  refine GoQ.pure rfl (J00 Try.underlying83 rfl ti81 rfl (by decide)) rfl rfl ?_
  have zz := J0f (v := .slice cA (0 + 1) cB) (i := 1) (cs' := #[.slice p45 r26.Letters.toNat r26.Letters.toNat, .slice cA (0 + 1) cB, .int .i64 0]) 3 hO rfl rfl rfl rfl
  obtain ⟨QM, wz, K6⟩ := zz
  dsimp only [sS, sZ] at wz
  refine GoQ.last rfl (K6 Try.underlying81 rfl ti81 (by exact rfl) (by exact rfl)) rfl rfl ?_
  replace hO := wz.own
  refine GoQ.nil ?_
  refine zq ?_
  refine Go1.cut [(0, .pointer (some ⟨B21, 0, none⟩)), (5, .int .i64 (r26.Final.length : Int))] ⟨rfl, rfl, trivial⟩ ?_
  intro σ _
  refine zr (zm rfl (zo (J01 rfl) (zo (J00 Try.underlying83 rfl ti3 rfl (by decide)) (zs (oblk (i := 2) 3 hO rfl rfl Try.underlying3 rfl rfl) (zm rfl ?_)))))
  obtain ⟨CO, H⟩ := H
  refine zo (J0c rfl rfl (wrap_i64 CO)) (zo (J01 rfl) (zo (J00 Try.underlying83 rfl ti3 rfl (by decide)) ?_))
  have zz := J0f (v := .int .i64 ((0 : Int) + (r26.Final.length : Int))) (i := 2) (cs' := #[.slice p45 r26.Letters.toNat r26.Letters.toNat, .slice cA (0 + 1) cB, .int .i64 ((0 : Int) + (r26.Final.length : Int))]) 3 hO rfl rfl rfl rfl
  obtain ⟨RB, wA, Co⟩ := zz
  dsimp only [sS, sZ] at wA
  refine zg (Co Try.underlying3 rfl ti3 (by exact rfl) (by exact rfl)) ?_
  replace hO := wA.own
  refine zn (zq (zr (za rfl (zn ?_))))
  refine Go1.ret1V Try.func62 rfl (show _ = .int .i64 0 from rfl) ?_
  refine hR32 _ _ ?_
  refine za rfl (zn (zq (zr (zm rfl (zo (fun w => opB (J0g rfl rfl w) (ndT (by decide))) ?_)))))
  refine zn (zf rfl rfl (zk (zq (zr ?_))))
  refine GoR.inl (vs := [.pointer (some ⟨B21, 0, none⟩)]) (caps := []) rfl rfl body63 Try.func63 rfl Try.ntmps63 rfl rfl rfl ?_
  intro RhR205 hR205
  refine zq (zr ?_)
  have zz := oalloc (t := 33) (cs := #[.int .i64 0, .slice none 0 0, .slice none 0 0, .slice none 0 0, .slice none 0 0, .slice none 0 0]) ti33 hO rfl
  obtain ⟨Sm, B207, iW, UE, C8⟩ := zz
  refine GoR.op C8 rfl rfl ?_
  replace hO := iW.own
  refine za rfl (za rfl (zn (zq (zr (zm rfl ?_)))))
  refine zo (J01 rfl) (zo (J00 Try.underlying83 rfl ti23 rfl (by decide)) (zs (oblk (i := 0) 4 hO rfl rfl Try.underlying23 rfl rfl) ?_))
  have zz := t2freezeA 2 hO rfl
  obtain ⟨hO1, AP, bm, Ig⟩ := zz
  dsimp only [eS, eZ] at hO1 AP bm
  replace hB := (((((hB.trans m6.fr).trans xq.fr).trans wz.fr).trans wA.fr).trans iW.fr).trans (Owns.J09 _ _ 2)
  dsimp only [eS, eZ] at hB
  replace hO := hO1; clear hO1
  refine GoR.call (J0a body101 (show ([.slice p45 r26.Letters.toNat r26.Letters.toNat, .bool true] : List Value) = [.slice p45 d_60.length r26.Letters.toNat, .bool true] from by rw [← Ig]) (walk_enumerate_Build hO.lt bm H)) rfl rfl ?_
  rintro Yx Yy ⟨r215, r216, aQ, aR, aC, aD, ay, az, aS, aT, aw, ax, aI, aJ, rfl, PS, am, ah, aa, aj, af, ai, H⟩
  have wB := Stp.same hO PS
  replace hO := wB.own
  refine zm rfl (zo (J07 rfl rfl) (zo (J07 rfl rfl) ?_))
  have zz := oalloc (t := 123) (cs := #[.int .i64 0, .bool false, .slice none 0 0, .slice none 0 0, .slice none 0 0, .slice none 0 0, .slice none 0 0, .slice none 0 0, .int .i64 0]) ti123 hO rfl
  obtain ⟨QP, B223, qf, UF, K7⟩ := zz
  refine GoR.op K7 rfl rfl ?_
  replace hO := qf.own
  have zz := J0b (us := [.int .i64 r215.Points, .bool r215.Monoid, .slice aQ r215.Gens.length aR, .slice aC r215.Elems.length aD, .slice ay r215.Prefix.length az, .slice aS r215.Last.length aT, .slice aw r215.Right.length ax, .slice aI r215.Rules.length aJ, .int .i64 r215.Done]) (o := 0) (cs' := #[.int .i64 r215.Points, .bool r215.Monoid, .slice aQ r215.Gens.length aR, .slice aC r215.Elems.length aD, .slice ay r215.Prefix.length az, .slice aS r215.Last.length aT, .slice aw r215.Right.length ax, .slice aI r215.Rules.length aJ, .int .i64 r215.Done]) 0 hO rfl rfl (Nat.le_of_ble_eq_true rfl) rfl
  obtain ⟨Yz, oh, K8⟩ := zz
  dsimp only [sS, sZ] at oh
  refine zg (K8 ti123 (by exact rfl) (by exact rfl) rfl) ?_
  replace hO := oh.own
  refine za rfl (zn (zq (zq ?_)))
  refine Go1.cut [(0, .pointer (some ⟨B21, 0, none⟩)), (2, .pointer (some ⟨B207, 0, none⟩)), (5, .pointer (some ⟨B223, 0, none⟩)), (6, .int .i64 r216)] ⟨rfl, rfl, rfl, rfl, trivial⟩ ?_
  intro σ _
  refine zr (zm rfl ?_)
  by_cases xM : r216 = (0 : Int)
  ·replace H := ifp xM H
   refine zo (fun w => opB (J0g rfl rfl w) (ndT xM)) (zn (zf rfl rfl (zk (zq (zr ?_)))))
   refine zo (J00 Try.underlying123 rfl ti23 rfl (by decide)) (zs (oblk (i := 3) 0 hO rfl rfl Try.underlying23 rfl rfl) (zo (J0d Try.underlying23 rfl) ?_))
   replace ah := (ah.ch qf.ch).ch oh.ch
   replace H := H ah.bd
   refine za rfl (zn (zq (zq (zr (zm rfl ?_)))))
   by_cases xN : (400 : Int) < (r215.Elems.length : Int)
   ·replace H := ifp xN H
    refine zo (fun w => opB (J1a rfl rfl w) (decide_eq_true xN)) (zn (zt rfl rfl (zq (zr (zo (J0s Try.underlying33 ti33 (pl := [(0, 1), (1, 1), (2, 1), (3, 1), (4, 1), (5, 1)]) (vs := []) (cs := #[.int .i64 0, .slice none 0 0, .slice none 0 0, .slice none 0 0, .slice none 0 0, .slice none 0 0]) (by kernel_rfl) rfl (by kernel_rfl)) ?_)))))
    have zz := J0b (us := [.int .i64 0, .slice none 0 0, .slice none 0 0, .slice none 0 0, .slice none 0 0, .slice none 0 0]) (o := 0) (cs' := #[.int .i64 0, .slice none 0 0, .slice none 0 0, .slice none 0 0, .slice none 0 0, .slice none 0 0]) 1 hO rfl rfl (Nat.le_of_ble_eq_true rfl) rfl
    obtain ⟨RE, ol, K9⟩ := zz
    dsimp only [sS, sZ] at ol
    refine zg (K9 ti33 (by exact rfl) (by exact rfl) rfl) ?_
    replace hO := ol.own
    refine za rfl (za rfl (zn ?_))
    refine Go1.retC3V Try.func63 rfl rfl (J0h (vs := [.int .i64 0, .slice none 0 0, .slice none 0 0, .slice none 0 0, .slice none 0 0, .slice none 0 0]) 1 hO rfl rfl Try.underlying33 rfl ti33) (show _ = .slice none 0 0 from rfl) (show _ = .int .i64 3 from rfl) ?_
    refine hR205 _ _ ?_
    refine zm rfl (zo (J07 rfl rfl) (zo (J07 rfl rfl) (zo (J07 rfl rfl) ?_)))
    have zz := oalloc (t := 33) (cs := #[.int .i64 0, .slice none 0 0, .slice none 0 0, .slice none 0 0, .slice none 0 0, .slice none 0 0]) ti33 hO rfl
    obtain ⟨QQ, B237, jm, UG, La⟩ := zz
    refine GoR.op La rfl rfl ?_
    replace hO := jm.own
    have zz := J0b (us := [.int .i64 0, .slice none 0 0, .slice none 0 0, .slice none 0 0, .slice none 0 0, .slice none 0 0]) (o := 0) (cs' := #[.int .i64 0, .slice none 0 0, .slice none 0 0, .slice none 0 0, .slice none 0 0, .slice none 0 0]) 0 hO rfl rfl (Nat.le_of_ble_eq_true rfl) rfl
    obtain ⟨YA, om, Lb⟩ := zz
    dsimp only [sS, sZ] at om
    refine zg (Lb ti33 (by exact rfl) (by exact rfl) rfl) ?_
    replace hO := om.own
    refine za rfl (za rfl (zn (zq (zq ?_))))
    refine Go1.cut [(2, .pointer (some ⟨B8, 0, none⟩)), (7, .pointer (some ⟨B237, 0, none⟩)), (8, .slice none 0 0), (9, .int .i64 3)] ⟨rfl, rfl, rfl, rfl, trivial⟩ ?_
    intro σ _
    refine zr (zm rfl (zo (fun w => opB (J0g rfl rfl w) (ndF (by decide))) (zn (zt rfl rfl (zq ?_)))))
    refine zr (zo (J0s Try.underlying33 ti33 (pl := [(0, 1), (1, 1), (2, 1), (3, 1), (4, 1), (5, 1)]) (vs := []) (cs := #[.int .i64 0, .slice none 0 0, .slice none 0 0, .slice none 0 0, .slice none 0 0, .slice none 0 0]) (by kernel_rfl) rfl (by kernel_rfl)) (zm rfl ?_))
    have zz := J0b (us := [.int .i64 0, .slice none 0 0, .slice none 0 0, .slice none 0 0, .slice none 0 0, .slice none 0 0]) (o := 0) (cs' := #[.int .i64 0, .slice none 0 0, .slice none 0 0, .slice none 0 0, .slice none 0 0, .slice none 0 0]) 6 hO rfl rfl (Nat.le_of_ble_eq_true rfl) rfl
    obtain ⟨RG, gS, CV⟩ := zz
    dsimp only [sS, sZ] at gS
    refine zg (CV ti33 (by exact rfl) (by exact rfl) rfl) ?_
    replace hO := gS.own
    refine za rfl (zn ?_)
    refine Go1.retC2 Try.func19 rfl rfl (J0h (vs := [.int .i64 0, .slice none 0 0, .slice none 0 0, .slice none 0 0, .slice none 0 0, .slice none 0 0]) 6 hO rfl rfl Try.underlying33 rfl ti33) ?_
    replace hB := ((((((hB.trans wB.fr).trans qf.fr).trans oh.fr).trans ol.fr).trans jm.fr).trans om.fr).trans gS.fr
    exact ⟨(⟨(0 : Int), ([] : List (List Int)), ([] : List Str), ([] : List Int), ([] : List Bool), ([] : List Bool)⟩ : Syntactic), (3 : Int), none, 0, none, 0, none, 0, none, 0, none, 0, rfl, hB.same, (ISl.null _ _ _), (ISl.null _ _ _), (ISl.null _ _ _), (ISl.null _ _ _), (ISl.null _ _ _), H⟩
   replace H := ifn xN H
   refine zo (fun w => opB (J1a rfl rfl w) (decide_eq_false xN)) (zn (zf rfl rfl (zk (zq ?_))))
   refine Go1.drawA Same.tr A 1 [(0, .pure), (1, .pure), (2, .pure), (3, .stable), (4, .pure), (5, .pure), (7, .pure), (9, .pure), (10, .stable), (11, .pure), (12, .stable), (14, .pure), (13, .loud), (6, .alloc), (8, .alloc), (15, .alloc), (16, .pure), (17, .alloc), (18, .last)] mixed (by kernel_rfl) trivial hO.bd ?_
   intro YB PT
   have qg := Stp.same hO PT
   replace hO := qg.own
   have Cb := hO.le
   replace hB := (((hB.trans wB.fr).trans qf.fr).trans oh.fr).trans qg.fr
   have hw251 := hB.ch.size
   refine GoQA.pure rfl (J03 rfl) rfl rfl ?_
   refine GoQA.pure rfl (J01 rfl) rfl rfl ?_
   refine GoQA.pure rfl (J00 Try.underlying83 rfl ti23 rfl (by decide)) rfl rfl ?_
   refine GoQA.stable rfl (oblk (i := 0) 4 hO rfl rfl Try.underlying23 rfl rfl) rfl rfl ?_
   refine GoQA.pure rfl (J0w Try.underlying23 rfl Ig) rfl rfl ?_
   have Z12 := ((wB.ch.trans qf.ch).trans oh.ch).trans qg.ch
   replace bm := bm.ch Z12
   replace H := H bm.bd
   refine GoQA.pure rfl (J03 rfl) rfl rfl ?_
   refine GoQA.pure rfl (J03 rfl) rfl rfl ?_
   refine GoQA.pure rfl (J00 Try.underlying123 rfl ti23 rfl (by decide)) rfl rfl ?_
   refine GoQA.stable rfl (oblk (i := 6) 0 hO rfl rfl Try.underlying23 rfl rfl) rfl rfl ?_
   obtain ⟨GT, H⟩ := H
   obtain ⟨GU, H⟩ := H
   have Z13 := (qf.ch.trans oh.ch).trans qg.ch
   replace af := af.ch Z13
   refine GoQA.pure rfl (J02 Try.underlying23 ti31 rfl rfl GT GU (af.some_ GT GU)) rfl rfl ?_
   have zz := ldSl af GT GU
   obtain ⟨YC, YE, io, PU⟩ := zz
   refine GoQA.stable rfl (PU Try.underlying31 rfl rfl) rfl rfl ?_
   refine GoQA.pure rfl (J03 rfl) rfl rfl ?_
   refine GoQA.loudI rfl rfl ?_
   intro YF A260 sX
   replace hO := sX.own hO
   replace io := io.ch (sX.ch _)
   refine GoAt.call (J0a body86 rfl (J0F hO.lt io H)) (fun v w hr => ⟨fun _ => (by obtain ⟨_, _, _, _, _, _, hs, _, _, _⟩ := hr; exact hs), Same.kp hO (by obtain ⟨_, _, _, _, _, _, hs, _, _, _⟩ := hr; exact hs)⟩) rfl ?_
   rintro YG YH ⟨r262, aM, aK, aL, cb, rfl, PV, hN266, ba, H⟩
   have iF := Stp.more hO PV hN266
   dsimp only [List.cons_append, List.nil_append] at iF
   replace hO := iF.own
   obtain ⟨SN, H⟩ := H
   obtain ⟨SO, H⟩ := H
   refine GoQA.alloc rfl rfl (alMake2 (e' := 3) (Fl.int .i64) Try.underlying23 ti31 SN SO (by decide) rfl rfl) ?_
   intro Kr A272 bH A274 rs Ih hd277 hnb278 hh279
   replace hO := rs.own hO
   have jy := gainCh (w := Kr) (E := [.row 3 1 aK aM aL cb, .blk B223 (.cells #[.int .i64 r215.Points, .bool r215.Monoid, .slice aQ r215.Gens.length aR, .slice aC r215.Elems.length aD, .slice ay r215.Prefix.length az, .slice aS r215.Last.length aT, .slice aw r215.Right.length ax, .slice aI r215.Rules.length aJ, .int .i64 r215.Done] 123 (0, 0)), .blk B207 (.cells #[.int .i64 0, .slice none 0 0, .slice none 0 0, .slice none 0 0, .slice none 0 0, .slice none 0 0] 33 (0, 0)), .row 120 3 cA (0 + 1) cB dh, .blk B34 (.cells #[.int .i64 r26.Letters, .int .i64 r26.Start, .slice eo r26.Final.length eA, .slice fF r26.Next.length fG] 25 (0, 0)), .blk B21 (.cells #[.slice p45 r26.Letters.toNat r26.Letters.toNat, .slice cA (0 + 1) cB, .int .i64 ((0 : Int) + (r26.Final.length : Int))] 83 (0, 0)), .blk B8 (.cells #[.int .i64 0, .slice none 0 0, .slice none 0 0, .slice none 0 0, .slice none 0 0, .slice none 0 0] 33 (0, 0))]) (e := t2 (Fl.int .i64) 31 3 (some ⟨bH, 0, none⟩) r215.Elems.length r215.Elems.length ((fun _ => (none, 0))) (List.replicate r215.Elems.length ([] : List Int))) Ih (t2fp_new bH)
   replace hB := ((hB.trans (sX.same.fr _)).trans iF.fr).trans (rs.same.fr _)
   replace hB := Fr.gain (e := t2 (Fl.int .i64) 31 3 (some ⟨bH, 0, none⟩) r215.Elems.length r215.Elems.length ((fun _ => (none, 0))) (List.replicate r215.Elems.length ([] : List Int))) hB (Nat.le_trans hw251 hnb278) (t2fp_new bH)
   replace hO := Owns.gain hO Ih Cb (t2fp_new bH) hh279 hd277
   obtain ⟨SP, H⟩ := H
   obtain ⟨SQ, H⟩ := H
   have zz := alMakeE (n := (r215.Elems.length : Int)) (r := Rp.str) (d := ([] : Str)) Try.underlying30 ti9 (fun _ _ => ⟨rfl, Nat.zero_le _⟩) rfl SP SQ (by decide)
   obtain ⟨yU, hal297, Eu⟩ := zz
   refine GoQA.alloc rfl rfl (hal297 rfl rfl) ?_
   intro F9 A285 bN A287 ru Ii hd290 hnb291 hh292
   replace hO := ru.own hO
   have kW := Eu (bl [t2 (Fl.int .i64) 31 3 (some ⟨bH, 0, none⟩) r215.Elems.length r215.Elems.length ((fun _ => (none, 0))) (List.replicate r215.Elems.length ([] : List Int)), .row 3 1 aK aM aL cb, .blk B223 (.cells #[.int .i64 r215.Points, .bool r215.Monoid, .slice aQ r215.Gens.length aR, .slice aC r215.Elems.length aD, .slice ay r215.Prefix.length az, .slice aS r215.Last.length aT, .slice aw r215.Right.length ax, .slice aI r215.Rules.length aJ, .int .i64 r215.Done] 123 (0, 0)), .blk B207 (.cells #[.int .i64 0, .slice none 0 0, .slice none 0 0, .slice none 0 0, .slice none 0 0, .slice none 0 0] 33 (0, 0)), .row 120 3 cA (0 + 1) cB dh, .blk B34 (.cells #[.int .i64 r26.Letters, .int .i64 r26.Start, .slice eo r26.Final.length eA, .slice fF r26.Next.length fG] 25 (0, 0)), .blk B21 (.cells #[.slice p45 r26.Letters.toNat r26.Letters.toNat, .slice cA (0 + 1) cB, .int .i64 ((0 : Int) + (r26.Final.length : Int))] 83 (0, 0)), .blk B8 (.cells #[.int .i64 0, .slice none 0 0, .slice none 0 0, .slice none 0 0, .slice none 0 0, .slice none 0 0] 33 (0, 0))] ++ A285) F9
   have sY := gainCh (w := F9) (E := [t2 (Fl.int .i64) 31 3 (some ⟨bH, 0, none⟩) r215.Elems.length r215.Elems.length ((fun _ => (none, 0))) (List.replicate r215.Elems.length ([] : List Int)), .row 3 1 aK aM aL cb, .blk B223 (.cells #[.int .i64 r215.Points, .bool r215.Monoid, .slice aQ r215.Gens.length aR, .slice aC r215.Elems.length aD, .slice ay r215.Prefix.length az, .slice aS r215.Last.length aT, .slice aw r215.Right.length ax, .slice aI r215.Rules.length aJ, .int .i64 r215.Done] 123 (0, 0)), .blk B207 (.cells #[.int .i64 0, .slice none 0 0, .slice none 0 0, .slice none 0 0, .slice none 0 0, .slice none 0 0] 33 (0, 0)), .row 120 3 cA (0 + 1) cB dh, .blk B34 (.cells #[.int .i64 r26.Letters, .int .i64 r26.Start, .slice eo r26.Final.length eA, .slice fF r26.Next.length fG] 25 (0, 0)), .blk B21 (.cells #[.slice p45 r26.Letters.toNat r26.Letters.toNat, .slice cA (0 + 1) cB, .int .i64 ((0 : Int) + (r26.Final.length : Int))] 83 (0, 0)), .blk B8 (.cells #[.int .i64 0, .slice none 0 0, .slice none 0 0, .slice none 0 0, .slice none 0 0, .slice none 0 0] 33 (0, 0))]) (e := .row 9 1 (some ⟨bN, 0, none⟩) r215.Elems.length r215.Elems.length yU) Ii rfl
   replace hB := hB.trans (ru.same.fr _)
   replace hB := Fr.gain (e := .row 9 1 (some ⟨bN, 0, none⟩) r215.Elems.length r215.Elems.length yU) hB (Nat.le_trans hw251 hnb291) rfl
   replace hO := Owns.gain hO Ii Cb rfl hh292 hd290
   obtain ⟨SR, H⟩ := H
   obtain ⟨FD, H⟩ := H
   have zz := alMakeE (n := (r215.Elems.length : Int)) (r := Rp.bool) (d := false) Try.underlying22 ti4 (fun _ _ => rfl) rfl SR FD (by decide)
   obtain ⟨Cc, hal314, PW⟩ := zz
   refine GoQA.alloc rfl rfl (hal314 rfl rfl) ?_
   intro FC A302 bT A304 pD Ij hd307 hnb308 hh309
   replace hO := pD.own hO
   have f0 := PW (bl [.row 9 1 (some ⟨bN, 0, none⟩) r215.Elems.length r215.Elems.length yU, t2 (Fl.int .i64) 31 3 (some ⟨bH, 0, none⟩) r215.Elems.length r215.Elems.length ((fun _ => (none, 0))) (List.replicate r215.Elems.length ([] : List Int)), .row 3 1 aK aM aL cb, .blk B223 (.cells #[.int .i64 r215.Points, .bool r215.Monoid, .slice aQ r215.Gens.length aR, .slice aC r215.Elems.length aD, .slice ay r215.Prefix.length az, .slice aS r215.Last.length aT, .slice aw r215.Right.length ax, .slice aI r215.Rules.length aJ, .int .i64 r215.Done] 123 (0, 0)), .blk B207 (.cells #[.int .i64 0, .slice none 0 0, .slice none 0 0, .slice none 0 0, .slice none 0 0, .slice none 0 0] 33 (0, 0)), .row 120 3 cA (0 + 1) cB dh, .blk B34 (.cells #[.int .i64 r26.Letters, .int .i64 r26.Start, .slice eo r26.Final.length eA, .slice fF r26.Next.length fG] 25 (0, 0)), .blk B21 (.cells #[.slice p45 r26.Letters.toNat r26.Letters.toNat, .slice cA (0 + 1) cB, .int .i64 ((0 : Int) + (r26.Final.length : Int))] 83 (0, 0)), .blk B8 (.cells #[.int .i64 0, .slice none 0 0, .slice none 0 0, .slice none 0 0, .slice none 0 0, .slice none 0 0] 33 (0, 0))] ++ A302) FC
   have rv := gainCh (w := FC) (E := [.row 9 1 (some ⟨bN, 0, none⟩) r215.Elems.length r215.Elems.length yU, t2 (Fl.int .i64) 31 3 (some ⟨bH, 0, none⟩) r215.Elems.length r215.Elems.length ((fun _ => (none, 0))) (List.replicate r215.Elems.length ([] : List Int)), .row 3 1 aK aM aL cb, .blk B223 (.cells #[.int .i64 r215.Points, .bool r215.Monoid, .slice aQ r215.Gens.length aR, .slice aC r215.Elems.length aD, .slice ay r215.Prefix.length az, .slice aS r215.Last.length aT, .slice aw r215.Right.length ax, .slice aI r215.Rules.length aJ, .int .i64 r215.Done] 123 (0, 0)), .blk B207 (.cells #[.int .i64 0, .slice none 0 0, .slice none 0 0, .slice none 0 0, .slice none 0 0, .slice none 0 0] 33 (0, 0)), .row 120 3 cA (0 + 1) cB dh, .blk B34 (.cells #[.int .i64 r26.Letters, .int .i64 r26.Start, .slice eo r26.Final.length eA, .slice fF r26.Next.length fG] 25 (0, 0)), .blk B21 (.cells #[.slice p45 r26.Letters.toNat r26.Letters.toNat, .slice cA (0 + 1) cB, .int .i64 ((0 : Int) + (r26.Final.length : Int))] 83 (0, 0)), .blk B8 (.cells #[.int .i64 0, .slice none 0 0, .slice none 0 0, .slice none 0 0, .slice none 0 0, .slice none 0 0] 33 (0, 0))]) (e := .row 4 1 (some ⟨bT, 0, none⟩) r215.Elems.length r215.Elems.length Cc) Ij rfl
   replace hB := hB.trans (pD.same.fr _)
   replace hB := Fr.gain (e := .row 4 1 (some ⟨bT, 0, none⟩) r215.Elems.length r215.Elems.length Cc) hB (Nat.le_trans hw251 hnb308) rfl
   replace hO := Owns.gain hO Ij Cb rfl hh309 hd307
   refine GoQA.pure rfl (J0s Try.underlying33 ti33 (pl := [(0, 1), (1, 1), (2, 1), (3, 1), (4, 1), (5, 1)]) (vs := [(0, .int .i64 (d_60.length : Int)), (1, .slice (some ⟨bH, 0, none⟩) r215.Elems.length r215.Elems.length), (2, .slice (some ⟨bN, 0, none⟩) r215.Elems.length r215.Elems.length), (3, .slice aK aM aL), (5, .slice (some ⟨bT, 0, none⟩) r215.Elems.length r215.Elems.length)]) (cs := #[.int .i64 (d_60.length : Int), .slice (some ⟨bH, 0, none⟩) r215.Elems.length r215.Elems.length, .slice (some ⟨bN, 0, none⟩) r215.Elems.length r215.Elems.length, .slice aK aM aL, .slice none 0 0, .slice (some ⟨bT, 0, none⟩) r215.Elems.length r215.Elems.length]) (by kernel_rfl) rfl (by kernel_rfl)) rfl rfl ?_
   refine GoQA.alloc rfl rfl (alAlloc (cs := #[.int .i64 0, .slice none 0 0, .slice none 0 0, .slice none 0 0, .slice none 0 0, .slice none 0 0]) ti33 rfl) ?_
   intro Kz A319 dO A321 oo Ik hd324 hnb325 hh326
   replace hO := oo.own hO
   have gT := gainCh (w := Kz) (E := [.row 4 1 (some ⟨bT, 0, none⟩) r215.Elems.length r215.Elems.length Cc, .row 9 1 (some ⟨bN, 0, none⟩) r215.Elems.length r215.Elems.length yU, t2 (Fl.int .i64) 31 3 (some ⟨bH, 0, none⟩) r215.Elems.length r215.Elems.length ((fun _ => (none, 0))) (List.replicate r215.Elems.length ([] : List Int)), .row 3 1 aK aM aL cb, .blk B223 (.cells #[.int .i64 r215.Points, .bool r215.Monoid, .slice aQ r215.Gens.length aR, .slice aC r215.Elems.length aD, .slice ay r215.Prefix.length az, .slice aS r215.Last.length aT, .slice aw r215.Right.length ax, .slice aI r215.Rules.length aJ, .int .i64 r215.Done] 123 (0, 0)), .blk B207 (.cells #[.int .i64 0, .slice none 0 0, .slice none 0 0, .slice none 0 0, .slice none 0 0, .slice none 0 0] 33 (0, 0)), .row 120 3 cA (0 + 1) cB dh, .blk B34 (.cells #[.int .i64 r26.Letters, .int .i64 r26.Start, .slice eo r26.Final.length eA, .slice fF r26.Next.length fG] 25 (0, 0)), .blk B21 (.cells #[.slice p45 r26.Letters.toNat r26.Letters.toNat, .slice cA (0 + 1) cB, .int .i64 ((0 : Int) + (r26.Final.length : Int))] 83 (0, 0)), .blk B8 (.cells #[.int .i64 0, .slice none 0 0, .slice none 0 0, .slice none 0 0, .slice none 0 0, .slice none 0 0] 33 (0, 0))]) (e := .blk dO (.cells #[.int .i64 0, .slice none 0 0, .slice none 0 0, .slice none 0 0, .slice none 0 0, .slice none 0 0] 33 (0, 0))) Ik rfl
   replace hB := hB.trans (oo.same.fr _)
   replace hB := Fr.gain (e := .blk dO (.cells #[.int .i64 0, .slice none 0 0, .slice none 0 0, .slice none 0 0, .slice none 0 0, .slice none 0 0] 33 (0, 0))) hB (Nat.le_trans hw251 hnb325) rfl
   replace hO := Owns.gain hO Ik Cb rfl hh326 hd324
   refine GoQA.lastI rfl rfl ?_
   intro IM A329 oq
   replace hO := oq.own hO
   have zz := J0b (us := [.int .i64 (d_60.length : Int), .slice (some ⟨bH, 0, none⟩) r215.Elems.length r215.Elems.length, .slice (some ⟨bN, 0, none⟩) r215.Elems.length r215.Elems.length, .slice aK aM aL, .slice none 0 0, .slice (some ⟨bT, 0, none⟩) r215.Elems.length r215.Elems.length]) (o := 0) (cs' := #[.int .i64 (d_60.length : Int), .slice (some ⟨bH, 0, none⟩) r215.Elems.length r215.Elems.length, .slice (some ⟨bN, 0, none⟩) r215.Elems.length r215.Elems.length, .slice aK aM aL, .slice none 0 0, .slice (some ⟨bT, 0, none⟩) r215.Elems.length r215.Elems.length]) 0 hO rfl rfl (Nat.le_of_ble_eq_true rfl) rfl
   obtain ⟨YJ, fP, Lc⟩ := zz
   dsimp only [sS, sZ] at fP
   refine GoAt.step (Lc ti33 (by exact rfl) (by exact rfl) rfl) (fun h => nomatch h) (Stp.kp hO fP) rfl ?_
   replace hO := fP.own
   refine GoQA.nil ?_
   intro YK A335 ot pE
   replace hO := ot.own hO
   replace hO := hO.permA pE
   refine zq (zq ?_)
   refine Go1.cut [(0, .pointer (some ⟨B21, 0, none⟩)), (2, .pointer (some ⟨B207, 0, none⟩)), (5, .pointer (some ⟨B223, 0, none⟩)), (7, .int .i64 (r215.Elems.length : Int)), (8, .pointer (some ⟨dO, 0, none⟩))] ⟨rfl, rfl, rfl, rfl, rfl, trivial⟩ ?_
   intro σ _
   refine zr (za rfl (zn (zb ?_)))
   replace hO := hO.drop 8
   replace ba := ba.ch (Ch.assoc _ _ _ _)
   replace hB := (((hB.trans (oq.same.fr _)).trans fP.fr).trans (ot.same.fr _)).trans (Owns.J09 _ _ 8)
   have Z14 := ((((((rv.trans (oo.ch _)).trans gT).trans (oq.ch _)).trans fP.ch).trans (ot.ch _)).trans (permCh pE _)).trans (Owns.J04 _ _ 8)
   replace f0 := f0.ch Z14
   have Z15 := ((((((((sY.trans (pD.ch _)).trans rv).trans (oo.ch _)).trans gT).trans (oq.ch _)).trans fP.ch).trans (ot.ch _)).trans (permCh pE _)).trans (Owns.J04 _ _ 8)
   replace kW := kW.ch Z15
   have Z16 := ((((((((((((rs.ch _).trans jy).trans (ru.ch _)).trans sY).trans (pD.ch _)).trans rv).trans (oo.ch _)).trans gT).trans (oq.ch _)).trans fP.ch).trans (ot.ch _)).trans (permCh pE _)).trans (Owns.J04 _ _ 8)
   replace ba := ba.ch Z16
   have Z17 := ((((((((((((iF.ch.trans (rs.ch _)).trans jy).trans (ru.ch _)).trans sY).trans (pD.ch _)).trans rv).trans (oo.ch _)).trans gT).trans (oq.ch _)).trans fP.ch).trans (ot.ch _)).trans (permCh pE _)).trans (Owns.J04 _ _ 8)
   replace io := io.ch Z17
   have Z18 := ((((((((((((((sX.ch _).trans iF.ch).trans (rs.ch _)).trans jy).trans (ru.ch _)).trans sY).trans (pD.ch _)).trans rv).trans (oo.ch _)).trans gT).trans (oq.ch _)).trans fP.ch).trans (ot.ch _)).trans (permCh pE _)).trans (Owns.J04 _ _ 8)
   replace bm := bm.ch Z18
   replace af := af.ch Z18
   have Z19 := ((((((((((((((qg.ch.trans (sX.ch _)).trans iF.ch).trans (rs.ch _)).trans jy).trans (ru.ch _)).trans sY).trans (pD.ch _)).trans rv).trans (oo.ch _)).trans gT).trans (oq.ch _)).trans fP.ch).trans (ot.ch _)).trans (permCh pE _)).trans (Owns.J04 _ _ 8)
   replace ah := ah.ch Z19
   have Z20 := ((((((((((((((Z13.trans (sX.ch _)).trans iF.ch).trans (rs.ch _)).trans jy).trans (ru.ch _)).trans sY).trans (pD.ch _)).trans rv).trans (oo.ch _)).trans gT).trans (oq.ch _)).trans fP.ch).trans (ot.ch _)).trans (permCh pE _)).trans (Owns.J04 _ _ 8)
   replace am := am.ch Z20
   replace aa := aa.ch Z20
   replace aj := aj.ch Z20
   replace ai := ai.ch Z20
   have Z21 := (((((((((((((((((((((wz.ch.trans wA.ch).trans iW.ch).trans AP).trans wB.ch).trans qf.ch).trans oh.ch).trans qg.ch).trans (sX.ch _)).trans iF.ch).trans (rs.ch _)).trans jy).trans (ru.ch _)).trans sY).trans (pD.ch _)).trans rv).trans (oo.ch _)).trans gT).trans (oq.ch _)).trans fP.ch).trans (ot.ch _)).trans (permCh pE _)).trans (Owns.J04 _ _ 8)
   replace aB := aB.ch Z21
   have Z22 := ((((((((((((((((((((((xq.ch.trans wz.ch).trans wA.ch).trans iW.ch).trans AP).trans wB.ch).trans qf.ch).trans oh.ch).trans qg.ch).trans (sX.ch _)).trans iF.ch).trans (rs.ch _)).trans jy).trans (ru.ch _)).trans sY).trans (pD.ch _)).trans rv).trans (oo.ch _)).trans gT).trans (oq.ch _)).trans fP.ch).trans (ot.ch _)).trans (permCh pE _)).trans (Owns.J04 _ _ 8)
   replace d8 := d8.ch Z22
   have Z23 := (((((((((((((((((((((((((fQ.ch.trans E5).trans m6.ch).trans xq.ch).trans wz.ch).trans wA.ch).trans iW.ch).trans AP).trans wB.ch).trans qf.ch).trans oh.ch).trans qg.ch).trans (sX.ch _)).trans iF.ch).trans (rs.ch _)).trans jy).trans (ru.ch _)).trans sY).trans (pD.ch _)).trans rv).trans (oo.ch _)).trans gT).trans (oq.ch _)).trans fP.ch).trans (ot.ch _)).trans (permCh pE _)).trans (Owns.J04 _ _ 8)
   replace ap := ap.ch Z23
   have Z24 := ((((((((((((((((((((((((((AO.ch.trans fQ.ch).trans E5).trans m6.ch).trans xq.ch).trans wz.ch).trans wA.ch).trans iW.ch).trans AP).trans wB.ch).trans qf.ch).trans oh.ch).trans qg.ch).trans (sX.ch _)).trans iF.ch).trans (rs.ch _)).trans jy).trans (ru.ch _)).trans sY).trans (pD.ch _)).trans rv).trans (oo.ch _)).trans gT).trans (oq.ch _)).trans fP.ch).trans (ot.ch _)).trans (permCh pE _)).trans (Owns.J04 _ _ 8)
   replace ar := ar.ch Z24
   dsimp only [eS, eZ] at hB hO ap ar d8 bm am ah aa aj af ai io f0 kW ba aB
   refine Go1.loopW (S := Nat × List Bool × List Str) (fun s σ w => match s with | (k3_339, d_340, d_343) => ∃ (pF : List Value) (du : List Value), agrees σ [(0, .pointer (some ⟨B21, 0, none⟩)), (2, .pointer (some ⟨B207, 0, none⟩)), (5, .pointer (some ⟨B223, 0, none⟩)), (7, .int .i64 (r215.Elems.length : Int)), (8, .pointer (some ⟨dO, 0, none⟩)), (9, .int .i64 (k3_339 : Int))] ∧ (fun Z0 => Owns w0.heap.size w Z0 A ∧ Els (Rp.bool) (bl Z0 ++ A) w pF d_340 ∧ Els (Rp.str) (bl Z0 ++ A) w du d_343 ∧ Els (Rp.int .i64) (bl Z0 ++ A) w cb r262 ∧ Els (rppart) (bl Z0 ++ A) w dh ((([] : List part)) ++ ([(⟨((0 : Int) + r26.Start), r26.Final, (0 : Int)⟩ : part)])) ∧ ISl (Rp.sl (Rp.int .i64)) (bl Z0 ++ A) w p45 r26.Letters.toNat d_60 ∧ ISl (Rp.sl (Rp.int .i64)) (bl Z0 ++ A) w aQ aR r215.Gens ∧ ISl (Rp.sl (Rp.int .i64)) (bl Z0 ++ A) w aC aD r215.Elems ∧ ISl (Rp.int .i64) (bl Z0 ++ A) w ay az r215.Prefix ∧ ISl (Rp.int .i64) (bl Z0 ++ A) w aS aT r215.Last ∧ ISl (Rp.sl (Rp.int .i64)) (bl Z0 ++ A) w aw ax r215.Right ∧ ISl (rpRule) (bl Z0 ++ A) w aI aJ r215.Rules ∧ Fr (bl []) w0 (bl Z0) w) [.blk dO (.cells #[.int .i64 (d_60.length : Int), .slice (some ⟨bH, 0, none⟩) r215.Elems.length r215.Elems.length, .slice (some ⟨bN, 0, none⟩) r215.Elems.length r215.Elems.length, .slice aK aM aL, .slice none 0 0, .slice (some ⟨bT, 0, none⟩) r215.Elems.length r215.Elems.length] 33 (0, 0)), .row 4 1 (some ⟨bT, 0, none⟩) r215.Elems.length r215.Elems.length pF, .row 9 1 (some ⟨bN, 0, none⟩) r215.Elems.length r215.Elems.length du, t2 (Fl.int .i64) 31 3 (some ⟨bH, 0, none⟩) r215.Elems.length r215.Elems.length ((fun _ => (none, 0))) (List.replicate r215.Elems.length ([] : List Int)), .row 3 1 aK aM aL cb, .blk B223 (.cells #[.int .i64 r215.Points, .bool r215.Monoid, .slice aQ r215.Gens.length aR, .slice aC r215.Elems.length aD, .slice ay r215.Prefix.length az, .slice aS r215.Last.length aT, .slice aw r215.Right.length ax, .slice aI r215.Rules.length aJ, .int .i64 r215.Done] 123 (0, 0)), .blk B207 (.cells #[.int .i64 0, .slice none 0 0, .slice none 0 0, .slice none 0 0, .slice none 0 0, .slice none 0 0] 33 (0, 0)), .row 120 3 cA (0 + 1) cB dh, .blk B21 (.cells #[.slice p45 r26.Letters.toNat r26.Letters.toNat, .slice cA (0 + 1) cB, .int .i64 ((0 : Int) + (r26.Final.length : Int))] 83 (0, 0)), .blk B8 (.cells #[.int .i64 0, .slice none 0 0, .slice none 0 0, .slice none 0 0, .slice none 0 0, .slice none 0 0] 33 (0, 0))]) H ⟨Cc, yU, ⟨rfl, rfl, rfl, rfl, rfl, rfl, trivial⟩, hO, f0, kW, ba, aB, bm, am, ah, aa, aj, af, ai, hB⟩ ?_
   intro X3
   refine prE fun k3_339 => prE fun d_340 => fun d_343 => ?_
   intro H hX3 σ Q1
   refine exE fun pF => exE fun du => andE fun hag => andE fun hO => andE fun ua => andE fun bG => andE fun ba => andE fun aB => andE fun bm => andE fun am => andE fun ah => andE fun aa => andE fun aj => andE fun af => andE fun ai => fun hB => ?_
   dsimp only at H
   refine Go1.keep [(0, .pointer (some ⟨B21, 0, none⟩)), (2, .pointer (some ⟨B207, 0, none⟩)), (5, .pointer (some ⟨B223, 0, none⟩)), (7, .int .i64 (r215.Elems.length : Int)), (8, .pointer (some ⟨dO, 0, none⟩)), (9, .int .i64 (k3_339 : Int))] hag ?_
   refine zq (zq (zr (zm rfl (zm rfl ?_))))
   by_cases Dq : (k3_339 : Int) < (r215.Elems.length : Int)
   ·replace H := ifp Dq H
    refine zo (fun w => opB (J08 rfl rfl w) (decide_eq_true Dq)) (zn (zt rfl rfl (zk (zq (zb ?_)))))
    refine zq ?_
    refine Go1.drawS 1 [(0, .pure), (1, .stable), (2, .pure), (3, .pure), (4, .stable), (5, .pure), (6, .stable), (7, .pure), (8, .pure), (9, .stable), (10, .pure), (11, .stable), (12, .pure), (13, .stable), (14, .pure), (15, .pure), (16, .stable), (17, .pure), (18, .pure), (19, .loud), (20, .stable), (21, .pure), (22, .pure), (23, .last)] mixed (by kernel_rfl) ?_
    intro YL PX
    have qh := Stp.same hO PX
    replace hO := qh.own
    refine GoQ.pure rfl (J00 Try.underlying33 rfl ti30 rfl (by decide)) rfl rfl ?_
    refine GoQ.stable rfl (oblk (i := 2) 0 hO rfl rfl Try.underlying30 rfl rfl) rfl rfl ?_
    refine GoQ.pure rfl (J03 rfl) rfl rfl ?_
    refine GoQ.pure rfl (J00 Try.underlying33 rfl ti30 rfl (by decide)) rfl rfl ?_
    refine GoQ.stable rfl (oblk (i := 2) 0 hO rfl rfl Try.underlying30 rfl rfl) rfl rfl ?_
    refine GoQ.pure rfl (J00 Try.underlying123 rfl ti31 rfl (by decide)) rfl rfl ?_
    refine GoQ.stable rfl (oblk (i := 4) 5 hO rfl rfl Try.underlying31 rfl rfl) rfl rfl ?_
    refine GoQ.pure rfl (J03 rfl) rfl rfl ?_
    obtain ⟨Dc, H⟩ := H
    obtain ⟨GW, H⟩ := H
    replace aa := aa.ch qh.ch
    refine GoQ.pure rfl (J02 Try.underlying31 ti3 rfl rfl Dc GW (aa.some_ Dc GW)) rfl rfl ?_
    refine GoQ.stable rfl (ldInt aa Dc GW Try.underlying3 rfl rfl) rfl rfl ?_
    obtain ⟨E6, H⟩ := H
    obtain ⟨E7, H⟩ := H
    replace bG := bG.ch qh.ch
    refine GoQ.pure rfl (J02 Try.underlying30 ti9 rfl rfl E6 (ltn (bG.neq hO 2 rfl) E7) (bG.psome hO 2 rfl E6 E7)) rfl rfl ?_
    refine GoQ.stable rfl (oldStr 2 hO rfl bG E6 E7 Try.underlying9 rfl rfl) rfl rfl ?_
    have hle354 := Els.str_le bG E6 E7
    refine GoQ.pure rfl (J00 Try.underlying123 rfl ti31 rfl (by decide)) rfl rfl ?_
    refine GoQ.stable rfl (oblk (i := 5) 5 hO rfl rfl Try.underlying31 rfl rfl) rfl rfl ?_
    refine GoQ.pure rfl (J03 rfl) rfl rfl ?_
    obtain ⟨GX, H⟩ := H
    obtain ⟨GY, H⟩ := H
    replace aj := aj.ch qh.ch
    refine GoQ.pure rfl (J02 Try.underlying31 ti3 rfl rfl GX GY (aj.some_ GX GY)) rfl rfl ?_
    refine GoQ.stable rfl (ldInt aj GX GY Try.underlying3 rfl rfl) rfl rfl ?_
    obtain ⟨SS, H⟩ := H
    refine GoQ.pure rfl (J0c rfl rfl (wrap_i64 SS)) rfl rfl ?_
    refine GoQ.pure rfl (op_conv Try.underlying3 Try.underlying5 rfl rfl) rfl rfl ?_
    have zz := J0j (r := Rp.int .u8) (n := 1) (parts := [(0, .int .u8 (IntKind.u8.wrap ((97 : Int) + (ix r215.Last (k3_339 : Int)))))]) (vs := [.int .u8 (IntKind.u8.wrap ((97 : Int) + (ix r215.Last (k3_339 : Int))))]) (xs := [(IntKind.u8.wrap ((97 : Int) + (ix r215.Last (k3_339 : Int))))]) rfl Try.underlying126 ti5 hO (by decide) (by kernel_rfl) (Els.cons rfl rfl (Els.nil _ _ _) (by simp [mx])) rfl
    obtain ⟨IQ, YM, fk, yV, PY, Ld⟩ := zz
    refine GoQ.loud rfl (Ld rfl) PY rfl rfl ?_
    replace hO := fk.own
    have hle365 := byt_le yV.bd
    refine GoQ.stable rfl (oldBytes 0 hO rfl yV Try.underlying126 Try.underlying5 Try.underlying9 rfl) rfl rfl ?_
    obtain ⟨Le, H⟩ := H
    refine GoQ.pure rfl (op_addS rfl rfl Le) rfl rfl ?_
    obtain ⟨G0, H⟩ := H
    obtain ⟨G1, H⟩ := H
    replace bG := bG.ch fk.ch
    refine GoQ.pure rfl (J02 Try.underlying30 ti9 rfl rfl G0 (ltn (bG.neq hO 3 rfl) G1) (bG.psome hO 3 rfl G0 G1)) rfl rfl ?_
    have zz := ost (r := Rp.str) rfl 3 hO rfl bG G0 G1 (v := .string (gstr ((ix d_343 (ix r215.Prefix (k3_339 : Int))) ++ (byt ([(IntKind.u8.wrap ((97 : Int) + (ix r215.Last (k3_339 : Int))))]))))) (u := ((ix d_343 (ix r215.Prefix (k3_339 : Int))) ++ (byt ([(IntKind.u8.wrap ((97 : Int) + (ix r215.Last (k3_339 : Int))))])))) rfl ⟨rfl, (lenApp Le)⟩
    obtain ⟨YN, P1, ou, xP, Cx⟩ := zz
    dsimp only [sS, sZ] at ou xP
    refine GoQ.last rfl (Cx Try.underlying9 rfl ti9 (by exact rfl) (by exact rfl)) rfl rfl ?_
    replace hO := ou.own
    refine GoQ.nil ?_
    refine Go1.cut [(0, .pointer (some ⟨B21, 0, none⟩)), (2, .pointer (some ⟨B207, 0, none⟩)), (5, .pointer (some ⟨B223, 0, none⟩)), (7, .int .i64 (r215.Elems.length : Int)), (8, .pointer (some ⟨dO, 0, none⟩)), (9, .int .i64 (k3_339 : Int))] ⟨rfl, rfl, rfl, rfl, rfl, rfl, trivial⟩ ?_
    intro σ _
    refine zr (zo (J00 Try.underlying33 rfl ti22 rfl (by decide)) (zs (oblk (i := 5) 1 hO rfl rfl Try.underlying22 rfl rfl) (zm rfl ?_)))
    obtain ⟨Cw, H⟩ := H
    obtain ⟨xC, H⟩ := H
    have Z25 := (qh.ch.trans fk.ch).trans ou.ch
    replace ua := ua.ch Z25
    refine zo (J02 Try.underlying22 ti4 rfl rfl Cw (ltn (ua.neq hO 2 rfl) xC) (ua.psome hO 2 rfl Cw xC)) ?_
    have zz := ost (r := Rp.bool) rfl 2 hO rfl ua Cw xC (v := .bool true) (u := true) rfl rfl
    obtain ⟨YO, P2, ov, AQ, Lf⟩ := zz
    dsimp only [sS, sZ] at ov AQ
    refine zg (Lf Try.underlying4 rfl ti4 (by exact rfl) (by exact rfl)) ?_
    replace hO := ov.own
    refine zn ?_
    refine Go1.inBlock ?_
    refine zr (zm rfl ?_)
    replace ah := (ah.ch Z25).ch ov.ch
    refine zo (J0c rfl rfl (wrap_i64 (natbd Dq ah.bd))) (za rfl (zn ?_))
    replace hO := hO.drop 0
    replace ah := ah.ch (Owns.J04 _ _ 0)
    replace AQ := AQ.ch (Owns.J04 _ _ 0)
    replace xP := (xP.ch ov.ch).ch (Owns.J04 _ _ 0)
    have Z26 := ((fk.ch.trans ou.ch).trans ov.ch).trans (Owns.J04 _ _ 0)
    replace aa := aa.ch Z26
    replace aj := aj.ch Z26
    have Z27 := (Z25.trans ov.ch).trans (Owns.J04 _ _ 0)
    replace ba := ba.ch Z27
    replace aB := aB.ch Z27
    replace bm := bm.ch Z27
    replace am := am.ch Z27
    replace af := af.ch Z27
    replace ai := ai.ch Z27
    replace hB := ((((hB.trans qh.fr).trans fk.fr).trans ou.fr).trans ov.fr).trans (Owns.J09 _ _ 0)
    dsimp only [eS, eZ] at hB hO bm am ah aa aj af ai AQ xP ba aB
    exact hX3 _ H _ _ ⟨P2, P1, ⟨rfl, rfl, rfl, rfl, rfl, rfl, trivial⟩, hO, AQ, xP, ba, aB, bm, am, ah, aa, aj, af, ai, hB⟩
   replace H := ifn Dq H
   refine zo (fun w => opB (J08 rfl rfl w) (decide_eq_false Dq)) (zn (zf rfl rfl ?_))
   refine Go1.exit rfl ?_
   refine zq (zq (zr (zo (J00 Try.underlying123 rfl ti23 rfl (by decide)) (zs (oblk (i := 6) 5 hO rfl rfl Try.underlying23 rfl rfl) (zo (J0d Try.underlying23 rfl) ?_)))))
   replace H := H af.bd
   refine zm rfl (zn (zb ?_))
   refine Go1.loopW (S := Nat × List Bool × List (List Int)) (fun s σ w => match s with | (k4_382, d_383, d_386) => ∃ (fU : List Value) (eh : Hd), agrees σ [(0, .pointer (some ⟨B21, 0, none⟩)), (2, .pointer (some ⟨B207, 0, none⟩)), (5, .pointer (some ⟨B223, 0, none⟩)), (7, .int .i64 (r215.Elems.length : Int)), (8, .pointer (some ⟨dO, 0, none⟩)), (86, .slice aw r215.Right.length ax), (87, .int .i64 (r215.Right.length : Int)), (88, .int .i64 (k4_382 : Int))] ∧ (fun Z0 => Owns w0.heap.size w Z0 A ∧ Els (Rp.bool) (bl Z0 ++ A) w fU d_383 ∧ Els (Rp.str) (bl Z0 ++ A) w du d_343 ∧ Els (Rp.int .i64) (bl Z0 ++ A) w cb r262 ∧ Els (rppart) (bl Z0 ++ A) w dh ((([] : List part)) ++ ([(⟨((0 : Int) + r26.Start), r26.Final, (0 : Int)⟩ : part)])) ∧ ISl (Rp.sl (Rp.int .i64)) (bl Z0 ++ A) w p45 r26.Letters.toNat d_60 ∧ ISl (Rp.sl (Rp.int .i64)) (bl Z0 ++ A) w aQ aR r215.Gens ∧ ISl (Rp.sl (Rp.int .i64)) (bl Z0 ++ A) w aC aD r215.Elems ∧ ISl (Rp.int .i64) (bl Z0 ++ A) w ay az r215.Prefix ∧ ISl (Rp.int .i64) (bl Z0 ++ A) w aS aT r215.Last ∧ ISl (Rp.sl (Rp.int .i64)) (bl Z0 ++ A) w aw ax r215.Right ∧ ISl (rpRule) (bl Z0 ++ A) w aI aJ r215.Rules ∧ Fr (bl []) w0 (bl Z0) w) [.blk dO (.cells #[.int .i64 (d_60.length : Int), .slice (some ⟨bH, 0, none⟩) r215.Elems.length r215.Elems.length, .slice (some ⟨bN, 0, none⟩) r215.Elems.length r215.Elems.length, .slice aK aM aL, .slice none 0 0, .slice (some ⟨bT, 0, none⟩) r215.Elems.length r215.Elems.length] 33 (0, 0)), .row 4 1 (some ⟨bT, 0, none⟩) r215.Elems.length r215.Elems.length fU, .row 9 1 (some ⟨bN, 0, none⟩) r215.Elems.length r215.Elems.length du, t2 (Fl.int .i64) 31 3 (some ⟨bH, 0, none⟩) r215.Elems.length r215.Elems.length eh d_386, .row 3 1 aK aM aL cb, .blk B223 (.cells #[.int .i64 r215.Points, .bool r215.Monoid, .slice aQ r215.Gens.length aR, .slice aC r215.Elems.length aD, .slice ay r215.Prefix.length az, .slice aS r215.Last.length aT, .slice aw r215.Right.length ax, .slice aI r215.Rules.length aJ, .int .i64 r215.Done] 123 (0, 0)), .blk B207 (.cells #[.int .i64 0, .slice none 0 0, .slice none 0 0, .slice none 0 0, .slice none 0 0, .slice none 0 0] 33 (0, 0)), .row 120 3 cA (0 + 1) cB dh, .blk B21 (.cells #[.slice p45 r26.Letters.toNat r26.Letters.toNat, .slice cA (0 + 1) cB, .int .i64 ((0 : Int) + (r26.Final.length : Int))] 83 (0, 0)), .blk B8 (.cells #[.int .i64 0, .slice none 0 0, .slice none 0 0, .slice none 0 0, .slice none 0 0, .slice none 0 0] 33 (0, 0))]) H ⟨pF, (fun _ => (none, 0)), ⟨rfl, rfl, rfl, rfl, rfl, rfl, rfl, rfl, trivial⟩, hO, ua, bG, ba, aB, bm, am, ah, aa, aj, af, ai, hB⟩ ?_
   intro X4
   refine prE fun k4_382 => prE fun d_383 => fun d_386 => ?_
   intro H hX4 σ YP
   refine exE fun fU => exE fun eh => andE fun hag => andE fun hO => andE fun de => andE fun bG => andE fun ba => andE fun aB => andE fun bm => andE fun am => andE fun ah => andE fun aa => andE fun aj => andE fun af => andE fun ai => fun hB => ?_
   dsimp only at H
   refine Go1.keep [(0, .pointer (some ⟨B21, 0, none⟩)), (2, .pointer (some ⟨B207, 0, none⟩)), (5, .pointer (some ⟨B223, 0, none⟩)), (7, .int .i64 (r215.Elems.length : Int)), (8, .pointer (some ⟨dO, 0, none⟩)), (86, .slice aw r215.Right.length ax), (87, .int .i64 (r215.Right.length : Int)), (88, .int .i64 (k4_382 : Int))] hag ?_
   refine zq (zr ?_)
   by_cases Bs : (k4_382 : Int) < (r215.Right.length : Int)
   ·replace H := ifp Bs H
    refine zo (fun w => opB (J08 rfl rfl w) (decide_eq_true Bs)) (zn (zq (zt rfl rfl (zk (zq ?_)))))
    refine zb (zq (zr (zm rfl ?_)))
    obtain ⟨G3, H⟩ := H
    obtain ⟨Cz, H⟩ := H
    refine zo (J02 Try.underlying23 ti31 rfl rfl G3 Cz (af.some_ G3 Cz)) ?_
    have zz := ldSl af G3 Cz
    obtain ⟨Su, YQ, g9, P3⟩ := zz
    refine zs (P3 Try.underlying31 rfl rfl) (za rfl (za rfl (zn (zq ?_))))
    refine Go1.drawS 1 [(0, .pure), (1, .stable), (2, .pure), (3, .stable), (4, .pure), (5, .stable), (6, .pure), (7, .pure), (8, .loud), (9, .pure), (10, .pure), (11, .last)] mixed (by kernel_rfl) ?_
    intro YR P4
    have ow := Stp.same hO P4
    replace hO := ow.own
    refine GoQ.pure rfl (J00 Try.underlying33 rfl ti22 rfl (by decide)) rfl rfl ?_
    refine GoQ.stable rfl (oblk (i := 5) 0 hO rfl rfl Try.underlying22 rfl rfl) rfl rfl ?_
    refine GoQ.pure rfl (J00 Try.underlying33 rfl ti22 rfl (by decide)) rfl rfl ?_
    refine GoQ.stable rfl (oblk (i := 5) 0 hO rfl rfl Try.underlying22 rfl rfl) rfl rfl ?_
    obtain ⟨xX, H⟩ := H
    obtain ⟨xY, H⟩ := H
    replace de := de.ch ow.ch
    refine GoQ.pure rfl (J02 Try.underlying22 ti4 rfl rfl xX (ltn (de.neq hO 1 rfl) xY) (de.psome hO 1 rfl xX xY)) rfl rfl ?_
    by_cases h400 : ix d_383 (0 : Int) = true
    ·replace H := ifp h400 H
     refine GoQ.stable rfl (fun w hw => opB ((oldBool 1 hO rfl de xX xY Try.underlying4 rfl rfl) w hw) (h400)) rfl rfl ?_
     refine GoQ.pure rfl (J03 rfl) rfl rfl ?_
     refine GoQ.pass rfl rfl rfl ?_
     refine GoQ.pass rfl rfl rfl ?_
     refine GoQ.pure rfl (J06 rfl rfl rfl) rfl rfl ?_
     obtain ⟨G4, H⟩ := H
     obtain ⟨G5, H⟩ := H
     refine GoQ.pure rfl (J02 Try.underlying22 ti4 rfl rfl G4 (ltn (de.neq hO 1 rfl) G5) (de.psome hO 1 rfl G4 G5)) rfl rfl ?_
     have zz := ost (r := Rp.bool) rfl 1 hO rfl de G4 G5 (v := .bool true) (u := true) rfl rfl
     obtain ⟨YS, oc, gk, dH, Dd⟩ := zz
     dsimp only [sS, sZ] at gk dH
     refine GoQ.last rfl (Dd Try.underlying4 rfl ti4 (by exact rfl) (by exact rfl)) rfl rfl ?_
     replace hO := gk.own
     refine GoQ.nil ?_
     refine zq ?_
     refine Go1.drawS 1 [(0, .pure), (1, .stable), (2, .pure), (3, .pure), (4, .loud), (5, .pure), (6, .last)] mixed (by kernel_rfl) ?_
     intro RN Ex
     have gj := Stp.same hO Ex
     replace hO := gj.own
     refine GoQ.pure rfl (J00 Try.underlying33 rfl ti23 rfl (by decide)) rfl rfl ?_
     refine GoQ.stable rfl (oblk (i := 1) 0 hO rfl rfl Try.underlying23 rfl rfl) rfl rfl ?_
     refine GoQ.pure rfl (J03 rfl) rfl rfl ?_
     refine GoQ.pure rfl (J03 rfl) rfl rfl ?_
     obtain ⟨ST, H⟩ := H
     obtain ⟨SU, H⟩ := H
     have zz := omake (n := (r215.Elems.length : Int)) (r := Rp.int .i64) (d := (0 : Int)) Try.underlying31 ti3 (fun _ _ => rfl) rfl hO ST SU (by decide)
     obtain ⟨YT, uP, UH, fJ, xO, Ib, De⟩ := zz
     refine GoQ.loud rfl (De rfl rfl) Ib rfl rfl ?_
     replace hO := fJ.own
     obtain ⟨G6, H⟩ := H
     obtain ⟨Df, H⟩ := H
     refine GoQ.pure rfl (J02 Try.underlying23 ti31 rfl rfl G6 (ltn (t2neq 4 hO rfl) Df) (t2some 4 hO rfl G6 Df)) rfl rfl ?_
     have mO := Stp.front 4 hO rfl
     dsimp only [eS, eZ] at mO
     replace hO := mO.own
     have mP := Stp.front 1 hO rfl
     dsimp only [eS, eZ] at mP
     replace hO := mP.own
     replace xO := (xO.ch mO.ch).ch mP.ch
     have zz := t2put (hf := (Fl.int .i64)) hO xO G6 Df
     obtain ⟨YU, oA, Lg⟩ := zz
     refine GoQ.last rfl (Lg Try.underlying31 rfl ti31 (by exact rfl) (by exact rfl)) rfl rfl ?_
     replace hO := oA.own
     refine GoQ.nil ?_
     refine zq ?_
     refine Go1.cut [(0, .pointer (some ⟨B21, 0, none⟩)), (2, .pointer (some ⟨B207, 0, none⟩)), (5, .pointer (some ⟨B223, 0, none⟩)), (7, .int .i64 (r215.Elems.length : Int)), (8, .pointer (some ⟨dO, 0, none⟩)), (10, .int .i64 (k4_382 : Int)), (86, .slice aw r215.Right.length ax), (87, .int .i64 (r215.Right.length : Int)), (88, .int .i64 (k4_382 : Int))] ⟨rfl, rfl, rfl, rfl, rfl, rfl, rfl, rfl, rfl, trivial⟩ ?_
     intro σ _
     refine zr (zo (J00 Try.underlying33 rfl ti23 rfl (by decide)) (zs (oblk (i := 1) 1 hO rfl rfl Try.underlying23 rfl rfl) (zm rfl ?_)))
     obtain ⟨Dr, H⟩ := H
     obtain ⟨zJ, H⟩ := H
     refine zo (J02 Try.underlying23 ti31 rfl rfl Dr (ltn (t2neq 0 hO rfl) zJ) (t2some 0 hO rfl Dr zJ)) (zs (t2head 0 hO rfl Dr zJ Try.underlying31 rfl rfl) (zm rfl ?_))
     obtain ⟨G7, H⟩ := H
     obtain ⟨G8, H⟩ := H
     refine zo (J02 Try.underlying31 ti3 rfl rfl G7 G8 (t2isome 0 hO rfl Dr zJ G7 G8)) ?_
     have zz := t2st (r := Rp.int .i64) (hf := (Fl.int .i64)) rfl 0 hO rfl Dr zJ G7 G8 (v := .int .i64 (k4_382 : Int)) (u := (k4_382 : Int)) rfl rfl
     obtain ⟨YV, nu, Lh⟩ := zz
     dsimp only [sS, sZ] at nu
     refine zg (Lh Try.underlying3 rfl ti3 (by exact rfl) (by exact rfl)) ?_
     replace hO := nu.own
     refine zn (zq (zr (za rfl (zn (zb ?_)))))
     have Z28 := ((((gj.ch.trans fJ.ch).trans mO.ch).trans mP.ch).trans oA.ch).trans nu.ch
     replace dH := dH.ch Z28
     have Z29 := ((((((ow.ch.trans gk.ch).trans gj.ch).trans fJ.ch).trans mO.ch).trans mP.ch).trans oA.ch).trans nu.ch
     replace bG := bG.ch Z29
     replace ba := ba.ch Z29
     replace aB := aB.ch Z29
     replace bm := bm.ch Z29
     replace am := am.ch Z29
     replace ah := ah.ch Z29
     replace aa := aa.ch Z29
     replace aj := aj.ch Z29
     replace af := af.ch Z29
     replace ai := ai.ch Z29
     replace hB := (((((((hB.trans ow.fr).trans gk.fr).trans gj.fr).trans fJ.fr).trans mO.fr).trans mP.fr).trans oA.fr).trans nu.fr
     refine Go1.loopW (S := Nat × List (List Int)) (fun s σ w => match s with | (k5_436, d_437) => agrees σ [(0, .pointer (some ⟨B21, 0, none⟩)), (2, .pointer (some ⟨B207, 0, none⟩)), (5, .pointer (some ⟨B223, 0, none⟩)), (7, .int .i64 (r215.Elems.length : Int)), (8, .pointer (some ⟨dO, 0, none⟩)), (10, .int .i64 (k4_382 : Int)), (12, .int .i64 (k5_436 : Int)), (86, .slice aw r215.Right.length ax), (87, .int .i64 (r215.Right.length : Int)), (88, .int .i64 (k4_382 : Int))] ∧ (fun Z0 => Owns w0.heap.size w Z0 A ∧ Els (Rp.bool) (bl Z0 ++ A) w oc (st d_383 (0 : Int) true) ∧ Els (Rp.str) (bl Z0 ++ A) w du d_343 ∧ Els (Rp.int .i64) (bl Z0 ++ A) w cb r262 ∧ Els (rppart) (bl Z0 ++ A) w dh ((([] : List part)) ++ ([(⟨((0 : Int) + r26.Start), r26.Final, (0 : Int)⟩ : part)])) ∧ ISl (Rp.sl (Rp.int .i64)) (bl Z0 ++ A) w p45 r26.Letters.toNat d_60 ∧ ISl (Rp.sl (Rp.int .i64)) (bl Z0 ++ A) w aQ aR r215.Gens ∧ ISl (Rp.sl (Rp.int .i64)) (bl Z0 ++ A) w aC aD r215.Elems ∧ ISl (Rp.int .i64) (bl Z0 ++ A) w ay az r215.Prefix ∧ ISl (Rp.int .i64) (bl Z0 ++ A) w aS aT r215.Last ∧ ISl (Rp.sl (Rp.int .i64)) (bl Z0 ++ A) w aw ax r215.Right ∧ ISl (rpRule) (bl Z0 ++ A) w aI aJ r215.Rules ∧ Fr (bl []) w0 (bl Z0) w) [t2 (Fl.int .i64) 31 3 (some ⟨bH, 0, none⟩) r215.Elems.length r215.Elems.length (hup eh (k4_382 : Int).toNat (uP, r215.Elems.length)) d_437, .blk dO (.cells #[.int .i64 (d_60.length : Int), .slice (some ⟨bH, 0, none⟩) r215.Elems.length r215.Elems.length, .slice (some ⟨bN, 0, none⟩) r215.Elems.length r215.Elems.length, .slice aK aM aL, .slice none 0 0, .slice (some ⟨bT, 0, none⟩) r215.Elems.length r215.Elems.length] 33 (0, 0)), .row 4 1 (some ⟨bT, 0, none⟩) r215.Elems.length r215.Elems.length oc, .row 9 1 (some ⟨bN, 0, none⟩) r215.Elems.length r215.Elems.length du, .row 3 1 aK aM aL cb, .blk B223 (.cells #[.int .i64 r215.Points, .bool r215.Monoid, .slice aQ r215.Gens.length aR, .slice aC r215.Elems.length aD, .slice ay r215.Prefix.length az, .slice aS r215.Last.length aT, .slice aw r215.Right.length ax, .slice aI r215.Rules.length aJ, .int .i64 r215.Done] 123 (0, 0)), .blk B207 (.cells #[.int .i64 0, .slice none 0 0, .slice none 0 0, .slice none 0 0, .slice none 0 0, .slice none 0 0] 33 (0, 0)), .row 120 3 cA (0 + 1) cB dh, .blk B21 (.cells #[.slice p45 r26.Letters.toNat r26.Letters.toNat, .slice cA (0 + 1) cB, .int .i64 ((0 : Int) + (r26.Final.length : Int))] 83 (0, 0)), .blk B8 (.cells #[.int .i64 0, .slice none 0 0, .slice none 0 0, .slice none 0 0, .slice none 0 0, .slice none 0 0] 33 (0, 0))]) H ⟨⟨rfl, rfl, rfl, rfl, rfl, rfl, rfl, rfl, rfl, rfl, trivial⟩, hO, dH, bG, ba, aB, bm, am, ah, aa, aj, af, ai, hB⟩ ?_
     intro X5
     refine prE fun k5_436 => fun d_437 => ?_
     intro H hX5 σ YW
     refine andE fun hag => andE fun hO => andE fun dH => andE fun bG => andE fun ba => andE fun aB => andE fun bm => andE fun am => andE fun ah => andE fun aa => andE fun aj => andE fun af => andE fun ai => fun hB => ?_
     dsimp only at H
     refine Go1.keep [(0, .pointer (some ⟨B21, 0, none⟩)), (2, .pointer (some ⟨B207, 0, none⟩)), (5, .pointer (some ⟨B223, 0, none⟩)), (7, .int .i64 (r215.Elems.length : Int)), (8, .pointer (some ⟨dO, 0, none⟩)), (10, .int .i64 (k4_382 : Int)), (12, .int .i64 (k5_436 : Int)), (86, .slice aw r215.Right.length ax), (87, .int .i64 (r215.Right.length : Int)), (88, .int .i64 (k4_382 : Int))] hag ?_
     refine zq (zq (zr (zm rfl (zm rfl ?_))))
     by_cases Ds : (k5_436 : Int) < (r215.Elems.length : Int)
     ·replace H := ifp Ds H
      refine zo (fun w => opB (J08 rfl rfl w) (decide_eq_true Ds)) (zn (zt rfl rfl (zk (zq (zb ?_)))))
      refine Go1.drawS 1 [(0, .pure), (1, .stable), (2, .pure), (3, .pure), (4, .stable), (5, .pure), (6, .pure), (7, .stable), (8, .pure), (9, .stable), (10, .pure), (11, .pure), (12, .stable), (13, .pure), (14, .stable), (15, .pure), (16, .pure), (17, .stable), (18, .pure), (19, .stable), (20, .pure), (21, .stable), (22, .pure), (23, .stable), (24, .pure), (25, .pure), (26, .stable), (27, .pure), (28, .stable), (29, .pure), (30, .last)] mixed (by kernel_rfl) ?_
      intro YX P5
      have qi := Stp.same hO P5
      replace hO := qi.own
      refine GoQ.pure rfl (J00 Try.underlying33 rfl ti23 rfl (by decide)) rfl rfl ?_
      refine GoQ.stable rfl (oblk (i := 1) 1 hO rfl rfl Try.underlying23 rfl rfl) rfl rfl ?_
      refine GoQ.pure rfl (J03 rfl) rfl rfl ?_
      obtain ⟨Du, H⟩ := H
      obtain ⟨Dv, H⟩ := H
      refine GoQ.pure rfl (J02 Try.underlying23 ti31 rfl rfl Du (ltn (t2neq 0 hO rfl) Dv) (t2some 0 hO rfl Du Dv)) rfl rfl ?_
      refine GoQ.stable rfl (t2head 0 hO rfl Du Dv Try.underlying31 rfl rfl) rfl rfl ?_
      refine GoQ.pure rfl (J03 rfl) rfl rfl ?_
      refine GoQ.pure rfl (J00 Try.underlying123 rfl ti23 rfl (by decide)) rfl rfl ?_
      refine GoQ.stable rfl (oblk (i := 6) 5 hO rfl rfl Try.underlying23 rfl rfl) rfl rfl ?_
      refine GoQ.pure rfl (J00 Try.underlying33 rfl ti23 rfl (by decide)) rfl rfl ?_
      refine GoQ.stable rfl (oblk (i := 1) 1 hO rfl rfl Try.underlying23 rfl rfl) rfl rfl ?_
      refine GoQ.pure rfl (J03 rfl) rfl rfl ?_
      obtain ⟨zU, H⟩ := H
      obtain ⟨Dw, H⟩ := H
      refine GoQ.pure rfl (J02 Try.underlying23 ti31 rfl rfl zU (ltn (t2neq 0 hO rfl) Dw) (t2some 0 hO rfl zU Dw)) rfl rfl ?_
      refine GoQ.stable rfl (t2head 0 hO rfl zU Dw Try.underlying31 rfl rfl) rfl rfl ?_
      refine GoQ.pure rfl (J00 Try.underlying123 rfl ti31 rfl (by decide)) rfl rfl ?_
      refine GoQ.stable rfl (oblk (i := 4) 5 hO rfl rfl Try.underlying31 rfl rfl) rfl rfl ?_
      refine GoQ.pure rfl (J03 rfl) rfl rfl ?_
      obtain ⟨G9, H⟩ := H
      obtain ⟨Ha, H⟩ := H
      replace aa := aa.ch qi.ch
      refine GoQ.pure rfl (J02 Try.underlying31 ti3 rfl rfl G9 Ha (aa.some_ G9 Ha)) rfl rfl ?_
      refine GoQ.stable rfl (ldInt aa G9 Ha Try.underlying3 rfl rfl) rfl rfl ?_
      obtain ⟨Hb, H⟩ := H
      obtain ⟨Hc, H⟩ := H
      refine GoQ.pure rfl (J02 Try.underlying31 ti3 rfl rfl Hb Hc (t2isome 0 hO rfl zU Dw Hb Hc)) rfl rfl ?_
      refine GoQ.stable rfl (t2Int 0 hO rfl zU Dw Hb Hc Try.underlying3 rfl rfl) rfl rfl ?_
      obtain ⟨He, H⟩ := H
      obtain ⟨Hf, H⟩ := H
      replace af := af.ch qi.ch
      refine GoQ.pure rfl (J02 Try.underlying23 ti31 rfl rfl He Hf (af.some_ He Hf)) rfl rfl ?_
      have zz := ldSl af He Hf
      obtain ⟨YY, Y0, Cd, P6⟩ := zz
      refine GoQ.stable rfl (P6 Try.underlying31 rfl rfl) rfl rfl ?_
      refine GoQ.pure rfl (J00 Try.underlying123 rfl ti31 rfl (by decide)) rfl rfl ?_
      refine GoQ.stable rfl (oblk (i := 5) 5 hO rfl rfl Try.underlying31 rfl rfl) rfl rfl ?_
      refine GoQ.pure rfl (J03 rfl) rfl rfl ?_
      obtain ⟨Hg, H⟩ := H
      obtain ⟨Hh, H⟩ := H
      replace aj := aj.ch qi.ch
      refine GoQ.pure rfl (J02 Try.underlying31 ti3 rfl rfl Hg Hh (aj.some_ Hg Hh)) rfl rfl ?_
      refine GoQ.stable rfl (ldInt aj Hg Hh Try.underlying3 rfl rfl) rfl rfl ?_
      obtain ⟨Hi, H⟩ := H
      obtain ⟨Hj, H⟩ := H
      refine GoQ.pure rfl (J02 Try.underlying31 ti3 rfl rfl Hi Hj (Cd.some_ Hi Hj)) rfl rfl ?_
      refine GoQ.stable rfl (ldInt Cd Hi Hj Try.underlying3 rfl rfl) rfl rfl ?_
      obtain ⟨Hk, H⟩ := H
      obtain ⟨Hl, H⟩ := H
      refine GoQ.pure rfl (J02 Try.underlying31 ti3 rfl rfl Hk Hl (t2isome 0 hO rfl Du Dv Hk Hl)) rfl rfl ?_
      have zz := t2st (r := Rp.int .i64) (hf := (Fl.int .i64)) rfl 0 hO rfl Du Dv Hk Hl (v := .int .i64 (ix (ix r215.Right (ix (ix d_437 (k4_382 : Int)) (ix r215.Prefix (k5_436 : Int)))) (ix r215.Last (k5_436 : Int)))) (u := (ix (ix r215.Right (ix (ix d_437 (k4_382 : Int)) (ix r215.Prefix (k5_436 : Int)))) (ix r215.Last (k5_436 : Int)))) rfl rfl
      obtain ⟨Y1, nw, Li⟩ := zz
      dsimp only [sS, sZ] at nw
      refine GoQ.last rfl (Li Try.underlying3 rfl ti3 (by exact rfl) (by exact rfl)) rfl rfl ?_
      replace hO := nw.own
      refine GoQ.nil ?_
      refine Go1.inBlock ?_
      refine Go1.cut [(0, .pointer (some ⟨B21, 0, none⟩)), (2, .pointer (some ⟨B207, 0, none⟩)), (5, .pointer (some ⟨B223, 0, none⟩)), (7, .int .i64 (r215.Elems.length : Int)), (8, .pointer (some ⟨dO, 0, none⟩)), (10, .int .i64 (k4_382 : Int)), (12, .int .i64 (k5_436 : Int)), (86, .slice aw r215.Right.length ax), (87, .int .i64 (r215.Right.length : Int)), (88, .int .i64 (k4_382 : Int))] ⟨rfl, rfl, rfl, rfl, rfl, rfl, rfl, rfl, rfl, rfl, trivial⟩ ?_
      intro σ _
      refine zr (zm rfl ?_)
      replace ah := (ah.ch qi.ch).ch nw.ch
      refine zo (J0c rfl rfl (wrap_i64 (natbd Ds ah.bd))) (za rfl (zn ?_))
      replace aa := aa.ch nw.ch
      replace aj := aj.ch nw.ch
      replace af := af.ch nw.ch
      have Z30 := qi.ch.trans nw.ch
      replace dH := dH.ch Z30
      replace bG := bG.ch Z30
      replace ba := ba.ch Z30
      replace aB := aB.ch Z30
      replace bm := bm.ch Z30
      replace am := am.ch Z30
      replace ai := ai.ch Z30
      replace hB := (hB.trans qi.fr).trans nw.fr
      exact hX5 _ H _ _ ⟨⟨rfl, rfl, rfl, rfl, rfl, rfl, rfl, rfl, rfl, rfl, trivial⟩, hO, dH, bG, ba, aB, bm, am, ah, aa, aj, af, ai, hB⟩
     replace H := ifn Ds H
     refine zo (fun w => opB (J08 rfl rfl w) (decide_eq_false Ds)) (zn (zf rfl rfl ?_))
     refine Go1.exit rfl ?_
     refine Go1.inBlock ?_
     refine zr (zo (J0c rfl rfl (wrap_i64 (natbd Bs af.bd))) (zm rfl (zn ?_)))
     have oB := Stp.front 9 hO rfl
     dsimp only [eS, eZ] at oB
     replace hO := oB.own
     have oC := Stp.front 9 hO rfl
     dsimp only [eS, eZ] at oC
     replace hO := oC.own
     have oD := Stp.front 9 hO rfl
     dsimp only [eS, eZ] at oD
     replace hO := oD.own
     have iV := Stp.front 9 hO rfl
     dsimp only [eS, eZ] at iV
     replace hO := iV.own
     have oE := Stp.front 9 hO rfl
     dsimp only [eS, eZ] at oE
     replace hO := oE.own
     have oF := Stp.front 9 hO rfl
     dsimp only [eS, eZ] at oF
     replace hO := oF.own
     have fR := Stp.front 6 hO rfl
     dsimp only [eS, eZ] at fR
     replace hO := fR.own
     have oG := Stp.front 9 hO rfl
     dsimp only [eS, eZ] at oG
     replace hO := oG.own
     have oH := Stp.front 9 hO rfl
     dsimp only [eS, eZ] at oH
     replace hO := oH.own
     have oI := Stp.front 9 hO rfl
     dsimp only [eS, eZ] at oI
     replace hO := oI.own
     have Z31 := ((((((((oB.ch.trans oC.ch).trans oD.ch).trans iV.ch).trans oE.ch).trans oF.ch).trans fR.ch).trans oG.ch).trans oH.ch).trans oI.ch
     replace dH := dH.ch Z31
     replace bG := bG.ch Z31
     replace ba := ba.ch Z31
     replace aB := aB.ch Z31
     replace bm := bm.ch Z31
     replace am := am.ch Z31
     replace ah := ah.ch Z31
     replace aa := aa.ch Z31
     replace aj := aj.ch Z31
     replace af := af.ch Z31
     replace ai := ai.ch Z31
     replace hB := (((((((((hB.trans oB.fr).trans oC.fr).trans oD.fr).trans iV.fr).trans oE.fr).trans oF.fr).trans fR.fr).trans oG.fr).trans oH.fr).trans oI.fr
     exact hX4 _ H _ _ ⟨oc, hup eh (k4_382 : Int).toNat (uP, r215.Elems.length), ⟨rfl, rfl, rfl, rfl, rfl, rfl, rfl, rfl, trivial⟩, hO, dH, bG, ba, aB, bm, am, ah, aa, aj, af, ai, hB⟩
    replace H := ifn h400 H
    refine GoQ.stable rfl (fun w hw => opB ((oldBool 1 hO rfl de xX xY Try.underlying4 rfl rfl) w hw) (Bool.eq_false_iff.2 h400)) rfl rfl ?_
    refine GoQ.pure rfl (J03 rfl) rfl rfl ?_
    refine GoQ.pure rfl (J03 rfl) rfl rfl ?_
    replace g9 := g9.ch ow.ch
    refine GoQ.call rfl (J0a body102 rfl (walk_slices_Contains_int hO.lt g9 H)) (fun v w hr => by obtain ⟨_, _, hs, _⟩ := hr; assumption) rfl rfl ?_
    rintro Y2 Y3 ⟨r475, rfl, P7, H⟩
    have fS := Stp.same hO P7
    replace hO := fS.own
    refine GoQ.pure rfl (J05 rfl rfl rfl) rfl rfl ?_
    obtain ⟨Hm, H⟩ := H
    obtain ⟨Hn, H⟩ := H
    replace de := de.ch fS.ch
    refine GoQ.pure rfl (J02 Try.underlying22 ti4 rfl rfl Hm (ltn (de.neq hO 1 rfl) Hn) (de.psome hO 1 rfl Hm Hn)) rfl rfl ?_
    have zz := ost (r := Rp.bool) rfl 1 hO rfl de Hm Hn (v := .bool r475) (u := r475) rfl rfl
    obtain ⟨Y4, rB, oJ, f5, Lj⟩ := zz
    dsimp only [sS, sZ] at oJ f5
    refine GoQ.last rfl (Lj Try.underlying4 rfl ti4 (by exact rfl) (by exact rfl)) rfl rfl ?_
    replace hO := oJ.own
    refine GoQ.nil ?_
    refine zq ?_
    refine Go1.drawS 1 [(0, .pure), (1, .stable), (2, .pure), (3, .pure), (4, .loud), (5, .pure), (6, .last)] mixed (by kernel_rfl) ?_
    intro RU P8
    have oK := Stp.same hO P8
    replace hO := oK.own
    refine GoQ.pure rfl (J00 Try.underlying33 rfl ti23 rfl (by decide)) rfl rfl ?_
    refine GoQ.stable rfl (oblk (i := 1) 0 hO rfl rfl Try.underlying23 rfl rfl) rfl rfl ?_
    refine GoQ.pure rfl (J03 rfl) rfl rfl ?_
    refine GoQ.pure rfl (J03 rfl) rfl rfl ?_
    obtain ⟨SV, H⟩ := H
    obtain ⟨SW, H⟩ := H
    have zz := omake (n := (r215.Elems.length : Int)) (r := Rp.int .i64) (d := (0 : Int)) Try.underlying31 ti3 (fun _ _ => rfl) rfl hO SV SW (by decide)
    obtain ⟨JG, uq, UI, oL, AR, P9, Lk⟩ := zz
    refine GoQ.loud rfl (Lk rfl rfl) P9 rfl rfl ?_
    replace hO := oL.own
    obtain ⟨zV, H⟩ := H
    obtain ⟨Ho, H⟩ := H
    refine GoQ.pure rfl (J02 Try.underlying23 ti31 rfl rfl zV (ltn (t2neq 4 hO rfl) Ho) (t2some 4 hO rfl zV Ho)) rfl rfl ?_
    have mQ := Stp.front 4 hO rfl
    dsimp only [eS, eZ] at mQ
    replace hO := mQ.own
    have fK := Stp.front 1 hO rfl
    dsimp only [eS, eZ] at fK
    replace hO := fK.own
    replace AR := (AR.ch mQ.ch).ch fK.ch
    have zz := t2put (hf := (Fl.int .i64)) hO AR zV Ho
    obtain ⟨RW, oM, Ll⟩ := zz
    refine GoQ.last rfl (Ll Try.underlying31 rfl ti31 (by exact rfl) (by exact rfl)) rfl rfl ?_
    replace hO := oM.own
    refine GoQ.nil ?_
    refine zq (zr (zo (J00 Try.underlying33 rfl ti23 rfl (by decide)) (zs (oblk (i := 1) 1 hO rfl rfl Try.underlying23 rfl rfl) (zm rfl ?_))))
    obtain ⟨Dx, H⟩ := H
    obtain ⟨Dy, H⟩ := H
    refine zo (J02 Try.underlying23 ti31 rfl rfl Dx (ltn (t2neq 0 hO rfl) Dy) (t2some 0 hO rfl Dx Dy)) (zs (t2head 0 hO rfl Dx Dy Try.underlying31 rfl rfl) (zm rfl ?_))
    obtain ⟨Hp, H⟩ := H
    obtain ⟨Hq, H⟩ := H
    refine zo (J02 Try.underlying31 ti3 rfl rfl Hp Hq (t2isome 0 hO rfl Dx Dy Hp Hq)) ?_
    have zz := t2st (r := Rp.int .i64) (hf := (Fl.int .i64)) rfl 0 hO rfl Dx Dy Hp Hq (v := .int .i64 (k4_382 : Int)) (u := (k4_382 : Int)) rfl rfl
    obtain ⟨Y5, ny, Lm⟩ := zz
    dsimp only [sS, sZ] at ny
    refine zg (Lm Try.underlying3 rfl ti3 (by exact rfl) (by exact rfl)) ?_
    replace hO := ny.own
    refine zn (zq ?_)
    refine Go1.cut [(0, .pointer (some ⟨B21, 0, none⟩)), (2, .pointer (some ⟨B207, 0, none⟩)), (5, .pointer (some ⟨B223, 0, none⟩)), (7, .int .i64 (r215.Elems.length : Int)), (8, .pointer (some ⟨dO, 0, none⟩)), (10, .int .i64 (k4_382 : Int)), (86, .slice aw r215.Right.length ax), (87, .int .i64 (r215.Right.length : Int)), (88, .int .i64 (k4_382 : Int))] ⟨rfl, rfl, rfl, rfl, rfl, rfl, rfl, rfl, rfl, trivial⟩ ?_
    intro σ _
    refine zr (za rfl (zn (zb ?_)))
    have Z32 := ((((oK.ch.trans oL.ch).trans mQ.ch).trans fK.ch).trans oM.ch).trans ny.ch
    replace f5 := f5.ch Z32
    have Z33 := (((((((ow.ch.trans fS.ch).trans oJ.ch).trans oK.ch).trans oL.ch).trans mQ.ch).trans fK.ch).trans oM.ch).trans ny.ch
    replace bG := bG.ch Z33
    replace ba := ba.ch Z33
    replace aB := aB.ch Z33
    replace bm := bm.ch Z33
    replace am := am.ch Z33
    replace ah := ah.ch Z33
    replace aa := aa.ch Z33
    replace aj := aj.ch Z33
    replace af := af.ch Z33
    replace ai := ai.ch Z33
    replace hB := ((((((((hB.trans ow.fr).trans fS.fr).trans oJ.fr).trans oK.fr).trans oL.fr).trans mQ.fr).trans fK.fr).trans oM.fr).trans ny.fr
    refine Go1.loopW (S := Nat × List (List Int)) (fun s σ w => match s with | (k6_516, d_517) => agrees σ [(0, .pointer (some ⟨B21, 0, none⟩)), (2, .pointer (some ⟨B207, 0, none⟩)), (5, .pointer (some ⟨B223, 0, none⟩)), (7, .int .i64 (r215.Elems.length : Int)), (8, .pointer (some ⟨dO, 0, none⟩)), (10, .int .i64 (k4_382 : Int)), (12, .int .i64 (k6_516 : Int)), (86, .slice aw r215.Right.length ax), (87, .int .i64 (r215.Right.length : Int)), (88, .int .i64 (k4_382 : Int))] ∧ (fun Z0 => Owns w0.heap.size w Z0 A ∧ Els (Rp.bool) (bl Z0 ++ A) w rB (st d_383 (0 : Int) r475) ∧ Els (Rp.str) (bl Z0 ++ A) w du d_343 ∧ Els (Rp.int .i64) (bl Z0 ++ A) w cb r262 ∧ Els (rppart) (bl Z0 ++ A) w dh ((([] : List part)) ++ ([(⟨((0 : Int) + r26.Start), r26.Final, (0 : Int)⟩ : part)])) ∧ ISl (Rp.sl (Rp.int .i64)) (bl Z0 ++ A) w p45 r26.Letters.toNat d_60 ∧ ISl (Rp.sl (Rp.int .i64)) (bl Z0 ++ A) w aQ aR r215.Gens ∧ ISl (Rp.sl (Rp.int .i64)) (bl Z0 ++ A) w aC aD r215.Elems ∧ ISl (Rp.int .i64) (bl Z0 ++ A) w ay az r215.Prefix ∧ ISl (Rp.int .i64) (bl Z0 ++ A) w aS aT r215.Last ∧ ISl (Rp.sl (Rp.int .i64)) (bl Z0 ++ A) w aw ax r215.Right ∧ ISl (rpRule) (bl Z0 ++ A) w aI aJ r215.Rules ∧ Fr (bl []) w0 (bl Z0) w) [t2 (Fl.int .i64) 31 3 (some ⟨bH, 0, none⟩) r215.Elems.length r215.Elems.length (hup eh (k4_382 : Int).toNat (uq, r215.Elems.length)) d_517, .blk dO (.cells #[.int .i64 (d_60.length : Int), .slice (some ⟨bH, 0, none⟩) r215.Elems.length r215.Elems.length, .slice (some ⟨bN, 0, none⟩) r215.Elems.length r215.Elems.length, .slice aK aM aL, .slice none 0 0, .slice (some ⟨bT, 0, none⟩) r215.Elems.length r215.Elems.length] 33 (0, 0)), .row 4 1 (some ⟨bT, 0, none⟩) r215.Elems.length r215.Elems.length rB, .row 9 1 (some ⟨bN, 0, none⟩) r215.Elems.length r215.Elems.length du, .row 3 1 aK aM aL cb, .blk B223 (.cells #[.int .i64 r215.Points, .bool r215.Monoid, .slice aQ r215.Gens.length aR, .slice aC r215.Elems.length aD, .slice ay r215.Prefix.length az, .slice aS r215.Last.length aT, .slice aw r215.Right.length ax, .slice aI r215.Rules.length aJ, .int .i64 r215.Done] 123 (0, 0)), .blk B207 (.cells #[.int .i64 0, .slice none 0 0, .slice none 0 0, .slice none 0 0, .slice none 0 0, .slice none 0 0] 33 (0, 0)), .row 120 3 cA (0 + 1) cB dh, .blk B21 (.cells #[.slice p45 r26.Letters.toNat r26.Letters.toNat, .slice cA (0 + 1) cB, .int .i64 ((0 : Int) + (r26.Final.length : Int))] 83 (0, 0)), .blk B8 (.cells #[.int .i64 0, .slice none 0 0, .slice none 0 0, .slice none 0 0, .slice none 0 0, .slice none 0 0] 33 (0, 0))]) H ⟨⟨rfl, rfl, rfl, rfl, rfl, rfl, rfl, rfl, rfl, rfl, trivial⟩, hO, f5, bG, ba, aB, bm, am, ah, aa, aj, af, ai, hB⟩ ?_
    intro X6
    refine prE fun k6_516 => fun d_517 => ?_
    intro H hX6 σ Y6
    refine andE fun hag => andE fun hO => andE fun f5 => andE fun bG => andE fun ba => andE fun aB => andE fun bm => andE fun am => andE fun ah => andE fun aa => andE fun aj => andE fun af => andE fun ai => fun hB => ?_
    dsimp only at H
    refine Go1.keep [(0, .pointer (some ⟨B21, 0, none⟩)), (2, .pointer (some ⟨B207, 0, none⟩)), (5, .pointer (some ⟨B223, 0, none⟩)), (7, .int .i64 (r215.Elems.length : Int)), (8, .pointer (some ⟨dO, 0, none⟩)), (10, .int .i64 (k4_382 : Int)), (12, .int .i64 (k6_516 : Int)), (86, .slice aw r215.Right.length ax), (87, .int .i64 (r215.Right.length : Int)), (88, .int .i64 (k4_382 : Int))] hag ?_
    refine zq (zq (zr (zm rfl (zm rfl ?_))))
    by_cases Dz : (k6_516 : Int) < (r215.Elems.length : Int)
    ·replace H := ifp Dz H
     refine zo (fun w => opB (J08 rfl rfl w) (decide_eq_true Dz)) (zn (zt rfl rfl (zk (zq (zb ?_)))))
     refine Go1.drawS 1 [(0, .pure), (1, .stable), (2, .pure), (3, .pure), (4, .stable), (5, .pure), (6, .pure), (7, .stable), (8, .pure), (9, .stable), (10, .pure), (11, .pure), (12, .stable), (13, .pure), (14, .stable), (15, .pure), (16, .pure), (17, .stable), (18, .pure), (19, .stable), (20, .pure), (21, .stable), (22, .pure), (23, .stable), (24, .pure), (25, .pure), (26, .stable), (27, .pure), (28, .stable), (29, .pure), (30, .last)] mixed (by kernel_rfl) ?_
     intro Y7 H3
     have qj := Stp.same hO H3
     replace hO := qj.own
     refine GoQ.pure rfl (J00 Try.underlying33 rfl ti23 rfl (by decide)) rfl rfl ?_
     refine GoQ.stable rfl (oblk (i := 1) 1 hO rfl rfl Try.underlying23 rfl rfl) rfl rfl ?_
     refine GoQ.pure rfl (J03 rfl) rfl rfl ?_
     obtain ⟨DA, H⟩ := H
     obtain ⟨DB, H⟩ := H
     refine GoQ.pure rfl (J02 Try.underlying23 ti31 rfl rfl DA (ltn (t2neq 0 hO rfl) DB) (t2some 0 hO rfl DA DB)) rfl rfl ?_
     refine GoQ.stable rfl (t2head 0 hO rfl DA DB Try.underlying31 rfl rfl) rfl rfl ?_
     refine GoQ.pure rfl (J03 rfl) rfl rfl ?_
     refine GoQ.pure rfl (J00 Try.underlying123 rfl ti23 rfl (by decide)) rfl rfl ?_
     refine GoQ.stable rfl (oblk (i := 6) 5 hO rfl rfl Try.underlying23 rfl rfl) rfl rfl ?_
     refine GoQ.pure rfl (J00 Try.underlying33 rfl ti23 rfl (by decide)) rfl rfl ?_
     refine GoQ.stable rfl (oblk (i := 1) 1 hO rfl rfl Try.underlying23 rfl rfl) rfl rfl ?_
     refine GoQ.pure rfl (J03 rfl) rfl rfl ?_
     obtain ⟨DD, H⟩ := H
     obtain ⟨DE, H⟩ := H
     refine GoQ.pure rfl (J02 Try.underlying23 ti31 rfl rfl DD (ltn (t2neq 0 hO rfl) DE) (t2some 0 hO rfl DD DE)) rfl rfl ?_
     refine GoQ.stable rfl (t2head 0 hO rfl DD DE Try.underlying31 rfl rfl) rfl rfl ?_
     refine GoQ.pure rfl (J00 Try.underlying123 rfl ti31 rfl (by decide)) rfl rfl ?_
     refine GoQ.stable rfl (oblk (i := 4) 5 hO rfl rfl Try.underlying31 rfl rfl) rfl rfl ?_
     refine GoQ.pure rfl (J03 rfl) rfl rfl ?_
     obtain ⟨Hr, H⟩ := H
     obtain ⟨Hs, H⟩ := H
     replace aa := aa.ch qj.ch
     refine GoQ.pure rfl (J02 Try.underlying31 ti3 rfl rfl Hr Hs (aa.some_ Hr Hs)) rfl rfl ?_
     refine GoQ.stable rfl (ldInt aa Hr Hs Try.underlying3 rfl rfl) rfl rfl ?_
     obtain ⟨Ht, H⟩ := H
     obtain ⟨C2, H⟩ := H
     refine GoQ.pure rfl (J02 Try.underlying31 ti3 rfl rfl Ht C2 (t2isome 0 hO rfl DD DE Ht C2)) rfl rfl ?_
     refine GoQ.stable rfl (t2Int 0 hO rfl DD DE Ht C2 Try.underlying3 rfl rfl) rfl rfl ?_
     obtain ⟨Hu, H⟩ := H
     obtain ⟨Hv, H⟩ := H
     replace af := af.ch qj.ch
     refine GoQ.pure rfl (J02 Try.underlying23 ti31 rfl rfl Hu Hv (af.some_ Hu Hv)) rfl rfl ?_
     have zz := ldSl af Hu Hv
     obtain ⟨Y8, Y9, Ce, Qa⟩ := zz
     refine GoQ.stable rfl (Qa Try.underlying31 rfl rfl) rfl rfl ?_
     refine GoQ.pure rfl (J00 Try.underlying123 rfl ti31 rfl (by decide)) rfl rfl ?_
     refine GoQ.stable rfl (oblk (i := 5) 5 hO rfl rfl Try.underlying31 rfl rfl) rfl rfl ?_
     refine GoQ.pure rfl (J03 rfl) rfl rfl ?_
     obtain ⟨Hw, H⟩ := H
     obtain ⟨Hx, H⟩ := H
     replace aj := aj.ch qj.ch
     refine GoQ.pure rfl (J02 Try.underlying31 ti3 rfl rfl Hw Hx (aj.some_ Hw Hx)) rfl rfl ?_
     refine GoQ.stable rfl (ldInt aj Hw Hx Try.underlying3 rfl rfl) rfl rfl ?_
     obtain ⟨Hy, H⟩ := H
     obtain ⟨Hz, H⟩ := H
     refine GoQ.pure rfl (J02 Try.underlying31 ti3 rfl rfl Hy Hz (Ce.some_ Hy Hz)) rfl rfl ?_
     refine GoQ.stable rfl (ldInt Ce Hy Hz Try.underlying3 rfl rfl) rfl rfl ?_
     obtain ⟨HA, H⟩ := H
     obtain ⟨HB, H⟩ := H
     refine GoQ.pure rfl (J02 Try.underlying31 ti3 rfl rfl HA HB (t2isome 0 hO rfl DA DB HA HB)) rfl rfl ?_
     have zz := t2st (r := Rp.int .i64) (hf := (Fl.int .i64)) rfl 0 hO rfl DA DB HA HB (v := .int .i64 (ix (ix r215.Right (ix (ix d_517 (k4_382 : Int)) (ix r215.Prefix (k6_516 : Int)))) (ix r215.Last (k6_516 : Int)))) (u := (ix (ix r215.Right (ix (ix d_517 (k4_382 : Int)) (ix r215.Prefix (k6_516 : Int)))) (ix r215.Last (k6_516 : Int)))) rfl rfl
     obtain ⟨aaa, nA, Ln⟩ := zz
     dsimp only [sS, sZ] at nA
     refine GoQ.last rfl (Ln Try.underlying3 rfl ti3 (by exact rfl) (by exact rfl)) rfl rfl ?_
     replace hO := nA.own
     refine GoQ.nil ?_
     refine Go1.inBlock ?_
     refine Go1.cut [(0, .pointer (some ⟨B21, 0, none⟩)), (2, .pointer (some ⟨B207, 0, none⟩)), (5, .pointer (some ⟨B223, 0, none⟩)), (7, .int .i64 (r215.Elems.length : Int)), (8, .pointer (some ⟨dO, 0, none⟩)), (10, .int .i64 (k4_382 : Int)), (12, .int .i64 (k6_516 : Int)), (86, .slice aw r215.Right.length ax), (87, .int .i64 (r215.Right.length : Int)), (88, .int .i64 (k4_382 : Int))] ⟨rfl, rfl, rfl, rfl, rfl, rfl, rfl, rfl, rfl, rfl, trivial⟩ ?_
     intro σ _
     refine zr (zm rfl ?_)
     replace ah := (ah.ch qj.ch).ch nA.ch
     refine zo (J0c rfl rfl (wrap_i64 (natbd Dz ah.bd))) (za rfl (zn ?_))
     replace aa := aa.ch nA.ch
     replace aj := aj.ch nA.ch
     replace af := af.ch nA.ch
     have Z34 := qj.ch.trans nA.ch
     replace f5 := f5.ch Z34
     replace bG := bG.ch Z34
     replace ba := ba.ch Z34
     replace aB := aB.ch Z34
     replace bm := bm.ch Z34
     replace am := am.ch Z34
     replace ai := ai.ch Z34
     replace hB := (hB.trans qj.fr).trans nA.fr
     exact hX6 _ H _ _ ⟨⟨rfl, rfl, rfl, rfl, rfl, rfl, rfl, rfl, rfl, rfl, trivial⟩, hO, f5, bG, ba, aB, bm, am, ah, aa, aj, af, ai, hB⟩
    replace H := ifn Dz H
    refine zo (fun w => opB (J08 rfl rfl w) (decide_eq_false Dz)) (zn (zf rfl rfl ?_))
    refine Go1.exit rfl ?_
    refine Go1.inBlock ?_
    refine zr (zo (J0c rfl rfl (wrap_i64 (natbd Bs af.bd))) (zm rfl (zn ?_)))
    have gw := Stp.front 9 hO rfl
    dsimp only [eS, eZ] at gw
    replace hO := gw.own
    have oN := Stp.front 9 hO rfl
    dsimp only [eS, eZ] at oN
    replace hO := oN.own
    have oO := Stp.front 9 hO rfl
    dsimp only [eS, eZ] at oO
    replace hO := oO.own
    have oP := Stp.front 9 hO rfl
    dsimp only [eS, eZ] at oP
    replace hO := oP.own
    have oQ := Stp.front 9 hO rfl
    dsimp only [eS, eZ] at oQ
    replace hO := oQ.own
    have oR := Stp.front 9 hO rfl
    dsimp only [eS, eZ] at oR
    replace hO := oR.own
    have oS := Stp.front 6 hO rfl
    dsimp only [eS, eZ] at oS
    replace hO := oS.own
    have oT := Stp.front 9 hO rfl
    dsimp only [eS, eZ] at oT
    replace hO := oT.own
    have oU := Stp.front 9 hO rfl
    dsimp only [eS, eZ] at oU
    replace hO := oU.own
    have oV := Stp.front 9 hO rfl
    dsimp only [eS, eZ] at oV
    replace hO := oV.own
    have Z35 := ((((((((gw.ch.trans oN.ch).trans oO.ch).trans oP.ch).trans oQ.ch).trans oR.ch).trans oS.ch).trans oT.ch).trans oU.ch).trans oV.ch
    replace f5 := f5.ch Z35
    replace bG := bG.ch Z35
    replace ba := ba.ch Z35
    replace aB := aB.ch Z35
    replace bm := bm.ch Z35
    replace am := am.ch Z35
    replace ah := ah.ch Z35
    replace aa := aa.ch Z35
    replace aj := aj.ch Z35
    replace af := af.ch Z35
    replace ai := ai.ch Z35
    replace hB := (((((((((hB.trans gw.fr).trans oN.fr).trans oO.fr).trans oP.fr).trans oQ.fr).trans oR.fr).trans oS.fr).trans oT.fr).trans oU.fr).trans oV.fr
    exact hX4 _ H _ _ ⟨rB, hup eh (k4_382 : Int).toNat (uq, r215.Elems.length), ⟨rfl, rfl, rfl, rfl, rfl, rfl, rfl, rfl, trivial⟩, hO, f5, bG, ba, aB, bm, am, ah, aa, aj, af, ai, hB⟩
   replace H := ifn Bs H
   refine zo (fun w => opB (J08 rfl rfl w) (decide_eq_false Bs)) (zn (zq (zf rfl rfl ?_)))
   refine Go1.exit rfl ?_
   refine zq (zr (zm rfl (zo (J01 rfl) (zo (J00 Try.underlying83 rfl ti81 rfl (by decide)) (zs (oblk (i := 1) 8 hO rfl rfl Try.underlying81 rfl rfl) ?_)))))
   refine zo (J0w Try.underlying81 rfl (aB.neq hO 7 rfl)) ?_
   obtain ⟨SX, H⟩ := H
   obtain ⟨SY, H⟩ := H
   have zz := t2makeS (m := (((([] : List part)) ++ ([(⟨((0 : Int) + r26.Start), r26.Final, (0 : Int)⟩ : part)])).length : Int)) (e' := 4) Fl.bool Try.underlying40 ti22 hO SX SY (by decide)
   obtain ⟨aab, jR, qk, UJ, Lo, hz565⟩ := zz
   refine zg (Lo rfl rfl) ?_
   replace hO := qk.own
   refine za rfl (zn (zq (zq (zr (zm rfl ?_)))))
   refine zo (J01 rfl) (zo (J00 Try.underlying83 rfl ti81 rfl (by decide)) (zs (oblk (i := 1) 9 hO rfl rfl Try.underlying81 rfl rfl) ?_))
   replace aB := aB.ch qk.ch
   refine zo (J0w Try.underlying81 rfl (aB.neq hO 8 rfl)) (zm rfl (zn (zb ?_)))
   replace hO := hO.drop 9
   replace aB := aB.ch (Owns.J04 _ _ 9)
   have Z36 := qk.ch.trans (Owns.J04 _ _ 9)
   replace de := de.ch Z36
   replace bG := bG.ch Z36
   replace ba := ba.ch Z36
   replace bm := bm.ch Z36
   replace am := am.ch Z36
   replace ah := ah.ch Z36
   replace aa := aa.ch Z36
   replace aj := aj.ch Z36
   replace af := af.ch Z36
   replace ai := ai.ch Z36
   replace hB := (hB.trans qk.fr).trans (Owns.J09 _ _ 9)
   dsimp only [eS, eZ] at hB hO bm am ah aa aj af ai de bG ba aB
   refine Go1.loopW (S := Nat × List (List Bool)) (fun s σ w => match s with | (k7_567, d_568) => ∃ (f6 : Hd), agrees σ [(2, .pointer (some ⟨B207, 0, none⟩)), (5, .pointer (some ⟨B223, 0, none⟩)), (7, .int .i64 (r215.Elems.length : Int)), (8, .pointer (some ⟨dO, 0, none⟩)), (13, .slice jR (((([] : List part)) ++ ([(⟨((0 : Int) + r26.Start), r26.Final, (0 : Int)⟩ : part)])).length) (((([] : List part)) ++ ([(⟨((0 : Int) + r26.Start), r26.Final, (0 : Int)⟩ : part)])).length)), (162, .slice cA (0 + 1) cB), (163, .int .i64 (((([] : List part)) ++ ([(⟨((0 : Int) + r26.Start), r26.Final, (0 : Int)⟩ : part)])).length : Int)), (164, .int .i64 (k7_567 : Int))] ∧ (fun Z0 => Owns w0.heap.size w Z0 A ∧ Els (Rp.bool) (bl Z0 ++ A) w fU d_383 ∧ Els (Rp.str) (bl Z0 ++ A) w du d_343 ∧ Els (Rp.int .i64) (bl Z0 ++ A) w cb r262 ∧ Els (rppart) (bl Z0 ++ A) w dh ((([] : List part)) ++ ([(⟨((0 : Int) + r26.Start), r26.Final, (0 : Int)⟩ : part)])) ∧ ISl (Rp.sl (Rp.int .i64)) (bl Z0 ++ A) w aQ aR r215.Gens ∧ ISl (Rp.sl (Rp.int .i64)) (bl Z0 ++ A) w aC aD r215.Elems ∧ ISl (Rp.int .i64) (bl Z0 ++ A) w ay az r215.Prefix ∧ ISl (Rp.int .i64) (bl Z0 ++ A) w aS aT r215.Last ∧ ISl (Rp.sl (Rp.int .i64)) (bl Z0 ++ A) w aw ax r215.Right ∧ ISl (rpRule) (bl Z0 ++ A) w aI aJ r215.Rules ∧ Fr (bl []) w0 (bl Z0) w) [t2 Fl.bool 22 4 jR (((([] : List part)) ++ ([(⟨((0 : Int) + r26.Start), r26.Final, (0 : Int)⟩ : part)])).length) (((([] : List part)) ++ ([(⟨((0 : Int) + r26.Start), r26.Final, (0 : Int)⟩ : part)])).length) f6 d_568, .blk dO (.cells #[.int .i64 (d_60.length : Int), .slice (some ⟨bH, 0, none⟩) r215.Elems.length r215.Elems.length, .slice (some ⟨bN, 0, none⟩) r215.Elems.length r215.Elems.length, .slice aK aM aL, .slice none 0 0, .slice (some ⟨bT, 0, none⟩) r215.Elems.length r215.Elems.length] 33 (0, 0)), .row 4 1 (some ⟨bT, 0, none⟩) r215.Elems.length r215.Elems.length fU, .row 9 1 (some ⟨bN, 0, none⟩) r215.Elems.length r215.Elems.length du, t2 (Fl.int .i64) 31 3 (some ⟨bH, 0, none⟩) r215.Elems.length r215.Elems.length eh d_386, .row 3 1 aK aM aL cb, .blk B223 (.cells #[.int .i64 r215.Points, .bool r215.Monoid, .slice aQ r215.Gens.length aR, .slice aC r215.Elems.length aD, .slice ay r215.Prefix.length az, .slice aS r215.Last.length aT, .slice aw r215.Right.length ax, .slice aI r215.Rules.length aJ, .int .i64 r215.Done] 123 (0, 0)), .blk B207 (.cells #[.int .i64 0, .slice none 0 0, .slice none 0 0, .slice none 0 0, .slice none 0 0, .slice none 0 0] 33 (0, 0)), .row 120 3 cA (0 + 1) cB dh, .blk B8 (.cells #[.int .i64 0, .slice none 0 0, .slice none 0 0, .slice none 0 0, .slice none 0 0, .slice none 0 0] 33 (0, 0))]) H ⟨(fun _ => (none, 0)), ⟨rfl, rfl, rfl, rfl, rfl, rfl, rfl, rfl, trivial⟩, hO, de, bG, ba, aB, am, ah, aa, aj, af, ai, hB⟩ ?_
   intro X7
   refine prE fun k7_567 => fun d_568 => ?_
   intro H hX7 σ aac
   refine exE fun f6 => andE fun hag => andE fun hO => andE fun de => andE fun bG => andE fun ba => andE fun aB => andE fun am => andE fun ah => andE fun aa => andE fun aj => andE fun af => andE fun ai => fun hB => ?_
   dsimp only at H
   refine Go1.keep [(2, .pointer (some ⟨B207, 0, none⟩)), (5, .pointer (some ⟨B223, 0, none⟩)), (7, .int .i64 (r215.Elems.length : Int)), (8, .pointer (some ⟨dO, 0, none⟩)), (13, .slice jR (((([] : List part)) ++ ([(⟨((0 : Int) + r26.Start), r26.Final, (0 : Int)⟩ : part)])).length) (((([] : List part)) ++ ([(⟨((0 : Int) + r26.Start), r26.Final, (0 : Int)⟩ : part)])).length)), (162, .slice cA (0 + 1) cB), (163, .int .i64 (((([] : List part)) ++ ([(⟨((0 : Int) + r26.Start), r26.Final, (0 : Int)⟩ : part)])).length : Int)), (164, .int .i64 (k7_567 : Int))] hag ?_
   refine zq (zr ?_)
   by_cases DF : (k7_567 : Int) < (((([] : List part)) ++ ([(⟨((0 : Int) + r26.Start), r26.Final, (0 : Int)⟩ : part)])).length : Int)
   ·replace H := ifp DF H
    refine zo (fun w => opB (J08 rfl rfl w) (decide_eq_true DF)) (zn (zq (zt rfl rfl (zk (zq ?_)))))
    refine zb (zq (zr (zm rfl ?_)))
    obtain ⟨HC, H⟩ := H
    obtain ⟨HD, H⟩ := H
    refine zo (J02 Try.underlying81 ti120 rfl rfl HC (ltn (aB.neq hO 8 rfl) HD) (aB.psome hO 8 rfl HC HD)) ?_
    have Qb := oldAggR 8 hO rfl (r := rppart) aB HC HD
    obtain ⟨UK, Qc, hR576, Lp⟩ := Qb
    replace hR576 := rppart_inv Qc hR576
    obtain ⟨tu, tv, hcs578, jL⟩ := hR576
    subst hcs578
    refine zs (Lp Try.underlying120 rfl ti120 rfl) ?_
    have zz := oalloc (t := 120) (cs := #[.int .i64 0, .slice none 0 0, .int .i64 0]) ti120 hO rfl
    obtain ⟨aad, B583, ql, UL, Lr⟩ := zz
    refine GoR.op Lr rfl rfl ?_
    replace hO := ql.own
    refine za rfl ?_
    have zz := J0b (us := [.int .i64 ((ix ((([] : List part)) ++ ([(⟨((0 : Int) + r26.Start), r26.Final, (0 : Int)⟩ : part)])) (k7_567 : Int)).start), .slice tu (((ix ((([] : List part)) ++ ([(⟨((0 : Int) + r26.Start), r26.Final, (0 : Int)⟩ : part)])) (k7_567 : Int)).final).length) tv, .int .i64 ((ix ((([] : List part)) ++ ([(⟨((0 : Int) + r26.Start), r26.Final, (0 : Int)⟩ : part)])) (k7_567 : Int)).shift)]) (o := 0) (cs' := #[.int .i64 ((ix ((([] : List part)) ++ ([(⟨((0 : Int) + r26.Start), r26.Final, (0 : Int)⟩ : part)])) (k7_567 : Int)).start), .slice tu (((ix ((([] : List part)) ++ ([(⟨((0 : Int) + r26.Start), r26.Final, (0 : Int)⟩ : part)])) (k7_567 : Int)).final).length) tv, .int .i64 ((ix ((([] : List part)) ++ ([(⟨((0 : Int) + r26.Start), r26.Final, (0 : Int)⟩ : part)])) (k7_567 : Int)).shift)]) 0 hO rfl rfl (Nat.le_of_ble_eq_true rfl) rfl
    obtain ⟨aae, oW, Lt⟩ := zz
    dsimp only [sS, sZ] at oW
    refine zg (Lt ti120 (by exact rfl) (by exact rfl) rfl) ?_
    replace hO := oW.own
    refine zn (zq (zr (zm rfl (zm rfl (zm rfl ?_)))))
    obtain ⟨S0, H⟩ := H
    obtain ⟨Ge, H⟩ := H
    have zz := omake (n := (r215.Elems.length : Int)) (r := Rp.bool) (d := false) Try.underlying22 ti4 (fun _ _ => rfl) rfl hO S0 Ge (by decide)
    obtain ⟨aaf, uQ, UM, qm, AT, UN, Lu⟩ := zz
    refine zg (Lu rfl rfl) ?_
    replace hO := qm.own
    obtain ⟨C3, H⟩ := H
    obtain ⟨HE, H⟩ := H
    refine zo (J02 Try.underlying40 ti22 rfl rfl C3 (ltn (t2neq 2 hO rfl) HE) (t2some 2 hO rfl C3 HE)) ?_
    have nB := Stp.front 2 hO rfl
    dsimp only [eS, eZ] at nB
    replace hO := nB.own
    have ic := Stp.front 1 hO rfl
    dsimp only [eS, eZ] at ic
    replace hO := ic.own
    replace AT := (AT.ch nB.ch).ch ic.ch
    have zz := t2put (hf := Fl.bool) hO AT C3 HE
    obtain ⟨aag, qn, Lv⟩ := zz
    refine zg (Lv Try.underlying22 rfl ti22 (by exact rfl) (by exact rfl)) ?_
    replace hO := qn.own
    refine zn (zq (zr (zo (J00 Try.underlying123 rfl ti23 rfl (by decide)) (zs (oblk (i := 3) 7 hO rfl rfl Try.underlying23 rfl rfl) (zo (J0d Try.underlying23 rfl) ?_)))))
    refine zm rfl (zn (zb ?_))
    have Z37 := ((((ql.ch.trans oW.ch).trans qm.ch).trans nB.ch).trans ic.ch).trans qn.ch
    replace de := de.ch Z37
    replace bG := bG.ch Z37
    replace ba := ba.ch Z37
    replace aB := aB.ch Z37
    replace am := am.ch Z37
    replace ah := ah.ch Z37
    replace aa := aa.ch Z37
    replace aj := aj.ch Z37
    replace af := af.ch Z37
    replace ai := ai.ch Z37
    replace jL := jL.ch Z37
    replace hB := (((((hB.trans ql.fr).trans oW.fr).trans qm.fr).trans nB.fr).trans ic.fr).trans qn.fr
    refine Go1.loopW (S := Nat × List (List Bool)) (fun s σ w => match s with | (k8_609, d_610) => agrees σ [(2, .pointer (some ⟨B207, 0, none⟩)), (5, .pointer (some ⟨B223, 0, none⟩)), (7, .int .i64 (r215.Elems.length : Int)), (8, .pointer (some ⟨dO, 0, none⟩)), (13, .slice jR (((([] : List part)) ++ ([(⟨((0 : Int) + r26.Start), r26.Final, (0 : Int)⟩ : part)])).length) (((([] : List part)) ++ ([(⟨((0 : Int) + r26.Start), r26.Final, (0 : Int)⟩ : part)])).length)), (14, .int .i64 (k7_567 : Int)), (15, .pointer (some ⟨B583, 0, none⟩)), (162, .slice cA (0 + 1) cB), (163, .int .i64 (((([] : List part)) ++ ([(⟨((0 : Int) + r26.Start), r26.Final, (0 : Int)⟩ : part)])).length : Int)), (164, .int .i64 (k7_567 : Int)), (175, .slice aC r215.Elems.length aD), (176, .int .i64 (r215.Elems.length : Int)), (177, .int .i64 (k8_609 : Int))] ∧ (fun Z0 => Owns w0.heap.size w Z0 A ∧ Els (Rp.bool) (bl Z0 ++ A) w fU d_383 ∧ Els (Rp.str) (bl Z0 ++ A) w du d_343 ∧ Els (Rp.int .i64) (bl Z0 ++ A) w cb r262 ∧ Els (rppart) (bl Z0 ++ A) w dh ((([] : List part)) ++ ([(⟨((0 : Int) + r26.Start), r26.Final, (0 : Int)⟩ : part)])) ∧ ISl (Rp.sl (Rp.int .i64)) (bl Z0 ++ A) w aQ aR r215.Gens ∧ ISl (Rp.sl (Rp.int .i64)) (bl Z0 ++ A) w aC aD r215.Elems ∧ ISl (Rp.int .i64) (bl Z0 ++ A) w ay az r215.Prefix ∧ ISl (Rp.int .i64) (bl Z0 ++ A) w aS aT r215.Last ∧ ISl (Rp.sl (Rp.int .i64)) (bl Z0 ++ A) w aw ax r215.Right ∧ ISl (rpRule) (bl Z0 ++ A) w aI aJ r215.Rules ∧ ISl (Rp.bool) (bl Z0 ++ A) w tu tv ((ix ((([] : List part)) ++ ([(⟨((0 : Int) + r26.Start), r26.Final, (0 : Int)⟩ : part)])) (k7_567 : Int)).final) ∧ Fr (bl []) w0 (bl Z0) w) [t2 Fl.bool 22 4 jR (((([] : List part)) ++ ([(⟨((0 : Int) + r26.Start), r26.Final, (0 : Int)⟩ : part)])).length) (((([] : List part)) ++ ([(⟨((0 : Int) + r26.Start), r26.Final, (0 : Int)⟩ : part)])).length) (hup f6 (k7_567 : Int).toNat (uQ, r215.Elems.length)) d_610, .blk B583 (.cells #[.int .i64 ((ix ((([] : List part)) ++ ([(⟨((0 : Int) + r26.Start), r26.Final, (0 : Int)⟩ : part)])) (k7_567 : Int)).start), .slice tu (((ix ((([] : List part)) ++ ([(⟨((0 : Int) + r26.Start), r26.Final, (0 : Int)⟩ : part)])) (k7_567 : Int)).final).length) tv, .int .i64 ((ix ((([] : List part)) ++ ([(⟨((0 : Int) + r26.Start), r26.Final, (0 : Int)⟩ : part)])) (k7_567 : Int)).shift)] 120 (0, 0)), .blk dO (.cells #[.int .i64 (d_60.length : Int), .slice (some ⟨bH, 0, none⟩) r215.Elems.length r215.Elems.length, .slice (some ⟨bN, 0, none⟩) r215.Elems.length r215.Elems.length, .slice aK aM aL, .slice none 0 0, .slice (some ⟨bT, 0, none⟩) r215.Elems.length r215.Elems.length] 33 (0, 0)), .row 4 1 (some ⟨bT, 0, none⟩) r215.Elems.length r215.Elems.length fU, .row 9 1 (some ⟨bN, 0, none⟩) r215.Elems.length r215.Elems.length du, t2 (Fl.int .i64) 31 3 (some ⟨bH, 0, none⟩) r215.Elems.length r215.Elems.length eh d_386, .row 3 1 aK aM aL cb, .blk B223 (.cells #[.int .i64 r215.Points, .bool r215.Monoid, .slice aQ r215.Gens.length aR, .slice aC r215.Elems.length aD, .slice ay r215.Prefix.length az, .slice aS r215.Last.length aT, .slice aw r215.Right.length ax, .slice aI r215.Rules.length aJ, .int .i64 r215.Done] 123 (0, 0)), .blk B207 (.cells #[.int .i64 0, .slice none 0 0, .slice none 0 0, .slice none 0 0, .slice none 0 0, .slice none 0 0] 33 (0, 0)), .row 120 3 cA (0 + 1) cB dh, .blk B8 (.cells #[.int .i64 0, .slice none 0 0, .slice none 0 0, .slice none 0 0, .slice none 0 0, .slice none 0 0] 33 (0, 0))]) H ⟨⟨rfl, rfl, rfl, rfl, rfl, rfl, rfl, rfl, rfl, rfl, rfl, rfl, rfl, trivial⟩, hO, de, bG, ba, aB, am, ah, aa, aj, af, ai, jL, hB⟩ ?_
    intro X8
    refine prE fun k8_609 => fun d_610 => ?_
    intro H hX8 σ aah
    refine andE fun hag => andE fun hO => andE fun de => andE fun bG => andE fun ba => andE fun aB => andE fun am => andE fun ah => andE fun aa => andE fun aj => andE fun af => andE fun ai => andE fun jL => fun hB => ?_
    dsimp only at H
    refine Go1.keep [(2, .pointer (some ⟨B207, 0, none⟩)), (5, .pointer (some ⟨B223, 0, none⟩)), (7, .int .i64 (r215.Elems.length : Int)), (8, .pointer (some ⟨dO, 0, none⟩)), (13, .slice jR (((([] : List part)) ++ ([(⟨((0 : Int) + r26.Start), r26.Final, (0 : Int)⟩ : part)])).length) (((([] : List part)) ++ ([(⟨((0 : Int) + r26.Start), r26.Final, (0 : Int)⟩ : part)])).length)), (14, .int .i64 (k7_567 : Int)), (15, .pointer (some ⟨B583, 0, none⟩)), (162, .slice cA (0 + 1) cB), (163, .int .i64 (((([] : List part)) ++ ([(⟨((0 : Int) + r26.Start), r26.Final, (0 : Int)⟩ : part)])).length : Int)), (164, .int .i64 (k7_567 : Int)), (175, .slice aC r215.Elems.length aD), (176, .int .i64 (r215.Elems.length : Int)), (177, .int .i64 (k8_609 : Int))] hag ?_
    refine zq (zr ?_)
    by_cases xc : (k8_609 : Int) < (r215.Elems.length : Int)
    ·replace H := ifp xc H
     refine zo (fun w => opB (J08 rfl rfl w) (decide_eq_true xc)) (zn (zq (zt rfl rfl (zk (zq ?_)))))
     refine zb (zq (zr (zm rfl ?_)))
     obtain ⟨HF, H⟩ := H
     obtain ⟨HG, H⟩ := H
     refine zo (J02 Try.underlying23 ti31 rfl rfl HF HG (ah.some_ HF HG)) ?_
     have zz := ldSl ah HF HG
     obtain ⟨aai, aaj, xQ, Qd⟩ := zz
     refine zs (Qd Try.underlying31 rfl rfl) (za rfl (za rfl (zn ?_)))
     refine Go1.drawS 1 [(0, .pure), (1, .pure), (2, .pure), (3, .stable), (4, .pure), (5, .stable), (6, .pure), (7, .loud), (8, .pure), (9, .last)] mixed (by kernel_rfl) ?_
     intro R2 Qe
     have ip := Stp.same hO Qe
     replace hO := ip.own
     refine GoQ.pure rfl (J03 rfl) rfl rfl ?_
     refine GoQ.pure rfl (J03 rfl) rfl rfl ?_
     obtain ⟨DG, H⟩ := H
     obtain ⟨DH, H⟩ := H
     refine GoQ.pure rfl (J02 Try.underlying40 ti22 rfl rfl DG (ltn (t2neq 0 hO rfl) DH) (t2some 0 hO rfl DG DH)) rfl rfl ?_
     refine GoQ.stable rfl (t2head 0 hO rfl DG DH Try.underlying22 rfl rfl) rfl rfl ?_
     refine GoQ.pure rfl (J03 rfl) rfl rfl ?_
     refine GoQ.stable rfl (J0n (vs := [.int .i64 ((ix ((([] : List part)) ++ ([(⟨((0 : Int) + r26.Start), r26.Final, (0 : Int)⟩ : part)])) (k7_567 : Int)).start), .slice tu (((ix ((([] : List part)) ++ ([(⟨((0 : Int) + r26.Start), r26.Final, (0 : Int)⟩ : part)])) (k7_567 : Int)).final).length) tv, .int .i64 ((ix ((([] : List part)) ++ ([(⟨((0 : Int) + r26.Start), r26.Final, (0 : Int)⟩ : part)])) (k7_567 : Int)).shift)]) (i := 0) 1 hO rfl rfl Try.underlying120 rfl ti120 rfl) rfl rfl ?_
     refine GoQ.pure rfl (J03 rfl) rfl rfl ?_
     replace jL := jL.ch ip.ch
     replace xQ := xQ.ch ip.ch
     refine GoQ.call rfl (J0a body103 rfl (walk_syntactic_part_accept (p := (⟨((ix ((([] : List part)) ++ ([(⟨((0 : Int) + r26.Start), r26.Final, (0 : Int)⟩ : part)])) (k7_567 : Int)).start), (ix ((([] : List part)) ++ ([(⟨((0 : Int) + r26.Start), r26.Final, (0 : Int)⟩ : part)])) (k7_567 : Int)).final, ((ix ((([] : List part)) ++ ([(⟨((0 : Int) + r26.Start), r26.Final, (0 : Int)⟩ : part)])) (k7_567 : Int)).shift)⟩ : part)) hO.lt jL xQ H)) (fun v w hr => by obtain ⟨_, _, hs, _⟩ := hr; assumption) rfl rfl ?_
     rintro aak aal ⟨r623, rfl, Qf, H⟩
     have oX := Stp.same hO Qf
     replace hO := oX.own
     obtain ⟨HH, H⟩ := H
     obtain ⟨HI, H⟩ := H
     refine GoQ.pure rfl (J02 Try.underlying22 ti4 rfl rfl HH HI (t2isome 0 hO rfl DG DH HH HI)) rfl rfl ?_
     have zz := t2st (r := Rp.bool) (hf := Fl.bool) rfl 0 hO rfl DG DH HH HI (v := .bool r623) (u := r623) rfl rfl
     obtain ⟨aam, nC, Lw⟩ := zz
     dsimp only [sS, sZ] at nC
     refine GoQ.last rfl (Lw Try.underlying4 rfl ti4 (by exact rfl) (by exact rfl)) rfl rfl ?_
     replace hO := nC.own
     refine GoQ.nil ?_
     refine Go1.inBlock ?_
     refine zr ?_
     have Z38 := (ip.ch.trans oX.ch).trans nC.ch
     replace ah := ah.ch Z38
     refine zo (J0c rfl rfl (wrap_i64 (natbd xc ah.bd))) (zm rfl (zn ?_))
     replace jL := (jL.ch oX.ch).ch nC.ch
     replace de := de.ch Z38
     replace bG := bG.ch Z38
     replace ba := ba.ch Z38
     replace aB := aB.ch Z38
     replace am := am.ch Z38
     replace aa := aa.ch Z38
     replace aj := aj.ch Z38
     replace af := af.ch Z38
     replace ai := ai.ch Z38
     replace hB := ((hB.trans ip.fr).trans oX.fr).trans nC.fr
     exact hX8 _ H _ _ ⟨⟨rfl, rfl, rfl, rfl, rfl, rfl, rfl, rfl, rfl, rfl, rfl, rfl, rfl, trivial⟩, hO, de, bG, ba, aB, am, ah, aa, aj, af, ai, jL, hB⟩
    replace H := ifn xc H
    refine zo (fun w => opB (J08 rfl rfl w) (decide_eq_false xc)) (zn (zq (zf rfl rfl ?_)))
    refine Go1.exit rfl ?_
    refine Go1.inBlock ?_
    refine zr (zo (J0c rfl rfl (wrap_i64 (natbd DF aB.bd))) (zm rfl (zn ?_)))
    replace hO := hO.drop 1
    replace am := am.ch (Owns.J04 _ _ 1)
    replace ah := ah.ch (Owns.J04 _ _ 1)
    replace aa := aa.ch (Owns.J04 _ _ 1)
    replace aj := aj.ch (Owns.J04 _ _ 1)
    replace af := af.ch (Owns.J04 _ _ 1)
    replace ai := ai.ch (Owns.J04 _ _ 1)
    replace jL := jL.ch (Owns.J04 _ _ 1)
    replace de := de.ch (Owns.J04 _ _ 1)
    replace bG := bG.ch (Owns.J04 _ _ 1)
    replace ba := ba.ch (Owns.J04 _ _ 1)
    replace aB := aB.ch (Owns.J04 _ _ 1)
    replace hB := hB.trans (Owns.J09 _ _ 1)
    dsimp only [eS, eZ] at hB hO am ah aa aj af ai jL de bG ba aB
    exact hX7 _ H _ _ ⟨hup f6 (k7_567 : Int).toNat (uQ, r215.Elems.length), ⟨rfl, rfl, rfl, rfl, rfl, rfl, rfl, rfl, trivial⟩, hO, de, bG, ba, aB, am, ah, aa, aj, af, ai, hB⟩
   replace H := ifn DF H
   refine zo (fun w => opB (J08 rfl rfl w) (decide_eq_false DF)) (zn (zq (zf rfl rfl ?_)))
   refine Go1.exit rfl ?_
   refine zq ?_
   refine Go1.cut [(2, .pointer (some ⟨B207, 0, none⟩)), (8, .pointer (some ⟨dO, 0, none⟩)), (13, .slice jR (((([] : List part)) ++ ([(⟨((0 : Int) + r26.Start), r26.Final, (0 : Int)⟩ : part)])).length) (((([] : List part)) ++ ([(⟨((0 : Int) + r26.Start), r26.Final, (0 : Int)⟩ : part)])).length))] ⟨rfl, rfl, rfl, trivial⟩ ?_
   intro σ _
   refine zr (zs (J0n (vs := [.int .i64 (d_60.length : Int), .slice (some ⟨bH, 0, none⟩) r215.Elems.length r215.Elems.length, .slice (some ⟨bN, 0, none⟩) r215.Elems.length r215.Elems.length, .slice aK aM aL, .slice none 0 0, .slice (some ⟨bT, 0, none⟩) r215.Elems.length r215.Elems.length]) (i := 0) 1 hO rfl rfl Try.underlying33 rfl ti33 rfl) (zm rfl ?_))
   have zz := J0b (us := [.int .i64 (d_60.length : Int), .slice (some ⟨bH, 0, none⟩) r215.Elems.length r215.Elems.length, .slice (some ⟨bN, 0, none⟩) r215.Elems.length r215.Elems.length, .slice aK aM aL, .slice none 0 0, .slice (some ⟨bT, 0, none⟩) r215.Elems.length r215.Elems.length]) (o := 0) (cs' := #[.int .i64 (d_60.length : Int), .slice (some ⟨bH, 0, none⟩) r215.Elems.length r215.Elems.length, .slice (some ⟨bN, 0, none⟩) r215.Elems.length r215.Elems.length, .slice aK aM aL, .slice none 0 0, .slice (some ⟨bT, 0, none⟩) r215.Elems.length r215.Elems.length]) 7 hO rfl rfl (Nat.le_of_ble_eq_true rfl) rfl
   obtain ⟨aan, qo, Lx⟩ := zz
   dsimp only [sS, sZ] at qo
   refine zg (Lx ti33 (by exact rfl) (by exact rfl) rfl) ?_
   replace hO := qo.own
   refine za rfl (za rfl (zn ?_))
   refine Go1.retC3V Try.func63 rfl rfl (J0h (vs := [.int .i64 (d_60.length : Int), .slice (some ⟨bH, 0, none⟩) r215.Elems.length r215.Elems.length, .slice (some ⟨bN, 0, none⟩) r215.Elems.length r215.Elems.length, .slice aK aM aL, .slice none 0 0, .slice (some ⟨bT, 0, none⟩) r215.Elems.length r215.Elems.length]) 7 hO rfl rfl Try.underlying33 rfl ti33) (show _ = .slice jR (((([] : List part)) ++ ([(⟨((0 : Int) + r26.Start), r26.Final, (0 : Int)⟩ : part)])).length) (((([] : List part)) ++ ([(⟨((0 : Int) + r26.Start), r26.Final, (0 : Int)⟩ : part)])).length) from rfl) (show _ = .int .i64 0 from rfl) ?_
   refine hR205 _ _ ?_
   refine zm rfl (zo (J07 rfl rfl) (zo (J07 rfl rfl) (zo (J07 rfl rfl) ?_)))
   have zz := oalloc (t := 33) (cs := #[.int .i64 0, .slice none 0 0, .slice none 0 0, .slice none 0 0, .slice none 0 0, .slice none 0 0]) ti33 hO rfl
   obtain ⟨R4, B638, sv, UO, Ly⟩ := zz
   refine GoR.op Ly rfl rfl ?_
   replace hO := sv.own
   have zz := J0b (us := [.int .i64 (d_60.length : Int), .slice (some ⟨bH, 0, none⟩) r215.Elems.length r215.Elems.length, .slice (some ⟨bN, 0, none⟩) r215.Elems.length r215.Elems.length, .slice aK aM aL, .slice none 0 0, .slice (some ⟨bT, 0, none⟩) r215.Elems.length r215.Elems.length]) (o := 0) (cs' := #[.int .i64 (d_60.length : Int), .slice (some ⟨bH, 0, none⟩) r215.Elems.length r215.Elems.length, .slice (some ⟨bN, 0, none⟩) r215.Elems.length r215.Elems.length, .slice aK aM aL, .slice none 0 0, .slice (some ⟨bT, 0, none⟩) r215.Elems.length r215.Elems.length]) 0 hO rfl rfl (Nat.le_of_ble_eq_true rfl) rfl
   obtain ⟨aao, qq, C4⟩ := zz
   dsimp only [sS, sZ] at qq
   refine zg (C4 ti33 (by exact rfl) (by exact rfl) rfl) ?_
   replace hO := qq.own
   refine za rfl (za rfl (zn (zq (zq (zr ?_)))))
   refine zm rfl (zo (fun w => opB (J0g rfl rfl w) (ndT (by decide))) (zn (zf rfl rfl (zk (zq ?_)))))
   refine zr (zm rfl ?_)
   obtain ⟨E8, H⟩ := H
   obtain ⟨E9, H⟩ := H
   refine zo (J02 Try.underlying40 ti22 rfl rfl E8 (ltn (t2neq 1 hO rfl) E9) (t2some 1 hO rfl E8 E9)) (zs (t2head 1 hO rfl E8 E9 Try.underlying22 rfl rfl) (zo (J00 Try.underlying33 rfl ti22 rfl (by decide)) ?_))
   have zz := J0f (v := .slice (f6 (0 : Int).toNat).1 ((ix d_568 (0 : Int)).length) (f6 (0 : Int).toNat).2) (i := 4) (cs' := #[.int .i64 (d_60.length : Int), .slice (some ⟨bH, 0, none⟩) r215.Elems.length r215.Elems.length, .slice (some ⟨bN, 0, none⟩) r215.Elems.length r215.Elems.length, .slice aK aM aL, .slice (f6 (0 : Int).toNat).1 ((ix d_568 (0 : Int)).length) (f6 (0 : Int).toNat).2, .slice (some ⟨bT, 0, none⟩) r215.Elems.length r215.Elems.length]) 0 hO rfl rfl rfl rfl
   obtain ⟨aap, qr, Lz⟩ := zz
   dsimp only [sS, sZ] at qr
   refine zg (Lz Try.underlying22 rfl ti22 (by exact rfl) (by exact rfl)) ?_
   replace hO := qr.own
   refine zn (zq ?_)
   refine Go1.cut [(2, .pointer (some ⟨B8, 0, none⟩)), (7, .pointer (some ⟨B638, 0, none⟩))] ⟨rfl, rfl, trivial⟩ ?_
   intro σ _
   refine zr (zs (J0n (vs := [.int .i64 (d_60.length : Int), .slice (some ⟨bH, 0, none⟩) r215.Elems.length r215.Elems.length, .slice (some ⟨bN, 0, none⟩) r215.Elems.length r215.Elems.length, .slice aK aM aL, .slice (f6 (0 : Int).toNat).1 ((ix d_568 (0 : Int)).length) (f6 (0 : Int).toNat).2, .slice (some ⟨bT, 0, none⟩) r215.Elems.length r215.Elems.length]) (i := 0) 0 hO rfl rfl Try.underlying33 rfl ti33 rfl) ?_)
   have zz := J0b (us := [.int .i64 (d_60.length : Int), .slice (some ⟨bH, 0, none⟩) r215.Elems.length r215.Elems.length, .slice (some ⟨bN, 0, none⟩) r215.Elems.length r215.Elems.length, .slice aK aM aL, .slice (f6 (0 : Int).toNat).1 ((ix d_568 (0 : Int)).length) (f6 (0 : Int).toNat).2, .slice (some ⟨bT, 0, none⟩) r215.Elems.length r215.Elems.length]) (o := 0) (cs' := #[.int .i64 (d_60.length : Int), .slice (some ⟨bH, 0, none⟩) r215.Elems.length r215.Elems.length, .slice (some ⟨bN, 0, none⟩) r215.Elems.length r215.Elems.length, .slice aK aM aL, .slice (f6 (0 : Int).toNat).1 ((ix d_568 (0 : Int)).length) (f6 (0 : Int).toNat).2, .slice (some ⟨bT, 0, none⟩) r215.Elems.length r215.Elems.length]) 10 hO rfl rfl (Nat.le_of_ble_eq_true rfl) rfl
   obtain ⟨R6, qt, LA⟩ := zz
   dsimp only [sS, sZ] at qt
   refine zg (LA ti33 (by exact rfl) (by exact rfl) rfl) ?_
   replace hO := qt.own
   refine za rfl (zn ?_)
   have zz := t2freezeA 5 hO rfl
   obtain ⟨hO1, uR, vq, Qg⟩ := zz
   dsimp only [eS, eZ] at hO1 uR vq
   replace hB := (((((hB.trans qo.fr).trans sv.fr).trans qq.fr).trans qr.fr).trans qt.fr).trans (Owns.J09 _ _ 5)
   dsimp only [eS, eZ] at hB
   replace hO := hO1; clear hO1
   have Z39 := ((((qo.ch.trans sv.ch).trans qq.ch).trans qr.ch).trans qt.ch).trans uR
   replace bG := bG.ch Z39
   have zz := freeze 4 hO rfl bG
   obtain ⟨hO1, uS, wW, Qh⟩ := zz
   dsimp only [eS, eZ] at hO1 uS wW
   replace hB := hB.trans (Owns.J09 _ _ 4)
   dsimp only [eS, eZ] at hB
   replace hO := hO1; clear hO1
   replace ba := (ba.ch Z39).ch uS
   have zz := freeze 4 hO rfl ba
   obtain ⟨hO1, uT, yW, Qi⟩ := zz
   dsimp only [eS, eZ] at hO1 uT yW
   replace hB := hB.trans (Owns.J09 _ _ 4)
   dsimp only [eS, eZ] at hB
   replace hO := hO1; clear hO1
   have Fa := t2lendIn 1 hO rfl E8 E9
   have zz := t2freezeA 1 hO rfl
   obtain ⟨hO1, ul, Fb, UP⟩ := zz
   dsimp only [eS, eZ] at hO1 ul Fb
   replace hB := hB.trans (Owns.J09 _ _ 1)
   dsimp only [eS, eZ] at hB
   replace hO := hO1; clear hO1
   have Z40 := ((Z39.trans uS).trans uT).trans ul
   replace de := de.ch Z40
   have zz := freeze 2 hO rfl de
   obtain ⟨hO1, tG, Il, Qj⟩ := zz
   dsimp only [eS, eZ] at hO1 tG Il
   replace hB := hB.trans (Owns.J09 _ _ 2)
   dsimp only [eS, eZ] at hB
   replace hO := hO1; clear hO1
   refine Go1.retC2 Try.func19 rfl rfl (J0h (vs := [.int .i64 (d_60.length : Int), .slice (some ⟨bH, 0, none⟩) r215.Elems.length r215.Elems.length, .slice (some ⟨bN, 0, none⟩) r215.Elems.length r215.Elems.length, .slice aK aM aL, .slice (f6 (0 : Int).toNat).1 ((ix d_568 (0 : Int)).length) (f6 (0 : Int).toNat).2, .slice (some ⟨bT, 0, none⟩) r215.Elems.length r215.Elems.length]) 5 hO rfl rfl Try.underlying33 rfl ti33) ?_
   replace Fa := Fa.ch tG
   replace yW := (yW.ch ul).ch tG
   have Z41 := (uT.trans ul).trans tG
   replace wW := wW.ch Z41
   have Z42 := ((uS.trans uT).trans ul).trans tG
   replace vq := vq.ch Z42
   exact ⟨(⟨(d_60.length : Int), d_386, d_343, r262, (ix d_568 (0 : Int)), d_383⟩ : Syntactic), (0 : Int), (some ⟨bH, 0, none⟩), r215.Elems.length, (some ⟨bN, 0, none⟩), r215.Elems.length, aK, aL, (f6 (0 : Int).toNat).1, (f6 (0 : Int).toNat).2, (some ⟨bT, 0, none⟩), r215.Elems.length, (congrArg (fun l => Value.tuple (List.toArray l)) (J0i (congrArg (fun l => Value.agg (List.toArray l)) (J0i rfl (J0i (congrArg (fun nn => Value.slice (some ⟨bH, 0, none⟩) nn r215.Elems.length) Qg) (J0i (congrArg (fun nn => Value.slice (some ⟨bN, 0, none⟩) nn r215.Elems.length) Qh) (J0i (congrArg (fun nn => Value.slice aK nn aL) Qi) (J0i rfl (J0i (congrArg (fun nn => Value.slice (some ⟨bT, 0, none⟩) nn r215.Elems.length) Qj) rfl))))))) (J0i rfl rfl))), hB.same, (vq.ch (Ch.weak _ _ _)), (wW.ch (Ch.weak _ _ _)), (yW.ch (Ch.weak _ _ _)), (Fa.ch (Ch.weak _ _ _)), (Il.ch (Ch.weak _ _ _)), H⟩
  replace H := ifn xM H
  refine zo (fun w => opB (J0g rfl rfl w) (ndF xM)) (zn (zt rfl rfl (zq (zr (zo (J0s Try.underlying33 ti33 (pl := [(0, 1), (1, 1), (2, 1), (3, 1), (4, 1), (5, 1)]) (vs := []) (cs := #[.int .i64 0, .slice none 0 0, .slice none 0 0, .slice none 0 0, .slice none 0 0, .slice none 0 0]) (by kernel_rfl) rfl (by kernel_rfl)) ?_)))))
  refine zm rfl ?_
  have zz := J0b (us := [.int .i64 0, .slice none 0 0, .slice none 0 0, .slice none 0 0, .slice none 0 0, .slice none 0 0]) (o := 0) (cs' := #[.int .i64 0, .slice none 0 0, .slice none 0 0, .slice none 0 0, .slice none 0 0, .slice none 0 0]) 1 hO rfl rfl (Nat.le_of_ble_eq_true rfl) rfl
  obtain ⟨aaq, oY, LB⟩ := zz
  dsimp only [sS, sZ] at oY
  refine zg (LB ti33 (by exact rfl) (by exact rfl) rfl) ?_
  replace hO := oY.own
  refine za rfl (za rfl (zn ?_))
  refine Go1.retC3V Try.func63 rfl rfl (J0h (vs := [.int .i64 0, .slice none 0 0, .slice none 0 0, .slice none 0 0, .slice none 0 0, .slice none 0 0]) 1 hO rfl rfl Try.underlying33 rfl ti33) (show _ = .slice none 0 0 from rfl) (show _ = .int .i64 r216 from rfl) ?_
  refine hR205 _ _ ?_
  refine zm rfl (zo (J07 rfl rfl) (zo (J07 rfl rfl) (zo (J07 rfl rfl) ?_)))
  have zz := oalloc (t := 33) (cs := #[.int .i64 0, .slice none 0 0, .slice none 0 0, .slice none 0 0, .slice none 0 0, .slice none 0 0]) ti33 hO rfl
  obtain ⟨aar, B674, qu, UQ, LD⟩ := zz
  refine GoR.op LD rfl rfl ?_
  replace hO := qu.own
  have zz := J0b (us := [.int .i64 0, .slice none 0 0, .slice none 0 0, .slice none 0 0, .slice none 0 0, .slice none 0 0]) (o := 0) (cs' := #[.int .i64 0, .slice none 0 0, .slice none 0 0, .slice none 0 0, .slice none 0 0, .slice none 0 0]) 0 hO rfl rfl (Nat.le_of_ble_eq_true rfl) rfl
  obtain ⟨aas, o3, LE⟩ := zz
  dsimp only [sS, sZ] at o3
  refine zg (LE ti33 (by exact rfl) (by exact rfl) rfl) ?_
  replace hO := o3.own
  refine za rfl (za rfl (zn (zq (zq (zr ?_)))))
  refine zm rfl (zo (fun w => opB (J0g rfl rfl w) (ndF xM)) (zn (zt rfl rfl (zq (zr ?_)))))
  refine zo (J0s Try.underlying33 ti33 (pl := [(0, 1), (1, 1), (2, 1), (3, 1), (4, 1), (5, 1)]) (vs := []) (cs := #[.int .i64 0, .slice none 0 0, .slice none 0 0, .slice none 0 0, .slice none 0 0, .slice none 0 0]) (by kernel_rfl) rfl (by kernel_rfl)) (zm rfl ?_)
  have zz := J0b (us := [.int .i64 0, .slice none 0 0, .slice none 0 0, .slice none 0 0, .slice none 0 0, .slice none 0 0]) (o := 0) (cs' := #[.int .i64 0, .slice none 0 0, .slice none 0 0, .slice none 0 0, .slice none 0 0, .slice none 0 0]) 6 hO rfl rfl (Nat.le_of_ble_eq_true rfl) rfl
  obtain ⟨aat, o4, LF⟩ := zz
  dsimp only [sS, sZ] at o4
  refine zg (LF ti33 (by exact rfl) (by exact rfl) rfl) ?_
  replace hO := o4.own
  refine za rfl (zn ?_)
  refine Go1.retC2 Try.func19 rfl rfl (J0h (vs := [.int .i64 0, .slice none 0 0, .slice none 0 0, .slice none 0 0, .slice none 0 0, .slice none 0 0]) 6 hO rfl rfl Try.underlying33 rfl ti33) ?_
  replace hB := ((((((hB.trans wB.fr).trans qf.fr).trans oh.fr).trans oY.fr).trans qu.fr).trans o3.fr).trans o4.fr
  exact ⟨(⟨(0 : Int), ([] : List (List Int)), ([] : List Str), ([] : List Int), ([] : List Bool), ([] : List Bool)⟩ : Syntactic), r216, none, 0, none, 0, none, 0, none, 0, none, 0, rfl, hB.same, (ISl.null _ _ _), (ISl.null _ _ _), (ISl.null _ _ _), (ISl.null _ _ _), (ISl.null _ _ _), H⟩
 replace H := ifn h19 H
 refine zo (fun w => opB (J0g rfl rfl w) (ndF h19)) (zn (zt rfl rfl (zq ?_)))
 refine Go1.cut [(2, .pointer (some ⟨B8, 0, none⟩)), (4, .int .i64 r13)] ⟨rfl, rfl, trivial⟩ ?_
 intro σ _
 refine zr (zo (J0s Try.underlying33 ti33 (pl := [(0, 1), (1, 1), (2, 1), (3, 1), (4, 1), (5, 1)]) (vs := []) (cs := #[.int .i64 0, .slice none 0 0, .slice none 0 0, .slice none 0 0, .slice none 0 0, .slice none 0 0]) (by kernel_rfl) rfl (by kernel_rfl)) (zm rfl ?_))
 have zz := J0b (us := [.int .i64 0, .slice none 0 0, .slice none 0 0, .slice none 0 0, .slice none 0 0, .slice none 0 0]) (o := 0) (cs' := #[.int .i64 0, .slice none 0 0, .slice none 0 0, .slice none 0 0, .slice none 0 0, .slice none 0 0]) 0 hO rfl rfl (Nat.le_of_ble_eq_true rfl) rfl
 obtain ⟨aau, AU, LG⟩ := zz
 refine zg (LG ti33 (by exact rfl) (by exact rfl) rfl) ?_
 replace hO := AU.own
 refine za rfl (zn ?_)
 refine Go1.retC2 Try.func19 rfl rfl (J0h (vs := [.int .i64 0, .slice none 0 0, .slice none 0 0, .slice none 0 0, .slice none 0 0, .slice none 0 0]) 0 hO rfl rfl Try.underlying33 rfl ti33) ?_
 replace hB := (((hB.trans c5.fr).trans f7.fr).trans gG.fr).trans AU.fr
 exact ⟨(⟨(0 : Int), ([] : List (List Int)), ([] : List Str), ([] : List Int), ([] : List Bool), ([] : List Bool)⟩ : Syntactic), r13, none, 0, none, 0, none, 0, none, 0, none, 0, rfl, hB.same, (ISl.null _ _ _), (ISl.null _ _ _), (ISl.null _ _ _), (ISl.null _ _ _), (ISl.null _ _ _), H⟩
end Sg
