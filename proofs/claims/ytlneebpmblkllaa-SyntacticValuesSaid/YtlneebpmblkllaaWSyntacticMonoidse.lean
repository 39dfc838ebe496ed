/- -/
import Derived.Test.YtlneebpmblkllaaTi
import Derived.Test.YtlneebpmblkllaaWSyntacticMonoids
import Derived.Test.YtlneebpmblkllaaWSyntacticMonoidsb
import Derived.Test.YtlneebpmblkllaaWSyntacticMonoidsd
import Derived.Test.YtlneebpmblkllaaAl
namespace Sg
open Go Go.RowKit Go.Proofs
set_option linter.unusedVariables false
set_option linter.unusedSimpArgs false
set_option maxRecDepth 100000
set_option maxHeartbeats 4000000
theorem body63 : Body Try.prog 63 := ⟨Try.f63, Try.func63, rfl, by kernel_rfl⟩
theorem body62 : Body Try.prog 62 := ⟨Try.f62, Try.func62, rfl, by kernel_rfl⟩
theorem body19 : Body Try.prog 19 := ⟨Try.f19, Try.func19, rfl, by kernel_rfl⟩
theorem walk_syntactic_Of {A : List Nat} {w0 : World} {aQ : Option Addr} {aR : Nat} {aW : Option Addr} {aX : Nat} {d : DFA} (hA : ∀ b ∈ A, b < w0.heap.size) (aa : ISl (Rp.bool) A w0 aQ aR d.Final) (ai : ISl (Rp.sl (Rp.int .i64)) A w0 aW aX d.Next) {K : Syntactic → Int → Prop} (H : J0R d K) :
    CallsV Try.prog 19 #[.agg #[.int .i64 d.Letters, .int .i64 d.Start, .slice aQ d.Final.length aR, .slice aW d.Next.length aX]] w0 (fun v w' => ∃ (r0 : Syntactic) (r1 : Int) (AX : Option Addr) (AY : Nat) (A4 : Option Addr) (A5 : Nat) (zD : Option Addr) (zE : Nat) (zF : Option Addr) (zG : Nat) (BP : Option Addr) (BQ : Nat), v = .tuple #[.agg #[.int .i64 r0.Letters, .slice AX r0.Table.length AY, .slice A4 r0.Words.length A5, .slice zD r0.Images.length zE, .slice zF r0.Accept.length zG, .slice BP r0.Plus.length BQ], .int .i64 r1] ∧ Same w0 w' ∧ ISl (Rp.sl (Rp.int .i64)) A w' AX AY r0.Table ∧ ISl (Rp.str) A w' A4 A5 r0.Words ∧ ISl (Rp.int .i64) A w' zD zE r0.Images ∧ ISl (Rp.bool) A w' zF zG r0.Accept ∧ ISl (Rp.bool) A w' BP BQ r0.Plus ∧ K r0 r1) := by
 refine CallsV.of (l := [.agg #[.int .i64 d.Letters, .int .i64 d.Start, .slice aQ d.Final.length aR, .slice aW d.Next.length aX]]) Try.func19 rfl Try.ntmps19 rfl ?_
 have hO := Owns.start hA
 have hB := Fr.refl (bl []) w0
 unfold J0R at H
 refine zq (zr ?_)
 have zz := obox (t := 25) (v := .agg #[.int .i64 d.Letters, .int .i64 d.Start, .slice aQ d.Final.length aR, .slice aW d.Next.length aX]) (cs := #[.int .i64 d.Letters, .int .i64 d.Start, .slice aQ d.Final.length aR, .slice aW d.Next.length aX]) hO rfl
 obtain ⟨w1, B2, cB, hs4, ic⟩ := zz
 refine zg (ic rfl) ?_
 replace hO := cB.own
 have zz := oalloc (t := 33) (cs := #[.int .i64 0, .slice none 0 0, .slice none 0 0, .slice none 0 0, .slice none 0 0, .slice none 0 0]) ti33 hO rfl
 obtain ⟨w7, B8, ja, xq, tI⟩ := zz
 refine GoR.op tI rfl rfl ?_
 replace hO := ja.own
 refine za rfl (zn (zq (zq ?_)))
 refine Go1.cut [(1, .pointer (some ⟨B2, 0, none⟩)), (2, .pointer (some ⟨B8, 0, none⟩))] ⟨rfl, rfl, trivial⟩ ?_
 intro σ _
 refine zr (zs (J0j (vs := [.int .i64 d.Letters, .int .i64 d.Start, .slice aQ d.Final.length aR, .slice aW d.Next.length aX]) (i := 0) 1 hO rfl rfl Try.underlying25 rfl ti25 rfl) ?_)
 have Z1 := ((Ch.start A w0).trans cB.ch).trans ja.ch
 replace aa := aa.ch Z1
 replace ai := ai.ch Z1
 refine GoR.call (J0a body61 rfl (J0P (d := d) hO.lt aa ai H)) rfl rfl ?_
 rintro v17 w14 ⟨r13, rfl, xP, H⟩
 have gG := Stp.same hO xP
 replace hO := gG.own
 refine za rfl (zn (zq (zr (zm rfl ?_))))
 by_cases h19 : r13 = (0 : Int)
 ·replace H := ifp h19 H
  refine zo (fun w => opB (J0g rfl rfl w) (ndT h19)) (zn (zf rfl rfl (zk (zq (zr ?_)))))
  have zz := oalloc (t := 83) (cs := #[.slice none 0 0, .slice none 0 0, .int .i64 0]) ti83 hO rfl
  obtain ⟨w20, B21, nS, F1, Ay⟩ := zz
  refine GoR.op Ay rfl rfl ?_
  replace hO := nS.own
  refine zn (zq (zq (zr (zs (J0j (vs := [.int .i64 d.Letters, .int .i64 d.Start, .slice aQ d.Final.length aR, .slice aW d.Next.length aX]) (i := 0) 2 hO rfl rfl Try.underlying25 rfl ti25 rfl) ?_))))
  have Z2 := gG.ch.trans nS.ch
  replace aa := aa.ch Z2
  replace ai := ai.ch Z2
  refine GoR.call (J0a body22 rfl (walk_minimize_Minimal (d := d) hO.lt aa ai H)) rfl rfl ?_
  rintro v30 w27 ⟨r26, d6, d7, fw, fx, rfl, Fc, ap, ar, H⟩
  have wv := Stp.same hO Fc
  replace hO := wv.own
  refine GoR.inl (vs := [.pointer (some ⟨B21, 0, none⟩), .agg #[.int .i64 r26.Letters, .int .i64 r26.Start, .slice d6 r26.Final.length d7, .slice fw r26.Next.length fx]]) (caps := []) rfl rfl body62 Try.func62 rfl Try.ntmps62 rfl rfl rfl ?_
  intro RhR32 hR32
  refine zq (zr ?_)
  have zz := obox (t := 25) (v := .agg #[.int .i64 r26.Letters, .int .i64 r26.Start, .slice d6 r26.Final.length d7, .slice fw r26.Next.length fx]) (cs := #[.int .i64 r26.Letters, .int .i64 r26.Start, .slice d6 r26.Final.length d7, .slice fw r26.Next.length fx]) hO rfl
  obtain ⟨w33, B34, zc, K4, PM⟩ := zz
  refine zg (PM rfl) ?_
  replace hO := zc.own
  refine za rfl (zn (zq (zr (zo (J00 Try.underlying25 rfl ti22 rfl (by decide)) (zs (oblk (i := 2) 0 hO rfl rfl Try.underlying22 rfl rfl) ?_)))))
  refine zo (J0d Try.underlying22 rfl) ?_
  replace ap := ap.ch zc.ch
  replace H := H ap.bd
  refine za rfl (zn (zq (zq (zr (zm rfl ?_)))))
  refine zo (J01 rfl) (zo (J00 Try.underlying83 rfl ti3 rfl (by decide)) (zs (oblk (i := 2) 1 hO rfl rfl Try.underlying3 rfl rfl) (zm rfl ?_)))
  obtain ⟨h39, H⟩ := H
  refine zo (J0c rfl rfl (wrap_i64 h39)) ?_
  by_cases h40 : (32 : Int) < ((0 : Int) + (r26.Final.length : Int))
  ·replace H := ifp h40 H
   refine zo (fun w => opB (J0M rfl rfl w) (decide_eq_true h40)) (zn (zt rfl rfl (zq ?_)))
   refine Go1.cut [] trivial ?_
   intro σ _
   refine zr (za rfl (zn ?_))
   refine Go1.ret1V Try.func62 rfl (show _ = .int .i64 3 from rfl) ?_
   refine hR32 _ _ ?_
   refine za rfl (zn (zq (zr (zm rfl (zo (fun w => opB (J0g rfl rfl w) (ndF (by decide))) ?_)))))
   refine zn (zt rfl rfl (zq (zr (zo (J0q Try.underlying33 ti33 (pl := [(0, 1), (1, 1), (2, 1), (3, 1), (4, 1), (5, 1)]) (vs := []) (cs := #[.int .i64 0, .slice none 0 0, .slice none 0 0, .slice none 0 0, .slice none 0 0, .slice none 0 0]) (by kernel_rfl) rfl (by kernel_rfl)) (zm rfl ?_)))))
   have zz := J0b (us := [.int .i64 0, .slice none 0 0, .slice none 0 0, .slice none 0 0, .slice none 0 0, .slice none 0 0]) (o := 0) (cs' := #[.int .i64 0, .slice none 0 0, .slice none 0 0, .slice none 0 0, .slice none 0 0, .slice none 0 0]) 2 hO rfl rfl (Nat.le_of_ble_eq_true rfl) rfl
   obtain ⟨w41, qN, xX⟩ := zz
   refine zg (xX ti33 (by exact rfl) (by exact rfl) rfl) ?_
   replace hO := qN.own
   refine za rfl (zn ?_)
   refine Go1.retC2 Try.func19 rfl rfl (J0f (vs := [.int .i64 0, .slice none 0 0, .slice none 0 0, .slice none 0 0, .slice none 0 0, .slice none 0 0]) 2 hO rfl rfl Try.underlying33 rfl ti33) ?_
   replace hB := ((((((hB.trans cB.fr).trans ja.fr).trans gG.fr).trans nS.fr).trans wv.fr).trans zc.fr).trans qN.fr
   exact ⟨(⟨(0 : Int), ([] : List (List Int)), ([] : List Str), ([] : List Int), ([] : List Bool), ([] : List Bool)⟩ : Syntactic), (3 : Int), none, 0, none, 0, none, 0, none, 0, none, 0, rfl, hB.same, (ISl.null _ _ _), (ISl.null _ _ _), (ISl.null _ _ _), (ISl.null _ _ _), (ISl.null _ _ _), H⟩
  replace H := ifn h40 H
  refine zo (fun w => opB (J0M rfl rfl w) (decide_eq_false h40)) (zn (zf rfl rfl (zk (zq (zq ?_)))))
  refine zr (zm rfl (zo (J01 rfl) (zo (J00 Try.underlying83 rfl ti23 rfl (by decide)) (zs (oblk (i := 0) 1 hO rfl rfl Try.underlying23 rfl rfl) (zo (fun w => opB (op_nilSlice Try.underlying23 rfl rfl w) rfl) ?_)))))
  refine zn (zt rfl rfl (zr (zm rfl (zo (J00 Try.underlying25 rfl ti3 rfl (by decide)) (zs (oblk (i := 0) 0 hO rfl rfl Try.underlying3 rfl rfl) ?_)))))
  obtain ⟨h51, H⟩ := H
  obtain ⟨h52, H⟩ := H
  have zz := t2makeS (m := r26.Letters) (e' := 3) (Fl.int .i64) Try.underlying23 ti31 hO h51 h52 (by decide)
  obtain ⟨w44, p45, zd, Yf, PO, hz54⟩ := zz
  refine zg (PO rfl rfl) ?_
  replace hO := zd.own
  refine zo (J01 rfl) (zo (J00 Try.underlying83 rfl ti23 rfl (by decide)) ?_)
  have zz := J0e (v := .slice p45 r26.Letters.toNat r26.Letters.toNat) (i := 0) (cs' := #[.slice p45 r26.Letters.toNat r26.Letters.toNat, .slice none 0 0, .int .i64 0]) 2 hO rfl rfl rfl rfl
  obtain ⟨w55, yf, PP⟩ := zz
  dsimp only [sS, sZ] at yf
  refine zg (PP Try.underlying23 rfl ti23 (by exact rfl) (by exact rfl)) ?_
  replace hO := yf.own
  refine zn (zq (zq ?_))
  refine Go1.cut [(0, .pointer (some ⟨B21, 0, none⟩)), (3, .pointer (some ⟨B34, 0, none⟩)), (5, .int .i64 (r26.Final.length : Int))] ⟨rfl, rfl, rfl, trivial⟩ ?_
  intro σ _
  refine zr (zm rfl (zo (J01 rfl) (zo (J00 Try.underlying83 rfl ti23 rfl (by decide)) (zs (oblk (i := 0) 2 hO rfl rfl Try.underlying23 rfl rfl) (zo (J0y Try.underlying23 rfl (t2neq 0 hO rfl)) ?_)))))
  refine zm rfl (zn (zb ?_))
  replace hO := hO.drop 4
  have Z3 := (zd.ch.trans yf.ch).trans (Owns.J06 _ _ 4)
  replace ap := ap.ch Z3
  have Z4 := ((zc.ch.trans zd.ch).trans yf.ch).trans (Owns.J06 _ _ 4)
  replace ar := ar.ch Z4
  have Z5 := (((wv.ch.trans zc.ch).trans zd.ch).trans yf.ch).trans (Owns.J06 _ _ 4)
  replace aa := aa.ch Z5
  replace ai := ai.ch Z5
  replace hB := ((((((((hB.trans cB.fr).trans ja.fr).trans gG.fr).trans nS.fr).trans wv.fr).trans zc.fr).trans zd.fr).trans yf.fr).trans (Owns.J09 _ _ 4)
  dsimp only [eS, eZ] at hB hO aa ai ap ar
  refine Go1.loopW (S := Nat × List (List Int)) (fun s σ w => match s with | (k1_59, d_60) => ∃ (yg : Hd), agrees σ [(0, .pointer (some ⟨B21, 0, none⟩)), (3, .pointer (some ⟨B34, 0, none⟩)), (5, .int .i64 (r26.Final.length : Int)), (33, .int .i64 ((List.replicate r26.Letters.toNat ([] : List Int)).length : Int)), (34, .int .i64 (k1_59 : Int))] ∧ (fun Z0 => Owns w0.heap.size w Z0 A ∧ ISl (Rp.bool) (bl Z0 ++ A) w d6 d7 r26.Final ∧ ISl (Rp.sl (Rp.int .i64)) (bl Z0 ++ A) w fw fx r26.Next ∧ Fr (bl []) w0 (bl Z0) w) [t2 (Fl.int .i64) 31 3 p45 r26.Letters.toNat r26.Letters.toNat yg d_60, .blk B34 (.cells #[.int .i64 r26.Letters, .int .i64 r26.Start, .slice d6 r26.Final.length d7, .slice fw r26.Next.length fx] 25 (0, 0)), .blk B21 (.cells #[.slice p45 r26.Letters.toNat r26.Letters.toNat, .slice none 0 0, .int .i64 0] 83 (0, 0)), .blk B8 (.cells #[.int .i64 0, .slice none 0 0, .slice none 0 0, .slice none 0 0, .slice none 0 0, .slice none 0 0] 33 (0, 0))]) H ⟨(fun _ => (none, 0)), ⟨rfl, rfl, rfl, rfl, rfl, trivial⟩, hO, ap, ar, hB⟩ ?_
  intro X1
  refine prE fun k1_59 => fun d_60 => ?_
  intro H hX1 σ w58
  refine exE fun yg => andE fun hag => andE fun hO => andE fun ap => andE fun ar => fun hB => ?_
  dsimp only at H
  refine Go1.keep [(0, .pointer (some ⟨B21, 0, none⟩)), (3, .pointer (some ⟨B34, 0, none⟩)), (5, .int .i64 (r26.Final.length : Int)), (33, .int .i64 ((List.replicate r26.Letters.toNat ([] : List Int)).length : Int)), (34, .int .i64 (k1_59 : Int))] hag ?_
  refine zq (zr ?_)
  by_cases h62 : (k1_59 : Int) < ((List.replicate r26.Letters.toNat ([] : List Int)).length : Int)
  ·replace H := ifp h62 H
   refine zo (fun w => opB (J08 rfl rfl w) (decide_eq_true h62)) (zn (zq (zt rfl rfl (zk (zq ?_)))))
   refine zb (zq (zr (zm rfl (za rfl (zn ?_)))))
   refine zq (zr (zm rfl (zm rfl (zn (zb ?_)))))
   refine Go1.loopW (S := Nat × List (List Int)) (fun s σ w => match s with | (k2_64, d_65) => ∃ (ie : Hd), agrees σ [(0, .pointer (some ⟨B21, 0, none⟩)), (3, .pointer (some ⟨B34, 0, none⟩)), (5, .int .i64 (r26.Final.length : Int)), (6, .int .i64 (k1_59 : Int)), (33, .int .i64 ((List.replicate r26.Letters.toNat ([] : List Int)).length : Int)), (34, .int .i64 (k1_59 : Int)), (37, .int .i64 (r26.Final.length : Int)), (38, .int .i64 (k2_64 : Int))] ∧ (fun Z0 => Owns w0.heap.size w Z0 A ∧ ISl (Rp.bool) (bl Z0 ++ A) w d6 d7 r26.Final ∧ ISl (Rp.sl (Rp.int .i64)) (bl Z0 ++ A) w fw fx r26.Next ∧ Fr (bl []) w0 (bl Z0) w) [t2 (Fl.int .i64) 31 3 p45 r26.Letters.toNat r26.Letters.toNat ie d_65, .blk B34 (.cells #[.int .i64 r26.Letters, .int .i64 r26.Start, .slice d6 r26.Final.length d7, .slice fw r26.Next.length fx] 25 (0, 0)), .blk B21 (.cells #[.slice p45 r26.Letters.toNat r26.Letters.toNat, .slice none 0 0, .int .i64 0] 83 (0, 0)), .blk B8 (.cells #[.int .i64 0, .slice none 0 0, .slice none 0 0, .slice none 0 0, .slice none 0 0, .slice none 0 0] 33 (0, 0))]) H ⟨yg, ⟨rfl, rfl, rfl, rfl, rfl, rfl, rfl, rfl, trivial⟩, hO, ap, ar, hB⟩ ?_
   intro X2
   refine prE fun k2_64 => fun d_65 => ?_
   intro H hX2 σ w63
   refine exE fun ie => andE fun hag => andE fun hO => andE fun ap => andE fun ar => fun hB => ?_
   dsimp only at H
   refine Go1.keep [(0, .pointer (some ⟨B21, 0, none⟩)), (3, .pointer (some ⟨B34, 0, none⟩)), (5, .int .i64 (r26.Final.length : Int)), (6, .int .i64 (k1_59 : Int)), (33, .int .i64 ((List.replicate r26.Letters.toNat ([] : List Int)).length : Int)), (34, .int .i64 (k1_59 : Int)), (37, .int .i64 (r26.Final.length : Int)), (38, .int .i64 (k2_64 : Int))] hag ?_
   refine zq (zr ?_)
   by_cases h67 : (k2_64 : Int) < (r26.Final.length : Int)
   ·replace H := ifp h67 H
    refine zo (fun w => opB (J08 rfl rfl w) (decide_eq_true h67)) (zn (zq (zt rfl rfl (zk (zq ?_)))))
    refine zb (zq (zr (zm rfl (za rfl (zn ?_)))))
    refine Go1.drawT (ok := fun _ => True) Same.tr [26, 28] 29 (.qp 0 (.qp 1 (.qp 2 (.qp 4 (.qp 5 (.qp 6 (.qp 7 (.qs 8 (.qp 9 (.qp 10 (.qs 11 (.qp 12 (.qp 13 (.qp 14 (.qs 15 (.qp 16 (.qs 17 (.qp 18 (.qp 19 (.qs 20 (.qp 21 (.qp 22 (.qs 23 (.qp 24 (.alt 3 (.alt 25 (.alt 26 (.qp 27 (.alt 28 .nil .fin)) .fin) .fin) (.alt 25 (.alt 3 (.alt 26 (.qp 27 (.alt 28 .nil .fin)) .fin) (.alt 26 (.alt 3 (.qp 27 (.alt 28 .nil .fin)) .fin) .fin)) .fin)))))))))))))))))))))))))) mixed (by kernel_rfl) ?_
    intro w68 SM
    have tn := Stp.same hO SM
    replace hO := tn.own
    refine GoT.pure rfl (J03 rfl) rfl rfl ?_
    refine GoT.pure rfl (J01 rfl) rfl rfl ?_
    refine GoT.pure rfl (J00 Try.underlying83 rfl ti23 rfl (by decide)) rfl rfl ?_
    refine GoT.pure rfl (J03 rfl) rfl rfl ?_
    refine GoT.pure rfl (J03 rfl) rfl rfl ?_
    refine GoT.pure rfl (J01 rfl) rfl rfl ?_
    refine GoT.pure rfl (J00 Try.underlying83 rfl ti23 rfl (by decide)) rfl rfl ?_
    refine GoT.stable rfl (oblk (i := 0) 2 hO rfl rfl Try.underlying23 rfl rfl) rfl rfl ?_
    refine GoT.pure rfl (J03 rfl) rfl rfl ?_
    obtain ⟨h71, H⟩ := H
    obtain ⟨h72, H⟩ := H
    refine GoT.pure rfl (J02 Try.underlying23 ti31 rfl rfl h71 (ltn (t2neq 0 hO rfl) h72) (t2some 0 hO rfl h71 h72)) rfl rfl ?_
    refine GoT.stable rfl (t2head 0 hO rfl h71 h72 Try.underlying31 rfl rfl) rfl rfl ?_
    refine GoT.pure rfl (J03 rfl) rfl rfl ?_
    refine GoT.pure rfl (J01 rfl) rfl rfl ?_
    refine GoT.pure rfl (J00 Try.underlying83 rfl ti3 rfl (by decide)) rfl rfl ?_
    refine GoT.stable rfl (oblk (i := 2) 2 hO rfl rfl Try.underlying3 rfl rfl) rfl rfl ?_
    refine GoT.pure rfl (J00 Try.underlying25 rfl ti23 rfl (by decide)) rfl rfl ?_
    refine GoT.stable rfl (oblk (i := 3) 1 hO rfl rfl Try.underlying23 rfl rfl) rfl rfl ?_
    refine GoT.pure rfl (J03 rfl) rfl rfl ?_
    obtain ⟨h73, H⟩ := H
    obtain ⟨h74, H⟩ := H
    replace ar := ar.ch tn.ch
    refine GoT.pure rfl (J02 Try.underlying23 ti31 rfl rfl h73 h74 (ar.some_ h73 h74)) rfl rfl ?_
    have zz := ldSl ar h73 h74
    obtain ⟨p75, c76, gh, SN⟩ := zz
    refine GoT.stable rfl (SN Try.underlying31 rfl rfl) rfl rfl ?_
    refine GoT.pure rfl (J03 rfl) rfl rfl ?_
    obtain ⟨h79, H⟩ := H
    obtain ⟨h80, H⟩ := H
    refine GoT.pure rfl (J02 Try.underlying31 ti3 rfl rfl h79 h80 (gh.some_ h79 h80)) rfl rfl ?_
    refine GoT.stable rfl (ldInt gh h79 h80 Try.underlying3 rfl rfl) rfl rfl ?_
    obtain ⟨h81, H⟩ := H
    refine GoT.pure rfl (J0c rfl rfl (wrap_i64 h81)) rfl rfl ?_
    refine GoT.both ?_ ?_
    ·skip
     skip
     refine GoT.step rfl ((oblk (i := 0) 2 hO rfl rfl Try.underlying23 rfl rfl) _ (Same.refl _)) (Same.refl _) rfl rfl ?_
     skip
     have zz := J0k (r := Rp.int .i64) (n := 1) (parts := [(0, .int .i64 ((0 : Int) + (ix (ix r26.Next (k2_64 : Int)) (k1_59 : Int))))]) (vs := [.int .i64 ((0 : Int) + (ix (ix r26.Next (k2_64 : Int)) (k1_59 : Int)))]) (xs := [((0 : Int) + (ix (ix r26.Next (k2_64 : Int)) (k1_59 : Int)))]) rfl Try.underlying31 ti3 hO (by decide) (by kernel_rfl) (Els.cons rfl rfl (Els.nil _ _ _) (by simp [mx])) rfl
     obtain ⟨w82, p83, tK, zS, GY, Ex⟩ := zz
     refine GoT.step rfl (Ex rfl) GY rfl rfl ?_
     replace hO := tK.own
     skip
     have gQ := Stp.front 1 hO rfl
     dsimp only [eS, eZ] at gQ
     replace hO := gQ.own
     have zz := t2take (hf := (Fl.int .i64)) hO h71 h72
     obtain ⟨SO, zh, SP⟩ := zz
     replace hO := zh.own
     have G0 := SP (bl [.row 3 1 (ie (k1_59 : Int).toNat).1 ((ix d_65 (k1_59 : Int)).length) ((ie (k1_59 : Int).toNat).2) SO, t2h (Fl.int .i64) 31 3 p45 r26.Letters.toNat r26.Letters.toNat ie d_65 (k1_59 : Int).toNat, .row 3 1 p83 1 1 [.int .i64 ((0 : Int) + (ix (ix r26.Next (k2_64 : Int)) (k1_59 : Int)))], .blk B34 (.cells #[.int .i64 r26.Letters, .int .i64 r26.Start, .slice d6 r26.Final.length d7, .slice fw r26.Next.length fx] 25 (0, 0)), .blk B21 (.cells #[.slice p45 r26.Letters.toNat r26.Letters.toNat, .slice none 0 0, .int .i64 0] 83 (0, 0)), .blk B8 (.cells #[.int .i64 0, .slice none 0 0, .slice none 0 0, .slice none 0 0, .slice none 0 0, .slice none 0 0] 33 (0, 0))] ++ A)
     replace zS := (zS.ch gQ.ch).ch zh.ch
     have zz := freeze 2 hO rfl zS
     obtain ⟨hO1, Dy, xB, SQ⟩ := zz
     dsimp only [eS, eZ] at hO1 Dy xB
     replace hB := ((((hB.trans tn.fr).trans tK.fr).trans gQ.fr).trans zh.fr).trans (Owns.J09 _ _ 2)
     dsimp only [eS, eZ] at hB
     replace hO := hO1; clear hO1
     obtain ⟨h98, H⟩ := H
     replace G0 := G0.ch Dy
     have zz := oapp Try.underlying31 ti3 rfl 0 hO rfl G0 xB SQ h98 (by decide)
     obtain ⟨w99, SR, SS, Up, jU, zi, Dx⟩ := zz
     dsimp only [sS, sZ] at jU zi
     refine GoT.stepX rfl (Dx (by exact rfl) (by exact rfl)) rfl rfl rfl ?_
     replace hO := jU.own
     obtain ⟨nM, H⟩ := H
     obtain ⟨qJ, H⟩ := H
     refine GoT.pure rfl (J02 Try.underlying23 ti31 rfl rfl nM (ltn (t2neqH 1 hO rfl) qJ) (t2someH 1 hO rfl nM qJ)) rfl rfl ?_
     skip
     have vX := Stp.front 1 hO rfl
     dsimp only [eS, eZ] at vX
     replace hO := vX.own
     have kF := Stp.front 1 hO rfl
     dsimp only [eS, eZ] at kF
     replace hO := kF.own
     replace zi := (zi.ch vX.ch).ch kF.ch
     have zz := t2fix (hf := (Fl.int .i64)) hO zi nM qJ rfl
     obtain ⟨Yg, l7, K5⟩ := zz
     refine GoT.stepX rfl (K5 Try.underlying31 rfl ti31 (by exact rfl) (by exact rfl)) rfl rfl rfl ?_
     replace hO := l7.own
     refine GoT.nil ?_
     refine Go1.inBlock ?_
     refine Go1.cut [(0, .pointer (some ⟨B21, 0, none⟩)), (3, .pointer (some ⟨B34, 0, none⟩)), (5, .int .i64 (r26.Final.length : Int)), (6, .int .i64 (k1_59 : Int)), (33, .int .i64 ((List.replicate r26.Letters.toNat ([] : List Int)).length : Int)), (34, .int .i64 (k1_59 : Int)), (37, .int .i64 (r26.Final.length : Int)), (38, .int .i64 (k2_64 : Int))] ⟨rfl, rfl, rfl, rfl, rfl, rfl, rfl, rfl, trivial⟩ ?_
     intro σ _
     refine zr ?_
     have Z6 := (((((((tn.ch.trans tK.ch).trans gQ.ch).trans zh.ch).trans Dy).trans jU.ch).trans vX.ch).trans kF.ch).trans l7.ch
     replace ap := ap.ch Z6
     refine zo (J0c rfl rfl (wrap_i64 (natbd h67 ap.bd))) (zm rfl (zn ?_))
     replace hB := (((hB.trans jU.fr).trans vX.fr).trans kF.fr).trans l7.fr
     have Z7 := ((((((tK.ch.trans gQ.ch).trans zh.ch).trans Dy).trans jU.ch).trans vX.ch).trans kF.ch).trans l7.ch
     replace ar := ar.ch Z7
     exact hX2 _ H _ _ ⟨hup ie (k1_59 : Int).toNat (SR, SS), ⟨rfl, rfl, rfl, rfl, rfl, rfl, rfl, rfl, trivial⟩, hO, ap, ar, hB⟩
    skip
    have zz := J0k (r := Rp.int .i64) (n := 1) (parts := [(0, .int .i64 ((0 : Int) + (ix (ix r26.Next (k2_64 : Int)) (k1_59 : Int))))]) (vs := [.int .i64 ((0 : Int) + (ix (ix r26.Next (k2_64 : Int)) (k1_59 : Int)))]) (xs := [((0 : Int) + (ix (ix r26.Next (k2_64 : Int)) (k1_59 : Int)))]) rfl Try.underlying31 ti3 hO (by decide) (by kernel_rfl) (Els.cons rfl rfl (Els.nil _ _ _) (by simp [mx])) rfl
    obtain ⟨Yh, K6, mK, vF, PQ, Dz⟩ := zz
    refine GoT.step rfl (Dz rfl) PQ rfl rfl ?_
    replace hO := mK.own
    refine GoT.both ?_ ?_
    ·skip
     skip
     refine GoT.step rfl ((oblk (i := 0) 3 hO rfl rfl Try.underlying23 rfl rfl) _ (Same.refl _)) (Same.refl _) rfl rfl ?_
     skip
     have fD := Stp.front 1 hO rfl
     dsimp only [eS, eZ] at fD
     replace hO := fD.own
     have zz := t2take (hf := (Fl.int .i64)) hO h71 h72
     obtain ⟨PR, xI, jo⟩ := zz
     replace hO := xI.own
     have x4 := jo (bl [.row 3 1 (ie (k1_59 : Int).toNat).1 ((ix d_65 (k1_59 : Int)).length) ((ie (k1_59 : Int).toNat).2) PR, t2h (Fl.int .i64) 31 3 p45 r26.Letters.toNat r26.Letters.toNat ie d_65 (k1_59 : Int).toNat, .row 3 1 K6 1 1 [.int .i64 ((0 : Int) + (ix (ix r26.Next (k2_64 : Int)) (k1_59 : Int)))], .blk B34 (.cells #[.int .i64 r26.Letters, .int .i64 r26.Start, .slice d6 r26.Final.length d7, .slice fw r26.Next.length fx] 25 (0, 0)), .blk B21 (.cells #[.slice p45 r26.Letters.toNat r26.Letters.toNat, .slice none 0 0, .int .i64 0] 83 (0, 0)), .blk B8 (.cells #[.int .i64 0, .slice none 0 0, .slice none 0 0, .slice none 0 0, .slice none 0 0, .slice none 0 0] 33 (0, 0))] ++ A)
     replace vF := (vF.ch fD.ch).ch xI.ch
     have zz := freeze 2 hO rfl vF
     obtain ⟨hO1, A6, vG, PS⟩ := zz
     dsimp only [eS, eZ] at hO1 A6 vG
     replace hB := ((((hB.trans tn.fr).trans mK.fr).trans fD.fr).trans xI.fr).trans (Owns.J09 _ _ 2)
     dsimp only [eS, eZ] at hB
     replace hO := hO1; clear hO1
     obtain ⟨ST, H⟩ := H
     replace x4 := x4.ch A6
     have zz := oapp Try.underlying31 ti3 rfl 0 hO rfl x4 vG PS ST (by decide)
     obtain ⟨Rs, jp, jx, Uq, wP, zj, K7⟩ := zz
     dsimp only [sS, sZ] at wP zj
     refine GoT.stepX rfl (K7 (by exact rfl) (by exact rfl)) rfl rfl rfl ?_
     replace hO := wP.own
     obtain ⟨yt, H⟩ := H
     obtain ⟨zT, H⟩ := H
     refine GoT.pure rfl (J02 Try.underlying23 ti31 rfl rfl yt (ltn (t2neqH 1 hO rfl) zT) (t2someH 1 hO rfl yt zT)) rfl rfl ?_
     skip
     have jw := Stp.front 1 hO rfl
     dsimp only [eS, eZ] at jw
     replace hO := jw.own
     have vY := Stp.front 1 hO rfl
     dsimp only [eS, eZ] at vY
     replace hO := vY.own
     replace zj := (zj.ch jw.ch).ch vY.ch
     have zz := t2fix (hf := (Fl.int .i64)) hO zj yt zT rfl
     obtain ⟨Su, xJ, K8⟩ := zz
     refine GoT.stepX rfl (K8 Try.underlying31 rfl ti31 (by exact rfl) (by exact rfl)) rfl rfl rfl ?_
     replace hO := xJ.own
     refine GoT.nil ?_
     refine Go1.inBlock ?_
     refine zr ?_
     have Z8 := (((((((tn.ch.trans mK.ch).trans fD.ch).trans xI.ch).trans A6).trans wP.ch).trans jw.ch).trans vY.ch).trans xJ.ch
     replace ap := ap.ch Z8
     refine zo (J0c rfl rfl (wrap_i64 (natbd h67 ap.bd))) (zm rfl (zn ?_))
     replace hB := (((hB.trans wP.fr).trans jw.fr).trans vY.fr).trans xJ.fr
     have Z9 := ((((((mK.ch.trans fD.ch).trans xI.ch).trans A6).trans wP.ch).trans jw.ch).trans vY.ch).trans xJ.ch
     replace ar := ar.ch Z9
     exact hX2 _ H _ _ ⟨hup ie (k1_59 : Int).toNat (jp, jx), ⟨rfl, rfl, rfl, rfl, rfl, rfl, rfl, rfl, trivial⟩, hO, ap, ar, hB⟩
    skip
    have jt := Stp.front 1 hO rfl
    dsimp only [eS, eZ] at jt
    replace hO := jt.own
    have zz := t2take (hf := (Fl.int .i64)) hO h71 h72
    obtain ⟨Ed, mo, dR⟩ := zz
    replace hO := mo.own
    have Fd := dR (bl [.row 3 1 (ie (k1_59 : Int).toNat).1 ((ix d_65 (k1_59 : Int)).length) ((ie (k1_59 : Int).toNat).2) Ed, t2h (Fl.int .i64) 31 3 p45 r26.Letters.toNat r26.Letters.toNat ie d_65 (k1_59 : Int).toNat, .row 3 1 K6 1 1 [.int .i64 ((0 : Int) + (ix (ix r26.Next (k2_64 : Int)) (k1_59 : Int)))], .blk B34 (.cells #[.int .i64 r26.Letters, .int .i64 r26.Start, .slice d6 r26.Final.length d7, .slice fw r26.Next.length fx] 25 (0, 0)), .blk B21 (.cells #[.slice p45 r26.Letters.toNat r26.Letters.toNat, .slice none 0 0, .int .i64 0] 83 (0, 0)), .blk B8 (.cells #[.int .i64 0, .slice none 0 0, .slice none 0 0, .slice none 0 0, .slice none 0 0, .slice none 0 0] 33 (0, 0))] ++ A)
    replace vF := (vF.ch jt.ch).ch mo.ch
    have zz := freeze 2 hO rfl vF
    obtain ⟨hO1, A7, vH, PT⟩ := zz
    dsimp only [eS, eZ] at hO1 A7 vH
    replace hB := ((((hB.trans tn.fr).trans mK.fr).trans jt.fr).trans mo.fr).trans (Owns.J09 _ _ 2)
    dsimp only [eS, eZ] at hB
    replace hO := hO1; clear hO1
    obtain ⟨x9, H⟩ := H
    replace Fd := Fd.ch A7
    have zz := oapp Try.underlying31 ti3 rfl 0 hO rfl Fd vH PT x9 (by decide)
    obtain ⟨Yi, Ez, EA, Ur, wQ, zl, K9⟩ := zz
    dsimp only [sS, sZ] at wQ zl
    refine GoT.stepX rfl (K9 (by exact rfl) (by exact rfl)) rfl rfl rfl ?_
    replace hO := wQ.own
    skip
    refine GoT.step rfl ((oblk (i := 0) 3 hO rfl rfl Try.underlying23 rfl rfl) _ (Same.refl _)) (Same.refl _) rfl rfl ?_
    obtain ⟨G1, H⟩ := H
    obtain ⟨Cv, H⟩ := H
    refine GoT.pure rfl (J02 Try.underlying23 ti31 rfl rfl G1 (ltn (t2neqH 1 hO rfl) Cv) (t2someH 1 hO rfl G1 Cv)) rfl rfl ?_
    skip
    have jV := Stp.front 1 hO rfl
    dsimp only [eS, eZ] at jV
    replace hO := jV.own
    have v7 := Stp.front 1 hO rfl
    dsimp only [eS, eZ] at v7
    replace hO := v7.own
    replace zl := (zl.ch jV.ch).ch v7.ch
    have zz := t2fix (hf := (Fl.int .i64)) hO zl G1 Cv rfl
    obtain ⟨RK, xK, CU⟩ := zz
    refine GoT.stepX rfl (CU Try.underlying31 rfl ti31 (by exact rfl) (by exact rfl)) rfl rfl rfl ?_
    replace hO := xK.own
    refine GoT.nil ?_
    refine Go1.inBlock ?_
    refine zr ?_
    have Z10 := (((((((tn.ch.trans mK.ch).trans jt.ch).trans mo.ch).trans A7).trans wQ.ch).trans jV.ch).trans v7.ch).trans xK.ch
    replace ap := ap.ch Z10
    refine zo (J0c rfl rfl (wrap_i64 (natbd h67 ap.bd))) (zm rfl (zn ?_))
    replace hB := (((hB.trans wQ.fr).trans jV.fr).trans v7.fr).trans xK.fr
    have Z11 := ((((((mK.ch.trans jt.ch).trans mo.ch).trans A7).trans wQ.ch).trans jV.ch).trans v7.ch).trans xK.ch
    replace ar := ar.ch Z11
    exact hX2 _ H _ _ ⟨hup ie (k1_59 : Int).toNat (Ez, EA), ⟨rfl, rfl, rfl, rfl, rfl, rfl, rfl, rfl, trivial⟩, hO, ap, ar, hB⟩
   replace H := ifn h67 H
   refine zo (fun w => opB (J08 rfl rfl w) (decide_eq_false h67)) (zn (zq (zf rfl rfl ?_)))
   refine Go1.exit rfl ?_
   refine Go1.inBlock ?_
   refine zr ?_
   obtain ⟨Dh, H⟩ := H
   refine zo (J0c rfl rfl (wrap_i64 Dh)) (zm rfl (zn ?_))
   exact hX1 _ H _ _ ⟨ie, ⟨rfl, rfl, rfl, rfl, rfl, trivial⟩, hO, ap, ar, hB⟩
  replace H := ifn h62 H
  refine zo (fun w => opB (J08 rfl rfl w) (decide_eq_false h62)) (zn (zq (zf rfl rfl ?_)))
  refine Go1.exit rfl ?_
  refine zq ?_
  refine Go1.drawS 4 [(0, .pure), (1, .pure), (2, .pure), (3, .pure), (4, .stable), (5, .pure), (6, .pure), (7, .pure), (8, .stable), (9, .pure), (10, .stable), (11, .pure), (12, .pure), (13, .stable), (14, .pure), (15, .pure), (16, .pure), (17, .stable), (18, .pure), (19, .loud), (20, .last), (21, .pure), (22, .pure), (23, .last)] mixed (by kernel_rfl) ?_
  intro Ru PU
  have A8 := Stp.same hO PU
  replace hO := A8.own
  refine GoQ.pure rfl (J03 rfl) rfl rfl ?_
  refine GoQ.pure rfl (J03 rfl) rfl rfl ?_
  refine GoQ.pure rfl (J01 rfl) rfl rfl ?_
  refine GoQ.pure rfl (J00 Try.underlying83 rfl ti81 rfl (by decide)) rfl rfl ?_
  refine GoQ.stable rfl (oblk (i := 1) 2 hO rfl rfl Try.underlying81 rfl rfl) rfl rfl ?_
  refine GoQ.pure rfl (J03 rfl) rfl rfl ?_
  refine GoQ.pure rfl (J01 rfl) rfl rfl ?_
  refine GoQ.pure rfl (J00 Try.underlying83 rfl ti3 rfl (by decide)) rfl rfl ?_
  refine GoQ.stable rfl (oblk (i := 2) 2 hO rfl rfl Try.underlying3 rfl rfl) rfl rfl ?_
  refine GoQ.pure rfl (J00 Try.underlying25 rfl ti3 rfl (by decide)) rfl rfl ?_
  refine GoQ.stable rfl (oblk (i := 1) 1 hO rfl rfl Try.underlying3 rfl rfl) rfl rfl ?_
  obtain ⟨Bu, H⟩ := H
  refine GoQ.pure rfl (J0c rfl rfl (wrap_i64 Bu)) rfl rfl ?_
  refine GoQ.pure rfl (J00 Try.underlying25 rfl ti22 rfl (by decide)) rfl rfl ?_
  refine GoQ.stable rfl (oblk (i := 2) 1 hO rfl rfl Try.underlying22 rfl rfl) rfl rfl ?_
  refine GoQ.pure rfl (J03 rfl) rfl rfl ?_
  refine GoQ.pure rfl (J01 rfl) rfl rfl ?_
  refine GoQ.pure rfl (J00 Try.underlying83 rfl ti3 rfl (by decide)) rfl rfl ?_
  refine GoQ.stable rfl (oblk (i := 2) 2 hO rfl rfl Try.underlying3 rfl rfl) rfl rfl ?_
  refine GoQ.pure rfl (J0q Try.underlying120 ti120 (pl := [(0, 1), (1, 1), (2, 1)]) (vs := [(0, .int .i64 ((0 : Int) + r26.Start)), (1, .slice d6 r26.Final.length d7), (2, .int .i64 0)]) (cs := #[.int .i64 ((0 : Int) + r26.Start), .slice d6 r26.Final.length d7, .int .i64 0]) (by kernel_rfl) rfl (by kernel_rfl)) rfl rfl ?_
  replace ap := ap.ch A8.ch
  have zz := obuildN (r := rppart) (n := 1) (parts := [(0, .agg #[.int .i64 ((0 : Int) + r26.Start), .slice d6 r26.Final.length d7, .int .i64 0])]) (vs := [.int .i64 ((0 : Int) + r26.Start), .slice d6 r26.Final.length d7, .int .i64 0]) (xs := [(⟨((0 : Int) + r26.Start), r26.Final, (0 : Int)⟩ : part)]) Try.underlying81 ti120 hO (by decide) (by decide) (by kernel_rfl) (Els.consR (us := [.int .i64 ((0 : Int) + r26.Start), .slice d6 r26.Final.length d7, .int .i64 0]) rfl ⟨rfl, ⟨d6, d7, rfl, ap⟩, rfl⟩ (Els.nil _ _ _) (by simp [mx])) rfl
  obtain ⟨Ko, Yj, fK, uU, H7, CV⟩ := zz
  refine GoQ.loud rfl (CV rfl) H7 rfl rfl ?_
  replace hO := fK.own
  have zz := freeze 0 hO rfl uU
  obtain ⟨hO1, Fe, dU, PV⟩ := zz
  dsimp only [eS, eZ] at hO1 Fe dU
  replace hB := ((hB.trans A8.fr).trans fK.fr).trans (Owns.J09 _ _ 0)
  dsimp only [eS, eZ] at hB
  replace hO := hO1; clear hO1
  have m5 := Stp.nil (e := 120) (r := 3) hO
  replace hO := m5.own
  have PW := Els.nil (rppart) (bl (.row 120 3 none 0 0 [] :: [t2 (Fl.int .i64) 31 3 p45 r26.Letters.toNat r26.Letters.toNat yg d_60, .blk B34 (.cells #[.int .i64 r26.Letters, .int .i64 r26.Start, .slice d6 r26.Final.length d7, .slice fw r26.Next.length fx] 25 (0, 0)), .blk B21 (.cells #[.slice p45 r26.Letters.toNat r26.Letters.toNat, .slice none 0 0, .int .i64 0] 83 (0, 0)), .blk B8 (.cells #[.int .i64 0, .slice none 0 0, .slice none 0 0, .slice none 0 0, .slice none 0 0, .slice none 0 0] 33 (0, 0))]) ++ A) Ko
  obtain ⟨SU, H⟩ := H
  replace dU := dU.ch m5.ch
  have zz := oapp Try.underlying81 ti120 rfl 0 hO rfl PW dU PV SU (by decide)
  obtain ⟨Yk, cd, ce, cQ, xL, aD, La⟩ := zz
  dsimp only [sS, sZ] at xL aD
  refine GoQ.last rfl (La (by exact rfl) (by exact rfl)) rfl rfl ?_
  replace hO := xL.own
  refine GoQ.pure rfl (J01 rfl) rfl rfl ?_
  refine GoQ.pure rfl (J00 Try.underlying83 rfl ti81 rfl (by decide)) rfl rfl ?_
  have zz := J0e (v := .slice cd (0 + 1) ce) (i := 1) (cs' := #[.slice p45 r26.Letters.toNat r26.Letters.toNat, .slice cd (0 + 1) ce, .int .i64 0]) 3 hO rfl rfl rfl rfl
  obtain ⟨QU, wR, Lb⟩ := zz
  dsimp only [sS, sZ] at wR
  refine GoQ.last rfl (Lb Try.underlying81 rfl ti81 (by exact rfl) (by exact rfl)) rfl rfl ?_
  replace hO := wR.own
  refine GoQ.nil ?_
  refine zq ?_
  refine Go1.cut [(0, .pointer (some ⟨B21, 0, none⟩)), (5, .int .i64 (r26.Final.length : Int))] ⟨rfl, rfl, trivial⟩ ?_
  intro σ _
  refine zr (zm rfl (zo (J01 rfl) (zo (J00 Try.underlying83 rfl ti3 rfl (by decide)) (zs (oblk (i := 2) 3 hO rfl rfl Try.underlying3 rfl rfl) (zm rfl ?_)))))
  obtain ⟨C0, H⟩ := H
  refine zo (J0c rfl rfl (wrap_i64 C0)) (zo (J01 rfl) (zo (J00 Try.underlying83 rfl ti3 rfl (by decide)) ?_))
  have zz := J0e (v := .int .i64 ((0 : Int) + (r26.Final.length : Int))) (i := 2) (cs' := #[.slice p45 r26.Letters.toNat r26.Letters.toNat, .slice cd (0 + 1) ce, .int .i64 ((0 : Int) + (r26.Final.length : Int))]) 3 hO rfl rfl rfl rfl
  obtain ⟨RL, wS, Cy⟩ := zz
  dsimp only [sS, sZ] at wS
  refine zg (Cy Try.underlying3 rfl ti3 (by exact rfl) (by exact rfl)) ?_
  replace hO := wS.own
  refine zn (zq (zr (za rfl (zn ?_))))
  refine Go1.ret1V Try.func62 rfl (show _ = .int .i64 0 from rfl) ?_
  refine hR32 _ _ ?_
  refine za rfl (zn (zq (zr (zm rfl (zo (fun w => opB (J0g rfl rfl w) (ndT (by decide))) ?_)))))
  refine zn (zf rfl rfl (zk (zq (zr ?_))))
  refine GoR.inl (vs := [.pointer (some ⟨B21, 0, none⟩)]) (caps := []) rfl rfl body63 Try.func63 rfl Try.ntmps63 rfl rfl rfl ?_
  intro RhR205 hR205
  refine zq (zr ?_)
  have zz := oalloc (t := 33) (cs := #[.int .i64 0, .slice none 0 0, .slice none 0 0, .slice none 0 0, .slice none 0 0, .slice none 0 0]) ti33 hO rfl
  obtain ⟨Sv, B207, iX, Us, Di⟩ := zz
  refine GoR.op Di rfl rfl ?_
  replace hO := iX.own
  refine za rfl (za rfl (zn (zq (zr (zm rfl ?_)))))
  refine zo (J01 rfl) (zo (J00 Try.underlying83 rfl ti23 rfl (by decide)) (zs (oblk (i := 0) 4 hO rfl rfl Try.underlying23 rfl rfl) ?_))
  have zz := t2freezeA 2 hO rfl
  obtain ⟨hO1, A9, bg, Im⟩ := zz
  dsimp only [eS, eZ] at hO1 A9 bg
  replace hB := (((((hB.trans m5.fr).trans xL.fr).trans wR.fr).trans wS.fr).trans iX.fr).trans (Owns.J09 _ _ 2)
  dsimp only [eS, eZ] at hB
  replace hO := hO1; clear hO1
  refine GoR.call (J0a body101 (show ([.slice p45 r26.Letters.toNat r26.Letters.toNat, .bool true] : List Value) = [.slice p45 d_60.length r26.Letters.toNat, .bool true] from by rw [← Im]) (walk_enumerate_Build hO.lt bg H)) rfl rfl ?_
  rintro Yl Ym ⟨r215, r216, aS, aT, aE, aF, aA, aB, aU, aV, ay, az, aJ, aK, rfl, PX, am, ah, ad, ak, ag, aj, H⟩
  have wT := Stp.same hO PX
  replace hO := wT.own
  refine zm rfl (zo (J07 rfl rfl) (zo (J07 rfl rfl) ?_))
  have zz := oalloc (t := 123) (cs := #[.int .i64 0, .bool false, .slice none 0 0, .slice none 0 0, .slice none 0 0, .slice none 0 0, .slice none 0 0, .slice none 0 0, .int .i64 0]) ti123 hO rfl
  obtain ⟨QW, B223, qh, Ut, Lc⟩ := zz
  refine GoR.op Lc rfl rfl ?_
  replace hO := qh.own
  have zz := J0b (us := [.int .i64 r215.Points, .bool r215.Monoid, .slice aS r215.Gens.length aT, .slice aE r215.Elems.length aF, .slice aA r215.Prefix.length aB, .slice aU r215.Last.length aV, .slice ay r215.Right.length az, .slice aJ r215.Rules.length aK, .int .i64 r215.Done]) (o := 0) (cs' := #[.int .i64 r215.Points, .bool r215.Monoid, .slice aS r215.Gens.length aT, .slice aE r215.Elems.length aF, .slice aA r215.Prefix.length aB, .slice aU r215.Last.length aV, .slice ay r215.Right.length az, .slice aJ r215.Rules.length aK, .int .i64 r215.Done]) 0 hO rfl rfl (Nat.le_of_ble_eq_true rfl) rfl
  obtain ⟨Yn, og, Ld⟩ := zz
  dsimp only [sS, sZ] at og
  refine zg (Ld ti123 (by exact rfl) (by exact rfl) rfl) ?_
  replace hO := og.own
  refine za rfl (zn (zq (zq ?_)))
  refine Go1.cut [(0, .pointer (some ⟨B21, 0, none⟩)), (2, .pointer (some ⟨B207, 0, none⟩)), (5, .pointer (some ⟨B223, 0, none⟩)), (6, .int .i64 r216)] ⟨rfl, rfl, rfl, rfl, trivial⟩ ?_
  intro σ _
  refine zr (zm rfl ?_)
  by_cases yb : r216 = (0 : Int)
  ·replace H := ifp yb H
   refine zo (fun w => opB (J0g rfl rfl w) (ndT yb)) (zn (zf rfl rfl (zk (zq (zr ?_)))))
   refine zo (J00 Try.underlying123 rfl ti23 rfl (by decide)) (zs (oblk (i := 3) 0 hO rfl rfl Try.underlying23 rfl rfl) (zo (J0d Try.underlying23 rfl) ?_))
   replace ah := (ah.ch qh.ch).ch og.ch
   replace H := H ah.bd
   refine za rfl (zn (zq (zq (zr (zm rfl ?_)))))
   by_cases yc : (400 : Int) < (r215.Elems.length : Int)
   ·replace H := ifp yc H
    refine zo (fun w => opB (J0M rfl rfl w) (decide_eq_true yc)) (zn (zt rfl rfl (zq (zr (zo (J0q Try.underlying33 ti33 (pl := [(0, 1), (1, 1), (2, 1), (3, 1), (4, 1), (5, 1)]) (vs := []) (cs := #[.int .i64 0, .slice none 0 0, .slice none 0 0, .slice none 0 0, .slice none 0 0, .slice none 0 0]) (by kernel_rfl) rfl (by kernel_rfl)) ?_)))))
    have zz := J0b (us := [.int .i64 0, .slice none 0 0, .slice none 0 0, .slice none 0 0, .slice none 0 0, .slice none 0 0]) (o := 0) (cs' := #[.int .i64 0, .slice none 0 0, .slice none 0 0, .slice none 0 0, .slice none 0 0, .slice none 0 0]) 1 hO rfl rfl (Nat.le_of_ble_eq_true rfl) rfl
    obtain ⟨RN, oh, Le⟩ := zz
    dsimp only [sS, sZ] at oh
    refine zg (Le ti33 (by exact rfl) (by exact rfl) rfl) ?_
    replace hO := oh.own
    refine za rfl (za rfl (zn ?_))
    refine Go1.retC3V Try.func63 rfl rfl (J0f (vs := [.int .i64 0, .slice none 0 0, .slice none 0 0, .slice none 0 0, .slice none 0 0, .slice none 0 0]) 1 hO rfl rfl Try.underlying33 rfl ti33) (show _ = .slice none 0 0 from rfl) (show _ = .int .i64 3 from rfl) ?_
    refine hR205 _ _ ?_
    refine zm rfl (zo (J07 rfl rfl) (zo (J07 rfl rfl) (zo (J07 rfl rfl) ?_)))
    have zz := oalloc (t := 33) (cs := #[.int .i64 0, .slice none 0 0, .slice none 0 0, .slice none 0 0, .slice none 0 0, .slice none 0 0]) ti33 hO rfl
    obtain ⟨QX, B237, jq, Uu, Lf⟩ := zz
    refine GoR.op Lf rfl rfl ?_
    replace hO := jq.own
    have zz := J0b (us := [.int .i64 0, .slice none 0 0, .slice none 0 0, .slice none 0 0, .slice none 0 0, .slice none 0 0]) (o := 0) (cs' := #[.int .i64 0, .slice none 0 0, .slice none 0 0, .slice none 0 0, .slice none 0 0, .slice none 0 0]) 0 hO rfl rfl (Nat.le_of_ble_eq_true rfl) rfl
    obtain ⟨Yo, ol, Lg⟩ := zz
    dsimp only [sS, sZ] at ol
    refine zg (Lg ti33 (by exact rfl) (by exact rfl) rfl) ?_
    replace hO := ol.own
    refine za rfl (za rfl (zn (zq (zq ?_))))
    refine Go1.cut [(2, .pointer (some ⟨B8, 0, none⟩)), (7, .pointer (some ⟨B237, 0, none⟩)), (8, .slice none 0 0), (9, .int .i64 3)] ⟨rfl, rfl, rfl, rfl, trivial⟩ ?_
    intro σ _
    refine zr (zm rfl (zo (fun w => opB (J0g rfl rfl w) (ndF (by decide))) (zn (zt rfl rfl (zq ?_)))))
    refine zr (zo (J0q Try.underlying33 ti33 (pl := [(0, 1), (1, 1), (2, 1), (3, 1), (4, 1), (5, 1)]) (vs := []) (cs := #[.int .i64 0, .slice none 0 0, .slice none 0 0, .slice none 0 0, .slice none 0 0, .slice none 0 0]) (by kernel_rfl) rfl (by kernel_rfl)) (zm rfl ?_))
    have zz := J0b (us := [.int .i64 0, .slice none 0 0, .slice none 0 0, .slice none 0 0, .slice none 0 0, .slice none 0 0]) (o := 0) (cs' := #[.int .i64 0, .slice none 0 0, .slice none 0 0, .slice none 0 0, .slice none 0 0, .slice none 0 0]) 6 hO rfl rfl (Nat.le_of_ble_eq_true rfl) rfl
    obtain ⟨RQ, gT, C6⟩ := zz
    dsimp only [sS, sZ] at gT
    refine zg (C6 ti33 (by exact rfl) (by exact rfl) rfl) ?_
    replace hO := gT.own
    refine za rfl (zn ?_)
    refine Go1.retC2 Try.func19 rfl rfl (J0f (vs := [.int .i64 0, .slice none 0 0, .slice none 0 0, .slice none 0 0, .slice none 0 0, .slice none 0 0]) 6 hO rfl rfl Try.underlying33 rfl ti33) ?_
    replace hB := ((((((hB.trans wT.fr).trans qh.fr).trans og.fr).trans oh.fr).trans jq.fr).trans ol.fr).trans gT.fr
    exact ⟨(⟨(0 : Int), ([] : List (List Int)), ([] : List Str), ([] : List Int), ([] : List Bool), ([] : List Bool)⟩ : Syntactic), (3 : Int), none, 0, none, 0, none, 0, none, 0, none, 0, rfl, hB.same, (ISl.null _ _ _), (ISl.null _ _ _), (ISl.null _ _ _), (ISl.null _ _ _), (ISl.null _ _ _), H⟩
   replace H := ifn yc H
   refine zo (fun w => opB (J0M rfl rfl w) (decide_eq_false yc)) (zn (zf rfl rfl (zk (zq ?_))))
   refine Go1.drawA Same.tr A 1 [(0, .pure), (1, .pure), (2, .pure), (3, .stable), (4, .pure), (5, .pure), (7, .pure), (9, .pure), (10, .stable), (11, .pure), (12, .stable), (14, .pure), (13, .loud), (6, .alloc), (8, .alloc), (15, .alloc), (16, .pure), (17, .alloc), (18, .last)] mixed (by kernel_rfl) trivial hO.bd ?_
   intro Yp PY
   have qi := Stp.same hO PY
   replace hO := qi.own
   have Ck := hO.le
   replace hB := (((hB.trans wT.fr).trans qh.fr).trans og.fr).trans qi.fr
   have hw251 := hB.ch.size
   refine GoQA.pure rfl (J03 rfl) rfl rfl ?_
   refine GoQA.pure rfl (J01 rfl) rfl rfl ?_
   refine GoQA.pure rfl (J00 Try.underlying83 rfl ti23 rfl (by decide)) rfl rfl ?_
   refine GoQA.stable rfl (oblk (i := 0) 4 hO rfl rfl Try.underlying23 rfl rfl) rfl rfl ?_
   refine GoQA.pure rfl (J0y Try.underlying23 rfl Im) rfl rfl ?_
   have Z12 := ((wT.ch.trans qh.ch).trans og.ch).trans qi.ch
   replace bg := bg.ch Z12
   replace H := H bg.bd
   refine GoQA.pure rfl (J03 rfl) rfl rfl ?_
   refine GoQA.pure rfl (J03 rfl) rfl rfl ?_
   refine GoQA.pure rfl (J00 Try.underlying123 rfl ti23 rfl (by decide)) rfl rfl ?_
   refine GoQA.stable rfl (oblk (i := 6) 0 hO rfl rfl Try.underlying23 rfl rfl) rfl rfl ?_
   obtain ⟨G3, H⟩ := H
   obtain ⟨G4, H⟩ := H
   have Z13 := (qh.ch.trans og.ch).trans qi.ch
   replace ag := ag.ch Z13
   refine GoQA.pure rfl (J02 Try.underlying23 ti31 rfl rfl G3 G4 (ag.some_ G3 G4)) rfl rfl ?_
   have zz := ldSl ag G3 G4
   obtain ⟨Yq, Yr, iq, P1⟩ := zz
   refine GoQA.stable rfl (P1 Try.underlying31 rfl rfl) rfl rfl ?_
   refine GoQA.pure rfl (J03 rfl) rfl rfl ?_
   refine GoQA.loudI rfl rfl ?_
   intro Ys A260 tp
   replace hO := tp.own hO
   replace iq := iq.ch (tp.ch _)
   refine GoAt.call (J0a body86 rfl (J0I hO.lt iq H)) (fun v w hr => ⟨fun _ => (by obtain ⟨_, _, _, _, _, _, hs, _, _, _⟩ := hr; exact hs), Same.kp hO (by obtain ⟨_, _, _, _, _, _, hs, _, _, _⟩ := hr; exact hs)⟩) rfl ?_
   rintro Yt Yu ⟨r262, aO, aM, aN, bN, rfl, P2, hN266, bc, H⟩
   have iI := Stp.more hO P2 hN266
   dsimp only [List.cons_append, List.nil_append] at iI
   replace hO := iI.own
   obtain ⟨SV, H⟩ := H
   obtain ⟨SW, H⟩ := H
   refine GoQA.alloc rfl rfl (alMake2 (e' := 3) (Fl.int .i64) Try.underlying23 ti31 SV SW (by decide) rfl rfl) ?_
   intro Kw A272 bx A274 rE Io hd277 hnb278 hh279
   replace hO := rE.own hO
   have jB := gainCh (w := Kw) (E := [.row 3 1 aM aO aN bN, .blk B223 (.cells #[.int .i64 r215.Points, .bool r215.Monoid, .slice aS r215.Gens.length aT, .slice aE r215.Elems.length aF, .slice aA r215.Prefix.length aB, .slice aU r215.Last.length aV, .slice ay r215.Right.length az, .slice aJ r215.Rules.length aK, .int .i64 r215.Done] 123 (0, 0)), .blk B207 (.cells #[.int .i64 0, .slice none 0 0, .slice none 0 0, .slice none 0 0, .slice none 0 0, .slice none 0 0] 33 (0, 0)), .row 120 3 cd (0 + 1) ce cQ, .blk B34 (.cells #[.int .i64 r26.Letters, .int .i64 r26.Start, .slice d6 r26.Final.length d7, .slice fw r26.Next.length fx] 25 (0, 0)), .blk B21 (.cells #[.slice p45 r26.Letters.toNat r26.Letters.toNat, .slice cd (0 + 1) ce, .int .i64 ((0 : Int) + (r26.Final.length : Int))] 83 (0, 0)), .blk B8 (.cells #[.int .i64 0, .slice none 0 0, .slice none 0 0, .slice none 0 0, .slice none 0 0, .slice none 0 0] 33 (0, 0))]) (e := t2 (Fl.int .i64) 31 3 (some ⟨bx, 0, none⟩) r215.Elems.length r215.Elems.length ((fun _ => (none, 0))) (List.replicate r215.Elems.length ([] : List Int))) Io (t2fp_new bx)
   replace hB := ((hB.trans (tp.same.fr _)).trans iI.fr).trans (rE.same.fr _)
   replace hB := Fr.gain (e := t2 (Fl.int .i64) 31 3 (some ⟨bx, 0, none⟩) r215.Elems.length r215.Elems.length ((fun _ => (none, 0))) (List.replicate r215.Elems.length ([] : List Int))) hB (Nat.le_trans hw251 hnb278) (t2fp_new bx)
   replace hO := Owns.gain hO Io Ck (t2fp_new bx) hh279 hd277
   obtain ⟨SX, H⟩ := H
   obtain ⟨SY, H⟩ := H
   have zz := alMakeE (n := (r215.Elems.length : Int)) (r := Rp.str) (d := ([] : Str)) Try.underlying30 ti9 (fun _ _ => ⟨rfl, Nat.zero_le _⟩) rfl SX SY (by decide)
   obtain ⟨zu, hal297, EE⟩ := zz
   refine GoQA.alloc rfl rfl (hal297 rfl rfl) ?_
   intro Gg A285 bA A287 rF Ip hd290 hnb291 hh292
   replace hO := rF.own hO
   have kW := EE (bl [t2 (Fl.int .i64) 31 3 (some ⟨bx, 0, none⟩) r215.Elems.length r215.Elems.length ((fun _ => (none, 0))) (List.replicate r215.Elems.length ([] : List Int)), .row 3 1 aM aO aN bN, .blk B223 (.cells #[.int .i64 r215.Points, .bool r215.Monoid, .slice aS r215.Gens.length aT, .slice aE r215.Elems.length aF, .slice aA r215.Prefix.length aB, .slice aU r215.Last.length aV, .slice ay r215.Right.length az, .slice aJ r215.Rules.length aK, .int .i64 r215.Done] 123 (0, 0)), .blk B207 (.cells #[.int .i64 0, .slice none 0 0, .slice none 0 0, .slice none 0 0, .slice none 0 0, .slice none 0 0] 33 (0, 0)), .row 120 3 cd (0 + 1) ce cQ, .blk B34 (.cells #[.int .i64 r26.Letters, .int .i64 r26.Start, .slice d6 r26.Final.length d7, .slice fw r26.Next.length fx] 25 (0, 0)), .blk B21 (.cells #[.slice p45 r26.Letters.toNat r26.Letters.toNat, .slice cd (0 + 1) ce, .int .i64 ((0 : Int) + (r26.Final.length : Int))] 83 (0, 0)), .blk B8 (.cells #[.int .i64 0, .slice none 0 0, .slice none 0 0, .slice none 0 0, .slice none 0 0, .slice none 0 0] 33 (0, 0))] ++ A285) Gg
   have tq := gainCh (w := Gg) (E := [t2 (Fl.int .i64) 31 3 (some ⟨bx, 0, none⟩) r215.Elems.length r215.Elems.length ((fun _ => (none, 0))) (List.replicate r215.Elems.length ([] : List Int)), .row 3 1 aM aO aN bN, .blk B223 (.cells #[.int .i64 r215.Points, .bool r215.Monoid, .slice aS r215.Gens.length aT, .slice aE r215.Elems.length aF, .slice aA r215.Prefix.length aB, .slice aU r215.Last.length aV, .slice ay r215.Right.length az, .slice aJ r215.Rules.length aK, .int .i64 r215.Done] 123 (0, 0)), .blk B207 (.cells #[.int .i64 0, .slice none 0 0, .slice none 0 0, .slice none 0 0, .slice none 0 0, .slice none 0 0] 33 (0, 0)), .row 120 3 cd (0 + 1) ce cQ, .blk B34 (.cells #[.int .i64 r26.Letters, .int .i64 r26.Start, .slice d6 r26.Final.length d7, .slice fw r26.Next.length fx] 25 (0, 0)), .blk B21 (.cells #[.slice p45 r26.Letters.toNat r26.Letters.toNat, .slice cd (0 + 1) ce, .int .i64 ((0 : Int) + (r26.Final.length : Int))] 83 (0, 0)), .blk B8 (.cells #[.int .i64 0, .slice none 0 0, .slice none 0 0, .slice none 0 0, .slice none 0 0, .slice none 0 0] 33 (0, 0))]) (e := .row 9 1 (some ⟨bA, 0, none⟩) r215.Elems.length r215.Elems.length zu) Ip rfl
   replace hB := hB.trans (rF.same.fr _)
   replace hB := Fr.gain (e := .row 9 1 (some ⟨bA, 0, none⟩) r215.Elems.length r215.Elems.length zu) hB (Nat.le_trans hw251 hnb291) rfl
   replace hO := Owns.gain hO Ip Ck rfl hh292 hd290
   obtain ⟨S0, H⟩ := H
   obtain ⟨FK, H⟩ := H
   have zz := alMakeE (n := (r215.Elems.length : Int)) (r := Rp.bool) (d := false) Try.underlying22 ti4 (fun _ _ => rfl) rfl S0 FK (by decide)
   obtain ⟨Cl, hal314, P3⟩ := zz
   refine GoQA.alloc rfl rfl (hal314 rfl rfl) ?_
   intro FJ A302 bD A304 pF Iq hd307 hnb308 hh309
   replace hO := pF.own hO
   have fT := P3 (bl [.row 9 1 (some ⟨bA, 0, none⟩) r215.Elems.length r215.Elems.length zu, t2 (Fl.int .i64) 31 3 (some ⟨bx, 0, none⟩) r215.Elems.length r215.Elems.length ((fun _ => (none, 0))) (List.replicate r215.Elems.length ([] : List Int)), .row 3 1 aM aO aN bN, .blk B223 (.cells #[.int .i64 r215.Points, .bool r215.Monoid, .slice aS r215.Gens.length aT, .slice aE r215.Elems.length aF, .slice aA r215.Prefix.length aB, .slice aU r215.Last.length aV, .slice ay r215.Right.length az, .slice aJ r215.Rules.length aK, .int .i64 r215.Done] 123 (0, 0)), .blk B207 (.cells #[.int .i64 0, .slice none 0 0, .slice none 0 0, .slice none 0 0, .slice none 0 0, .slice none 0 0] 33 (0, 0)), .row 120 3 cd (0 + 1) ce cQ, .blk B34 (.cells #[.int .i64 r26.Letters, .int .i64 r26.Start, .slice d6 r26.Final.length d7, .slice fw r26.Next.length fx] 25 (0, 0)), .blk B21 (.cells #[.slice p45 r26.Letters.toNat r26.Letters.toNat, .slice cd (0 + 1) ce, .int .i64 ((0 : Int) + (r26.Final.length : Int))] 83 (0, 0)), .blk B8 (.cells #[.int .i64 0, .slice none 0 0, .slice none 0 0, .slice none 0 0, .slice none 0 0, .slice none 0 0] 33 (0, 0))] ++ A302) FJ
   have rG := gainCh (w := FJ) (E := [.row 9 1 (some ⟨bA, 0, none⟩) r215.Elems.length r215.Elems.length zu, t2 (Fl.int .i64) 31 3 (some ⟨bx, 0, none⟩) r215.Elems.length r215.Elems.length ((fun _ => (none, 0))) (List.replicate r215.Elems.length ([] : List Int)), .row 3 1 aM aO aN bN, .blk B223 (.cells #[.int .i64 r215.Points, .bool r215.Monoid, .slice aS r215.Gens.length aT, .slice aE r215.Elems.length aF, .slice aA r215.Prefix.length aB, .slice aU r215.Last.length aV, .slice ay r215.Right.length az, .slice aJ r215.Rules.length aK, .int .i64 r215.Done] 123 (0, 0)), .blk B207 (.cells #[.int .i64 0, .slice none 0 0, .slice none 0 0, .slice none 0 0, .slice none 0 0, .slice none 0 0] 33 (0, 0)), .row 120 3 cd (0 + 1) ce cQ, .blk B34 (.cells #[.int .i64 r26.Letters, .int .i64 r26.Start, .slice d6 r26.Final.length d7, .slice fw r26.Next.length fx] 25 (0, 0)), .blk B21 (.cells #[.slice p45 r26.Letters.toNat r26.Letters.toNat, .slice cd (0 + 1) ce, .int .i64 ((0 : Int) + (r26.Final.length : Int))] 83 (0, 0)), .blk B8 (.cells #[.int .i64 0, .slice none 0 0, .slice none 0 0, .slice none 0 0, .slice none 0 0, .slice none 0 0] 33 (0, 0))]) (e := .row 4 1 (some ⟨bD, 0, none⟩) r215.Elems.length r215.Elems.length Cl) Iq rfl
   replace hB := hB.trans (pF.same.fr _)
   replace hB := Fr.gain (e := .row 4 1 (some ⟨bD, 0, none⟩) r215.Elems.length r215.Elems.length Cl) hB (Nat.le_trans hw251 hnb308) rfl
   replace hO := Owns.gain hO Iq Ck rfl hh309 hd307
   refine GoQA.pure rfl (J0q Try.underlying33 ti33 (pl := [(0, 1), (1, 1), (2, 1), (3, 1), (4, 1), (5, 1)]) (vs := [(0, .int .i64 (d_60.length : Int)), (1, .slice (some ⟨bx, 0, none⟩) r215.Elems.length r215.Elems.length), (2, .slice (some ⟨bA, 0, none⟩) r215.Elems.length r215.Elems.length), (3, .slice aM aO aN), (5, .slice (some ⟨bD, 0, none⟩) r215.Elems.length r215.Elems.length)]) (cs := #[.int .i64 (d_60.length : Int), .slice (some ⟨bx, 0, none⟩) r215.Elems.length r215.Elems.length, .slice (some ⟨bA, 0, none⟩) r215.Elems.length r215.Elems.length, .slice aM aO aN, .slice none 0 0, .slice (some ⟨bD, 0, none⟩) r215.Elems.length r215.Elems.length]) (by kernel_rfl) rfl (by kernel_rfl)) rfl rfl ?_
   refine GoQA.alloc rfl rfl (alAlloc (cs := #[.int .i64 0, .slice none 0 0, .slice none 0 0, .slice none 0 0, .slice none 0 0, .slice none 0 0]) ti33 rfl) ?_
   intro KE A319 dx A321 om Ir hd324 hnb325 hh326
   replace hO := om.own hO
   have gU := gainCh (w := KE) (E := [.row 4 1 (some ⟨bD, 0, none⟩) r215.Elems.length r215.Elems.length Cl, .row 9 1 (some ⟨bA, 0, none⟩) r215.Elems.length r215.Elems.length zu, t2 (Fl.int .i64) 31 3 (some ⟨bx, 0, none⟩) r215.Elems.length r215.Elems.length ((fun _ => (none, 0))) (List.replicate r215.Elems.length ([] : List Int)), .row 3 1 aM aO aN bN, .blk B223 (.cells #[.int .i64 r215.Points, .bool r215.Monoid, .slice aS r215.Gens.length aT, .slice aE r215.Elems.length aF, .slice aA r215.Prefix.length aB, .slice aU r215.Last.length aV, .slice ay r215.Right.length az, .slice aJ r215.Rules.length aK, .int .i64 r215.Done] 123 (0, 0)), .blk B207 (.cells #[.int .i64 0, .slice none 0 0, .slice none 0 0, .slice none 0 0, .slice none 0 0, .slice none 0 0] 33 (0, 0)), .row 120 3 cd (0 + 1) ce cQ, .blk B34 (.cells #[.int .i64 r26.Letters, .int .i64 r26.Start, .slice d6 r26.Final.length d7, .slice fw r26.Next.length fx] 25 (0, 0)), .blk B21 (.cells #[.slice p45 r26.Letters.toNat r26.Letters.toNat, .slice cd (0 + 1) ce, .int .i64 ((0 : Int) + (r26.Final.length : Int))] 83 (0, 0)), .blk B8 (.cells #[.int .i64 0, .slice none 0 0, .slice none 0 0, .slice none 0 0, .slice none 0 0, .slice none 0 0] 33 (0, 0))]) (e := .blk dx (.cells #[.int .i64 0, .slice none 0 0, .slice none 0 0, .slice none 0 0, .slice none 0 0, .slice none 0 0] 33 (0, 0))) Ir rfl
   replace hB := hB.trans (om.same.fr _)
   replace hB := Fr.gain (e := .blk dx (.cells #[.int .i64 0, .slice none 0 0, .slice none 0 0, .slice none 0 0, .slice none 0 0, .slice none 0 0] 33 (0, 0))) hB (Nat.le_trans hw251 hnb325) rfl
   replace hO := Owns.gain hO Ir Ck rfl hh326 hd324
   refine GoQA.lastI rfl rfl ?_
   intro IT A329 oo
   replace hO := oo.own hO
   have zz := J0b (us := [.int .i64 (d_60.length : Int), .slice (some ⟨bx, 0, none⟩) r215.Elems.length r215.Elems.length, .slice (some ⟨bA, 0, none⟩) r215.Elems.length r215.Elems.length, .slice aM aO aN, .slice none 0 0, .slice (some ⟨bD, 0, none⟩) r215.Elems.length r215.Elems.length]) (o := 0) (cs' := #[.int .i64 (d_60.length : Int), .slice (some ⟨bx, 0, none⟩) r215.Elems.length r215.Elems.length, .slice (some ⟨bA, 0, none⟩) r215.Elems.length r215.Elems.length, .slice aM aO aN, .slice none 0 0, .slice (some ⟨bD, 0, none⟩) r215.Elems.length r215.Elems.length]) 0 hO rfl rfl (Nat.le_of_ble_eq_true rfl) rfl
   obtain ⟨Yv, fJ, Lh⟩ := zz
   dsimp only [sS, sZ] at fJ
   refine GoAt.step (Lh ti33 (by exact rfl) (by exact rfl) rfl) (fun h => nomatch h) (Stp.kp hO fJ) rfl ?_
   replace hO := fJ.own
   refine GoQA.nil ?_
   intro Yw A335 oq pG
   replace hO := oq.own hO
   replace hO := hO.permA pG
   refine zq (zq ?_)
   refine Go1.cut [(0, .pointer (some ⟨B21, 0, none⟩)), (2, .pointer (some ⟨B207, 0, none⟩)), (5, .pointer (some ⟨B223, 0, none⟩)), (7, .int .i64 (r215.Elems.length : Int)), (8, .pointer (some ⟨dx, 0, none⟩))] ⟨rfl, rfl, rfl, rfl, rfl, trivial⟩ ?_
   intro σ _
   refine zr (za rfl (zn (zb ?_)))
   replace hO := hO.drop 8
   replace bc := bc.ch (Ch.assoc _ _ _ _)
   replace hB := (((hB.trans (oo.same.fr _)).trans fJ.fr).trans (oq.same.fr _)).trans (Owns.J09 _ _ 8)
   have Z14 := ((((((rG.trans (om.ch _)).trans gU).trans (oo.ch _)).trans fJ.ch).trans (oq.ch _)).trans (permCh pG _)).trans (Owns.J06 _ _ 8)
   replace fT := fT.ch Z14
   have Z15 := ((((((((tq.trans (pF.ch _)).trans rG).trans (om.ch _)).trans gU).trans (oo.ch _)).trans fJ.ch).trans (oq.ch _)).trans (permCh pG _)).trans (Owns.J06 _ _ 8)
   replace kW := kW.ch Z15
   have Z16 := ((((((((((((rE.ch _).trans jB).trans (rF.ch _)).trans tq).trans (pF.ch _)).trans rG).trans (om.ch _)).trans gU).trans (oo.ch _)).trans fJ.ch).trans (oq.ch _)).trans (permCh pG _)).trans (Owns.J06 _ _ 8)
   replace bc := bc.ch Z16
   have Z17 := ((((((((((((iI.ch.trans (rE.ch _)).trans jB).trans (rF.ch _)).trans tq).trans (pF.ch _)).trans rG).trans (om.ch _)).trans gU).trans (oo.ch _)).trans fJ.ch).trans (oq.ch _)).trans (permCh pG _)).trans (Owns.J06 _ _ 8)
   replace iq := iq.ch Z17
   have Z18 := ((((((((((((((tp.ch _).trans iI.ch).trans (rE.ch _)).trans jB).trans (rF.ch _)).trans tq).trans (pF.ch _)).trans rG).trans (om.ch _)).trans gU).trans (oo.ch _)).trans fJ.ch).trans (oq.ch _)).trans (permCh pG _)).trans (Owns.J06 _ _ 8)
   replace bg := bg.ch Z18
   replace ag := ag.ch Z18
   have Z19 := ((((((((((((((qi.ch.trans (tp.ch _)).trans iI.ch).trans (rE.ch _)).trans jB).trans (rF.ch _)).trans tq).trans (pF.ch _)).trans rG).trans (om.ch _)).trans gU).trans (oo.ch _)).trans fJ.ch).trans (oq.ch _)).trans (permCh pG _)).trans (Owns.J06 _ _ 8)
   replace ah := ah.ch Z19
   have Z20 := ((((((((((((((Z13.trans (tp.ch _)).trans iI.ch).trans (rE.ch _)).trans jB).trans (rF.ch _)).trans tq).trans (pF.ch _)).trans rG).trans (om.ch _)).trans gU).trans (oo.ch _)).trans fJ.ch).trans (oq.ch _)).trans (permCh pG _)).trans (Owns.J06 _ _ 8)
   replace am := am.ch Z20
   replace ad := ad.ch Z20
   replace ak := ak.ch Z20
   replace aj := aj.ch Z20
   have Z21 := (((((((((((((((((((((wR.ch.trans wS.ch).trans iX.ch).trans A9).trans wT.ch).trans qh.ch).trans og.ch).trans qi.ch).trans (tp.ch _)).trans iI.ch).trans (rE.ch _)).trans jB).trans (rF.ch _)).trans tq).trans (pF.ch _)).trans rG).trans (om.ch _)).trans gU).trans (oo.ch _)).trans fJ.ch).trans (oq.ch _)).trans (permCh pG _)).trans (Owns.J06 _ _ 8)
   replace aD := aD.ch Z21
   have Z22 := ((((((((((((((((((((((xL.ch.trans wR.ch).trans wS.ch).trans iX.ch).trans A9).trans wT.ch).trans qh.ch).trans og.ch).trans qi.ch).trans (tp.ch _)).trans iI.ch).trans (rE.ch _)).trans jB).trans (rF.ch _)).trans tq).trans (pF.ch _)).trans rG).trans (om.ch _)).trans gU).trans (oo.ch _)).trans fJ.ch).trans (oq.ch _)).trans (permCh pG _)).trans (Owns.J06 _ _ 8)
   replace dU := dU.ch Z22
   have Z23 := (((((((((((((((((((((((((fK.ch.trans Fe).trans m5.ch).trans xL.ch).trans wR.ch).trans wS.ch).trans iX.ch).trans A9).trans wT.ch).trans qh.ch).trans og.ch).trans qi.ch).trans (tp.ch _)).trans iI.ch).trans (rE.ch _)).trans jB).trans (rF.ch _)).trans tq).trans (pF.ch _)).trans rG).trans (om.ch _)).trans gU).trans (oo.ch _)).trans fJ.ch).trans (oq.ch _)).trans (permCh pG _)).trans (Owns.J06 _ _ 8)
   replace ap := ap.ch Z23
   have Z24 := ((((((((((((((((((((((((((A8.ch.trans fK.ch).trans Fe).trans m5.ch).trans xL.ch).trans wR.ch).trans wS.ch).trans iX.ch).trans A9).trans wT.ch).trans qh.ch).trans og.ch).trans qi.ch).trans (tp.ch _)).trans iI.ch).trans (rE.ch _)).trans jB).trans (rF.ch _)).trans tq).trans (pF.ch _)).trans rG).trans (om.ch _)).trans gU).trans (oo.ch _)).trans fJ.ch).trans (oq.ch _)).trans (permCh pG _)).trans (Owns.J06 _ _ 8)
   replace ar := ar.ch Z24
   dsimp only [eS, eZ] at hB hO ap ar dU bg am ah ad ak ag aj iq fT kW bc aD
   refine Go1.loopW (S := Nat × List Bool × List Str) (fun s σ w => match s with | (k3_339, d_340, d_343) => ∃ (pI : List Value) (c7 : List Value), agrees σ [(0, .pointer (some ⟨B21, 0, none⟩)), (2, .pointer (some ⟨B207, 0, none⟩)), (5, .pointer (some ⟨B223, 0, none⟩)), (7, .int .i64 (r215.Elems.length : Int)), (8, .pointer (some ⟨dx, 0, none⟩)), (9, .int .i64 (k3_339 : Int))] ∧ (fun Z0 => Owns w0.heap.size w Z0 A ∧ Els (Rp.bool) (bl Z0 ++ A) w pI d_340 ∧ Els (Rp.str) (bl Z0 ++ A) w c7 d_343 ∧ Els (Rp.int .i64) (bl Z0 ++ A) w bN r262 ∧ Els (rppart) (bl Z0 ++ A) w cQ ((([] : List part)) ++ ([(⟨((0 : Int) + r26.Start), r26.Final, (0 : Int)⟩ : part)])) ∧ ISl (Rp.sl (Rp.int .i64)) (bl Z0 ++ A) w p45 r26.Letters.toNat d_60 ∧ ISl (Rp.sl (Rp.int .i64)) (bl Z0 ++ A) w aS aT r215.Gens ∧ ISl (Rp.sl (Rp.int .i64)) (bl Z0 ++ A) w aE aF r215.Elems ∧ ISl (Rp.int .i64) (bl Z0 ++ A) w aA aB r215.Prefix ∧ ISl (Rp.int .i64) (bl Z0 ++ A) w aU aV r215.Last ∧ ISl (Rp.sl (Rp.int .i64)) (bl Z0 ++ A) w ay az r215.Right ∧ ISl (rpRule) (bl Z0 ++ A) w aJ aK r215.Rules ∧ Fr (bl []) w0 (bl Z0) w) [.blk dx (.cells #[.int .i64 (d_60.length : Int), .slice (some ⟨bx, 0, none⟩) r215.Elems.length r215.Elems.length, .slice (some ⟨bA, 0, none⟩) r215.Elems.length r215.Elems.length, .slice aM aO aN, .slice none 0 0, .slice (some ⟨bD, 0, none⟩) r215.Elems.length r215.Elems.length] 33 (0, 0)), .row 4 1 (some ⟨bD, 0, none⟩) r215.Elems.length r215.Elems.length pI, .row 9 1 (some ⟨bA, 0, none⟩) r215.Elems.length r215.Elems.length c7, t2 (Fl.int .i64) 31 3 (some ⟨bx, 0, none⟩) r215.Elems.length r215.Elems.length ((fun _ => (none, 0))) (List.replicate r215.Elems.length ([] : List Int)), .row 3 1 aM aO aN bN, .blk B223 (.cells #[.int .i64 r215.Points, .bool r215.Monoid, .slice aS r215.Gens.length aT, .slice aE r215.Elems.length aF, .slice aA r215.Prefix.length aB, .slice aU r215.Last.length aV, .slice ay r215.Right.length az, .slice aJ r215.Rules.length aK, .int .i64 r215.Done] 123 (0, 0)), .blk B207 (.cells #[.int .i64 0, .slice none 0 0, .slice none 0 0, .slice none 0 0, .slice none 0 0, .slice none 0 0] 33 (0, 0)), .row 120 3 cd (0 + 1) ce cQ, .blk B21 (.cells #[.slice p45 r26.Letters.toNat r26.Letters.toNat, .slice cd (0 + 1) ce, .int .i64 ((0 : Int) + (r26.Final.length : Int))] 83 (0, 0)), .blk B8 (.cells #[.int .i64 0, .slice none 0 0, .slice none 0 0, .slice none 0 0, .slice none 0 0, .slice none 0 0] 33 (0, 0))]) H ⟨Cl, zu, ⟨rfl, rfl, rfl, rfl, rfl, rfl, trivial⟩, hO, fT, kW, bc, aD, bg, am, ah, ad, ak, ag, aj, hB⟩ ?_
   intro X3
   refine prE fun k3_339 => prE fun d_340 => fun d_343 => ?_
   intro H hX3 σ Q8
   refine exE fun pI => exE fun c7 => andE fun hag => andE fun hO => andE fun ut => andE fun bw => andE fun bc => andE fun aD => andE fun bg => andE fun am => andE fun ah => andE fun ad => andE fun ak => andE fun ag => andE fun aj => fun hB => ?_
   dsimp only at H
   refine Go1.keep [(0, .pointer (some ⟨B21, 0, none⟩)), (2, .pointer (some ⟨B207, 0, none⟩)), (5, .pointer (some ⟨B223, 0, none⟩)), (7, .int .i64 (r215.Elems.length : Int)), (8, .pointer (some ⟨dx, 0, none⟩)), (9, .int .i64 (k3_339 : Int))] hag ?_
   refine zq (zq (zr (zm rfl (zm rfl ?_))))
   by_cases DA : (k3_339 : Int) < (r215.Elems.length : Int)
   ·replace H := ifp DA H
    refine zo (fun w => opB (J08 rfl rfl w) (decide_eq_true DA)) (zn (zt rfl rfl (zk (zq (zb ?_)))))
    refine zq ?_
    refine Go1.drawS 1 [(0, .pure), (1, .stable), (2, .pure), (3, .pure), (4, .stable), (5, .pure), (6, .stable), (7, .pure), (8, .pure), (9, .stable), (10, .pure), (11, .stable), (12, .pure), (13, .stable), (14, .pure), (15, .pure), (16, .stable), (17, .pure), (18, .pure), (19, .loud), (20, .stable), (21, .pure), (22, .pure), (23, .last)] mixed (by kernel_rfl) ?_
    intro Yx P4
    have qj := Stp.same hO P4
    replace hO := qj.own
    refine GoQ.pure rfl (J00 Try.underlying33 rfl ti30 rfl (by decide)) rfl rfl ?_
    refine GoQ.stable rfl (oblk (i := 2) 0 hO rfl rfl Try.underlying30 rfl rfl) rfl rfl ?_
    refine GoQ.pure rfl (J03 rfl) rfl rfl ?_
    refine GoQ.pure rfl (J00 Try.underlying33 rfl ti30 rfl (by decide)) rfl rfl ?_
    refine GoQ.stable rfl (oblk (i := 2) 0 hO rfl rfl Try.underlying30 rfl rfl) rfl rfl ?_
    refine GoQ.pure rfl (J00 Try.underlying123 rfl ti31 rfl (by decide)) rfl rfl ?_
    refine GoQ.stable rfl (oblk (i := 4) 5 hO rfl rfl Try.underlying31 rfl rfl) rfl rfl ?_
    refine GoQ.pure rfl (J03 rfl) rfl rfl ?_
    obtain ⟨Dl, H⟩ := H
    obtain ⟨G5, H⟩ := H
    replace ad := ad.ch qj.ch
    refine GoQ.pure rfl (J02 Try.underlying31 ti3 rfl rfl Dl G5 (ad.some_ Dl G5)) rfl rfl ?_
    refine GoQ.stable rfl (ldInt ad Dl G5 Try.underlying3 rfl rfl) rfl rfl ?_
    obtain ⟨Ff, H⟩ := H
    obtain ⟨Fg, H⟩ := H
    replace bw := bw.ch qj.ch
    refine GoQ.pure rfl (J02 Try.underlying30 ti9 rfl rfl Ff (ltn (bw.neq hO 2 rfl) Fg) (bw.psome hO 2 rfl Ff Fg)) rfl rfl ?_
    refine GoQ.stable rfl (oldStr 2 hO rfl bw Ff Fg Try.underlying9 rfl rfl) rfl rfl ?_
    have hle354 := Els.str_le bw Ff Fg
    refine GoQ.pure rfl (J00 Try.underlying123 rfl ti31 rfl (by decide)) rfl rfl ?_
    refine GoQ.stable rfl (oblk (i := 5) 5 hO rfl rfl Try.underlying31 rfl rfl) rfl rfl ?_
    refine GoQ.pure rfl (J03 rfl) rfl rfl ?_
    obtain ⟨G6, H⟩ := H
    obtain ⟨G7, H⟩ := H
    replace ak := ak.ch qj.ch
    refine GoQ.pure rfl (J02 Try.underlying31 ti3 rfl rfl G6 G7 (ak.some_ G6 G7)) rfl rfl ?_
    refine GoQ.stable rfl (ldInt ak G6 G7 Try.underlying3 rfl rfl) rfl rfl ?_
    obtain ⟨S1, H⟩ := H
    refine GoQ.pure rfl (J0c rfl rfl (wrap_i64 S1)) rfl rfl ?_
    refine GoQ.pure rfl (op_conv Try.underlying3 Try.underlying5 rfl rfl) rfl rfl ?_
    have zz := J0k (r := Rp.int .u8) (n := 1) (parts := [(0, .int .u8 (IntKind.u8.wrap ((97 : Int) + (ix r215.Last (k3_339 : Int)))))]) (vs := [.int .u8 (IntKind.u8.wrap ((97 : Int) + (ix r215.Last (k3_339 : Int))))]) (xs := [(IntKind.u8.wrap ((97 : Int) + (ix r215.Last (k3_339 : Int))))]) rfl Try.underlying126 ti5 hO (by decide) (by kernel_rfl) (Els.cons rfl rfl (Els.nil _ _ _) (by simp [mx])) rfl
    obtain ⟨IV, Yy, eX, zw, P5, Li⟩ := zz
    refine GoQ.loud rfl (Li rfl) P5 rfl rfl ?_
    replace hO := eX.own
    have hle365 := byt_le zw.bd
    refine GoQ.stable rfl (oldBytes 0 hO rfl zw Try.underlying126 Try.underlying5 Try.underlying9 rfl) rfl rfl ?_
    obtain ⟨Lj, H⟩ := H
    refine GoQ.pure rfl (op_addS rfl rfl Lj) rfl rfl ?_
    obtain ⟨G8, H⟩ := H
    obtain ⟨G9, H⟩ := H
    replace bw := bw.ch eX.ch
    refine GoQ.pure rfl (J02 Try.underlying30 ti9 rfl rfl G8 (ltn (bw.neq hO 3 rfl) G9) (bw.psome hO 3 rfl G8 G9)) rfl rfl ?_
    have zz := ost (r := Rp.str) rfl 3 hO rfl bw G8 G9 (v := .string (gstr ((ix d_343 (ix r215.Prefix (k3_339 : Int))) ++ (byt ([(IntKind.u8.wrap ((97 : Int) + (ix r215.Last (k3_339 : Int))))]))))) (u := ((ix d_343 (ix r215.Prefix (k3_339 : Int))) ++ (byt ([(IntKind.u8.wrap ((97 : Int) + (ix r215.Last (k3_339 : Int))))])))) rfl ⟨rfl, (lenApp Lj)⟩
    obtain ⟨Yz, P6, ot, yh, CH⟩ := zz
    dsimp only [sS, sZ] at ot yh
    refine GoQ.last rfl (CH Try.underlying9 rfl ti9 (by exact rfl) (by exact rfl)) rfl rfl ?_
    replace hO := ot.own
    refine GoQ.nil ?_
    refine Go1.cut [(0, .pointer (some ⟨B21, 0, none⟩)), (2, .pointer (some ⟨B207, 0, none⟩)), (5, .pointer (some ⟨B223, 0, none⟩)), (7, .int .i64 (r215.Elems.length : Int)), (8, .pointer (some ⟨dx, 0, none⟩)), (9, .int .i64 (k3_339 : Int))] ⟨rfl, rfl, rfl, rfl, rfl, rfl, trivial⟩ ?_
    intro σ _
    refine zr (zo (J00 Try.underlying33 rfl ti22 rfl (by decide)) (zs (oblk (i := 5) 1 hO rfl rfl Try.underlying22 rfl rfl) (zm rfl ?_)))
    obtain ⟨CG, H⟩ := H
    obtain ⟨xU, H⟩ := H
    have Z25 := (qj.ch.trans eX.ch).trans ot.ch
    replace ut := ut.ch Z25
    refine zo (J02 Try.underlying22 ti4 rfl rfl CG (ltn (ut.neq hO 2 rfl) xU) (ut.psome hO 2 rfl CG xU)) ?_
    have zz := ost (r := Rp.bool) rfl 2 hO rfl ut CG xU (v := .bool true) (u := true) rfl rfl
    obtain ⟨YA, P7, ou, Ba, Lk⟩ := zz
    dsimp only [sS, sZ] at ou Ba
    refine zg (Lk Try.underlying4 rfl ti4 (by exact rfl) (by exact rfl)) ?_
    replace hO := ou.own
    refine zn ?_
    refine Go1.inBlock ?_
    refine zr (zm rfl ?_)
    replace ah := (ah.ch Z25).ch ou.ch
    refine zo (J0c rfl rfl (wrap_i64 (natbd DA ah.bd))) (za rfl (zn ?_))
    replace hO := hO.drop 0
    replace ah := ah.ch (Owns.J06 _ _ 0)
    replace Ba := Ba.ch (Owns.J06 _ _ 0)
    replace yh := (yh.ch ou.ch).ch (Owns.J06 _ _ 0)
    have Z26 := ((eX.ch.trans ot.ch).trans ou.ch).trans (Owns.J06 _ _ 0)
    replace ad := ad.ch Z26
    replace ak := ak.ch Z26
    have Z27 := (Z25.trans ou.ch).trans (Owns.J06 _ _ 0)
    replace bc := bc.ch Z27
    replace aD := aD.ch Z27
    replace bg := bg.ch Z27
    replace am := am.ch Z27
    replace ag := ag.ch Z27
    replace aj := aj.ch Z27
    replace hB := ((((hB.trans qj.fr).trans eX.fr).trans ot.fr).trans ou.fr).trans (Owns.J09 _ _ 0)
    dsimp only [eS, eZ] at hB hO bg am ah ad ak ag aj Ba yh bc aD
    exact hX3 _ H _ _ ⟨P7, P6, ⟨rfl, rfl, rfl, rfl, rfl, rfl, trivial⟩, hO, Ba, yh, bc, aD, bg, am, ah, ad, ak, ag, aj, hB⟩
   replace H := ifn DA H
   refine zo (fun w => opB (J08 rfl rfl w) (decide_eq_false DA)) (zn (zf rfl rfl ?_))
   refine Go1.exit rfl ?_
   refine zq (zq (zr (zo (J00 Try.underlying123 rfl ti23 rfl (by decide)) (zs (oblk (i := 6) 5 hO rfl rfl Try.underlying23 rfl rfl) (zo (J0d Try.underlying23 rfl) ?_)))))
   replace H := H ag.bd
   refine zm rfl (zn (zb ?_))
   refine Go1.loopW (S := Nat × List Bool × List (List Int)) (fun s σ w => match s with | (k4_382, d_383, d_386) => ∃ (fO : List Value) (d4 : Hd), agrees σ [(0, .pointer (some ⟨B21, 0, none⟩)), (2, .pointer (some ⟨B207, 0, none⟩)), (5, .pointer (some ⟨B223, 0, none⟩)), (7, .int .i64 (r215.Elems.length : Int)), (8, .pointer (some ⟨dx, 0, none⟩)), (86, .slice ay r215.Right.length az), (87, .int .i64 (r215.Right.length : Int)), (88, .int .i64 (k4_382 : Int))] ∧ (fun Z0 => Owns w0.heap.size w Z0 A ∧ Els (Rp.bool) (bl Z0 ++ A) w fO d_383 ∧ Els (Rp.str) (bl Z0 ++ A) w c7 d_343 ∧ Els (Rp.int .i64) (bl Z0 ++ A) w bN r262 ∧ Els (rppart) (bl Z0 ++ A) w cQ ((([] : List part)) ++ ([(⟨((0 : Int) + r26.Start), r26.Final, (0 : Int)⟩ : part)])) ∧ ISl (Rp.sl (Rp.int .i64)) (bl Z0 ++ A) w p45 r26.Letters.toNat d_60 ∧ ISl (Rp.sl (Rp.int .i64)) (bl Z0 ++ A) w aS aT r215.Gens ∧ ISl (Rp.sl (Rp.int .i64)) (bl Z0 ++ A) w aE aF r215.Elems ∧ ISl (Rp.int .i64) (bl Z0 ++ A) w aA aB r215.Prefix ∧ ISl (Rp.int .i64) (bl Z0 ++ A) w aU aV r215.Last ∧ ISl (Rp.sl (Rp.int .i64)) (bl Z0 ++ A) w ay az r215.Right ∧ ISl (rpRule) (bl Z0 ++ A) w aJ aK r215.Rules ∧ Fr (bl []) w0 (bl Z0) w) [.blk dx (.cells #[.int .i64 (d_60.length : Int), .slice (some ⟨bx, 0, none⟩) r215.Elems.length r215.Elems.length, .slice (some ⟨bA, 0, none⟩) r215.Elems.length r215.Elems.length, .slice aM aO aN, .slice none 0 0, .slice (some ⟨bD, 0, none⟩) r215.Elems.length r215.Elems.length] 33 (0, 0)), .row 4 1 (some ⟨bD, 0, none⟩) r215.Elems.length r215.Elems.length fO, .row 9 1 (some ⟨bA, 0, none⟩) r215.Elems.length r215.Elems.length c7, t2 (Fl.int .i64) 31 3 (some ⟨bx, 0, none⟩) r215.Elems.length r215.Elems.length d4 d_386, .row 3 1 aM aO aN bN, .blk B223 (.cells #[.int .i64 r215.Points, .bool r215.Monoid, .slice aS r215.Gens.length aT, .slice aE r215.Elems.length aF, .slice aA r215.Prefix.length aB, .slice aU r215.Last.length aV, .slice ay r215.Right.length az, .slice aJ r215.Rules.length aK, .int .i64 r215.Done] 123 (0, 0)), .blk B207 (.cells #[.int .i64 0, .slice none 0 0, .slice none 0 0, .slice none 0 0, .slice none 0 0, .slice none 0 0] 33 (0, 0)), .row 120 3 cd (0 + 1) ce cQ, .blk B21 (.cells #[.slice p45 r26.Letters.toNat r26.Letters.toNat, .slice cd (0 + 1) ce, .int .i64 ((0 : Int) + (r26.Final.length : Int))] 83 (0, 0)), .blk B8 (.cells #[.int .i64 0, .slice none 0 0, .slice none 0 0, .slice none 0 0, .slice none 0 0, .slice none 0 0] 33 (0, 0))]) H ⟨pI, (fun _ => (none, 0)), ⟨rfl, rfl, rfl, rfl, rfl, rfl, rfl, rfl, trivial⟩, hO, ut, bw, bc, aD, bg, am, ah, ad, ak, ag, aj, hB⟩ ?_
   intro X4
   refine prE fun k4_382 => prE fun d_383 => fun d_386 => ?_
   intro H hX4 σ YB
   refine exE fun fO => exE fun d4 => andE fun hag => andE fun hO => andE fun cO => andE fun bw => andE fun bc => andE fun aD => andE fun bg => andE fun am => andE fun ah => andE fun ad => andE fun ak => andE fun ag => andE fun aj => fun hB => ?_
   dsimp only at H
   refine Go1.keep [(0, .pointer (some ⟨B21, 0, none⟩)), (2, .pointer (some ⟨B207, 0, none⟩)), (5, .pointer (some ⟨B223, 0, none⟩)), (7, .int .i64 (r215.Elems.length : Int)), (8, .pointer (some ⟨dx, 0, none⟩)), (86, .slice ay r215.Right.length az), (87, .int .i64 (r215.Right.length : Int)), (88, .int .i64 (k4_382 : Int))] hag ?_
   refine zq (zr ?_)
   by_cases BH : (k4_382 : Int) < (r215.Right.length : Int)
   ·replace H := ifp BH H
    refine zo (fun w => opB (J08 rfl rfl w) (decide_eq_true BH)) (zn (zq (zt rfl rfl (zk (zq ?_)))))
    refine zb (zq (zr (zm rfl ?_)))
    obtain ⟨Ha, H⟩ := H
    obtain ⟨CK, H⟩ := H
    refine zo (J02 Try.underlying23 ti31 rfl rfl Ha CK (ag.some_ Ha CK)) ?_
    have zz := ldSl ag Ha CK
    obtain ⟨SD, YC, ia, P8⟩ := zz
    refine zs (P8 Try.underlying31 rfl rfl) (za rfl (za rfl (zn (zq ?_))))
    refine Go1.drawS 1 [(0, .pure), (1, .stable), (2, .pure), (3, .stable), (4, .pure), (5, .stable), (6, .pure), (7, .pure), (8, .loud), (9, .pure), (10, .pure), (11, .last)] mixed (by kernel_rfl) ?_
    intro YE P9
    have ov := Stp.same hO P9
    replace hO := ov.own
    refine GoQ.pure rfl (J00 Try.underlying33 rfl ti22 rfl (by decide)) rfl rfl ?_
    refine GoQ.stable rfl (oblk (i := 5) 0 hO rfl rfl Try.underlying22 rfl rfl) rfl rfl ?_
    refine GoQ.pure rfl (J00 Try.underlying33 rfl ti22 rfl (by decide)) rfl rfl ?_
    refine GoQ.stable rfl (oblk (i := 5) 0 hO rfl rfl Try.underlying22 rfl rfl) rfl rfl ?_
    obtain ⟨yp, H⟩ := H
    obtain ⟨yq, H⟩ := H
    replace cO := cO.ch ov.ch
    refine GoQ.pure rfl (J02 Try.underlying22 ti4 rfl rfl yp (ltn (cO.neq hO 1 rfl) yq) (cO.psome hO 1 rfl yp yq)) rfl rfl ?_
    by_cases h400 : ix d_383 (0 : Int) = true
    ·replace H := ifp h400 H
     refine GoQ.stable rfl (fun w hw => opB ((oldBool 1 hO rfl cO yp yq Try.underlying4 rfl rfl) w hw) (h400)) rfl rfl ?_
     refine GoQ.pure rfl (J03 rfl) rfl rfl ?_
     refine GoQ.pass rfl rfl rfl ?_
     refine GoQ.pass rfl rfl rfl ?_
     refine GoQ.pure rfl (J05 rfl rfl rfl) rfl rfl ?_
     obtain ⟨Hb, H⟩ := H
     obtain ⟨Hc, H⟩ := H
     refine GoQ.pure rfl (J02 Try.underlying22 ti4 rfl rfl Hb (ltn (cO.neq hO 1 rfl) Hc) (cO.psome hO 1 rfl Hb Hc)) rfl rfl ?_
     have zz := ost (r := Rp.bool) rfl 1 hO rfl cO Hb Hc (v := .bool true) (u := true) rfl rfl
     obtain ⟨YF, ob, f9, dp, Dn⟩ := zz
     dsimp only [sS, sZ] at f9 dp
     refine GoQ.last rfl (Dn Try.underlying4 rfl ti4 (by exact rfl) (by exact rfl)) rfl rfl ?_
     replace hO := f9.own
     refine GoQ.nil ?_
     refine zq ?_
     refine Go1.drawS 1 [(0, .pure), (1, .stable), (2, .pure), (3, .pure), (4, .loud), (5, .pure), (6, .last)] mixed (by kernel_rfl) ?_
     intro RW EH
     have f8 := Stp.same hO EH
     replace hO := f8.own
     refine GoQ.pure rfl (J00 Try.underlying33 rfl ti23 rfl (by decide)) rfl rfl ?_
     refine GoQ.stable rfl (oblk (i := 1) 0 hO rfl rfl Try.underlying23 rfl rfl) rfl rfl ?_
     refine GoQ.pure rfl (J03 rfl) rfl rfl ?_
     refine GoQ.pure rfl (J03 rfl) rfl rfl ?_
     obtain ⟨S3, H⟩ := H
     obtain ⟨S4, H⟩ := H
     have zz := omake (n := (r215.Elems.length : Int)) (r := Rp.int .i64) (d := (0 : Int)) Try.underlying31 ti3 (fun _ _ => rfl) rfl hO S3 S4 (by decide)
     obtain ⟨YG, u7, Uv, fB, yd, Ii, Do⟩ := zz
     refine GoQ.loud rfl (Do rfl rfl) Ii rfl rfl ?_
     replace hO := fB.own
     obtain ⟨He, H⟩ := H
     obtain ⟨Dp, H⟩ := H
     refine GoQ.pure rfl (J02 Try.underlying23 ti31 rfl rfl He (ltn (t2neq 4 hO rfl) Dp) (t2some 4 hO rfl He Dp)) rfl rfl ?_
     have mM := Stp.front 4 hO rfl
     dsimp only [eS, eZ] at mM
     replace hO := mM.own
     have mO := Stp.front 1 hO rfl
     dsimp only [eS, eZ] at mO
     replace hO := mO.own
     replace yd := (yd.ch mM.ch).ch mO.ch
     have zz := t2put (hf := (Fl.int .i64)) hO yd He Dp
     obtain ⟨YH, ow, Ll⟩ := zz
     refine GoQ.last rfl (Ll Try.underlying31 rfl ti31 (by exact rfl) (by exact rfl)) rfl rfl ?_
     replace hO := ow.own
     refine GoQ.nil ?_
     refine zq ?_
     refine Go1.cut [(0, .pointer (some ⟨B21, 0, none⟩)), (2, .pointer (some ⟨B207, 0, none⟩)), (5, .pointer (some ⟨B223, 0, none⟩)), (7, .int .i64 (r215.Elems.length : Int)), (8, .pointer (some ⟨dx, 0, none⟩)), (10, .int .i64 (k4_382 : Int)), (86, .slice ay r215.Right.length az), (87, .int .i64 (r215.Right.length : Int)), (88, .int .i64 (k4_382 : Int))] ⟨rfl, rfl, rfl, rfl, rfl, rfl, rfl, rfl, rfl, trivial⟩ ?_
     intro σ _
     refine zr (zo (J00 Try.underlying33 rfl ti23 rfl (by decide)) (zs (oblk (i := 1) 1 hO rfl rfl Try.underlying23 rfl rfl) (zm rfl ?_)))
     obtain ⟨DB, H⟩ := H
     obtain ⟨z5, H⟩ := H
     refine zo (J02 Try.underlying23 ti31 rfl rfl DB (ltn (t2neq 0 hO rfl) z5) (t2some 0 hO rfl DB z5)) (zs (t2head 0 hO rfl DB z5 Try.underlying31 rfl rfl) (zm rfl ?_))
     obtain ⟨Hf, H⟩ := H
     obtain ⟨Hg, H⟩ := H
     refine zo (J02 Try.underlying31 ti3 rfl rfl Hf Hg (t2isome 0 hO rfl DB z5 Hf Hg)) ?_
     have zz := t2st (r := Rp.int .i64) (hf := (Fl.int .i64)) rfl 0 hO rfl DB z5 Hf Hg (v := .int .i64 (k4_382 : Int)) (u := (k4_382 : Int)) rfl rfl
     obtain ⟨YJ, nt, Lm⟩ := zz
     dsimp only [sS, sZ] at nt
     refine zg (Lm Try.underlying3 rfl ti3 (by exact rfl) (by exact rfl)) ?_
     replace hO := nt.own
     refine zn (zq (zr (za rfl (zn (zb ?_)))))
     have Z28 := ((((f8.ch.trans fB.ch).trans mM.ch).trans mO.ch).trans ow.ch).trans nt.ch
     replace dp := dp.ch Z28
     have Z29 := ((((((ov.ch.trans f9.ch).trans f8.ch).trans fB.ch).trans mM.ch).trans mO.ch).trans ow.ch).trans nt.ch
     replace bw := bw.ch Z29
     replace bc := bc.ch Z29
     replace aD := aD.ch Z29
     replace bg := bg.ch Z29
     replace am := am.ch Z29
     replace ah := ah.ch Z29
     replace ad := ad.ch Z29
     replace ak := ak.ch Z29
     replace ag := ag.ch Z29
     replace aj := aj.ch Z29
     replace hB := (((((((hB.trans ov.fr).trans f9.fr).trans f8.fr).trans fB.fr).trans mM.fr).trans mO.fr).trans ow.fr).trans nt.fr
     refine Go1.loopW (S := Nat × List (List Int)) (fun s σ w => match s with | (k5_436, d_437) => agrees σ [(0, .pointer (some ⟨B21, 0, none⟩)), (2, .pointer (some ⟨B207, 0, none⟩)), (5, .pointer (some ⟨B223, 0, none⟩)), (7, .int .i64 (r215.Elems.length : Int)), (8, .pointer (some ⟨dx, 0, none⟩)), (10, .int .i64 (k4_382 : Int)), (12, .int .i64 (k5_436 : Int)), (86, .slice ay r215.Right.length az), (87, .int .i64 (r215.Right.length : Int)), (88, .int .i64 (k4_382 : Int))] ∧ (fun Z0 => Owns w0.heap.size w Z0 A ∧ Els (Rp.bool) (bl Z0 ++ A) w ob (st d_383 (0 : Int) true) ∧ Els (Rp.str) (bl Z0 ++ A) w c7 d_343 ∧ Els (Rp.int .i64) (bl Z0 ++ A) w bN r262 ∧ Els (rppart) (bl Z0 ++ A) w cQ ((([] : List part)) ++ ([(⟨((0 : Int) + r26.Start), r26.Final, (0 : Int)⟩ : part)])) ∧ ISl (Rp.sl (Rp.int .i64)) (bl Z0 ++ A) w p45 r26.Letters.toNat d_60 ∧ ISl (Rp.sl (Rp.int .i64)) (bl Z0 ++ A) w aS aT r215.Gens ∧ ISl (Rp.sl (Rp.int .i64)) (bl Z0 ++ A) w aE aF r215.Elems ∧ ISl (Rp.int .i64) (bl Z0 ++ A) w aA aB r215.Prefix ∧ ISl (Rp.int .i64) (bl Z0 ++ A) w aU aV r215.Last ∧ ISl (Rp.sl (Rp.int .i64)) (bl Z0 ++ A) w ay az r215.Right ∧ ISl (rpRule) (bl Z0 ++ A) w aJ aK r215.Rules ∧ Fr (bl []) w0 (bl Z0) w) [t2 (Fl.int .i64) 31 3 (some ⟨bx, 0, none⟩) r215.Elems.length r215.Elems.length (hup d4 (k4_382 : Int).toNat (u7, r215.Elems.length)) d_437, .blk dx (.cells #[.int .i64 (d_60.length : Int), .slice (some ⟨bx, 0, none⟩) r215.Elems.length r215.Elems.length, .slice (some ⟨bA, 0, none⟩) r215.Elems.length r215.Elems.length, .slice aM aO aN, .slice none 0 0, .slice (some ⟨bD, 0, none⟩) r215.Elems.length r215.Elems.length] 33 (0, 0)), .row 4 1 (some ⟨bD, 0, none⟩) r215.Elems.length r215.Elems.length ob, .row 9 1 (some ⟨bA, 0, none⟩) r215.Elems.length r215.Elems.length c7, .row 3 1 aM aO aN bN, .blk B223 (.cells #[.int .i64 r215.Points, .bool r215.Monoid, .slice aS r215.Gens.length aT, .slice aE r215.Elems.length aF, .slice aA r215.Prefix.length aB, .slice aU r215.Last.length aV, .slice ay r215.Right.length az, .slice aJ r215.Rules.length aK, .int .i64 r215.Done] 123 (0, 0)), .blk B207 (.cells #[.int .i64 0, .slice none 0 0, .slice none 0 0, .slice none 0 0, .slice none 0 0, .slice none 0 0] 33 (0, 0)), .row 120 3 cd (0 + 1) ce cQ, .blk B21 (.cells #[.slice p45 r26.Letters.toNat r26.Letters.toNat, .slice cd (0 + 1) ce, .int .i64 ((0 : Int) + (r26.Final.length : Int))] 83 (0, 0)), .blk B8 (.cells #[.int .i64 0, .slice none 0 0, .slice none 0 0, .slice none 0 0, .slice none 0 0, .slice none 0 0] 33 (0, 0))]) H ⟨⟨rfl, rfl, rfl, rfl, rfl, rfl, rfl, rfl, rfl, rfl, trivial⟩, hO, dp, bw, bc, aD, bg, am, ah, ad, ak, ag, aj, hB⟩ ?_
     intro X5
     refine prE fun k5_436 => fun d_437 => ?_
     intro H hX5 σ YK
     refine andE fun hag => andE fun hO => andE fun dp => andE fun bw => andE fun bc => andE fun aD => andE fun bg => andE fun am => andE fun ah => andE fun ad => andE fun ak => andE fun ag => andE fun aj => fun hB => ?_
     dsimp only at H
     refine Go1.keep [(0, .pointer (some ⟨B21, 0, none⟩)), (2, .pointer (some ⟨B207, 0, none⟩)), (5, .pointer (some ⟨B223, 0, none⟩)), (7, .int .i64 (r215.Elems.length : Int)), (8, .pointer (some ⟨dx, 0, none⟩)), (10, .int .i64 (k4_382 : Int)), (12, .int .i64 (k5_436 : Int)), (86, .slice ay r215.Right.length az), (87, .int .i64 (r215.Right.length : Int)), (88, .int .i64 (k4_382 : Int))] hag ?_
     refine zq (zq (zr (zm rfl (zm rfl ?_))))
     by_cases DD : (k5_436 : Int) < (r215.Elems.length : Int)
     ·replace H := ifp DD H
      refine zo (fun w => opB (J08 rfl rfl w) (decide_eq_true DD)) (zn (zt rfl rfl (zk (zq (zb ?_)))))
      refine Go1.drawS 1 [(0, .pure), (1, .stable), (2, .pure), (3, .pure), (4, .stable), (5, .pure), (6, .pure), (7, .stable), (8, .pure), (9, .stable), (10, .pure), (11, .pure), (12, .stable), (13, .pure), (14, .stable), (15, .pure), (16, .pure), (17, .stable), (18, .pure), (19, .stable), (20, .pure), (21, .stable), (22, .pure), (23, .stable), (24, .pure), (25, .pure), (26, .stable), (27, .pure), (28, .stable), (29, .pure), (30, .last)] mixed (by kernel_rfl) ?_
      intro YL Qa
      have qk := Stp.same hO Qa
      replace hO := qk.own
      refine GoQ.pure rfl (J00 Try.underlying33 rfl ti23 rfl (by decide)) rfl rfl ?_
      refine GoQ.stable rfl (oblk (i := 1) 1 hO rfl rfl Try.underlying23 rfl rfl) rfl rfl ?_
      refine GoQ.pure rfl (J03 rfl) rfl rfl ?_
      obtain ⟨DE, H⟩ := H
      obtain ⟨DF, H⟩ := H
      refine GoQ.pure rfl (J02 Try.underlying23 ti31 rfl rfl DE (ltn (t2neq 0 hO rfl) DF) (t2some 0 hO rfl DE DF)) rfl rfl ?_
      refine GoQ.stable rfl (t2head 0 hO rfl DE DF Try.underlying31 rfl rfl) rfl rfl ?_
      refine GoQ.pure rfl (J03 rfl) rfl rfl ?_
      refine GoQ.pure rfl (J00 Try.underlying123 rfl ti23 rfl (by decide)) rfl rfl ?_
      refine GoQ.stable rfl (oblk (i := 6) 5 hO rfl rfl Try.underlying23 rfl rfl) rfl rfl ?_
      refine GoQ.pure rfl (J00 Try.underlying33 rfl ti23 rfl (by decide)) rfl rfl ?_
      refine GoQ.stable rfl (oblk (i := 1) 1 hO rfl rfl Try.underlying23 rfl rfl) rfl rfl ?_
      refine GoQ.pure rfl (J03 rfl) rfl rfl ?_
      obtain ⟨Ag, H⟩ := H
      obtain ⟨DG, H⟩ := H
      refine GoQ.pure rfl (J02 Try.underlying23 ti31 rfl rfl Ag (ltn (t2neq 0 hO rfl) DG) (t2some 0 hO rfl Ag DG)) rfl rfl ?_
      refine GoQ.stable rfl (t2head 0 hO rfl Ag DG Try.underlying31 rfl rfl) rfl rfl ?_
      refine GoQ.pure rfl (J00 Try.underlying123 rfl ti31 rfl (by decide)) rfl rfl ?_
      refine GoQ.stable rfl (oblk (i := 4) 5 hO rfl rfl Try.underlying31 rfl rfl) rfl rfl ?_
      refine GoQ.pure rfl (J03 rfl) rfl rfl ?_
      obtain ⟨Hh, H⟩ := H
      obtain ⟨Hi, H⟩ := H
      replace ad := ad.ch qk.ch
      refine GoQ.pure rfl (J02 Try.underlying31 ti3 rfl rfl Hh Hi (ad.some_ Hh Hi)) rfl rfl ?_
      refine GoQ.stable rfl (ldInt ad Hh Hi Try.underlying3 rfl rfl) rfl rfl ?_
      obtain ⟨Hj, H⟩ := H
      obtain ⟨Hk, H⟩ := H
      refine GoQ.pure rfl (J02 Try.underlying31 ti3 rfl rfl Hj Hk (t2isome 0 hO rfl Ag DG Hj Hk)) rfl rfl ?_
      refine GoQ.stable rfl (t2Int 0 hO rfl Ag DG Hj Hk Try.underlying3 rfl rfl) rfl rfl ?_
      obtain ⟨Hl, H⟩ := H
      obtain ⟨Hm, H⟩ := H
      replace ag := ag.ch qk.ch
      refine GoQ.pure rfl (J02 Try.underlying23 ti31 rfl rfl Hl Hm (ag.some_ Hl Hm)) rfl rfl ?_
      have zz := ldSl ag Hl Hm
      obtain ⟨YM, YN, Cm, Qb⟩ := zz
      refine GoQ.stable rfl (Qb Try.underlying31 rfl rfl) rfl rfl ?_
      refine GoQ.pure rfl (J00 Try.underlying123 rfl ti31 rfl (by decide)) rfl rfl ?_
      refine GoQ.stable rfl (oblk (i := 5) 5 hO rfl rfl Try.underlying31 rfl rfl) rfl rfl ?_
      refine GoQ.pure rfl (J03 rfl) rfl rfl ?_
      obtain ⟨Hn, H⟩ := H
      obtain ⟨Ho, H⟩ := H
      replace ak := ak.ch qk.ch
      refine GoQ.pure rfl (J02 Try.underlying31 ti3 rfl rfl Hn Ho (ak.some_ Hn Ho)) rfl rfl ?_
      refine GoQ.stable rfl (ldInt ak Hn Ho Try.underlying3 rfl rfl) rfl rfl ?_
      obtain ⟨Hp, H⟩ := H
      obtain ⟨Hq, H⟩ := H
      refine GoQ.pure rfl (J02 Try.underlying31 ti3 rfl rfl Hp Hq (Cm.some_ Hp Hq)) rfl rfl ?_
      refine GoQ.stable rfl (ldInt Cm Hp Hq Try.underlying3 rfl rfl) rfl rfl ?_
      obtain ⟨Hr, H⟩ := H
      obtain ⟨Hs, H⟩ := H
      refine GoQ.pure rfl (J02 Try.underlying31 ti3 rfl rfl Hr Hs (t2isome 0 hO rfl DE DF Hr Hs)) rfl rfl ?_
      have zz := t2st (r := Rp.int .i64) (hf := (Fl.int .i64)) rfl 0 hO rfl DE DF Hr Hs (v := .int .i64 (ix (ix r215.Right (ix (ix d_437 (k4_382 : Int)) (ix r215.Prefix (k5_436 : Int)))) (ix r215.Last (k5_436 : Int)))) (u := (ix (ix r215.Right (ix (ix d_437 (k4_382 : Int)) (ix r215.Prefix (k5_436 : Int)))) (ix r215.Last (k5_436 : Int)))) rfl rfl
      obtain ⟨YO, nu, Ln⟩ := zz
      dsimp only [sS, sZ] at nu
      refine GoQ.last rfl (Ln Try.underlying3 rfl ti3 (by exact rfl) (by exact rfl)) rfl rfl ?_
      replace hO := nu.own
      refine GoQ.nil ?_
      refine Go1.inBlock ?_
      refine Go1.cut [(0, .pointer (some ⟨B21, 0, none⟩)), (2, .pointer (some ⟨B207, 0, none⟩)), (5, .pointer (some ⟨B223, 0, none⟩)), (7, .int .i64 (r215.Elems.length : Int)), (8, .pointer (some ⟨dx, 0, none⟩)), (10, .int .i64 (k4_382 : Int)), (12, .int .i64 (k5_436 : Int)), (86, .slice ay r215.Right.length az), (87, .int .i64 (r215.Right.length : Int)), (88, .int .i64 (k4_382 : Int))] ⟨rfl, rfl, rfl, rfl, rfl, rfl, rfl, rfl, rfl, rfl, trivial⟩ ?_
      intro σ _
      refine zr (zm rfl ?_)
      replace ah := (ah.ch qk.ch).ch nu.ch
      refine zo (J0c rfl rfl (wrap_i64 (natbd DD ah.bd))) (za rfl (zn ?_))
      replace ad := ad.ch nu.ch
      replace ak := ak.ch nu.ch
      replace ag := ag.ch nu.ch
      have Z30 := qk.ch.trans nu.ch
      replace dp := dp.ch Z30
      replace bw := bw.ch Z30
      replace bc := bc.ch Z30
      replace aD := aD.ch Z30
      replace bg := bg.ch Z30
      replace am := am.ch Z30
      replace aj := aj.ch Z30
      replace hB := (hB.trans qk.fr).trans nu.fr
      exact hX5 _ H _ _ ⟨⟨rfl, rfl, rfl, rfl, rfl, rfl, rfl, rfl, rfl, rfl, trivial⟩, hO, dp, bw, bc, aD, bg, am, ah, ad, ak, ag, aj, hB⟩
     replace H := ifn DD H
     refine zo (fun w => opB (J08 rfl rfl w) (decide_eq_false DD)) (zn (zf rfl rfl ?_))
     refine Go1.exit rfl ?_
     refine Go1.inBlock ?_
     refine zr (zo (J0c rfl rfl (wrap_i64 (natbd BH ag.bd))) (zm rfl (zn ?_)))
     have oA := Stp.front 9 hO rfl
     dsimp only [eS, eZ] at oA
     replace hO := oA.own
     have oB := Stp.front 9 hO rfl
     dsimp only [eS, eZ] at oB
     replace hO := oB.own
     have oC := Stp.front 9 hO rfl
     dsimp only [eS, eZ] at oC
     replace hO := oC.own
     have iW := Stp.front 9 hO rfl
     dsimp only [eS, eZ] at iW
     replace hO := iW.own
     have oD := Stp.front 9 hO rfl
     dsimp only [eS, eZ] at oD
     replace hO := oD.own
     have oE := Stp.front 9 hO rfl
     dsimp only [eS, eZ] at oE
     replace hO := oE.own
     have fL := Stp.front 6 hO rfl
     dsimp only [eS, eZ] at fL
     replace hO := fL.own
     have oF := Stp.front 9 hO rfl
     dsimp only [eS, eZ] at oF
     replace hO := oF.own
     have oG := Stp.front 9 hO rfl
     dsimp only [eS, eZ] at oG
     replace hO := oG.own
     have oH := Stp.front 9 hO rfl
     dsimp only [eS, eZ] at oH
     replace hO := oH.own
     have Z31 := ((((((((oA.ch.trans oB.ch).trans oC.ch).trans iW.ch).trans oD.ch).trans oE.ch).trans fL.ch).trans oF.ch).trans oG.ch).trans oH.ch
     replace dp := dp.ch Z31
     replace bw := bw.ch Z31
     replace bc := bc.ch Z31
     replace aD := aD.ch Z31
     replace bg := bg.ch Z31
     replace am := am.ch Z31
     replace ah := ah.ch Z31
     replace ad := ad.ch Z31
     replace ak := ak.ch Z31
     replace ag := ag.ch Z31
     replace aj := aj.ch Z31
     replace hB := (((((((((hB.trans oA.fr).trans oB.fr).trans oC.fr).trans iW.fr).trans oD.fr).trans oE.fr).trans fL.fr).trans oF.fr).trans oG.fr).trans oH.fr
     exact hX4 _ H _ _ ⟨ob, hup d4 (k4_382 : Int).toNat (u7, r215.Elems.length), ⟨rfl, rfl, rfl, rfl, rfl, rfl, rfl, rfl, trivial⟩, hO, dp, bw, bc, aD, bg, am, ah, ad, ak, ag, aj, hB⟩
    replace H := ifn h400 H
    refine GoQ.stable rfl (fun w hw => opB ((oldBool 1 hO rfl cO yp yq Try.underlying4 rfl rfl) w hw) (Bool.eq_false_iff.2 h400)) rfl rfl ?_
    refine GoQ.pure rfl (J03 rfl) rfl rfl ?_
    refine GoQ.pure rfl (J03 rfl) rfl rfl ?_
    replace ia := ia.ch ov.ch
    refine GoQ.call rfl (J0a body102 rfl (walk_slices_Contains_int hO.lt ia H)) (fun v w hr => by obtain ⟨_, _, hs, _⟩ := hr; assumption) rfl rfl ?_
    rintro YP YQ ⟨r475, rfl, Qc, H⟩
    have fM := Stp.same hO Qc
    replace hO := fM.own
    refine GoQ.pure rfl (J04 rfl rfl rfl) rfl rfl ?_
    obtain ⟨Ht, H⟩ := H
    obtain ⟨Hu, H⟩ := H
    replace cO := cO.ch fM.ch
    refine GoQ.pure rfl (J02 Try.underlying22 ti4 rfl rfl Ht (ltn (cO.neq hO 1 rfl) Hu) (cO.psome hO 1 rfl Ht Hu)) rfl rfl ?_
    have zz := ost (r := Rp.bool) rfl 1 hO rfl cO Ht Hu (v := .bool r475) (u := r475) rfl rfl
    obtain ⟨YR, rH, oI, fU, Lo⟩ := zz
    dsimp only [sS, sZ] at oI fU
    refine GoQ.last rfl (Lo Try.underlying4 rfl ti4 (by exact rfl) (by exact rfl)) rfl rfl ?_
    replace hO := oI.own
    refine GoQ.nil ?_
    refine zq ?_
    refine Go1.drawS 1 [(0, .pure), (1, .stable), (2, .pure), (3, .pure), (4, .loud), (5, .pure), (6, .last)] mixed (by kernel_rfl) ?_
    intro R4 Qd
    have oJ := Stp.same hO Qd
    replace hO := oJ.own
    refine GoQ.pure rfl (J00 Try.underlying33 rfl ti23 rfl (by decide)) rfl rfl ?_
    refine GoQ.stable rfl (oblk (i := 1) 0 hO rfl rfl Try.underlying23 rfl rfl) rfl rfl ?_
    refine GoQ.pure rfl (J03 rfl) rfl rfl ?_
    refine GoQ.pure rfl (J03 rfl) rfl rfl ?_
    obtain ⟨S5, H⟩ := H
    obtain ⟨S6, H⟩ := H
    have zz := omake (n := (r215.Elems.length : Int)) (r := Rp.int .i64) (d := (0 : Int)) Try.underlying31 ti3 (fun _ _ => rfl) rfl hO S5 S6 (by decide)
    obtain ⟨JL, uF, Uw, oK, Bb, Qe, Lp⟩ := zz
    refine GoQ.loud rfl (Lp rfl rfl) Qe rfl rfl ?_
    replace hO := oK.own
    obtain ⟨Ah, H⟩ := H
    obtain ⟨Hv, H⟩ := H
    refine GoQ.pure rfl (J02 Try.underlying23 ti31 rfl rfl Ah (ltn (t2neq 4 hO rfl) Hv) (t2some 4 hO rfl Ah Hv)) rfl rfl ?_
    have mP := Stp.front 4 hO rfl
    dsimp only [eS, eZ] at mP
    replace hO := mP.own
    have fC := Stp.front 1 hO rfl
    dsimp only [eS, eZ] at fC
    replace hO := fC.own
    replace Bb := (Bb.ch mP.ch).ch fC.ch
    have zz := t2put (hf := (Fl.int .i64)) hO Bb Ah Hv
    obtain ⟨R6, oL, Lr⟩ := zz
    refine GoQ.last rfl (Lr Try.underlying31 rfl ti31 (by exact rfl) (by exact rfl)) rfl rfl ?_
    replace hO := oL.own
    refine GoQ.nil ?_
    refine zq (zr (zo (J00 Try.underlying33 rfl ti23 rfl (by decide)) (zs (oblk (i := 1) 1 hO rfl rfl Try.underlying23 rfl rfl) (zm rfl ?_))))
    obtain ⟨DH, H⟩ := H
    obtain ⟨DJ, H⟩ := H
    refine zo (J02 Try.underlying23 ti31 rfl rfl DH (ltn (t2neq 0 hO rfl) DJ) (t2some 0 hO rfl DH DJ)) (zs (t2head 0 hO rfl DH DJ Try.underlying31 rfl rfl) (zm rfl ?_))
    obtain ⟨Hw, H⟩ := H
    obtain ⟨Hx, H⟩ := H
    refine zo (J02 Try.underlying31 ti3 rfl rfl Hw Hx (t2isome 0 hO rfl DH DJ Hw Hx)) ?_
    have zz := t2st (r := Rp.int .i64) (hf := (Fl.int .i64)) rfl 0 hO rfl DH DJ Hw Hx (v := .int .i64 (k4_382 : Int)) (u := (k4_382 : Int)) rfl rfl
    obtain ⟨YS, nw, Lt⟩ := zz
    dsimp only [sS, sZ] at nw
    refine zg (Lt Try.underlying3 rfl ti3 (by exact rfl) (by exact rfl)) ?_
    replace hO := nw.own
    refine zn (zq ?_)
    refine Go1.cut [(0, .pointer (some ⟨B21, 0, none⟩)), (2, .pointer (some ⟨B207, 0, none⟩)), (5, .pointer (some ⟨B223, 0, none⟩)), (7, .int .i64 (r215.Elems.length : Int)), (8, .pointer (some ⟨dx, 0, none⟩)), (10, .int .i64 (k4_382 : Int)), (86, .slice ay r215.Right.length az), (87, .int .i64 (r215.Right.length : Int)), (88, .int .i64 (k4_382 : Int))] ⟨rfl, rfl, rfl, rfl, rfl, rfl, rfl, rfl, rfl, trivial⟩ ?_
    intro σ _
    refine zr (za rfl (zn (zb ?_)))
    have Z32 := ((((oJ.ch.trans oK.ch).trans mP.ch).trans fC.ch).trans oL.ch).trans nw.ch
    replace fU := fU.ch Z32
    have Z33 := (((((((ov.ch.trans fM.ch).trans oI.ch).trans oJ.ch).trans oK.ch).trans mP.ch).trans fC.ch).trans oL.ch).trans nw.ch
    replace bw := bw.ch Z33
    replace bc := bc.ch Z33
    replace aD := aD.ch Z33
    replace bg := bg.ch Z33
    replace am := am.ch Z33
    replace ah := ah.ch Z33
    replace ad := ad.ch Z33
    replace ak := ak.ch Z33
    replace ag := ag.ch Z33
    replace aj := aj.ch Z33
    replace hB := ((((((((hB.trans ov.fr).trans fM.fr).trans oI.fr).trans oJ.fr).trans oK.fr).trans mP.fr).trans fC.fr).trans oL.fr).trans nw.fr
    refine Go1.loopW (S := Nat × List (List Int)) (fun s σ w => match s with | (k6_516, d_517) => agrees σ [(0, .pointer (some ⟨B21, 0, none⟩)), (2, .pointer (some ⟨B207, 0, none⟩)), (5, .pointer (some ⟨B223, 0, none⟩)), (7, .int .i64 (r215.Elems.length : Int)), (8, .pointer (some ⟨dx, 0, none⟩)), (10, .int .i64 (k4_382 : Int)), (12, .int .i64 (k6_516 : Int)), (86, .slice ay r215.Right.length az), (87, .int .i64 (r215.Right.length : Int)), (88, .int .i64 (k4_382 : Int))] ∧ (fun Z0 => Owns w0.heap.size w Z0 A ∧ Els (Rp.bool) (bl Z0 ++ A) w rH (st d_383 (0 : Int) r475) ∧ Els (Rp.str) (bl Z0 ++ A) w c7 d_343 ∧ Els (Rp.int .i64) (bl Z0 ++ A) w bN r262 ∧ Els (rppart) (bl Z0 ++ A) w cQ ((([] : List part)) ++ ([(⟨((0 : Int) + r26.Start), r26.Final, (0 : Int)⟩ : part)])) ∧ ISl (Rp.sl (Rp.int .i64)) (bl Z0 ++ A) w p45 r26.Letters.toNat d_60 ∧ ISl (Rp.sl (Rp.int .i64)) (bl Z0 ++ A) w aS aT r215.Gens ∧ ISl (Rp.sl (Rp.int .i64)) (bl Z0 ++ A) w aE aF r215.Elems ∧ ISl (Rp.int .i64) (bl Z0 ++ A) w aA aB r215.Prefix ∧ ISl (Rp.int .i64) (bl Z0 ++ A) w aU aV r215.Last ∧ ISl (Rp.sl (Rp.int .i64)) (bl Z0 ++ A) w ay az r215.Right ∧ ISl (rpRule) (bl Z0 ++ A) w aJ aK r215.Rules ∧ Fr (bl []) w0 (bl Z0) w) [t2 (Fl.int .i64) 31 3 (some ⟨bx, 0, none⟩) r215.Elems.length r215.Elems.length (hup d4 (k4_382 : Int).toNat (uF, r215.Elems.length)) d_517, .blk dx (.cells #[.int .i64 (d_60.length : Int), .slice (some ⟨bx, 0, none⟩) r215.Elems.length r215.Elems.length, .slice (some ⟨bA, 0, none⟩) r215.Elems.length r215.Elems.length, .slice aM aO aN, .slice none 0 0, .slice (some ⟨bD, 0, none⟩) r215.Elems.length r215.Elems.length] 33 (0, 0)), .row 4 1 (some ⟨bD, 0, none⟩) r215.Elems.length r215.Elems.length rH, .row 9 1 (some ⟨bA, 0, none⟩) r215.Elems.length r215.Elems.length c7, .row 3 1 aM aO aN bN, .blk B223 (.cells #[.int .i64 r215.Points, .bool r215.Monoid, .slice aS r215.Gens.length aT, .slice aE r215.Elems.length aF, .slice aA r215.Prefix.length aB, .slice aU r215.Last.length aV, .slice ay r215.Right.length az, .slice aJ r215.Rules.length aK, .int .i64 r215.Done] 123 (0, 0)), .blk B207 (.cells #[.int .i64 0, .slice none 0 0, .slice none 0 0, .slice none 0 0, .slice none 0 0, .slice none 0 0] 33 (0, 0)), .row 120 3 cd (0 + 1) ce cQ, .blk B21 (.cells #[.slice p45 r26.Letters.toNat r26.Letters.toNat, .slice cd (0 + 1) ce, .int .i64 ((0 : Int) + (r26.Final.length : Int))] 83 (0, 0)), .blk B8 (.cells #[.int .i64 0, .slice none 0 0, .slice none 0 0, .slice none 0 0, .slice none 0 0, .slice none 0 0] 33 (0, 0))]) H ⟨⟨rfl, rfl, rfl, rfl, rfl, rfl, rfl, rfl, rfl, rfl, trivial⟩, hO, fU, bw, bc, aD, bg, am, ah, ad, ak, ag, aj, hB⟩ ?_
    intro X6
    refine prE fun k6_516 => fun d_517 => ?_
    intro H hX6 σ YT
    refine andE fun hag => andE fun hO => andE fun fU => andE fun bw => andE fun bc => andE fun aD => andE fun bg => andE fun am => andE fun ah => andE fun ad => andE fun ak => andE fun ag => andE fun aj => fun hB => ?_
    dsimp only at H
    refine Go1.keep [(0, .pointer (some ⟨B21, 0, none⟩)), (2, .pointer (some ⟨B207, 0, none⟩)), (5, .pointer (some ⟨B223, 0, none⟩)), (7, .int .i64 (r215.Elems.length : Int)), (8, .pointer (some ⟨dx, 0, none⟩)), (10, .int .i64 (k4_382 : Int)), (12, .int .i64 (k6_516 : Int)), (86, .slice ay r215.Right.length az), (87, .int .i64 (r215.Right.length : Int)), (88, .int .i64 (k4_382 : Int))] hag ?_
    refine zq (zq (zr (zm rfl (zm rfl ?_))))
    by_cases DK : (k6_516 : Int) < (r215.Elems.length : Int)
    ·replace H := ifp DK H
     refine zo (fun w => opB (J08 rfl rfl w) (decide_eq_true DK)) (zn (zt rfl rfl (zk (zq (zb ?_)))))
     refine Go1.drawS 1 [(0, .pure), (1, .stable), (2, .pure), (3, .pure), (4, .stable), (5, .pure), (6, .pure), (7, .stable), (8, .pure), (9, .stable), (10, .pure), (11, .pure), (12, .stable), (13, .pure), (14, .stable), (15, .pure), (16, .pure), (17, .stable), (18, .pure), (19, .stable), (20, .pure), (21, .stable), (22, .pure), (23, .stable), (24, .pure), (25, .pure), (26, .stable), (27, .pure), (28, .stable), (29, .pure), (30, .last)] mixed (by kernel_rfl) ?_
     intro YU H9
     have ql := Stp.same hO H9
     replace hO := ql.own
     refine GoQ.pure rfl (J00 Try.underlying33 rfl ti23 rfl (by decide)) rfl rfl ?_
     refine GoQ.stable rfl (oblk (i := 1) 1 hO rfl rfl Try.underlying23 rfl rfl) rfl rfl ?_
     refine GoQ.pure rfl (J03 rfl) rfl rfl ?_
     obtain ⟨DL, H⟩ := H
     obtain ⟨DN, H⟩ := H
     refine GoQ.pure rfl (J02 Try.underlying23 ti31 rfl rfl DL (ltn (t2neq 0 hO rfl) DN) (t2some 0 hO rfl DL DN)) rfl rfl ?_
     refine GoQ.stable rfl (t2head 0 hO rfl DL DN Try.underlying31 rfl rfl) rfl rfl ?_
     refine GoQ.pure rfl (J03 rfl) rfl rfl ?_
     refine GoQ.pure rfl (J00 Try.underlying123 rfl ti23 rfl (by decide)) rfl rfl ?_
     refine GoQ.stable rfl (oblk (i := 6) 5 hO rfl rfl Try.underlying23 rfl rfl) rfl rfl ?_
     refine GoQ.pure rfl (J00 Try.underlying33 rfl ti23 rfl (by decide)) rfl rfl ?_
     refine GoQ.stable rfl (oblk (i := 1) 1 hO rfl rfl Try.underlying23 rfl rfl) rfl rfl ?_
     refine GoQ.pure rfl (J03 rfl) rfl rfl ?_
     obtain ⟨DO, H⟩ := H
     obtain ⟨DP, H⟩ := H
     refine GoQ.pure rfl (J02 Try.underlying23 ti31 rfl rfl DO (ltn (t2neq 0 hO rfl) DP) (t2some 0 hO rfl DO DP)) rfl rfl ?_
     refine GoQ.stable rfl (t2head 0 hO rfl DO DP Try.underlying31 rfl rfl) rfl rfl ?_
     refine GoQ.pure rfl (J00 Try.underlying123 rfl ti31 rfl (by decide)) rfl rfl ?_
     refine GoQ.stable rfl (oblk (i := 4) 5 hO rfl rfl Try.underlying31 rfl rfl) rfl rfl ?_
     refine GoQ.pure rfl (J03 rfl) rfl rfl ?_
     obtain ⟨Hy, H⟩ := H
     obtain ⟨Hz, H⟩ := H
     replace ad := ad.ch ql.ch
     refine GoQ.pure rfl (J02 Try.underlying31 ti3 rfl rfl Hy Hz (ad.some_ Hy Hz)) rfl rfl ?_
     refine GoQ.stable rfl (ldInt ad Hy Hz Try.underlying3 rfl rfl) rfl rfl ?_
     obtain ⟨HA, H⟩ := H
     obtain ⟨Dc, H⟩ := H
     refine GoQ.pure rfl (J02 Try.underlying31 ti3 rfl rfl HA Dc (t2isome 0 hO rfl DO DP HA Dc)) rfl rfl ?_
     refine GoQ.stable rfl (t2Int 0 hO rfl DO DP HA Dc Try.underlying3 rfl rfl) rfl rfl ?_
     obtain ⟨HB, H⟩ := H
     obtain ⟨HC, H⟩ := H
     replace ag := ag.ch ql.ch
     refine GoQ.pure rfl (J02 Try.underlying23 ti31 rfl rfl HB HC (ag.some_ HB HC)) rfl rfl ?_
     have zz := ldSl ag HB HC
     obtain ⟨YV, YW, Cn, Qf⟩ := zz
     refine GoQ.stable rfl (Qf Try.underlying31 rfl rfl) rfl rfl ?_
     refine GoQ.pure rfl (J00 Try.underlying123 rfl ti31 rfl (by decide)) rfl rfl ?_
     refine GoQ.stable rfl (oblk (i := 5) 5 hO rfl rfl Try.underlying31 rfl rfl) rfl rfl ?_
     refine GoQ.pure rfl (J03 rfl) rfl rfl ?_
     obtain ⟨HD, H⟩ := H
     obtain ⟨HE, H⟩ := H
     replace ak := ak.ch ql.ch
     refine GoQ.pure rfl (J02 Try.underlying31 ti3 rfl rfl HD HE (ak.some_ HD HE)) rfl rfl ?_
     refine GoQ.stable rfl (ldInt ak HD HE Try.underlying3 rfl rfl) rfl rfl ?_
     obtain ⟨HF, H⟩ := H
     obtain ⟨HG, H⟩ := H
     refine GoQ.pure rfl (J02 Try.underlying31 ti3 rfl rfl HF HG (Cn.some_ HF HG)) rfl rfl ?_
     refine GoQ.stable rfl (ldInt Cn HF HG Try.underlying3 rfl rfl) rfl rfl ?_
     obtain ⟨HH, H⟩ := H
     obtain ⟨HI, H⟩ := H
     refine GoQ.pure rfl (J02 Try.underlying31 ti3 rfl rfl HH HI (t2isome 0 hO rfl DL DN HH HI)) rfl rfl ?_
     have zz := t2st (r := Rp.int .i64) (hf := (Fl.int .i64)) rfl 0 hO rfl DL DN HH HI (v := .int .i64 (ix (ix r215.Right (ix (ix d_517 (k4_382 : Int)) (ix r215.Prefix (k6_516 : Int)))) (ix r215.Last (k6_516 : Int)))) (u := (ix (ix r215.Right (ix (ix d_517 (k4_382 : Int)) (ix r215.Prefix (k6_516 : Int)))) (ix r215.Last (k6_516 : Int)))) rfl rfl
     obtain ⟨YX, ny, Lu⟩ := zz
     dsimp only [sS, sZ] at ny
     refine GoQ.last rfl (Lu Try.underlying3 rfl ti3 (by exact rfl) (by exact rfl)) rfl rfl ?_
     replace hO := ny.own
     refine GoQ.nil ?_
     refine Go1.inBlock ?_
     refine Go1.cut [(0, .pointer (some ⟨B21, 0, none⟩)), (2, .pointer (some ⟨B207, 0, none⟩)), (5, .pointer (some ⟨B223, 0, none⟩)), (7, .int .i64 (r215.Elems.length : Int)), (8, .pointer (some ⟨dx, 0, none⟩)), (10, .int .i64 (k4_382 : Int)), (12, .int .i64 (k6_516 : Int)), (86, .slice ay r215.Right.length az), (87, .int .i64 (r215.Right.length : Int)), (88, .int .i64 (k4_382 : Int))] ⟨rfl, rfl, rfl, rfl, rfl, rfl, rfl, rfl, rfl, rfl, trivial⟩ ?_
     intro σ _
     refine zr (zm rfl ?_)
     replace ah := (ah.ch ql.ch).ch ny.ch
     refine zo (J0c rfl rfl (wrap_i64 (natbd DK ah.bd))) (za rfl (zn ?_))
     replace ad := ad.ch ny.ch
     replace ak := ak.ch ny.ch
     replace ag := ag.ch ny.ch
     have Z34 := ql.ch.trans ny.ch
     replace fU := fU.ch Z34
     replace bw := bw.ch Z34
     replace bc := bc.ch Z34
     replace aD := aD.ch Z34
     replace bg := bg.ch Z34
     replace am := am.ch Z34
     replace aj := aj.ch Z34
     replace hB := (hB.trans ql.fr).trans ny.fr
     exact hX6 _ H _ _ ⟨⟨rfl, rfl, rfl, rfl, rfl, rfl, rfl, rfl, rfl, rfl, trivial⟩, hO, fU, bw, bc, aD, bg, am, ah, ad, ak, ag, aj, hB⟩
    replace H := ifn DK H
    refine zo (fun w => opB (J08 rfl rfl w) (decide_eq_false DK)) (zn (zf rfl rfl ?_))
    refine Go1.exit rfl ?_
    refine Go1.inBlock ?_
    refine zr (zo (J0c rfl rfl (wrap_i64 (natbd BH ag.bd))) (zm rfl (zn ?_)))
    have gr := Stp.front 9 hO rfl
    dsimp only [eS, eZ] at gr
    replace hO := gr.own
    have oM := Stp.front 9 hO rfl
    dsimp only [eS, eZ] at oM
    replace hO := oM.own
    have oN := Stp.front 9 hO rfl
    dsimp only [eS, eZ] at oN
    replace hO := oN.own
    have oO := Stp.front 9 hO rfl
    dsimp only [eS, eZ] at oO
    replace hO := oO.own
    have oP := Stp.front 9 hO rfl
    dsimp only [eS, eZ] at oP
    replace hO := oP.own
    have oQ := Stp.front 9 hO rfl
    dsimp only [eS, eZ] at oQ
    replace hO := oQ.own
    have oR := Stp.front 6 hO rfl
    dsimp only [eS, eZ] at oR
    replace hO := oR.own
    have oS := Stp.front 9 hO rfl
    dsimp only [eS, eZ] at oS
    replace hO := oS.own
    have oT := Stp.front 9 hO rfl
    dsimp only [eS, eZ] at oT
    replace hO := oT.own
    have oU := Stp.front 9 hO rfl
    dsimp only [eS, eZ] at oU
    replace hO := oU.own
    have Z35 := ((((((((gr.ch.trans oM.ch).trans oN.ch).trans oO.ch).trans oP.ch).trans oQ.ch).trans oR.ch).trans oS.ch).trans oT.ch).trans oU.ch
    replace fU := fU.ch Z35
    replace bw := bw.ch Z35
    replace bc := bc.ch Z35
    replace aD := aD.ch Z35
    replace bg := bg.ch Z35
    replace am := am.ch Z35
    replace ah := ah.ch Z35
    replace ad := ad.ch Z35
    replace ak := ak.ch Z35
    replace ag := ag.ch Z35
    replace aj := aj.ch Z35
    replace hB := (((((((((hB.trans gr.fr).trans oM.fr).trans oN.fr).trans oO.fr).trans oP.fr).trans oQ.fr).trans oR.fr).trans oS.fr).trans oT.fr).trans oU.fr
    exact hX4 _ H _ _ ⟨rH, hup d4 (k4_382 : Int).toNat (uF, r215.Elems.length), ⟨rfl, rfl, rfl, rfl, rfl, rfl, rfl, rfl, trivial⟩, hO, fU, bw, bc, aD, bg, am, ah, ad, ak, ag, aj, hB⟩
   replace H := ifn BH H
   refine zo (fun w => opB (J08 rfl rfl w) (decide_eq_false BH)) (zn (zq (zf rfl rfl ?_)))
   refine Go1.exit rfl ?_
   refine zq (zr (zm rfl (zo (J01 rfl) (zo (J00 Try.underlying83 rfl ti81 rfl (by decide)) (zs (oblk (i := 1) 8 hO rfl rfl Try.underlying81 rfl rfl) ?_)))))
   refine zo (J0y Try.underlying81 rfl (aD.neq hO 7 rfl)) ?_
   obtain ⟨S7, H⟩ := H
   obtain ⟨S8, H⟩ := H
   have zz := t2makeS (m := (((([] : List part)) ++ ([(⟨((0 : Int) + r26.Start), r26.Final, (0 : Int)⟩ : part)])).length : Int)) (e' := 4) Fl.bool Try.underlying40 ti22 hO S7 S8 (by decide)
   obtain ⟨YY, jT, qm, Ux, Lv, hz565⟩ := zz
   refine zg (Lv rfl rfl) ?_
   replace hO := qm.own
   refine za rfl (zn (zq (zq (zr (zm rfl ?_)))))
   refine zo (J01 rfl) (zo (J00 Try.underlying83 rfl ti81 rfl (by decide)) (zs (oblk (i := 1) 9 hO rfl rfl Try.underlying81 rfl rfl) ?_))
   replace aD := aD.ch qm.ch
   refine zo (J0y Try.underlying81 rfl (aD.neq hO 8 rfl)) (zm rfl (zn (zb ?_)))
   replace hO := hO.drop 9
   replace aD := aD.ch (Owns.J06 _ _ 9)
   have Z36 := qm.ch.trans (Owns.J06 _ _ 9)
   replace cO := cO.ch Z36
   replace bw := bw.ch Z36
   replace bc := bc.ch Z36
   replace bg := bg.ch Z36
   replace am := am.ch Z36
   replace ah := ah.ch Z36
   replace ad := ad.ch Z36
   replace ak := ak.ch Z36
   replace ag := ag.ch Z36
   replace aj := aj.ch Z36
   replace hB := (hB.trans qm.fr).trans (Owns.J09 _ _ 9)
   dsimp only [eS, eZ] at hB hO bg am ah ad ak ag aj cO bw bc aD
   refine Go1.loopW (S := Nat × List (List Bool)) (fun s σ w => match s with | (k7_567, d_568) => ∃ (fV : Hd), agrees σ [(2, .pointer (some ⟨B207, 0, none⟩)), (5, .pointer (some ⟨B223, 0, none⟩)), (7, .int .i64 (r215.Elems.length : Int)), (8, .pointer (some ⟨dx, 0, none⟩)), (13, .slice jT (((([] : List part)) ++ ([(⟨((0 : Int) + r26.Start), r26.Final, (0 : Int)⟩ : part)])).length) (((([] : List part)) ++ ([(⟨((0 : Int) + r26.Start), r26.Final, (0 : Int)⟩ : part)])).length)), (162, .slice cd (0 + 1) ce), (163, .int .i64 (((([] : List part)) ++ ([(⟨((0 : Int) + r26.Start), r26.Final, (0 : Int)⟩ : part)])).length : Int)), (164, .int .i64 (k7_567 : Int))] ∧ (fun Z0 => Owns w0.heap.size w Z0 A ∧ Els (Rp.bool) (bl Z0 ++ A) w fO d_383 ∧ Els (Rp.str) (bl Z0 ++ A) w c7 d_343 ∧ Els (Rp.int .i64) (bl Z0 ++ A) w bN r262 ∧ Els (rppart) (bl Z0 ++ A) w cQ ((([] : List part)) ++ ([(⟨((0 : Int) + r26.Start), r26.Final, (0 : Int)⟩ : part)])) ∧ ISl (Rp.sl (Rp.int .i64)) (bl Z0 ++ A) w aS aT r215.Gens ∧ ISl (Rp.sl (Rp.int .i64)) (bl Z0 ++ A) w aE aF r215.Elems ∧ ISl (Rp.int .i64) (bl Z0 ++ A) w aA aB r215.Prefix ∧ ISl (Rp.int .i64) (bl Z0 ++ A) w aU aV r215.Last ∧ ISl (Rp.sl (Rp.int .i64)) (bl Z0 ++ A) w ay az r215.Right ∧ ISl (rpRule) (bl Z0 ++ A) w aJ aK r215.Rules ∧ Fr (bl []) w0 (bl Z0) w) [t2 Fl.bool 22 4 jT (((([] : List part)) ++ ([(⟨((0 : Int) + r26.Start), r26.Final, (0 : Int)⟩ : part)])).length) (((([] : List part)) ++ ([(⟨((0 : Int) + r26.Start), r26.Final, (0 : Int)⟩ : part)])).length) fV d_568, .blk dx (.cells #[.int .i64 (d_60.length : Int), .slice (some ⟨bx, 0, none⟩) r215.Elems.length r215.Elems.length, .slice (some ⟨bA, 0, none⟩) r215.Elems.length r215.Elems.length, .slice aM aO aN, .slice none 0 0, .slice (some ⟨bD, 0, none⟩) r215.Elems.length r215.Elems.length] 33 (0, 0)), .row 4 1 (some ⟨bD, 0, none⟩) r215.Elems.length r215.Elems.length fO, .row 9 1 (some ⟨bA, 0, none⟩) r215.Elems.length r215.Elems.length c7, t2 (Fl.int .i64) 31 3 (some ⟨bx, 0, none⟩) r215.Elems.length r215.Elems.length d4 d_386, .row 3 1 aM aO aN bN, .blk B223 (.cells #[.int .i64 r215.Points, .bool r215.Monoid, .slice aS r215.Gens.length aT, .slice aE r215.Elems.length aF, .slice aA r215.Prefix.length aB, .slice aU r215.Last.length aV, .slice ay r215.Right.length az, .slice aJ r215.Rules.length aK, .int .i64 r215.Done] 123 (0, 0)), .blk B207 (.cells #[.int .i64 0, .slice none 0 0, .slice none 0 0, .slice none 0 0, .slice none 0 0, .slice none 0 0] 33 (0, 0)), .row 120 3 cd (0 + 1) ce cQ, .blk B8 (.cells #[.int .i64 0, .slice none 0 0, .slice none 0 0, .slice none 0 0, .slice none 0 0, .slice none 0 0] 33 (0, 0))]) H ⟨(fun _ => (none, 0)), ⟨rfl, rfl, rfl, rfl, rfl, rfl, rfl, rfl, trivial⟩, hO, cO, bw, bc, aD, am, ah, ad, ak, ag, aj, hB⟩ ?_
   intro X7
   refine prE fun k7_567 => fun d_568 => ?_
   intro H hX7 σ Y0
   refine exE fun fV => andE fun hag => andE fun hO => andE fun cO => andE fun bw => andE fun bc => andE fun aD => andE fun am => andE fun ah => andE fun ad => andE fun ak => andE fun ag => andE fun aj => fun hB => ?_
   dsimp only at H
   refine Go1.keep [(2, .pointer (some ⟨B207, 0, none⟩)), (5, .pointer (some ⟨B223, 0, none⟩)), (7, .int .i64 (r215.Elems.length : Int)), (8, .pointer (some ⟨dx, 0, none⟩)), (13, .slice jT (((([] : List part)) ++ ([(⟨((0 : Int) + r26.Start), r26.Final, (0 : Int)⟩ : part)])).length) (((([] : List part)) ++ ([(⟨((0 : Int) + r26.Start), r26.Final, (0 : Int)⟩ : part)])).length)), (162, .slice cd (0 + 1) ce), (163, .int .i64 (((([] : List part)) ++ ([(⟨((0 : Int) + r26.Start), r26.Final, (0 : Int)⟩ : part)])).length : Int)), (164, .int .i64 (k7_567 : Int))] hag ?_
   refine zq (zr ?_)
   by_cases DR : (k7_567 : Int) < (((([] : List part)) ++ ([(⟨((0 : Int) + r26.Start), r26.Final, (0 : Int)⟩ : part)])).length : Int)
   ·replace H := ifp DR H
    refine zo (fun w => opB (J08 rfl rfl w) (decide_eq_true DR)) (zn (zq (zt rfl rfl (zk (zq ?_)))))
    refine zb (zq (zr (zm rfl ?_)))
    obtain ⟨HJ, H⟩ := H
    obtain ⟨HK, H⟩ := H
    refine zo (J02 Try.underlying81 ti120 rfl rfl HJ (ltn (aD.neq hO 8 rfl) HK) (aD.psome hO 8 rfl HJ HK)) ?_
    have Qg := oldAggR 8 hO rfl (r := rppart) aD HJ HK
    obtain ⟨Uy, Qh, hR576, Lw⟩ := Qg
    replace hR576 := rppart_inv Qh hR576
    obtain ⟨tG, tH, hcs578, jN⟩ := hR576
    subst hcs578
    refine zs (Lw Try.underlying120 rfl ti120 rfl) ?_
    have zz := oalloc (t := 120) (cs := #[.int .i64 0, .slice none 0 0, .int .i64 0]) ti120 hO rfl
    obtain ⟨Y1, B583, qn, Uz, Lx⟩ := zz
    refine GoR.op Lx rfl rfl ?_
    replace hO := qn.own
    refine za rfl ?_
    have zz := J0b (us := [.int .i64 ((ix ((([] : List part)) ++ ([(⟨((0 : Int) + r26.Start), r26.Final, (0 : Int)⟩ : part)])) (k7_567 : Int)).start), .slice tG (((ix ((([] : List part)) ++ ([(⟨((0 : Int) + r26.Start), r26.Final, (0 : Int)⟩ : part)])) (k7_567 : Int)).final).length) tH, .int .i64 ((ix ((([] : List part)) ++ ([(⟨((0 : Int) + r26.Start), r26.Final, (0 : Int)⟩ : part)])) (k7_567 : Int)).shift)]) (o := 0) (cs' := #[.int .i64 ((ix ((([] : List part)) ++ ([(⟨((0 : Int) + r26.Start), r26.Final, (0 : Int)⟩ : part)])) (k7_567 : Int)).start), .slice tG (((ix ((([] : List part)) ++ ([(⟨((0 : Int) + r26.Start), r26.Final, (0 : Int)⟩ : part)])) (k7_567 : Int)).final).length) tH, .int .i64 ((ix ((([] : List part)) ++ ([(⟨((0 : Int) + r26.Start), r26.Final, (0 : Int)⟩ : part)])) (k7_567 : Int)).shift)]) 0 hO rfl rfl (Nat.le_of_ble_eq_true rfl) rfl
    obtain ⟨Y2, oV, Ly⟩ := zz
    dsimp only [sS, sZ] at oV
    refine zg (Ly ti120 (by exact rfl) (by exact rfl) rfl) ?_
    replace hO := oV.own
    refine zn (zq (zr (zm rfl (zm rfl (zm rfl ?_)))))
    obtain ⟨S9, H⟩ := H
    obtain ⟨Gl, H⟩ := H
    have zz := omake (n := (r215.Elems.length : Int)) (r := Rp.bool) (d := false) Try.underlying22 ti4 (fun _ _ => rfl) rfl hO S9 Gl (by decide)
    obtain ⟨Y3, u9, UA, qo, Bc, UB, Lz⟩ := zz
    refine zg (Lz rfl rfl) ?_
    replace hO := qo.own
    obtain ⟨Dd, H⟩ := H
    obtain ⟨HL, H⟩ := H
    refine zo (J02 Try.underlying40 ti22 rfl rfl Dd (ltn (t2neq 2 hO rfl) HL) (t2some 2 hO rfl Dd HL)) ?_
    have nA := Stp.front 2 hO rfl
    dsimp only [eS, eZ] at nA
    replace hO := nA.own
    have ig := Stp.front 1 hO rfl
    dsimp only [eS, eZ] at ig
    replace hO := ig.own
    replace Bc := (Bc.ch nA.ch).ch ig.ch
    have zz := t2put (hf := Fl.bool) hO Bc Dd HL
    obtain ⟨Y4, qq, LA⟩ := zz
    refine zg (LA Try.underlying22 rfl ti22 (by exact rfl) (by exact rfl)) ?_
    replace hO := qq.own
    refine zn (zq (zr (zo (J00 Try.underlying123 rfl ti23 rfl (by decide)) (zs (oblk (i := 3) 7 hO rfl rfl Try.underlying23 rfl rfl) (zo (J0d Try.underlying23 rfl) ?_)))))
    refine zm rfl (zn (zb ?_))
    have Z37 := ((((qn.ch.trans oV.ch).trans qo.ch).trans nA.ch).trans ig.ch).trans qq.ch
    replace cO := cO.ch Z37
    replace bw := bw.ch Z37
    replace bc := bc.ch Z37
    replace aD := aD.ch Z37
    replace am := am.ch Z37
    replace ah := ah.ch Z37
    replace ad := ad.ch Z37
    replace ak := ak.ch Z37
    replace ag := ag.ch Z37
    replace aj := aj.ch Z37
    replace jN := jN.ch Z37
    replace hB := (((((hB.trans qn.fr).trans oV.fr).trans qo.fr).trans nA.fr).trans ig.fr).trans qq.fr
    refine Go1.loopW (S := Nat × List (List Bool)) (fun s σ w => match s with | (k8_609, d_610) => agrees σ [(2, .pointer (some ⟨B207, 0, none⟩)), (5, .pointer (some ⟨B223, 0, none⟩)), (7, .int .i64 (r215.Elems.length : Int)), (8, .pointer (some ⟨dx, 0, none⟩)), (13, .slice jT (((([] : List part)) ++ ([(⟨((0 : Int) + r26.Start), r26.Final, (0 : Int)⟩ : part)])).length) (((([] : List part)) ++ ([(⟨((0 : Int) + r26.Start), r26.Final, (0 : Int)⟩ : part)])).length)), (14, .int .i64 (k7_567 : Int)), (15, .pointer (some ⟨B583, 0, none⟩)), (162, .slice cd (0 + 1) ce), (163, .int .i64 (((([] : List part)) ++ ([(⟨((0 : Int) + r26.Start), r26.Final, (0 : Int)⟩ : part)])).length : Int)), (164, .int .i64 (k7_567 : Int)), (175, .slice aE r215.Elems.length aF), (176, .int .i64 (r215.Elems.length : Int)), (177, .int .i64 (k8_609 : Int))] ∧ (fun Z0 => Owns w0.heap.size w Z0 A ∧ Els (Rp.bool) (bl Z0 ++ A) w fO d_383 ∧ Els (Rp.str) (bl Z0 ++ A) w c7 d_343 ∧ Els (Rp.int .i64) (bl Z0 ++ A) w bN r262 ∧ Els (rppart) (bl Z0 ++ A) w cQ ((([] : List part)) ++ ([(⟨((0 : Int) + r26.Start), r26.Final, (0 : Int)⟩ : part)])) ∧ ISl (Rp.sl (Rp.int .i64)) (bl Z0 ++ A) w aS aT r215.Gens ∧ ISl (Rp.sl (Rp.int .i64)) (bl Z0 ++ A) w aE aF r215.Elems ∧ ISl (Rp.int .i64) (bl Z0 ++ A) w aA aB r215.Prefix ∧ ISl (Rp.int .i64) (bl Z0 ++ A) w aU aV r215.Last ∧ ISl (Rp.sl (Rp.int .i64)) (bl Z0 ++ A) w ay az r215.Right ∧ ISl (rpRule) (bl Z0 ++ A) w aJ aK r215.Rules ∧ ISl (Rp.bool) (bl Z0 ++ A) w tG tH ((ix ((([] : List part)) ++ ([(⟨((0 : Int) + r26.Start), r26.Final, (0 : Int)⟩ : part)])) (k7_567 : Int)).final) ∧ Fr (bl []) w0 (bl Z0) w) [t2 Fl.bool 22 4 jT (((([] : List part)) ++ ([(⟨((0 : Int) + r26.Start), r26.Final, (0 : Int)⟩ : part)])).length) (((([] : List part)) ++ ([(⟨((0 : Int) + r26.Start), r26.Final, (0 : Int)⟩ : part)])).length) (hup fV (k7_567 : Int).toNat (u9, r215.Elems.length)) d_610, .blk B583 (.cells #[.int .i64 ((ix ((([] : List part)) ++ ([(⟨((0 : Int) + r26.Start), r26.Final, (0 : Int)⟩ : part)])) (k7_567 : Int)).start), .slice tG (((ix ((([] : List part)) ++ ([(⟨((0 : Int) + r26.Start), r26.Final, (0 : Int)⟩ : part)])) (k7_567 : Int)).final).length) tH, .int .i64 ((ix ((([] : List part)) ++ ([(⟨((0 : Int) + r26.Start), r26.Final, (0 : Int)⟩ : part)])) (k7_567 : Int)).shift)] 120 (0, 0)), .blk dx (.cells #[.int .i64 (d_60.length : Int), .slice (some ⟨bx, 0, none⟩) r215.Elems.length r215.Elems.length, .slice (some ⟨bA, 0, none⟩) r215.Elems.length r215.Elems.length, .slice aM aO aN, .slice none 0 0, .slice (some ⟨bD, 0, none⟩) r215.Elems.length r215.Elems.length] 33 (0, 0)), .row 4 1 (some ⟨bD, 0, none⟩) r215.Elems.length r215.Elems.length fO, .row 9 1 (some ⟨bA, 0, none⟩) r215.Elems.length r215.Elems.length c7, t2 (Fl.int .i64) 31 3 (some ⟨bx, 0, none⟩) r215.Elems.length r215.Elems.length d4 d_386, .row 3 1 aM aO aN bN, .blk B223 (.cells #[.int .i64 r215.Points, .bool r215.Monoid, .slice aS r215.Gens.length aT, .slice aE r215.Elems.length aF, .slice aA r215.Prefix.length aB, .slice aU r215.Last.length aV, .slice ay r215.Right.length az, .slice aJ r215.Rules.length aK, .int .i64 r215.Done] 123 (0, 0)), .blk B207 (.cells #[.int .i64 0, .slice none 0 0, .slice none 0 0, .slice none 0 0, .slice none 0 0, .slice none 0 0] 33 (0, 0)), .row 120 3 cd (0 + 1) ce cQ, .blk B8 (.cells #[.int .i64 0, .slice none 0 0, .slice none 0 0, .slice none 0 0, .slice none 0 0, .slice none 0 0] 33 (0, 0))]) H ⟨⟨rfl, rfl, rfl, rfl, rfl, rfl, rfl, rfl, rfl, rfl, rfl, rfl, rfl, trivial⟩, hO, cO, bw, bc, aD, am, ah, ad, ak, ag, aj, jN, hB⟩ ?_
    intro X8
    refine prE fun k8_609 => fun d_610 => ?_
    intro H hX8 σ Y5
    refine andE fun hag => andE fun hO => andE fun cO => andE fun bw => andE fun bc => andE fun aD => andE fun am => andE fun ah => andE fun ad => andE fun ak => andE fun ag => andE fun aj => andE fun jN => fun hB => ?_
    dsimp only at H
    refine Go1.keep [(2, .pointer (some ⟨B207, 0, none⟩)), (5, .pointer (some ⟨B223, 0, none⟩)), (7, .int .i64 (r215.Elems.length : Int)), (8, .pointer (some ⟨dx, 0, none⟩)), (13, .slice jT (((([] : List part)) ++ ([(⟨((0 : Int) + r26.Start), r26.Final, (0 : Int)⟩ : part)])).length) (((([] : List part)) ++ ([(⟨((0 : Int) + r26.Start), r26.Final, (0 : Int)⟩ : part)])).length)), (14, .int .i64 (k7_567 : Int)), (15, .pointer (some ⟨B583, 0, none⟩)), (162, .slice cd (0 + 1) ce), (163, .int .i64 (((([] : List part)) ++ ([(⟨((0 : Int) + r26.Start), r26.Final, (0 : Int)⟩ : part)])).length : Int)), (164, .int .i64 (k7_567 : Int)), (175, .slice aE r215.Elems.length aF), (176, .int .i64 (r215.Elems.length : Int)), (177, .int .i64 (k8_609 : Int))] hag ?_
    refine zq (zr ?_)
    by_cases xx : (k8_609 : Int) < (r215.Elems.length : Int)
    ·replace H := ifp xx H
     refine zo (fun w => opB (J08 rfl rfl w) (decide_eq_true xx)) (zn (zq (zt rfl rfl (zk (zq ?_)))))
     refine zb (zq (zr (zm rfl ?_)))
     obtain ⟨HM, H⟩ := H
     obtain ⟨HN, H⟩ := H
     refine zo (J02 Try.underlying23 ti31 rfl rfl HM HN (ah.some_ HM HN)) ?_
     have zz := ldSl ah HM HN
     obtain ⟨Y6, Y7, yj, Qi⟩ := zz
     refine zs (Qi Try.underlying31 rfl rfl) (za rfl (za rfl (zn ?_)))
     refine Go1.drawS 1 [(0, .pure), (1, .pure), (2, .pure), (3, .stable), (4, .pure), (5, .stable), (6, .pure), (7, .loud), (8, .pure), (9, .last)] mixed (by kernel_rfl) ?_
     intro Sa Qj
     have ir := Stp.same hO Qj
     replace hO := ir.own
     refine GoQ.pure rfl (J03 rfl) rfl rfl ?_
     refine GoQ.pure rfl (J03 rfl) rfl rfl ?_
     obtain ⟨DS, H⟩ := H
     obtain ⟨DT, H⟩ := H
     refine GoQ.pure rfl (J02 Try.underlying40 ti22 rfl rfl DS (ltn (t2neq 0 hO rfl) DT) (t2some 0 hO rfl DS DT)) rfl rfl ?_
     refine GoQ.stable rfl (t2head 0 hO rfl DS DT Try.underlying22 rfl rfl) rfl rfl ?_
     refine GoQ.pure rfl (J03 rfl) rfl rfl ?_
     refine GoQ.stable rfl (J0j (vs := [.int .i64 ((ix ((([] : List part)) ++ ([(⟨((0 : Int) + r26.Start), r26.Final, (0 : Int)⟩ : part)])) (k7_567 : Int)).start), .slice tG (((ix ((([] : List part)) ++ ([(⟨((0 : Int) + r26.Start), r26.Final, (0 : Int)⟩ : part)])) (k7_567 : Int)).final).length) tH, .int .i64 ((ix ((([] : List part)) ++ ([(⟨((0 : Int) + r26.Start), r26.Final, (0 : Int)⟩ : part)])) (k7_567 : Int)).shift)]) (i := 0) 1 hO rfl rfl Try.underlying120 rfl ti120 rfl) rfl rfl ?_
     refine GoQ.pure rfl (J03 rfl) rfl rfl ?_
     replace jN := jN.ch ir.ch
     replace yj := yj.ch ir.ch
     refine GoQ.call rfl (J0a body103 rfl (walk_syntactic_part_accept (p := (⟨((ix ((([] : List part)) ++ ([(⟨((0 : Int) + r26.Start), r26.Final, (0 : Int)⟩ : part)])) (k7_567 : Int)).start), (ix ((([] : List part)) ++ ([(⟨((0 : Int) + r26.Start), r26.Final, (0 : Int)⟩ : part)])) (k7_567 : Int)).final, ((ix ((([] : List part)) ++ ([(⟨((0 : Int) + r26.Start), r26.Final, (0 : Int)⟩ : part)])) (k7_567 : Int)).shift)⟩ : part)) hO.lt jN yj H)) (fun v w hr => by obtain ⟨_, _, hs, _⟩ := hr; assumption) rfl rfl ?_
     rintro Y8 Y9 ⟨r623, rfl, Qk, H⟩
     have oW := Stp.same hO Qk
     replace hO := oW.own
     obtain ⟨HO, H⟩ := H
     obtain ⟨HP, H⟩ := H
     refine GoQ.pure rfl (J02 Try.underlying22 ti4 rfl rfl HO HP (t2isome 0 hO rfl DS DT HO HP)) rfl rfl ?_
     have zz := t2st (r := Rp.bool) (hf := Fl.bool) rfl 0 hO rfl DS DT HO HP (v := .bool r623) (u := r623) rfl rfl
     obtain ⟨aaa, nB, LB⟩ := zz
     dsimp only [sS, sZ] at nB
     refine GoQ.last rfl (LB Try.underlying4 rfl ti4 (by exact rfl) (by exact rfl)) rfl rfl ?_
     replace hO := nB.own
     refine GoQ.nil ?_
     refine Go1.inBlock ?_
     refine zr ?_
     have Z38 := (ir.ch.trans oW.ch).trans nB.ch
     replace ah := ah.ch Z38
     refine zo (J0c rfl rfl (wrap_i64 (natbd xx ah.bd))) (zm rfl (zn ?_))
     replace jN := (jN.ch oW.ch).ch nB.ch
     replace cO := cO.ch Z38
     replace bw := bw.ch Z38
     replace bc := bc.ch Z38
     replace aD := aD.ch Z38
     replace am := am.ch Z38
     replace ad := ad.ch Z38
     replace ak := ak.ch Z38
     replace ag := ag.ch Z38
     replace aj := aj.ch Z38
     replace hB := ((hB.trans ir.fr).trans oW.fr).trans nB.fr
     exact hX8 _ H _ _ ⟨⟨rfl, rfl, rfl, rfl, rfl, rfl, rfl, rfl, rfl, rfl, rfl, rfl, rfl, trivial⟩, hO, cO, bw, bc, aD, am, ah, ad, ak, ag, aj, jN, hB⟩
    replace H := ifn xx H
    refine zo (fun w => opB (J08 rfl rfl w) (decide_eq_false xx)) (zn (zq (zf rfl rfl ?_)))
    refine Go1.exit rfl ?_
    refine Go1.inBlock ?_
    refine zr (zo (J0c rfl rfl (wrap_i64 (natbd DR aD.bd))) (zm rfl (zn ?_)))
    replace hO := hO.drop 1
    replace am := am.ch (Owns.J06 _ _ 1)
    replace ah := ah.ch (Owns.J06 _ _ 1)
    replace ad := ad.ch (Owns.J06 _ _ 1)
    replace ak := ak.ch (Owns.J06 _ _ 1)
    replace ag := ag.ch (Owns.J06 _ _ 1)
    replace aj := aj.ch (Owns.J06 _ _ 1)
    replace jN := jN.ch (Owns.J06 _ _ 1)
    replace cO := cO.ch (Owns.J06 _ _ 1)
    replace bw := bw.ch (Owns.J06 _ _ 1)
    replace bc := bc.ch (Owns.J06 _ _ 1)
    replace aD := aD.ch (Owns.J06 _ _ 1)
    replace hB := hB.trans (Owns.J09 _ _ 1)
    dsimp only [eS, eZ] at hB hO am ah ad ak ag aj jN cO bw bc aD
    exact hX7 _ H _ _ ⟨hup fV (k7_567 : Int).toNat (u9, r215.Elems.length), ⟨rfl, rfl, rfl, rfl, rfl, rfl, rfl, rfl, trivial⟩, hO, cO, bw, bc, aD, am, ah, ad, ak, ag, aj, hB⟩
   replace H := ifn DR H
   refine zo (fun w => opB (J08 rfl rfl w) (decide_eq_false DR)) (zn (zq (zf rfl rfl ?_)))
   refine Go1.exit rfl ?_
   refine zq ?_
   refine Go1.cut [(2, .pointer (some ⟨B207, 0, none⟩)), (8, .pointer (some ⟨dx, 0, none⟩)), (13, .slice jT (((([] : List part)) ++ ([(⟨((0 : Int) + r26.Start), r26.Final, (0 : Int)⟩ : part)])).length) (((([] : List part)) ++ ([(⟨((0 : Int) + r26.Start), r26.Final, (0 : Int)⟩ : part)])).length))] ⟨rfl, rfl, rfl, trivial⟩ ?_
   intro σ _
   refine zr (zs (J0j (vs := [.int .i64 (d_60.length : Int), .slice (some ⟨bx, 0, none⟩) r215.Elems.length r215.Elems.length, .slice (some ⟨bA, 0, none⟩) r215.Elems.length r215.Elems.length, .slice aM aO aN, .slice none 0 0, .slice (some ⟨bD, 0, none⟩) r215.Elems.length r215.Elems.length]) (i := 0) 1 hO rfl rfl Try.underlying33 rfl ti33 rfl) (zm rfl ?_))
   have zz := J0b (us := [.int .i64 (d_60.length : Int), .slice (some ⟨bx, 0, none⟩) r215.Elems.length r215.Elems.length, .slice (some ⟨bA, 0, none⟩) r215.Elems.length r215.Elems.length, .slice aM aO aN, .slice none 0 0, .slice (some ⟨bD, 0, none⟩) r215.Elems.length r215.Elems.length]) (o := 0) (cs' := #[.int .i64 (d_60.length : Int), .slice (some ⟨bx, 0, none⟩) r215.Elems.length r215.Elems.length, .slice (some ⟨bA, 0, none⟩) r215.Elems.length r215.Elems.length, .slice aM aO aN, .slice none 0 0, .slice (some ⟨bD, 0, none⟩) r215.Elems.length r215.Elems.length]) 7 hO rfl rfl (Nat.le_of_ble_eq_true rfl) rfl
   obtain ⟨aab, qr, LD⟩ := zz
   dsimp only [sS, sZ] at qr
   refine zg (LD ti33 (by exact rfl) (by exact rfl) rfl) ?_
   replace hO := qr.own
   refine za rfl (za rfl (zn ?_))
   refine Go1.retC3V Try.func63 rfl rfl (J0f (vs := [.int .i64 (d_60.length : Int), .slice (some ⟨bx, 0, none⟩) r215.Elems.length r215.Elems.length, .slice (some ⟨bA, 0, none⟩) r215.Elems.length r215.Elems.length, .slice aM aO aN, .slice none 0 0, .slice (some ⟨bD, 0, none⟩) r215.Elems.length r215.Elems.length]) 7 hO rfl rfl Try.underlying33 rfl ti33) (show _ = .slice jT (((([] : List part)) ++ ([(⟨((0 : Int) + r26.Start), r26.Final, (0 : Int)⟩ : part)])).length) (((([] : List part)) ++ ([(⟨((0 : Int) + r26.Start), r26.Final, (0 : Int)⟩ : part)])).length) from rfl) (show _ = .int .i64 0 from rfl) ?_
   refine hR205 _ _ ?_
   refine zm rfl (zo (J07 rfl rfl) (zo (J07 rfl rfl) (zo (J07 rfl rfl) ?_)))
   have zz := oalloc (t := 33) (cs := #[.int .i64 0, .slice none 0 0, .slice none 0 0, .slice none 0 0, .slice none 0 0, .slice none 0 0]) ti33 hO rfl
   obtain ⟨Sc, B638, sC, UC, LE⟩ := zz
   refine GoR.op LE rfl rfl ?_
   replace hO := sC.own
   have zz := J0b (us := [.int .i64 (d_60.length : Int), .slice (some ⟨bx, 0, none⟩) r215.Elems.length r215.Elems.length, .slice (some ⟨bA, 0, none⟩) r215.Elems.length r215.Elems.length, .slice aM aO aN, .slice none 0 0, .slice (some ⟨bD, 0, none⟩) r215.Elems.length r215.Elems.length]) (o := 0) (cs' := #[.int .i64 (d_60.length : Int), .slice (some ⟨bx, 0, none⟩) r215.Elems.length r215.Elems.length, .slice (some ⟨bA, 0, none⟩) r215.Elems.length r215.Elems.length, .slice aM aO aN, .slice none 0 0, .slice (some ⟨bD, 0, none⟩) r215.Elems.length r215.Elems.length]) 0 hO rfl rfl (Nat.le_of_ble_eq_true rfl) rfl
   obtain ⟨aac, qt, De⟩ := zz
   dsimp only [sS, sZ] at qt
   refine zg (De ti33 (by exact rfl) (by exact rfl) rfl) ?_
   replace hO := qt.own
   refine za rfl (za rfl (zn (zq (zq (zr ?_)))))
   refine zm rfl (zo (fun w => opB (J0g rfl rfl w) (ndT (by decide))) (zn (zf rfl rfl (zk (zq ?_)))))
   refine zr (zm rfl ?_)
   obtain ⟨Fh, H⟩ := H
   obtain ⟨Fi, H⟩ := H
   refine zo (J02 Try.underlying40 ti22 rfl rfl Fh (ltn (t2neq 1 hO rfl) Fi) (t2some 1 hO rfl Fh Fi)) (zs (t2head 1 hO rfl Fh Fi Try.underlying22 rfl rfl) (zo (J00 Try.underlying33 rfl ti22 rfl (by decide)) ?_))
   have zz := J0e (v := .slice (fV (0 : Int).toNat).1 ((ix d_568 (0 : Int)).length) (fV (0 : Int).toNat).2) (i := 4) (cs' := #[.int .i64 (d_60.length : Int), .slice (some ⟨bx, 0, none⟩) r215.Elems.length r215.Elems.length, .slice (some ⟨bA, 0, none⟩) r215.Elems.length r215.Elems.length, .slice aM aO aN, .slice (fV (0 : Int).toNat).1 ((ix d_568 (0 : Int)).length) (fV (0 : Int).toNat).2, .slice (some ⟨bD, 0, none⟩) r215.Elems.length r215.Elems.length]) 0 hO rfl rfl rfl rfl
   obtain ⟨aad, qu, LF⟩ := zz
   dsimp only [sS, sZ] at qu
   refine zg (LF Try.underlying22 rfl ti22 (by exact rfl) (by exact rfl)) ?_
   replace hO := qu.own
   refine zn (zq ?_)
   refine Go1.cut [(2, .pointer (some ⟨B8, 0, none⟩)), (7, .pointer (some ⟨B638, 0, none⟩))] ⟨rfl, rfl, trivial⟩ ?_
   intro σ _
   refine zr (zs (J0j (vs := [.int .i64 (d_60.length : Int), .slice (some ⟨bx, 0, none⟩) r215.Elems.length r215.Elems.length, .slice (some ⟨bA, 0, none⟩) r215.Elems.length r215.Elems.length, .slice aM aO aN, .slice (fV (0 : Int).toNat).1 ((ix d_568 (0 : Int)).length) (fV (0 : Int).toNat).2, .slice (some ⟨bD, 0, none⟩) r215.Elems.length r215.Elems.length]) (i := 0) 0 hO rfl rfl Try.underlying33 rfl ti33 rfl) ?_)
   have zz := J0b (us := [.int .i64 (d_60.length : Int), .slice (some ⟨bx, 0, none⟩) r215.Elems.length r215.Elems.length, .slice (some ⟨bA, 0, none⟩) r215.Elems.length r215.Elems.length, .slice aM aO aN, .slice (fV (0 : Int).toNat).1 ((ix d_568 (0 : Int)).length) (fV (0 : Int).toNat).2, .slice (some ⟨bD, 0, none⟩) r215.Elems.length r215.Elems.length]) (o := 0) (cs' := #[.int .i64 (d_60.length : Int), .slice (some ⟨bx, 0, none⟩) r215.Elems.length r215.Elems.length, .slice (some ⟨bA, 0, none⟩) r215.Elems.length r215.Elems.length, .slice aM aO aN, .slice (fV (0 : Int).toNat).1 ((ix d_568 (0 : Int)).length) (fV (0 : Int).toNat).2, .slice (some ⟨bD, 0, none⟩) r215.Elems.length r215.Elems.length]) 10 hO rfl rfl (Nat.le_of_ble_eq_true rfl) rfl
   obtain ⟨Se, qv, LG⟩ := zz
   dsimp only [sS, sZ] at qv
   refine zg (LG ti33 (by exact rfl) (by exact rfl) rfl) ?_
   replace hO := qv.own
   refine za rfl (zn ?_)
   have zz := t2freezeA 5 hO rfl
   obtain ⟨hO1, va, vI, Ql⟩ := zz
   dsimp only [eS, eZ] at hO1 va vI
   replace hB := (((((hB.trans qr.fr).trans sC.fr).trans qt.fr).trans qu.fr).trans qv.fr).trans (Owns.J09 _ _ 5)
   dsimp only [eS, eZ] at hB
   replace hO := hO1; clear hO1
   have Z39 := ((((qr.ch.trans sC.ch).trans qt.ch).trans qu.ch).trans qv.ch).trans va
   replace bw := bw.ch Z39
   have zz := freeze 4 hO rfl bw
   obtain ⟨hO1, vb, xp, Qm⟩ := zz
   dsimp only [eS, eZ] at hO1 vb xp
   replace hB := hB.trans (Owns.J09 _ _ 4)
   dsimp only [eS, eZ] at hB
   replace hO := hO1; clear hO1
   replace bc := (bc.ch Z39).ch vb
   have zz := freeze 4 hO rfl bc
   obtain ⟨hO1, vc, zx, Qn⟩ := zz
   dsimp only [eS, eZ] at hO1 vc zx
   replace hB := hB.trans (Owns.J09 _ _ 4)
   dsimp only [eS, eZ] at hB
   replace hO := hO1; clear hO1
   have Fj := t2lendIn 1 hO rfl Fh Fi
   have zz := t2freezeA 1 hO rfl
   obtain ⟨hO1, uC, Fk, UD⟩ := zz
   dsimp only [eS, eZ] at hO1 uC Fk
   replace hB := hB.trans (Owns.J09 _ _ 1)
   dsimp only [eS, eZ] at hB
   replace hO := hO1; clear hO1
   have Z40 := ((Z39.trans vb).trans vc).trans uC
   replace cO := cO.ch Z40
   have zz := freeze 2 hO rfl cO
   obtain ⟨hO1, tS, Iu, Qo⟩ := zz
   dsimp only [eS, eZ] at hO1 tS Iu
   replace hB := hB.trans (Owns.J09 _ _ 2)
   dsimp only [eS, eZ] at hB
   replace hO := hO1; clear hO1
   refine Go1.retC2 Try.func19 rfl rfl (J0f (vs := [.int .i64 (d_60.length : Int), .slice (some ⟨bx, 0, none⟩) r215.Elems.length r215.Elems.length, .slice (some ⟨bA, 0, none⟩) r215.Elems.length r215.Elems.length, .slice aM aO aN, .slice (fV (0 : Int).toNat).1 ((ix d_568 (0 : Int)).length) (fV (0 : Int).toNat).2, .slice (some ⟨bD, 0, none⟩) r215.Elems.length r215.Elems.length]) 5 hO rfl rfl Try.underlying33 rfl ti33) ?_
   replace Fj := Fj.ch tS
   replace zx := (zx.ch uC).ch tS
   have Z41 := (vc.trans uC).trans tS
   replace xp := xp.ch Z41
   have Z42 := ((vb.trans vc).trans uC).trans tS
   replace vI := vI.ch Z42
   exact ⟨(⟨(d_60.length : Int), d_386, d_343, r262, (ix d_568 (0 : Int)), d_383⟩ : Syntactic), (0 : Int), (some ⟨bx, 0, none⟩), r215.Elems.length, (some ⟨bA, 0, none⟩), r215.Elems.length, aM, aN, (fV (0 : Int).toNat).1, (fV (0 : Int).toNat).2, (some ⟨bD, 0, none⟩), r215.Elems.length, (congrArg (fun l => Value.tuple (List.toArray l)) (J0h (congrArg (fun l => Value.agg (List.toArray l)) (J0h rfl (J0h (congrArg (fun nn => Value.slice (some ⟨bx, 0, none⟩) nn r215.Elems.length) Ql) (J0h (congrArg (fun nn => Value.slice (some ⟨bA, 0, none⟩) nn r215.Elems.length) Qm) (J0h (congrArg (fun nn => Value.slice aM nn aN) Qn) (J0h rfl (J0h (congrArg (fun nn => Value.slice (some ⟨bD, 0, none⟩) nn r215.Elems.length) Qo) rfl))))))) (J0h rfl rfl))), hB.same, (vI.ch (Ch.weak _ _ _)), (xp.ch (Ch.weak _ _ _)), (zx.ch (Ch.weak _ _ _)), (Fj.ch (Ch.weak _ _ _)), (Iu.ch (Ch.weak _ _ _)), H⟩
  replace H := ifn yb H
  refine zo (fun w => opB (J0g rfl rfl w) (ndF yb)) (zn (zt rfl rfl (zq (zr (zo (J0q Try.underlying33 ti33 (pl := [(0, 1), (1, 1), (2, 1), (3, 1), (4, 1), (5, 1)]) (vs := []) (cs := #[.int .i64 0, .slice none 0 0, .slice none 0 0, .slice none 0 0, .slice none 0 0, .slice none 0 0]) (by kernel_rfl) rfl (by kernel_rfl)) ?_)))))
  refine zm rfl ?_
  have zz := J0b (us := [.int .i64 0, .slice none 0 0, .slice none 0 0, .slice none 0 0, .slice none 0 0, .slice none 0 0]) (o := 0) (cs' := #[.int .i64 0, .slice none 0 0, .slice none 0 0, .slice none 0 0, .slice none 0 0, .slice none 0 0]) 1 hO rfl rfl (Nat.le_of_ble_eq_true rfl) rfl
  obtain ⟨aae, oX, LH⟩ := zz
  dsimp only [sS, sZ] at oX
  refine zg (LH ti33 (by exact rfl) (by exact rfl) rfl) ?_
  replace hO := oX.own
  refine za rfl (za rfl (zn ?_))
  refine Go1.retC3V Try.func63 rfl rfl (J0f (vs := [.int .i64 0, .slice none 0 0, .slice none 0 0, .slice none 0 0, .slice none 0 0, .slice none 0 0]) 1 hO rfl rfl Try.underlying33 rfl ti33) (show _ = .slice none 0 0 from rfl) (show _ = .int .i64 r216 from rfl) ?_
  refine hR205 _ _ ?_
  refine zm rfl (zo (J07 rfl rfl) (zo (J07 rfl rfl) (zo (J07 rfl rfl) ?_)))
  have zz := oalloc (t := 33) (cs := #[.int .i64 0, .slice none 0 0, .slice none 0 0, .slice none 0 0, .slice none 0 0, .slice none 0 0]) ti33 hO rfl
  obtain ⟨aaf, B674, qw, UE, LI⟩ := zz
  refine GoR.op LI rfl rfl ?_
  replace hO := qw.own
  have zz := J0b (us := [.int .i64 0, .slice none 0 0, .slice none 0 0, .slice none 0 0, .slice none 0 0, .slice none 0 0]) (o := 0) (cs' := #[.int .i64 0, .slice none 0 0, .slice none 0 0, .slice none 0 0, .slice none 0 0, .slice none 0 0]) 0 hO rfl rfl (Nat.le_of_ble_eq_true rfl) rfl
  obtain ⟨aag, oY, LJ⟩ := zz
  dsimp only [sS, sZ] at oY
  refine zg (LJ ti33 (by exact rfl) (by exact rfl) rfl) ?_
  replace hO := oY.own
  refine za rfl (za rfl (zn (zq (zq (zr ?_)))))
  refine zm rfl (zo (fun w => opB (J0g rfl rfl w) (ndF yb)) (zn (zt rfl rfl (zq (zr ?_)))))
  refine zo (J0q Try.underlying33 ti33 (pl := [(0, 1), (1, 1), (2, 1), (3, 1), (4, 1), (5, 1)]) (vs := []) (cs := #[.int .i64 0, .slice none 0 0, .slice none 0 0, .slice none 0 0, .slice none 0 0, .slice none 0 0]) (by kernel_rfl) rfl (by kernel_rfl)) (zm rfl ?_)
  have zz := J0b (us := [.int .i64 0, .slice none 0 0, .slice none 0 0, .slice none 0 0, .slice none 0 0, .slice none 0 0]) (o := 0) (cs' := #[.int .i64 0, .slice none 0 0, .slice none 0 0, .slice none 0 0, .slice none 0 0, .slice none 0 0]) 6 hO rfl rfl (Nat.le_of_ble_eq_true rfl) rfl
  obtain ⟨aah, o3, LK⟩ := zz
  dsimp only [sS, sZ] at o3
  refine zg (LK ti33 (by exact rfl) (by exact rfl) rfl) ?_
  replace hO := o3.own
  refine za rfl (zn ?_)
  refine Go1.retC2 Try.func19 rfl rfl (J0f (vs := [.int .i64 0, .slice none 0 0, .slice none 0 0, .slice none 0 0, .slice none 0 0, .slice none 0 0]) 6 hO rfl rfl Try.underlying33 rfl ti33) ?_
  replace hB := ((((((hB.trans wT.fr).trans qh.fr).trans og.fr).trans oX.fr).trans qw.fr).trans oY.fr).trans o3.fr
  exact ⟨(⟨(0 : Int), ([] : List (List Int)), ([] : List Str), ([] : List Int), ([] : List Bool), ([] : List Bool)⟩ : Syntactic), r216, none, 0, none, 0, none, 0, none, 0, none, 0, rfl, hB.same, (ISl.null _ _ _), (ISl.null _ _ _), (ISl.null _ _ _), (ISl.null _ _ _), (ISl.null _ _ _), H⟩
 replace H := ifn h19 H
 refine zo (fun w => opB (J0g rfl rfl w) (ndF h19)) (zn (zt rfl rfl (zq ?_)))
 refine Go1.cut [(2, .pointer (some ⟨B8, 0, none⟩)), (4, .int .i64 r13)] ⟨rfl, rfl, trivial⟩ ?_
 intro σ _
 refine zr (zo (J0q Try.underlying33 ti33 (pl := [(0, 1), (1, 1), (2, 1), (3, 1), (4, 1), (5, 1)]) (vs := []) (cs := #[.int .i64 0, .slice none 0 0, .slice none 0 0, .slice none 0 0, .slice none 0 0, .slice none 0 0]) (by kernel_rfl) rfl (by kernel_rfl)) (zm rfl ?_))
 have zz := J0b (us := [.int .i64 0, .slice none 0 0, .slice none 0 0, .slice none 0 0, .slice none 0 0, .slice none 0 0]) (o := 0) (cs' := #[.int .i64 0, .slice none 0 0, .slice none 0 0, .slice none 0 0, .slice none 0 0, .slice none 0 0]) 0 hO rfl rfl (Nat.le_of_ble_eq_true rfl) rfl
 obtain ⟨aai, Bd, LN⟩ := zz
 refine zg (LN ti33 (by exact rfl) (by exact rfl) rfl) ?_
 replace hO := Bd.own
 refine za rfl (zn ?_)
 refine Go1.retC2 Try.func19 rfl rfl (J0f (vs := [.int .i64 0, .slice none 0 0, .slice none 0 0, .slice none 0 0, .slice none 0 0, .slice none 0 0]) 0 hO rfl rfl Try.underlying33 rfl ti33) ?_
 replace hB := (((hB.trans cB.fr).trans ja.fr).trans gG.fr).trans Bd.fr
 exact ⟨(⟨(0 : Int), ([] : List (List Int)), ([] : List Str), ([] : List Int), ([] : List Bool), ([] : List Bool)⟩ : Syntactic), r13, none, 0, none, 0, none, 0, none, 0, none, 0, rfl, hB.same, (ISl.null _ _ _), (ISl.null _ _ _), (ISl.null _ _ _), (ISl.null _ _ _), (ISl.null _ _ _), H⟩
end Sg
