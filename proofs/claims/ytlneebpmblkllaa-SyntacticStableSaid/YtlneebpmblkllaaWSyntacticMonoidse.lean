/- -/
import Derived.Test.YtlneebpmblkllaaTi
import Derived.Test.YtlneebpmblkllaaWSyntacticMonoids
import Derived.Test.YtlneebpmblkllaaWSyntacticMonoidsb
import Derived.Test.YtlneebpmblkllaaWSyntacticMonoidsd
import Derived.Test.YtlneebpmblkllaaAl
namespace Sg
open Go Go.RowKit Go.Proofs
set_option linter.unusedVariables false
set_option linter.unusedSimpArgs false
set_option maxRecDepth 100000
set_option maxHeartbeats 4000000
theorem body63 : Body Try.prog 63 := ⟨Try.f63, Try.func63, rfl, by kernel_rfl⟩
theorem body62 : Body Try.prog 62 := ⟨Try.f62, Try.func62, rfl, by kernel_rfl⟩
theorem body19 : Body Try.prog 19 := ⟨Try.f19, Try.func19, rfl, by kernel_rfl⟩
theorem J1A {A : List Nat} {w0 : World} {bj : Option Addr} {bk : Nat} {bm : Option Addr} {bn : Nat} {d : DFA} (hA : ∀ b ∈ A, b < w0.heap.size) (ak : ISl (Rp.bool) A w0 bj bk d.Final) (ap : ISl (Rp.sl (Rp.int .i64)) A w0 bm bn d.Next) {K : Syntactic → Int → Prop} (H : J0O d K) :
    CallsV Try.prog 19 #[.agg #[.int .i64 d.Letters, .int .i64 d.Start, .slice bj d.Final.length bk, .slice bm d.Next.length bn]] w0 (fun v w' => ∃ (r0 : Syntactic) (r1 : Int) (Bz : Option Addr) (BA : Nat) (BB : Option Addr) (BC : Nat) (z8 : Option Addr) (z9 : Nat) (Aa : Option Addr) (Ab : Nat) (Cu : Option Addr) (Cv : Nat), v = .tuple #[.agg #[.int .i64 r0.Letters, .slice Bz r0.Table.length BA, .slice BB r0.Words.length BC, .slice z8 r0.Images.length z9, .slice Aa r0.Accept.length Ab, .slice Cu r0.Plus.length Cv], .int .i64 r1] ∧ Same w0 w' ∧ ISl (Rp.sl (Rp.int .i64)) A w' Bz BA r0.Table ∧ ISl (Rp.str) A w' BB BC r0.Words ∧ ISl (Rp.int .i64) A w' z8 z9 r0.Images ∧ ISl (Rp.bool) A w' Aa Ab r0.Accept ∧ ISl (Rp.bool) A w' Cu Cv r0.Plus ∧ K r0 r1) := by
 refine CallsV.of (l := [.agg #[.int .i64 d.Letters, .int .i64 d.Start, .slice bj d.Final.length bk, .slice bm d.Next.length bn]]) Try.func19 rfl Try.ntmps19 rfl ?_
 have hO := Owns.start hA
 have hB := Fr.refl (bl []) w0
 unfold J0O at H
 refine zq (zr ?_)
 have zz := obox (t := 25) (v := .agg #[.int .i64 d.Letters, .int .i64 d.Start, .slice bj d.Final.length bk, .slice bm d.Next.length bn]) (cs := #[.int .i64 d.Letters, .int .i64 d.Start, .slice bj d.Final.length bk, .slice bm d.Next.length bn]) hO rfl
 obtain ⟨w1, B2, dX, hs4, jU⟩ := zz
 refine zg (jU rfl) ?_
 replace hO := dX.own
 have zz := oalloc (t := 33) (cs := #[.int .i64 0, .slice none 0 0, .slice none 0 0, .slice none 0 0, .slice none 0 0, .slice none 0 0]) ti33 hO rfl
 obtain ⟨w7, B8, gU, xF, tH⟩ := zz
 refine GoR.op tH rfl rfl ?_
 replace hO := gU.own
 refine za rfl (zn (zq (zq ?_)))
 refine Go1.cut [(1, .pointer (some ⟨B2, 0, none⟩)), (2, .pointer (some ⟨B8, 0, none⟩))] ⟨rfl, rfl, trivial⟩ ?_
 intro σ _
 refine zr (zs (J0l (vs := [.int .i64 d.Letters, .int .i64 d.Start, .slice bj d.Final.length bk, .slice bm d.Next.length bn]) (i := 0) 1 hO rfl rfl Try.underlying25 rfl ti25 rfl) ?_)
 have Z1 := ((Ch.start A w0).trans dX.ch).trans gU.ch
 replace ak := ak.ch Z1
 replace ap := ap.ch Z1
 refine GoR.call (J0a body61 rfl (J15 (d := d) hO.lt ak ap H)) rfl rfl ?_
 rintro v17 w14 ⟨r13, rfl, x8, H⟩
 have gN := Stp.same hO x8
 replace hO := gN.own
 refine za rfl (zn (zq (zr (zm rfl ?_))))
 by_cases h19 : r13 = (0 : Int)
 ·replace H := ifp h19 H
  refine zo (fun w => opB (J0j rfl rfl w) (ndT h19)) (zn (zf rfl rfl (zk (zq (zr ?_)))))
  have zz := oalloc (t := 83) (cs := #[.slice none 0 0, .slice none 0 0, .int .i64 0]) ti83 hO rfl
  obtain ⟨w20, B21, jG, GL, Bb⟩ := zz
  refine GoR.op Bb rfl rfl ?_
  replace hO := jG.own
  refine zn (zq (zq (zr (zs (J0l (vs := [.int .i64 d.Letters, .int .i64 d.Start, .slice bj d.Final.length bk, .slice bm d.Next.length bn]) (i := 0) 2 hO rfl rfl Try.underlying25 rfl ti25 rfl) ?_))))
  have Z2 := gN.ch.trans jG.ch
  replace ak := ak.ch Z2
  replace ap := ap.ch Z2
  refine GoR.call (J0a body22 rfl (J2V (d := d) hO.lt ak ap H)) rfl rfl ?_
  rintro v30 w27 ⟨r26, eo, eA, fH, fI, rfl, Mt, ar, aw, H⟩
  have C0 := Stp.same hO Mt
  replace hO := C0.own
  refine GoR.inl (vs := [.pointer (some ⟨B21, 0, none⟩), .agg #[.int .i64 r26.Letters, .int .i64 r26.Start, .slice eo r26.Final.length eA, .slice fH r26.Next.length fI]]) (caps := []) rfl rfl body62 Try.func62 rfl Try.ntmps62 rfl rfl rfl ?_
  intro RhR32 hR32
  refine zq (zr ?_)
  have zz := obox (t := 25) (v := .agg #[.int .i64 r26.Letters, .int .i64 r26.Start, .slice eo r26.Final.length eA, .slice fH r26.Next.length fI]) (cs := #[.int .i64 r26.Letters, .int .i64 r26.Start, .slice eo r26.Final.length eA, .slice fH r26.Next.length fI]) hO rfl
  obtain ⟨w33, B34, zR, Mu, QX⟩ := zz
  refine zg (QX rfl) ?_
  replace hO := zR.own
  refine za rfl (zn (zq (zr (zo (J00 Try.underlying25 rfl ti22 rfl (by decide)) (zs (oblk (i := 2) 0 hO rfl rfl Try.underlying22 rfl rfl) ?_)))))
  refine zo (J0c Try.underlying22 rfl) ?_
  replace ar := ar.ch zR.ch
  replace H := H ar.bd
  refine za rfl (zn (zq (zq (zr (zm rfl ?_)))))
  refine zo (J01 rfl) (zo (J00 Try.underlying83 rfl ti3 rfl (by decide)) (zs (oblk (i := 2) 1 hO rfl rfl Try.underlying3 rfl rfl) (zm rfl ?_)))
  obtain ⟨h39, H⟩ := H
  refine zo (J0e rfl rfl (wrap_i64 h39)) ?_
  by_cases h40 : (32 : Int) < ((0 : Int) + (r26.Final.length : Int))
  ·replace H := ifp h40 H
   refine zo (fun w => opB (J17 rfl rfl w) (decide_eq_true h40)) (zn (zt rfl rfl (zq ?_)))
   refine Go1.cut [] trivial ?_
   intro σ _
   refine zr (za rfl (zn ?_))
   refine Go1.ret1V Try.func62 rfl (show _ = .int .i64 3 from rfl) ?_
   refine hR32 _ _ ?_
   refine za rfl (zn (zq (zr (zm rfl (zo (fun w => opB (J0j rfl rfl w) (ndF (by decide))) ?_)))))
   refine zn (zt rfl rfl (zq (zr (zo (J0w Try.underlying33 ti33 (pl := [(0, 1), (1, 1), (2, 1), (3, 1), (4, 1), (5, 1)]) (vs := []) (cs := #[.int .i64 0, .slice none 0 0, .slice none 0 0, .slice none 0 0, .slice none 0 0, .slice none 0 0]) (by kernel_rfl) rfl (by kernel_rfl)) (zm rfl ?_)))))
   have zz := J0b (us := [.int .i64 0, .slice none 0 0, .slice none 0 0, .slice none 0 0, .slice none 0 0, .slice none 0 0]) (o := 0) (cs' := #[.int .i64 0, .slice none 0 0, .slice none 0 0, .slice none 0 0, .slice none 0 0, .slice none 0 0]) 2 hO rfl rfl (Nat.le_of_ble_eq_true rfl) rfl
   obtain ⟨w41, qT, yj⟩ := zz
   refine zg (yj ti33 (by exact rfl) (by exact rfl) rfl) ?_
   replace hO := qT.own
   refine za rfl (zn ?_)
   refine Go1.retC2 Try.func19 rfl rfl (J0i (vs := [.int .i64 0, .slice none 0 0, .slice none 0 0, .slice none 0 0, .slice none 0 0, .slice none 0 0]) 2 hO rfl rfl Try.underlying33 rfl ti33) ?_
   replace hB := ((((((hB.trans dX.fr).trans gU.fr).trans gN.fr).trans jG.fr).trans C0.fr).trans zR.fr).trans qT.fr
   exact ⟨(⟨(0 : Int), ([] : List (List Int)), ([] : List Str), ([] : List Int), ([] : List Bool), ([] : List Bool)⟩ : Syntactic), (3 : Int), none, 0, none, 0, none, 0, none, 0, none, 0, rfl, hB.same, (ISl.null _ _ _), (ISl.null _ _ _), (ISl.null _ _ _), (ISl.null _ _ _), (ISl.null _ _ _), H⟩
  replace H := ifn h40 H
  refine zo (fun w => opB (J17 rfl rfl w) (decide_eq_false h40)) (zn (zf rfl rfl (zk (zq (zq ?_)))))
  refine zr (zm rfl (zo (J01 rfl) (zo (J00 Try.underlying83 rfl ti23 rfl (by decide)) (zs (oblk (i := 0) 1 hO rfl rfl Try.underlying23 rfl rfl) (zo (fun w => opB (J1V Try.underlying23 rfl rfl w) rfl) ?_)))))
  refine zn (zt rfl rfl (zr (zm rfl (zo (J00 Try.underlying25 rfl ti3 rfl (by decide)) (zs (oblk (i := 0) 0 hO rfl rfl Try.underlying3 rfl rfl) ?_)))))
  obtain ⟨h51, H⟩ := H
  obtain ⟨h52, H⟩ := H
  have zz := t2makeS (m := r26.Letters) (e' := 3) (Fl.int .i64) Try.underlying23 ti31 hO h51 h52 (by decide)
  obtain ⟨w44, p45, zS, aaG, QY, hz54⟩ := zz
  refine zg (QY rfl rfl) ?_
  replace hO := zS.own
  refine zo (J01 rfl) (zo (J00 Try.underlying83 rfl ti23 rfl (by decide)) ?_)
  have zz := J0h (v := .slice p45 r26.Letters.toNat r26.Letters.toNat) (i := 0) (cs' := #[.slice p45 r26.Letters.toNat r26.Letters.toNat, .slice none 0 0, .int .i64 0]) 2 hO rfl rfl rfl rfl
  obtain ⟨w55, yB, Q0⟩ := zz
  dsimp only [sS, sZ] at yB
  refine zg (Q0 Try.underlying23 rfl ti23 (by exact rfl) (by exact rfl)) ?_
  replace hO := yB.own
  refine zn (zq (zq ?_))
  refine Go1.cut [(0, .pointer (some ⟨B21, 0, none⟩)), (3, .pointer (some ⟨B34, 0, none⟩)), (5, .int .i64 (r26.Final.length : Int))] ⟨rfl, rfl, rfl, trivial⟩ ?_
  intro σ _
  refine zr (zm rfl (zo (J01 rfl) (zo (J00 Try.underlying83 rfl ti23 rfl (by decide)) (zs (oblk (i := 0) 2 hO rfl rfl Try.underlying23 rfl rfl) (zo (J0A Try.underlying23 rfl (t2neq 0 hO rfl)) ?_)))))
  refine zm rfl (zn (zb ?_))
  replace hO := hO.drop 4
  have Z3 := (zS.ch.trans yB.ch).trans (Owns.J06 _ _ 4)
  replace ar := ar.ch Z3
  have Z4 := ((zR.ch.trans zS.ch).trans yB.ch).trans (Owns.J06 _ _ 4)
  replace aw := aw.ch Z4
  have Z5 := (((C0.ch.trans zR.ch).trans zS.ch).trans yB.ch).trans (Owns.J06 _ _ 4)
  replace ak := ak.ch Z5
  replace ap := ap.ch Z5
  replace hB := ((((((((hB.trans dX.fr).trans gU.fr).trans gN.fr).trans jG.fr).trans C0.fr).trans zR.fr).trans zS.fr).trans yB.fr).trans (Owns.J09 _ _ 4)
  dsimp only [eS, eZ] at hB hO ak ap ar aw
  refine Go1.loopW (S := Nat × List (List Int)) (fun s σ w => match s with | (k1_59, d_60) => ∃ (AX : Hd), agrees σ [(0, .pointer (some ⟨B21, 0, none⟩)), (3, .pointer (some ⟨B34, 0, none⟩)), (5, .int .i64 (r26.Final.length : Int)), (33, .int .i64 ((List.replicate r26.Letters.toNat ([] : List Int)).length : Int)), (34, .int .i64 (k1_59 : Int))] ∧ (fun Z0 => Owns w0.heap.size w Z0 A ∧ ISl (Rp.bool) (bl Z0 ++ A) w eo eA r26.Final ∧ ISl (Rp.sl (Rp.int .i64)) (bl Z0 ++ A) w fH fI r26.Next ∧ Fr (bl []) w0 (bl Z0) w) [t2 (Fl.int .i64) 31 3 p45 r26.Letters.toNat r26.Letters.toNat AX d_60, .blk B34 (.cells #[.int .i64 r26.Letters, .int .i64 r26.Start, .slice eo r26.Final.length eA, .slice fH r26.Next.length fI] 25 (0, 0)), .blk B21 (.cells #[.slice p45 r26.Letters.toNat r26.Letters.toNat, .slice none 0 0, .int .i64 0] 83 (0, 0)), .blk B8 (.cells #[.int .i64 0, .slice none 0 0, .slice none 0 0, .slice none 0 0, .slice none 0 0, .slice none 0 0] 33 (0, 0))]) H ⟨(fun _ => (none, 0)), ⟨rfl, rfl, rfl, rfl, rfl, trivial⟩, hO, ar, aw, hB⟩ ?_
  intro X1
  refine prE fun k1_59 => fun d_60 => ?_
  intro H hX1 σ w58
  refine exE fun AX => andE fun hag => andE fun hO => andE fun ar => andE fun aw => fun hB => ?_
  dsimp only at H
  refine Go1.keep [(0, .pointer (some ⟨B21, 0, none⟩)), (3, .pointer (some ⟨B34, 0, none⟩)), (5, .int .i64 (r26.Final.length : Int)), (33, .int .i64 ((List.replicate r26.Letters.toNat ([] : List Int)).length : Int)), (34, .int .i64 (k1_59 : Int))] hag ?_
  refine zq (zr ?_)
  by_cases h62 : (k1_59 : Int) < ((List.replicate r26.Letters.toNat ([] : List Int)).length : Int)
  ·replace H := ifp h62 H
   refine zo (fun w => opB (J08 rfl rfl w) (decide_eq_true h62)) (zn (zq (zt rfl rfl (zk (zq ?_)))))
   refine zb (zq (zr (zm rfl (za rfl (zn ?_)))))
   refine zq (zr (zm rfl (zm rfl (zn (zb ?_)))))
   refine Go1.loopW (S := Nat × List (List Int)) (fun s σ w => match s with | (k2_64, d_65) => ∃ (ip : Hd), agrees σ [(0, .pointer (some ⟨B21, 0, none⟩)), (3, .pointer (some ⟨B34, 0, none⟩)), (5, .int .i64 (r26.Final.length : Int)), (6, .int .i64 (k1_59 : Int)), (33, .int .i64 ((List.replicate r26.Letters.toNat ([] : List Int)).length : Int)), (34, .int .i64 (k1_59 : Int)), (37, .int .i64 (r26.Final.length : Int)), (38, .int .i64 (k2_64 : Int))] ∧ (fun Z0 => Owns w0.heap.size w Z0 A ∧ ISl (Rp.bool) (bl Z0 ++ A) w eo eA r26.Final ∧ ISl (Rp.sl (Rp.int .i64)) (bl Z0 ++ A) w fH fI r26.Next ∧ Fr (bl []) w0 (bl Z0) w) [t2 (Fl.int .i64) 31 3 p45 r26.Letters.toNat r26.Letters.toNat ip d_65, .blk B34 (.cells #[.int .i64 r26.Letters, .int .i64 r26.Start, .slice eo r26.Final.length eA, .slice fH r26.Next.length fI] 25 (0, 0)), .blk B21 (.cells #[.slice p45 r26.Letters.toNat r26.Letters.toNat, .slice none 0 0, .int .i64 0] 83 (0, 0)), .blk B8 (.cells #[.int .i64 0, .slice none 0 0, .slice none 0 0, .slice none 0 0, .slice none 0 0, .slice none 0 0] 33 (0, 0))]) H ⟨AX, ⟨rfl, rfl, rfl, rfl, rfl, rfl, rfl, rfl, trivial⟩, hO, ar, aw, hB⟩ ?_
   intro X2
   refine prE fun k2_64 => fun d_65 => ?_
   intro H hX2 σ w63
   refine exE fun ip => andE fun hag => andE fun hO => andE fun ar => andE fun aw => fun hB => ?_
   dsimp only at H
   refine Go1.keep [(0, .pointer (some ⟨B21, 0, none⟩)), (3, .pointer (some ⟨B34, 0, none⟩)), (5, .int .i64 (r26.Final.length : Int)), (6, .int .i64 (k1_59 : Int)), (33, .int .i64 ((List.replicate r26.Letters.toNat ([] : List Int)).length : Int)), (34, .int .i64 (k1_59 : Int)), (37, .int .i64 (r26.Final.length : Int)), (38, .int .i64 (k2_64 : Int))] hag ?_
   refine zq (zr ?_)
   by_cases h67 : (k2_64 : Int) < (r26.Final.length : Int)
   ·replace H := ifp h67 H
    refine zo (fun w => opB (J08 rfl rfl w) (decide_eq_true h67)) (zn (zq (zt rfl rfl (zk (zq ?_)))))
    refine zb (zq (zr (zm rfl (za rfl (zn ?_)))))
    refine Go1.drawT (ok := fun _ => True) Same.tr [26, 28] 29 (.qp 0 (.qp 1 (.qp 2 (.qp 4 (.qp 5 (.qp 6 (.qp 7 (.qs 8 (.qp 9 (.qp 10 (.qs 11 (.qp 12 (.qp 13 (.qp 14 (.qs 15 (.qp 16 (.qs 17 (.qp 18 (.qp 19 (.qs 20 (.qp 21 (.qp 22 (.qs 23 (.qp 24 (.alt 3 (.alt 25 (.alt 26 (.qp 27 (.alt 28 .nil .fin)) .fin) .fin) (.alt 25 (.alt 3 (.alt 26 (.qp 27 (.alt 28 .nil .fin)) .fin) (.alt 26 (.alt 3 (.qp 27 (.alt 28 .nil .fin)) .fin) .fin)) .fin)))))))))))))))))))))))))) mixed (by kernel_rfl) ?_
    intro w68 Un
    have C1 := Stp.same hO Un
    replace hO := C1.own
    refine GoT.pure rfl (J03 rfl) rfl rfl ?_
    refine GoT.pure rfl (J01 rfl) rfl rfl ?_
    refine GoT.pure rfl (J00 Try.underlying83 rfl ti23 rfl (by decide)) rfl rfl ?_
    refine GoT.pure rfl (J03 rfl) rfl rfl ?_
    refine GoT.pure rfl (J03 rfl) rfl rfl ?_
    refine GoT.pure rfl (J01 rfl) rfl rfl ?_
    refine GoT.pure rfl (J00 Try.underlying83 rfl ti23 rfl (by decide)) rfl rfl ?_
    refine GoT.stable rfl (oblk (i := 0) 2 hO rfl rfl Try.underlying23 rfl rfl) rfl rfl ?_
    refine GoT.pure rfl (J03 rfl) rfl rfl ?_
    obtain ⟨h71, H⟩ := H
    obtain ⟨h72, H⟩ := H
    refine GoT.pure rfl (J02 Try.underlying23 ti31 rfl rfl h71 (ltn (t2neq 0 hO rfl) h72) (t2some 0 hO rfl h71 h72)) rfl rfl ?_
    refine GoT.stable rfl (t2head 0 hO rfl h71 h72 Try.underlying31 rfl rfl) rfl rfl ?_
    refine GoT.pure rfl (J03 rfl) rfl rfl ?_
    refine GoT.pure rfl (J01 rfl) rfl rfl ?_
    refine GoT.pure rfl (J00 Try.underlying83 rfl ti3 rfl (by decide)) rfl rfl ?_
    refine GoT.stable rfl (oblk (i := 2) 2 hO rfl rfl Try.underlying3 rfl rfl) rfl rfl ?_
    refine GoT.pure rfl (J00 Try.underlying25 rfl ti23 rfl (by decide)) rfl rfl ?_
    refine GoT.stable rfl (oblk (i := 3) 1 hO rfl rfl Try.underlying23 rfl rfl) rfl rfl ?_
    refine GoT.pure rfl (J03 rfl) rfl rfl ?_
    obtain ⟨h73, H⟩ := H
    obtain ⟨h74, H⟩ := H
    replace aw := aw.ch C1.ch
    refine GoT.pure rfl (J02 Try.underlying23 ti31 rfl rfl h73 h74 (aw.some_ h73 h74)) rfl rfl ?_
    have zz := ldSl aw h73 h74
    obtain ⟨p75, c76, gr, Uo⟩ := zz
    refine GoT.stable rfl (Uo Try.underlying31 rfl rfl) rfl rfl ?_
    refine GoT.pure rfl (J03 rfl) rfl rfl ?_
    obtain ⟨h79, H⟩ := H
    obtain ⟨h80, H⟩ := H
    refine GoT.pure rfl (J02 Try.underlying31 ti3 rfl rfl h79 h80 (gr.some_ h79 h80)) rfl rfl ?_
    refine GoT.stable rfl (ldInt gr h79 h80 Try.underlying3 rfl rfl) rfl rfl ?_
    obtain ⟨h81, H⟩ := H
    refine GoT.pure rfl (J0e rfl rfl (wrap_i64 h81)) rfl rfl ?_
    refine GoT.both ?_ ?_
    ·skip
     skip
     refine GoT.step rfl ((oblk (i := 0) 2 hO rfl rfl Try.underlying23 rfl rfl) _ (Same.refl _)) (Same.refl _) rfl rfl ?_
     skip
     have zz := J0n (r := Rp.int .i64) (n := 1) (parts := [(0, .int .i64 ((0 : Int) + (ix (ix r26.Next (k2_64 : Int)) (k1_59 : Int))))]) (vs := [.int .i64 ((0 : Int) + (ix (ix r26.Next (k2_64 : Int)) (k1_59 : Int)))]) (xs := [((0 : Int) + (ix (ix r26.Next (k2_64 : Int)) (k1_59 : Int)))]) rfl Try.underlying31 ti3 hO (by decide) (by kernel_rfl) (Els.cons rfl rfl (Els.nil _ _ _) (by simp [mx])) rfl
     obtain ⟨w82, p83, tJ, Ap, Up, Ff⟩ := zz
     refine GoT.step rfl (Ff rfl) Up rfl rfl ?_
     replace hO := tJ.own
     skip
     have ka := Stp.front 1 hO rfl
     dsimp only [eS, eZ] at ka
     replace hO := ka.own
     have zz := t2take (hf := (Fl.int .i64)) hO h71 h72
     obtain ⟨Uq, zT, Ur⟩ := zz
     replace hO := zT.own
     have HH := Ur (bl [.row 3 1 (ip (k1_59 : Int).toNat).1 ((ix d_65 (k1_59 : Int)).length) ((ip (k1_59 : Int).toNat).2) Uq, t2h (Fl.int .i64) 31 3 p45 r26.Letters.toNat r26.Letters.toNat ip d_65 (k1_59 : Int).toNat, .row 3 1 p83 1 1 [.int .i64 ((0 : Int) + (ix (ix r26.Next (k2_64 : Int)) (k1_59 : Int)))], .blk B34 (.cells #[.int .i64 r26.Letters, .int .i64 r26.Start, .slice eo r26.Final.length eA, .slice fH r26.Next.length fI] 25 (0, 0)), .blk B21 (.cells #[.slice p45 r26.Letters.toNat r26.Letters.toNat, .slice none 0 0, .int .i64 0] 83 (0, 0)), .blk B8 (.cells #[.int .i64 0, .slice none 0 0, .slice none 0 0, .slice none 0 0, .slice none 0 0, .slice none 0 0] 33 (0, 0))] ++ A)
     replace Ap := (Ap.ch ka.ch).ch zT.ch
     have zz := freeze 2 hO rfl Ap
     obtain ⟨hO1, Ej, xP, Us⟩ := zz
     dsimp only [eS, eZ] at hO1 Ej xP
     replace hB := ((((hB.trans C1.fr).trans tJ.fr).trans ka.fr).trans zT.fr).trans (Owns.J09 _ _ 2)
     dsimp only [eS, eZ] at hB
     replace hO := hO1; clear hO1
     obtain ⟨h98, H⟩ := H
     replace HH := HH.ch Ej
     have zz := oapp Try.underlying31 ti3 rfl 0 hO rfl HH xP Us h98 (by decide)
     obtain ⟨w99, Ut, Uu, V0, j5, zU, Ei⟩ := zz
     dsimp only [sS, sZ] at j5 zU
     refine GoT.stepX rfl (Ei (by exact rfl) (by exact rfl)) rfl rfl rfl ?_
     replace hO := j5.own
     obtain ⟨nX, H⟩ := H
     obtain ⟨qO, H⟩ := H
     refine GoT.pure rfl (J02 Try.underlying23 ti31 rfl rfl nX (ltn (t2neqH 1 hO rfl) qO) (t2someH 1 hO rfl nX qO)) rfl rfl ?_
     skip
     have wg := Stp.front 1 hO rfl
     dsimp only [eS, eZ] at wg
     replace hO := wg.own
     have kP := Stp.front 1 hO rfl
     dsimp only [eS, eZ] at kP
     replace hO := kP.own
     replace zU := (zU.ch wg.ch).ch kP.ch
     have zz := t2fix (hf := (Fl.int .i64)) hO zU nX qO rfl
     obtain ⟨aaH, mh, Mv⟩ := zz
     refine GoT.stepX rfl (Mv Try.underlying31 rfl ti31 (by exact rfl) (by exact rfl)) rfl rfl rfl ?_
     replace hO := mh.own
     refine GoT.nil ?_
     refine Go1.inBlock ?_
     refine Go1.cut [(0, .pointer (some ⟨B21, 0, none⟩)), (3, .pointer (some ⟨B34, 0, none⟩)), (5, .int .i64 (r26.Final.length : Int)), (6, .int .i64 (k1_59 : Int)), (33, .int .i64 ((List.replicate r26.Letters.toNat ([] : List Int)).length : Int)), (34, .int .i64 (k1_59 : Int)), (37, .int .i64 (r26.Final.length : Int)), (38, .int .i64 (k2_64 : Int))] ⟨rfl, rfl, rfl, rfl, rfl, rfl, rfl, rfl, trivial⟩ ?_
     intro σ _
     refine zr ?_
     have Z6 := (((((((C1.ch.trans tJ.ch).trans ka.ch).trans zT.ch).trans Ej).trans j5.ch).trans wg.ch).trans kP.ch).trans mh.ch
     replace ar := ar.ch Z6
     refine zo (J0e rfl rfl (wrap_i64 (natbd h67 ar.bd))) (zm rfl (zn ?_))
     replace hB := (((hB.trans j5.fr).trans wg.fr).trans kP.fr).trans mh.fr
     have Z7 := ((((((tJ.ch.trans ka.ch).trans zT.ch).trans Ej).trans j5.ch).trans wg.ch).trans kP.ch).trans mh.ch
     replace aw := aw.ch Z7
     exact hX2 _ H _ _ ⟨hup ip (k1_59 : Int).toNat (Ut, Uu), ⟨rfl, rfl, rfl, rfl, rfl, rfl, rfl, rfl, trivial⟩, hO, ar, aw, hB⟩
    skip
    have zz := J0n (r := Rp.int .i64) (n := 1) (parts := [(0, .int .i64 ((0 : Int) + (ix (ix r26.Next (k2_64 : Int)) (k1_59 : Int))))]) (vs := [.int .i64 ((0 : Int) + (ix (ix r26.Next (k2_64 : Int)) (k1_59 : Int)))]) (xs := [((0 : Int) + (ix (ix r26.Next (k2_64 : Int)) (k1_59 : Int)))]) rfl Try.underlying31 ti3 hO (by decide) (by kernel_rfl) (Els.cons rfl rfl (Els.nil _ _ _) (by simp [mx])) rfl
    obtain ⟨aaI, Mw, mV, vF, Q1, Ek⟩ := zz
    refine GoT.step rfl (Ek rfl) Q1 rfl rfl ?_
    replace hO := mV.own
    refine GoT.both ?_ ?_
    ·skip
     skip
     refine GoT.step rfl ((oblk (i := 0) 3 hO rfl rfl Try.underlying23 rfl rfl) _ (Same.refl _)) (Same.refl _) rfl rfl ?_
     skip
     have fN := Stp.front 1 hO rfl
     dsimp only [eS, eZ] at fN
     replace hO := fN.own
     have zz := t2take (hf := (Fl.int .i64)) hO h71 h72
     obtain ⟨Q2, xW, jr⟩ := zz
     replace hO := xW.own
     have ym := jr (bl [.row 3 1 (ip (k1_59 : Int).toNat).1 ((ix d_65 (k1_59 : Int)).length) ((ip (k1_59 : Int).toNat).2) Q2, t2h (Fl.int .i64) 31 3 p45 r26.Letters.toNat r26.Letters.toNat ip d_65 (k1_59 : Int).toNat, .row 3 1 Mw 1 1 [.int .i64 ((0 : Int) + (ix (ix r26.Next (k2_64 : Int)) (k1_59 : Int)))], .blk B34 (.cells #[.int .i64 r26.Letters, .int .i64 r26.Start, .slice eo r26.Final.length eA, .slice fH r26.Next.length fI] 25 (0, 0)), .blk B21 (.cells #[.slice p45 r26.Letters.toNat r26.Letters.toNat, .slice none 0 0, .int .i64 0] 83 (0, 0)), .blk B8 (.cells #[.int .i64 0, .slice none 0 0, .slice none 0 0, .slice none 0 0, .slice none 0 0, .slice none 0 0] 33 (0, 0))] ++ A)
     replace vF := (vF.ch fN.ch).ch xW.ch
     have zz := freeze 2 hO rfl vF
     obtain ⟨hO1, BD, vG, Q3⟩ := zz
     dsimp only [eS, eZ] at hO1 BD vG
     replace hB := ((((hB.trans C1.fr).trans mV.fr).trans fN.fr).trans xW.fr).trans (Owns.J09 _ _ 2)
     dsimp only [eS, eZ] at hB
     replace hO := hO1; clear hO1
     obtain ⟨Uv, H⟩ := H
     replace ym := ym.ch BD
     have zz := oapp Try.underlying31 ti3 rfl 0 hO rfl ym vG Q3 Uv (by decide)
     obtain ⟨Ta, ju, jC, V1, wV, zV, Mx⟩ := zz
     dsimp only [sS, sZ] at wV zV
     refine GoT.stepX rfl (Mx (by exact rfl) (by exact rfl)) rfl rfl rfl ?_
     replace hO := wV.own
     obtain ⟨yR, H⟩ := H
     obtain ⟨wq, H⟩ := H
     refine GoT.pure rfl (J02 Try.underlying23 ti31 rfl rfl yR (ltn (t2neqH 1 hO rfl) wq) (t2someH 1 hO rfl yR wq)) rfl rfl ?_
     skip
     have jA := Stp.front 1 hO rfl
     dsimp only [eS, eZ] at jA
     replace hO := jA.own
     have wh := Stp.front 1 hO rfl
     dsimp only [eS, eZ] at wh
     replace hO := wh.own
     replace zV := (zV.ch jA.ch).ch wh.ch
     have zz := t2fix (hf := (Fl.int .i64)) hO zV yR wq rfl
     obtain ⟨Ua, xX, My⟩ := zz
     refine GoT.stepX rfl (My Try.underlying31 rfl ti31 (by exact rfl) (by exact rfl)) rfl rfl rfl ?_
     replace hO := xX.own
     refine GoT.nil ?_
     refine Go1.inBlock ?_
     refine zr ?_
     have Z8 := (((((((C1.ch.trans mV.ch).trans fN.ch).trans xW.ch).trans BD).trans wV.ch).trans jA.ch).trans wh.ch).trans xX.ch
     replace ar := ar.ch Z8
     refine zo (J0e rfl rfl (wrap_i64 (natbd h67 ar.bd))) (zm rfl (zn ?_))
     replace hB := (((hB.trans wV.fr).trans jA.fr).trans wh.fr).trans xX.fr
     have Z9 := ((((((mV.ch.trans fN.ch).trans xW.ch).trans BD).trans wV.ch).trans jA.ch).trans wh.ch).trans xX.ch
     replace aw := aw.ch Z9
     exact hX2 _ H _ _ ⟨hup ip (k1_59 : Int).toNat (ju, jC), ⟨rfl, rfl, rfl, rfl, rfl, rfl, rfl, rfl, trivial⟩, hO, ar, aw, hB⟩
    skip
    have jx := Stp.front 1 hO rfl
    dsimp only [eS, eZ] at jx
    replace hO := jx.own
    have zz := t2take (hf := (Fl.int .i64)) hO h71 h72
    obtain ⟨EV, my, dY⟩ := zz
    replace hO := my.own
    have FV := dY (bl [.row 3 1 (ip (k1_59 : Int).toNat).1 ((ix d_65 (k1_59 : Int)).length) ((ip (k1_59 : Int).toNat).2) EV, t2h (Fl.int .i64) 31 3 p45 r26.Letters.toNat r26.Letters.toNat ip d_65 (k1_59 : Int).toNat, .row 3 1 Mw 1 1 [.int .i64 ((0 : Int) + (ix (ix r26.Next (k2_64 : Int)) (k1_59 : Int)))], .blk B34 (.cells #[.int .i64 r26.Letters, .int .i64 r26.Start, .slice eo r26.Final.length eA, .slice fH r26.Next.length fI] 25 (0, 0)), .blk B21 (.cells #[.slice p45 r26.Letters.toNat r26.Letters.toNat, .slice none 0 0, .int .i64 0] 83 (0, 0)), .blk B8 (.cells #[.int .i64 0, .slice none 0 0, .slice none 0 0, .slice none 0 0, .slice none 0 0, .slice none 0 0] 33 (0, 0))] ++ A)
    replace vF := (vF.ch jx.ch).ch my.ch
    have zz := freeze 2 hO rfl vF
    obtain ⟨hO1, BE, vH, Q4⟩ := zz
    dsimp only [eS, eZ] at hO1 BE vH
    replace hB := ((((hB.trans C1.fr).trans mV.fr).trans jx.fr).trans my.fr).trans (Owns.J09 _ _ 2)
    dsimp only [eS, eZ] at hB
    replace hO := hO1; clear hO1
    obtain ⟨yr, H⟩ := H
    replace FV := FV.ch BE
    have zz := oapp Try.underlying31 ti3 rfl 0 hO rfl FV vH Q4 yr (by decide)
    obtain ⟨aaJ, Fh, Fi, V2, wW, zW, Mz⟩ := zz
    dsimp only [sS, sZ] at wW zW
    refine GoT.stepX rfl (Mz (by exact rfl) (by exact rfl)) rfl rfl rfl ?_
    replace hO := wW.own
    skip
    refine GoT.step rfl ((oblk (i := 0) 3 hO rfl rfl Try.underlying23 rfl rfl) _ (Same.refl _)) (Same.refl _) rfl rfl ?_
    obtain ⟨HI, H⟩ := H
    obtain ⟨Df, H⟩ := H
    refine GoT.pure rfl (J02 Try.underlying23 ti31 rfl rfl HI (ltn (t2neqH 1 hO rfl) Df) (t2someH 1 hO rfl HI Df)) rfl rfl ?_
    skip
    have gz := Stp.front 1 hO rfl
    dsimp only [eS, eZ] at gz
    replace hO := gz.own
    have wi := Stp.front 1 hO rfl
    dsimp only [eS, eZ] at wi
    replace hO := wi.own
    replace zW := (zW.ch gz.ch).ch wi.ch
    have zz := t2fix (hf := (Fl.int .i64)) hO zW HI Df rfl
    obtain ⟨Tt, xY, DD⟩ := zz
    refine GoT.stepX rfl (DD Try.underlying31 rfl ti31 (by exact rfl) (by exact rfl)) rfl rfl rfl ?_
    replace hO := xY.own
    refine GoT.nil ?_
    refine Go1.inBlock ?_
    refine zr ?_
    have Z10 := (((((((C1.ch.trans mV.ch).trans jx.ch).trans my.ch).trans BE).trans wW.ch).trans gz.ch).trans wi.ch).trans xY.ch
    replace ar := ar.ch Z10
    refine zo (J0e rfl rfl (wrap_i64 (natbd h67 ar.bd))) (zm rfl (zn ?_))
    replace hB := (((hB.trans wW.fr).trans gz.fr).trans wi.fr).trans xY.fr
    have Z11 := ((((((mV.ch.trans jx.ch).trans my.ch).trans BE).trans wW.ch).trans gz.ch).trans wi.ch).trans xY.ch
    replace aw := aw.ch Z11
    exact hX2 _ H _ _ ⟨hup ip (k1_59 : Int).toNat (Fh, Fi), ⟨rfl, rfl, rfl, rfl, rfl, rfl, rfl, rfl, trivial⟩, hO, ar, aw, hB⟩
   replace H := ifn h67 H
   refine zo (fun w => opB (J08 rfl rfl w) (decide_eq_false h67)) (zn (zq (zf rfl rfl ?_)))
   refine Go1.exit rfl ?_
   refine Go1.inBlock ?_
   refine zr ?_
   obtain ⟨D3, H⟩ := H
   refine zo (J0e rfl rfl (wrap_i64 D3)) (zm rfl (zn ?_))
   exact hX1 _ H _ _ ⟨ip, ⟨rfl, rfl, rfl, rfl, rfl, trivial⟩, hO, ar, aw, hB⟩
  replace H := ifn h62 H
  refine zo (fun w => opB (J08 rfl rfl w) (decide_eq_false h62)) (zn (zq (zf rfl rfl ?_)))
  refine Go1.exit rfl ?_
  refine zq ?_
  refine Go1.drawS 4 [(0, .pure), (1, .pure), (2, .pure), (3, .pure), (4, .stable), (5, .pure), (6, .pure), (7, .pure), (8, .stable), (9, .pure), (10, .stable), (11, .pure), (12, .pure), (13, .stable), (14, .pure), (15, .pure), (16, .pure), (17, .stable), (18, .pure), (19, .loud), (20, .last), (21, .pure), (22, .pure), (23, .last)] mixed (by kernel_rfl) ?_
  intro Td Q5
  have BG := Stp.same hO Q5
  replace hO := BG.own
  refine GoQ.pure rfl (J03 rfl) rfl rfl ?_
  refine GoQ.pure rfl (J03 rfl) rfl rfl ?_
  refine GoQ.pure rfl (J01 rfl) rfl rfl ?_
  refine GoQ.pure rfl (J00 Try.underlying83 rfl ti81 rfl (by decide)) rfl rfl ?_
  refine GoQ.stable rfl (oblk (i := 1) 2 hO rfl rfl Try.underlying81 rfl rfl) rfl rfl ?_
  refine GoQ.pure rfl (J03 rfl) rfl rfl ?_
  refine GoQ.pure rfl (J01 rfl) rfl rfl ?_
  refine GoQ.pure rfl (J00 Try.underlying83 rfl ti3 rfl (by decide)) rfl rfl ?_
  refine GoQ.stable rfl (oblk (i := 2) 2 hO rfl rfl Try.underlying3 rfl rfl) rfl rfl ?_
  refine GoQ.pure rfl (J00 Try.underlying25 rfl ti3 rfl (by decide)) rfl rfl ?_
  refine GoQ.stable rfl (oblk (i := 1) 1 hO rfl rfl Try.underlying3 rfl rfl) rfl rfl ?_
  obtain ⟨xN, H⟩ := H
  refine GoQ.pure rfl (J0e rfl rfl (wrap_i64 xN)) rfl rfl ?_
  refine GoQ.pure rfl (J00 Try.underlying25 rfl ti22 rfl (by decide)) rfl rfl ?_
  refine GoQ.stable rfl (oblk (i := 2) 1 hO rfl rfl Try.underlying22 rfl rfl) rfl rfl ?_
  refine GoQ.pure rfl (J03 rfl) rfl rfl ?_
  refine GoQ.pure rfl (J01 rfl) rfl rfl ?_
  refine GoQ.pure rfl (J00 Try.underlying83 rfl ti3 rfl (by decide)) rfl rfl ?_
  refine GoQ.stable rfl (oblk (i := 2) 2 hO rfl rfl Try.underlying3 rfl rfl) rfl rfl ?_
  refine GoQ.pure rfl (J0w Try.underlying120 ti120 (pl := [(0, 1), (1, 1), (2, 1)]) (vs := [(0, .int .i64 ((0 : Int) + r26.Start)), (1, .slice eo r26.Final.length eA), (2, .int .i64 0)]) (cs := #[.int .i64 ((0 : Int) + r26.Start), .slice eo r26.Final.length eA, .int .i64 0]) (by kernel_rfl) rfl (by kernel_rfl)) rfl rfl ?_
  replace ar := ar.ch BG.ch
  have zz := obuildN (r := rppart) (n := 1) (parts := [(0, .agg #[.int .i64 ((0 : Int) + r26.Start), .slice eo r26.Final.length eA, .int .i64 0])]) (vs := [.int .i64 ((0 : Int) + r26.Start), .slice eo r26.Final.length eA, .int .i64 0]) (xs := [(⟨((0 : Int) + r26.Start), r26.Final, (0 : Int)⟩ : part)]) Try.underlying81 ti120 hO (by decide) (by decide) (by kernel_rfl) (Els.consR (us := [.int .i64 ((0 : Int) + r26.Start), .slice eo r26.Final.length eA, .int .i64 0]) rfl ⟨rfl, ⟨eo, eA, rfl, ar⟩, rfl⟩ (Els.nil _ _ _) (by simp [mx])) rfl
  obtain ⟨LE, Uw, fS, uT, Jl, DF⟩ := zz
  refine GoQ.loud rfl (DF rfl) Jl rfl rfl ?_
  replace hO := fS.own
  have zz := freeze 0 hO rfl uT
  obtain ⟨hO1, FW, d6, Q6⟩ := zz
  dsimp only [eS, eZ] at hO1 FW d6
  replace hB := ((hB.trans BG.fr).trans fS.fr).trans (Owns.J09 _ _ 0)
  dsimp only [eS, eZ] at hB
  replace hO := hO1; clear hO1
  have ng := Stp.nil (e := 120) (r := 3) hO
  replace hO := ng.own
  have Q7 := Els.nil (rppart) (bl (.row 120 3 none 0 0 [] :: [t2 (Fl.int .i64) 31 3 p45 r26.Letters.toNat r26.Letters.toNat AX d_60, .blk B34 (.cells #[.int .i64 r26.Letters, .int .i64 r26.Start, .slice eo r26.Final.length eA, .slice fH r26.Next.length fI] 25 (0, 0)), .blk B21 (.cells #[.slice p45 r26.Letters.toNat r26.Letters.toNat, .slice none 0 0, .int .i64 0] 83 (0, 0)), .blk B8 (.cells #[.int .i64 0, .slice none 0 0, .slice none 0 0, .slice none 0 0, .slice none 0 0, .slice none 0 0] 33 (0, 0))]) ++ A) LE
  obtain ⟨El, H⟩ := H
  replace d6 := d6.ch ng.ch
  have zz := oapp Try.underlying81 ti120 rfl 0 hO rfl Q7 d6 Q6 El (by decide)
  obtain ⟨aaK, cj, ck, cW, x4, aD, MA⟩ := zz
  dsimp only [sS, sZ] at x4 aD
  refine GoQ.last rfl (MA (by exact rfl) (by exact rfl)) rfl rfl ?_
  replace hO := x4.own
  refine GoQ.pure rfl (J01 rfl) rfl rfl ?_
  refine GoQ.pure rfl (J00 Try.underlying83 rfl ti81 rfl (by decide)) rfl rfl ?_
  have zz := J0h (v := .slice cj (0 + 1) ck) (i := 1) (cs' := #[.slice p45 r26.Letters.toNat r26.Letters.toNat, .slice cj (0 + 1) ck, .int .i64 0]) 3 hO rfl rfl rfl rfl
  obtain ⟨SD, wX, MB⟩ := zz
  dsimp only [sS, sZ] at wX
  refine GoQ.last rfl (MB Try.underlying81 rfl ti81 (by exact rfl) (by exact rfl)) rfl rfl ?_
  replace hO := wX.own
  refine GoQ.nil ?_
  refine zq ?_
  refine Go1.cut [(0, .pointer (some ⟨B21, 0, none⟩)), (5, .int .i64 (r26.Final.length : Int))] ⟨rfl, rfl, trivial⟩ ?_
  intro σ _
  refine zr (zm rfl (zo (J01 rfl) (zo (J00 Try.underlying83 rfl ti3 rfl (by decide)) (zs (oblk (i := 2) 3 hO rfl rfl Try.underlying3 rfl rfl) (zm rfl ?_)))))
  obtain ⟨DJ, H⟩ := H
  refine zo (J0e rfl rfl (wrap_i64 DJ)) (zo (J01 rfl) (zo (J00 Try.underlying83 rfl ti3 rfl (by decide)) ?_))
  have zz := J0h (v := .int .i64 ((0 : Int) + (r26.Final.length : Int))) (i := 2) (cs' := #[.slice p45 r26.Letters.toNat r26.Letters.toNat, .slice cj (0 + 1) ck, .int .i64 ((0 : Int) + (r26.Final.length : Int))]) 3 hO rfl rfl rfl rfl
  obtain ⟨Tu, wY, Di⟩ := zz
  dsimp only [sS, sZ] at wY
  refine zg (Di Try.underlying3 rfl ti3 (by exact rfl) (by exact rfl)) ?_
  replace hO := wY.own
  refine zn (zq (zr (za rfl (zn ?_))))
  refine Go1.ret1V Try.func62 rfl (show _ = .int .i64 0 from rfl) ?_
  refine hR32 _ _ ?_
  refine za rfl (zn (zq (zr (zm rfl (zo (fun w => opB (J0j rfl rfl w) (ndT (by decide))) ?_)))))
  refine zn (zf rfl rfl (zk (zq (zr ?_))))
  refine GoR.inl (vs := [.pointer (some ⟨B21, 0, none⟩)]) (caps := []) rfl rfl body63 Try.func63 rfl Try.ntmps63 rfl rfl rfl ?_
  intro RhR205 hR205
  refine zq (zr ?_)
  have zz := oalloc (t := 33) (cs := #[.int .i64 0, .slice none 0 0, .slice none 0 0, .slice none 0 0, .slice none 0 0, .slice none 0 0]) ti33 hO rfl
  obtain ⟨LH, B207, i5, V3, D4⟩ := zz
  refine GoR.op D4 rfl rfl ?_
  replace hO := i5.own
  refine za rfl (za rfl (zn (zq (zr (zm rfl ?_)))))
  refine zo (J01 rfl) (zo (J00 Try.underlying83 rfl ti23 rfl (by decide)) (zs (oblk (i := 0) 4 hO rfl rfl Try.underlying23 rfl rfl) ?_))
  have zz := t2freezeA 2 hO rfl
  obtain ⟨hO1, BH, a9, JA⟩ := zz
  dsimp only [eS, eZ] at hO1 BH a9
  replace hB := (((((hB.trans ng.fr).trans x4.fr).trans wX.fr).trans wY.fr).trans i5.fr).trans (Owns.J09 _ _ 2)
  dsimp only [eS, eZ] at hB
  replace hO := hO1; clear hO1
  refine GoR.call (J0a body101 (show ([.slice p45 r26.Letters.toNat r26.Letters.toNat, .bool true] : List Value) = [.slice p45 d_60.length r26.Letters.toNat, .bool true] from by rw [← JA]) (J35 hO.lt a9 H)) rfl rfl ?_
  rintro aaL aaM ⟨r215, r216, aR, aS, aF, aG, aB, aC, aT, aU, az, aA, aK, aL, rfl, Q8, aj, ag, aa, ai, af, ah, H⟩
  have w4 := Stp.same hO Q8
  replace hO := w4.own
  refine zm rfl (zo (J07 rfl rfl) (zo (J07 rfl rfl) ?_))
  have zz := oalloc (t := 123) (cs := #[.int .i64 0, .bool false, .slice none 0 0, .slice none 0 0, .slice none 0 0, .slice none 0 0, .slice none 0 0, .slice none 0 0, .int .i64 0]) ti123 hO rfl
  obtain ⟨SF, B223, qr, JB, MC⟩ := zz
  refine GoR.op MC rfl rfl ?_
  replace hO := qr.own
  have zz := J0b (us := [.int .i64 r215.Points, .bool r215.Monoid, .slice aR r215.Gens.length aS, .slice aF r215.Elems.length aG, .slice aB r215.Prefix.length aC, .slice aT r215.Last.length aU, .slice az r215.Right.length aA, .slice aK r215.Rules.length aL, .int .i64 r215.Done]) (o := 0) (cs' := #[.int .i64 r215.Points, .bool r215.Monoid, .slice aR r215.Gens.length aS, .slice aF r215.Elems.length aG, .slice aB r215.Prefix.length aC, .slice aT r215.Last.length aU, .slice az r215.Right.length aA, .slice aK r215.Rules.length aL, .int .i64 r215.Done]) 0 hO rfl rfl (Nat.le_of_ble_eq_true rfl) rfl
  obtain ⟨aaN, oB, MD⟩ := zz
  dsimp only [sS, sZ] at oB
  refine zg (MD ti123 (by exact rfl) (by exact rfl) rfl) ?_
  replace hO := oB.own
  refine za rfl (zn (zq (zq ?_)))
  refine Go1.cut [(0, .pointer (some ⟨B21, 0, none⟩)), (2, .pointer (some ⟨B207, 0, none⟩)), (5, .pointer (some ⟨B223, 0, none⟩)), (6, .int .i64 r216)] ⟨rfl, rfl, rfl, rfl, trivial⟩ ?_
  intro σ _
  refine zr (zm rfl ?_)
  by_cases yw : r216 = (0 : Int)
  ·replace H := ifp yw H
   refine zo (fun w => opB (J0j rfl rfl w) (ndT yw)) (zn (zf rfl rfl (zk (zq (zr ?_)))))
   refine zo (J00 Try.underlying123 rfl ti23 rfl (by decide)) (zs (oblk (i := 3) 0 hO rfl rfl Try.underlying23 rfl rfl) (zo (J0c Try.underlying23 rfl) ?_))
   replace ag := (ag.ch qr.ch).ch oB.ch
   replace H := H ag.bd
   refine za rfl (zn (zq (zq (zr (zm rfl ?_)))))
   by_cases yy : (400 : Int) < (r215.Elems.length : Int)
   ·replace H := ifp yy H
    refine zo (fun w => opB (J17 rfl rfl w) (decide_eq_true yy)) (zn (zt rfl rfl (zq (zr (zo (J0w Try.underlying33 ti33 (pl := [(0, 1), (1, 1), (2, 1), (3, 1), (4, 1), (5, 1)]) (vs := []) (cs := #[.int .i64 0, .slice none 0 0, .slice none 0 0, .slice none 0 0, .slice none 0 0, .slice none 0 0]) (by kernel_rfl) rfl (by kernel_rfl)) ?_)))))
    have zz := J0b (us := [.int .i64 0, .slice none 0 0, .slice none 0 0, .slice none 0 0, .slice none 0 0, .slice none 0 0]) (o := 0) (cs' := #[.int .i64 0, .slice none 0 0, .slice none 0 0, .slice none 0 0, .slice none 0 0, .slice none 0 0]) 1 hO rfl rfl (Nat.le_of_ble_eq_true rfl) rfl
    obtain ⟨Tw, oC, ME⟩ := zz
    dsimp only [sS, sZ] at oC
    refine zg (ME ti33 (by exact rfl) (by exact rfl) rfl) ?_
    replace hO := oC.own
    refine za rfl (za rfl (zn ?_))
    refine Go1.retC3V Try.func63 rfl rfl (J0i (vs := [.int .i64 0, .slice none 0 0, .slice none 0 0, .slice none 0 0, .slice none 0 0, .slice none 0 0]) 1 hO rfl rfl Try.underlying33 rfl ti33) (show _ = .slice none 0 0 from rfl) (show _ = .int .i64 3 from rfl) ?_
    refine hR205 _ _ ?_
    refine zm rfl (zo (J07 rfl rfl) (zo (J07 rfl rfl) (zo (J07 rfl rfl) ?_)))
    have zz := oalloc (t := 33) (cs := #[.int .i64 0, .slice none 0 0, .slice none 0 0, .slice none 0 0, .slice none 0 0, .slice none 0 0]) ti33 hO rfl
    obtain ⟨JW, B237, gh, V4, MF⟩ := zz
    refine GoR.op MF rfl rfl ?_
    replace hO := gh.own
    have zz := J0b (us := [.int .i64 0, .slice none 0 0, .slice none 0 0, .slice none 0 0, .slice none 0 0, .slice none 0 0]) (o := 0) (cs' := #[.int .i64 0, .slice none 0 0, .slice none 0 0, .slice none 0 0, .slice none 0 0, .slice none 0 0]) 0 hO rfl rfl (Nat.le_of_ble_eq_true rfl) rfl
    obtain ⟨aaO, oD, MG⟩ := zz
    dsimp only [sS, sZ] at oD
    refine zg (MG ti33 (by exact rfl) (by exact rfl) rfl) ?_
    replace hO := oD.own
    refine za rfl (za rfl (zn (zq (zq ?_))))
    refine Go1.cut [(2, .pointer (some ⟨B8, 0, none⟩)), (7, .pointer (some ⟨B237, 0, none⟩)), (8, .slice none 0 0), (9, .int .i64 3)] ⟨rfl, rfl, rfl, rfl, trivial⟩ ?_
    intro σ _
    refine zr (zm rfl (zo (fun w => opB (J0j rfl rfl w) (ndF (by decide))) (zn (zt rfl rfl (zq ?_)))))
    refine zr (zo (J0w Try.underlying33 ti33 (pl := [(0, 1), (1, 1), (2, 1), (3, 1), (4, 1), (5, 1)]) (vs := []) (cs := #[.int .i64 0, .slice none 0 0, .slice none 0 0, .slice none 0 0, .slice none 0 0, .slice none 0 0]) (by kernel_rfl) rfl (by kernel_rfl)) (zm rfl ?_))
    have zz := J0b (us := [.int .i64 0, .slice none 0 0, .slice none 0 0, .slice none 0 0, .slice none 0 0, .slice none 0 0]) (o := 0) (cs' := #[.int .i64 0, .slice none 0 0, .slice none 0 0, .slice none 0 0, .slice none 0 0, .slice none 0 0]) 6 hO rfl rfl (Nat.le_of_ble_eq_true rfl) rfl
    obtain ⟨Ty, g5, DP⟩ := zz
    dsimp only [sS, sZ] at g5
    refine zg (DP ti33 (by exact rfl) (by exact rfl) rfl) ?_
    replace hO := g5.own
    refine za rfl (zn ?_)
    refine Go1.retC2 Try.func19 rfl rfl (J0i (vs := [.int .i64 0, .slice none 0 0, .slice none 0 0, .slice none 0 0, .slice none 0 0, .slice none 0 0]) 6 hO rfl rfl Try.underlying33 rfl ti33) ?_
    replace hB := ((((((hB.trans w4.fr).trans qr.fr).trans oB.fr).trans oC.fr).trans gh.fr).trans oD.fr).trans g5.fr
    exact ⟨(⟨(0 : Int), ([] : List (List Int)), ([] : List Str), ([] : List Int), ([] : List Bool), ([] : List Bool)⟩ : Syntactic), (3 : Int), none, 0, none, 0, none, 0, none, 0, none, 0, rfl, hB.same, (ISl.null _ _ _), (ISl.null _ _ _), (ISl.null _ _ _), (ISl.null _ _ _), (ISl.null _ _ _), H⟩
   replace H := ifn yy H
   refine zo (fun w => opB (J17 rfl rfl w) (decide_eq_false yy)) (zn (zf rfl rfl (zk (zq ?_))))
   refine Go1.drawA Same.tr A 1 [(0, .pure), (1, .pure), (2, .pure), (3, .stable), (4, .pure), (5, .pure), (7, .pure), (9, .pure), (10, .stable), (11, .pure), (12, .stable), (14, .pure), (13, .loud), (6, .alloc), (8, .alloc), (15, .alloc), (16, .pure), (17, .alloc), (18, .last)] mixed (by kernel_rfl) trivial hO.bd ?_
   intro aaP Q9
   have qt := Stp.same hO Q9
   replace hO := qt.own
   have C2 := hO.le
   replace hB := (((hB.trans w4.fr).trans qr.fr).trans oB.fr).trans qt.fr
   have hw251 := hB.ch.size
   refine GoQA.pure rfl (J03 rfl) rfl rfl ?_
   refine GoQA.pure rfl (J01 rfl) rfl rfl ?_
   refine GoQA.pure rfl (J00 Try.underlying83 rfl ti23 rfl (by decide)) rfl rfl ?_
   refine GoQA.stable rfl (oblk (i := 0) 4 hO rfl rfl Try.underlying23 rfl rfl) rfl rfl ?_
   refine GoQA.pure rfl (J0A Try.underlying23 rfl JA) rfl rfl ?_
   have Z12 := ((w4.ch.trans qr.ch).trans oB.ch).trans qt.ch
   replace a9 := a9.ch Z12
   replace H := H a9.bd
   refine GoQA.pure rfl (J03 rfl) rfl rfl ?_
   refine GoQA.pure rfl (J03 rfl) rfl rfl ?_
   refine GoQA.pure rfl (J00 Try.underlying123 rfl ti23 rfl (by decide)) rfl rfl ?_
   refine GoQA.stable rfl (oblk (i := 6) 0 hO rfl rfl Try.underlying23 rfl rfl) rfl rfl ?_
   obtain ⟨AY, H⟩ := H
   obtain ⟨A4, H⟩ := H
   have Z13 := (qr.ch.trans oB.ch).trans qt.ch
   replace af := af.ch Z13
   refine GoQA.pure rfl (J02 Try.underlying23 ti31 rfl rfl AY A4 (af.some_ AY A4)) rfl rfl ?_
   have zz := ldSl af AY A4
   obtain ⟨aaQ, aaR, iA, Ra⟩ := zz
   refine GoQA.stable rfl (Ra Try.underlying31 rfl rfl) rfl rfl ?_
   refine GoQA.pure rfl (J03 rfl) rfl rfl ?_
   refine GoQA.loudI rfl rfl ?_
   intro aaS A260 tq
   replace hO := tq.own hO
   replace iA := iA.ch (tq.ch _)
   refine GoAt.call (J0a body86 rfl (J0I hO.lt iA H)) (fun v w hr => ⟨fun _ => (by obtain ⟨_, _, _, _, _, _, hs, _, _, _⟩ := hr; exact hs), Same.kp hO (by obtain ⟨_, _, _, _, _, _, hs, _, _, _⟩ := hr; exact hs)⟩) rfl ?_
   rintro aaT aaU ⟨r262, aO, aM, aN, bU, rfl, Rb, hN266, aY, H⟩
   have iL := Stp.more hO Rb hN266
   dsimp only [List.cons_append, List.nil_append] at iL
   replace hO := iL.own
   obtain ⟨Ux, H⟩ := H
   obtain ⟨Uy, H⟩ := H
   refine GoQA.alloc rfl rfl (alMake2 (e' := 3) (Fl.int .i64) Try.underlying23 ti31 Ux Uy (by decide) rfl rfl) ?_
   intro LO A272 bA A274 rH JC hd277 hnb278 hh279
   replace hO := rH.own hO
   have jI := gainCh (w := LO) (E := [.row 3 1 aM aO aN bU, .blk B223 (.cells #[.int .i64 r215.Points, .bool r215.Monoid, .slice aR r215.Gens.length aS, .slice aF r215.Elems.length aG, .slice aB r215.Prefix.length aC, .slice aT r215.Last.length aU, .slice az r215.Right.length aA, .slice aK r215.Rules.length aL, .int .i64 r215.Done] 123 (0, 0)), .blk B207 (.cells #[.int .i64 0, .slice none 0 0, .slice none 0 0, .slice none 0 0, .slice none 0 0, .slice none 0 0] 33 (0, 0)), .row 120 3 cj (0 + 1) ck cW, .blk B34 (.cells #[.int .i64 r26.Letters, .int .i64 r26.Start, .slice eo r26.Final.length eA, .slice fH r26.Next.length fI] 25 (0, 0)), .blk B21 (.cells #[.slice p45 r26.Letters.toNat r26.Letters.toNat, .slice cj (0 + 1) ck, .int .i64 ((0 : Int) + (r26.Final.length : Int))] 83 (0, 0)), .blk B8 (.cells #[.int .i64 0, .slice none 0 0, .slice none 0 0, .slice none 0 0, .slice none 0 0, .slice none 0 0] 33 (0, 0))]) (e := t2 (Fl.int .i64) 31 3 (some ⟨bA, 0, none⟩) r215.Elems.length r215.Elems.length ((fun _ => (none, 0))) (List.replicate r215.Elems.length ([] : List Int))) JC (J2s bA)
   replace hB := ((hB.trans (tq.same.fr _)).trans iL.fr).trans (rH.same.fr _)
   replace hB := Fr.gain (e := t2 (Fl.int .i64) 31 3 (some ⟨bA, 0, none⟩) r215.Elems.length r215.Elems.length ((fun _ => (none, 0))) (List.replicate r215.Elems.length ([] : List Int))) hB (Nat.le_trans hw251 hnb278) (J2s bA)
   replace hO := Owns.gain hO JC C2 (J2s bA) hh279 hd277
   obtain ⟨Uz, H⟩ := H
   obtain ⟨UA, H⟩ := H
   have zz := alMakeE (n := (r215.Elems.length : Int)) (r := Rp.str) (d := ([] : Str)) Try.underlying30 ti9 (fun _ _ => ⟨rfl, Nat.zero_le _⟩) rfl Uz UA (by decide)
   obtain ⟨zX, hal297, Fp⟩ := zz
   refine GoQA.alloc rfl rfl (hal297 rfl rfl) ?_
   intro G4 A285 bD A287 rI JD hd290 hnb291 hh292
   replace hO := rI.own hO
   have li := Fp (bl [t2 (Fl.int .i64) 31 3 (some ⟨bA, 0, none⟩) r215.Elems.length r215.Elems.length ((fun _ => (none, 0))) (List.replicate r215.Elems.length ([] : List Int)), .row 3 1 aM aO aN bU, .blk B223 (.cells #[.int .i64 r215.Points, .bool r215.Monoid, .slice aR r215.Gens.length aS, .slice aF r215.Elems.length aG, .slice aB r215.Prefix.length aC, .slice aT r215.Last.length aU, .slice az r215.Right.length aA, .slice aK r215.Rules.length aL, .int .i64 r215.Done] 123 (0, 0)), .blk B207 (.cells #[.int .i64 0, .slice none 0 0, .slice none 0 0, .slice none 0 0, .slice none 0 0, .slice none 0 0] 33 (0, 0)), .row 120 3 cj (0 + 1) ck cW, .blk B34 (.cells #[.int .i64 r26.Letters, .int .i64 r26.Start, .slice eo r26.Final.length eA, .slice fH r26.Next.length fI] 25 (0, 0)), .blk B21 (.cells #[.slice p45 r26.Letters.toNat r26.Letters.toNat, .slice cj (0 + 1) ck, .int .i64 ((0 : Int) + (r26.Final.length : Int))] 83 (0, 0)), .blk B8 (.cells #[.int .i64 0, .slice none 0 0, .slice none 0 0, .slice none 0 0, .slice none 0 0, .slice none 0 0] 33 (0, 0))] ++ A285) G4
   have tt := gainCh (w := G4) (E := [t2 (Fl.int .i64) 31 3 (some ⟨bA, 0, none⟩) r215.Elems.length r215.Elems.length ((fun _ => (none, 0))) (List.replicate r215.Elems.length ([] : List Int)), .row 3 1 aM aO aN bU, .blk B223 (.cells #[.int .i64 r215.Points, .bool r215.Monoid, .slice aR r215.Gens.length aS, .slice aF r215.Elems.length aG, .slice aB r215.Prefix.length aC, .slice aT r215.Last.length aU, .slice az r215.Right.length aA, .slice aK r215.Rules.length aL, .int .i64 r215.Done] 123 (0, 0)), .blk B207 (.cells #[.int .i64 0, .slice none 0 0, .slice none 0 0, .slice none 0 0, .slice none 0 0, .slice none 0 0] 33 (0, 0)), .row 120 3 cj (0 + 1) ck cW, .blk B34 (.cells #[.int .i64 r26.Letters, .int .i64 r26.Start, .slice eo r26.Final.length eA, .slice fH r26.Next.length fI] 25 (0, 0)), .blk B21 (.cells #[.slice p45 r26.Letters.toNat r26.Letters.toNat, .slice cj (0 + 1) ck, .int .i64 ((0 : Int) + (r26.Final.length : Int))] 83 (0, 0)), .blk B8 (.cells #[.int .i64 0, .slice none 0 0, .slice none 0 0, .slice none 0 0, .slice none 0 0, .slice none 0 0] 33 (0, 0))]) (e := .row 9 1 (some ⟨bD, 0, none⟩) r215.Elems.length r215.Elems.length zX) JD rfl
   replace hB := hB.trans (rI.same.fr _)
   replace hB := Fr.gain (e := .row 9 1 (some ⟨bD, 0, none⟩) r215.Elems.length r215.Elems.length zX) hB (Nat.le_trans hw251 hnb291) rfl
   replace hO := Owns.gain hO JD C2 rfl hh292 hd290
   obtain ⟨Em, H⟩ := H
   obtain ⟨Aq, H⟩ := H
   have zz := alMakeE (n := (r215.Elems.length : Int)) (r := Rp.bool) (d := false) Try.underlying22 ti4 (fun _ _ => rfl) rfl Em Aq (by decide)
   obtain ⟨C3, hal314, Rc⟩ := zz
   refine GoQA.alloc rfl rfl (hal314 rfl rfl) ?_
   intro Gw A302 bE A304 pS JE hd307 hnb308 hh309
   replace hO := pS.own hO
   have f6 := Rc (bl [.row 9 1 (some ⟨bD, 0, none⟩) r215.Elems.length r215.Elems.length zX, t2 (Fl.int .i64) 31 3 (some ⟨bA, 0, none⟩) r215.Elems.length r215.Elems.length ((fun _ => (none, 0))) (List.replicate r215.Elems.length ([] : List Int)), .row 3 1 aM aO aN bU, .blk B223 (.cells #[.int .i64 r215.Points, .bool r215.Monoid, .slice aR r215.Gens.length aS, .slice aF r215.Elems.length aG, .slice aB r215.Prefix.length aC, .slice aT r215.Last.length aU, .slice az r215.Right.length aA, .slice aK r215.Rules.length aL, .int .i64 r215.Done] 123 (0, 0)), .blk B207 (.cells #[.int .i64 0, .slice none 0 0, .slice none 0 0, .slice none 0 0, .slice none 0 0, .slice none 0 0] 33 (0, 0)), .row 120 3 cj (0 + 1) ck cW, .blk B34 (.cells #[.int .i64 r26.Letters, .int .i64 r26.Start, .slice eo r26.Final.length eA, .slice fH r26.Next.length fI] 25 (0, 0)), .blk B21 (.cells #[.slice p45 r26.Letters.toNat r26.Letters.toNat, .slice cj (0 + 1) ck, .int .i64 ((0 : Int) + (r26.Final.length : Int))] 83 (0, 0)), .blk B8 (.cells #[.int .i64 0, .slice none 0 0, .slice none 0 0, .slice none 0 0, .slice none 0 0, .slice none 0 0] 33 (0, 0))] ++ A302) Gw
   have rJ := gainCh (w := Gw) (E := [.row 9 1 (some ⟨bD, 0, none⟩) r215.Elems.length r215.Elems.length zX, t2 (Fl.int .i64) 31 3 (some ⟨bA, 0, none⟩) r215.Elems.length r215.Elems.length ((fun _ => (none, 0))) (List.replicate r215.Elems.length ([] : List Int)), .row 3 1 aM aO aN bU, .blk B223 (.cells #[.int .i64 r215.Points, .bool r215.Monoid, .slice aR r215.Gens.length aS, .slice aF r215.Elems.length aG, .slice aB r215.Prefix.length aC, .slice aT r215.Last.length aU, .slice az r215.Right.length aA, .slice aK r215.Rules.length aL, .int .i64 r215.Done] 123 (0, 0)), .blk B207 (.cells #[.int .i64 0, .slice none 0 0, .slice none 0 0, .slice none 0 0, .slice none 0 0, .slice none 0 0] 33 (0, 0)), .row 120 3 cj (0 + 1) ck cW, .blk B34 (.cells #[.int .i64 r26.Letters, .int .i64 r26.Start, .slice eo r26.Final.length eA, .slice fH r26.Next.length fI] 25 (0, 0)), .blk B21 (.cells #[.slice p45 r26.Letters.toNat r26.Letters.toNat, .slice cj (0 + 1) ck, .int .i64 ((0 : Int) + (r26.Final.length : Int))] 83 (0, 0)), .blk B8 (.cells #[.int .i64 0, .slice none 0 0, .slice none 0 0, .slice none 0 0, .slice none 0 0, .slice none 0 0] 33 (0, 0))]) (e := .row 4 1 (some ⟨bE, 0, none⟩) r215.Elems.length r215.Elems.length C3) JE rfl
   replace hB := hB.trans (pS.same.fr _)
   replace hB := Fr.gain (e := .row 4 1 (some ⟨bE, 0, none⟩) r215.Elems.length r215.Elems.length C3) hB (Nat.le_trans hw251 hnb308) rfl
   replace hO := Owns.gain hO JE C2 rfl hh309 hd307
   refine GoQA.pure rfl (J0w Try.underlying33 ti33 (pl := [(0, 1), (1, 1), (2, 1), (3, 1), (4, 1), (5, 1)]) (vs := [(0, .int .i64 (d_60.length : Int)), (1, .slice (some ⟨bA, 0, none⟩) r215.Elems.length r215.Elems.length), (2, .slice (some ⟨bD, 0, none⟩) r215.Elems.length r215.Elems.length), (3, .slice aM aO aN), (5, .slice (some ⟨bE, 0, none⟩) r215.Elems.length r215.Elems.length)]) (cs := #[.int .i64 (d_60.length : Int), .slice (some ⟨bA, 0, none⟩) r215.Elems.length r215.Elems.length, .slice (some ⟨bD, 0, none⟩) r215.Elems.length r215.Elems.length, .slice aM aO aN, .slice none 0 0, .slice (some ⟨bE, 0, none⟩) r215.Elems.length r215.Elems.length]) (by kernel_rfl) rfl (by kernel_rfl)) rfl rfl ?_
   refine GoQA.alloc rfl rfl (alAlloc (cs := #[.int .i64 0, .slice none 0 0, .slice none 0 0, .slice none 0 0, .slice none 0 0, .slice none 0 0]) ti33 rfl) ?_
   intro LY A319 dI A321 oE JF hd324 hnb325 hh326
   replace hO := oE.own hO
   have g6 := gainCh (w := LY) (E := [.row 4 1 (some ⟨bE, 0, none⟩) r215.Elems.length r215.Elems.length C3, .row 9 1 (some ⟨bD, 0, none⟩) r215.Elems.length r215.Elems.length zX, t2 (Fl.int .i64) 31 3 (some ⟨bA, 0, none⟩) r215.Elems.length r215.Elems.length ((fun _ => (none, 0))) (List.replicate r215.Elems.length ([] : List Int)), .row 3 1 aM aO aN bU, .blk B223 (.cells #[.int .i64 r215.Points, .bool r215.Monoid, .slice aR r215.Gens.length aS, .slice aF r215.Elems.length aG, .slice aB r215.Prefix.length aC, .slice aT r215.Last.length aU, .slice az r215.Right.length aA, .slice aK r215.Rules.length aL, .int .i64 r215.Done] 123 (0, 0)), .blk B207 (.cells #[.int .i64 0, .slice none 0 0, .slice none 0 0, .slice none 0 0, .slice none 0 0, .slice none 0 0] 33 (0, 0)), .row 120 3 cj (0 + 1) ck cW, .blk B34 (.cells #[.int .i64 r26.Letters, .int .i64 r26.Start, .slice eo r26.Final.length eA, .slice fH r26.Next.length fI] 25 (0, 0)), .blk B21 (.cells #[.slice p45 r26.Letters.toNat r26.Letters.toNat, .slice cj (0 + 1) ck, .int .i64 ((0 : Int) + (r26.Final.length : Int))] 83 (0, 0)), .blk B8 (.cells #[.int .i64 0, .slice none 0 0, .slice none 0 0, .slice none 0 0, .slice none 0 0, .slice none 0 0] 33 (0, 0))]) (e := .blk dI (.cells #[.int .i64 0, .slice none 0 0, .slice none 0 0, .slice none 0 0, .slice none 0 0, .slice none 0 0] 33 (0, 0))) JF rfl
   replace hB := hB.trans (oE.same.fr _)
   replace hB := Fr.gain (e := .blk dI (.cells #[.int .i64 0, .slice none 0 0, .slice none 0 0, .slice none 0 0, .slice none 0 0, .slice none 0 0] 33 (0, 0))) hB (Nat.le_trans hw251 hnb325) rfl
   replace hO := Owns.gain hO JF C2 rfl hh326 hd324
   refine GoQA.lastI rfl rfl ?_
   intro J7 A329 oF
   replace hO := oF.own hO
   have zz := J0b (us := [.int .i64 (d_60.length : Int), .slice (some ⟨bA, 0, none⟩) r215.Elems.length r215.Elems.length, .slice (some ⟨bD, 0, none⟩) r215.Elems.length r215.Elems.length, .slice aM aO aN, .slice none 0 0, .slice (some ⟨bE, 0, none⟩) r215.Elems.length r215.Elems.length]) (o := 0) (cs' := #[.int .i64 (d_60.length : Int), .slice (some ⟨bA, 0, none⟩) r215.Elems.length r215.Elems.length, .slice (some ⟨bD, 0, none⟩) r215.Elems.length r215.Elems.length, .slice aM aO aN, .slice none 0 0, .slice (some ⟨bE, 0, none⟩) r215.Elems.length r215.Elems.length]) 0 hO rfl rfl (Nat.le_of_ble_eq_true rfl) rfl
   obtain ⟨aaV, fR, MH⟩ := zz
   dsimp only [sS, sZ] at fR
   refine GoAt.step (MH ti33 (by exact rfl) (by exact rfl) rfl) (fun h => nomatch h) (Stp.kp hO fR) rfl ?_
   replace hO := fR.own
   refine GoQA.nil ?_
   intro aaW A335 oG pT
   replace hO := oG.own hO
   replace hO := hO.permA pT
   refine zq (zq ?_)
   refine Go1.cut [(0, .pointer (some ⟨B21, 0, none⟩)), (2, .pointer (some ⟨B207, 0, none⟩)), (5, .pointer (some ⟨B223, 0, none⟩)), (7, .int .i64 (r215.Elems.length : Int)), (8, .pointer (some ⟨dI, 0, none⟩))] ⟨rfl, rfl, rfl, rfl, rfl, trivial⟩ ?_
   intro σ _
   refine zr (za rfl (zn (zb ?_)))
   replace hO := hO.drop 8
   replace aY := aY.ch (Ch.assoc _ _ _ _)
   replace hB := (((hB.trans (oF.same.fr _)).trans fR.fr).trans (oG.same.fr _)).trans (Owns.J09 _ _ 8)
   have Z14 := ((((((rJ.trans (oE.ch _)).trans g6).trans (oF.ch _)).trans fR.ch).trans (oG.ch _)).trans (permCh pT _)).trans (Owns.J06 _ _ 8)
   replace f6 := f6.ch Z14
   have Z15 := ((((((((tt.trans (pS.ch _)).trans rJ).trans (oE.ch _)).trans g6).trans (oF.ch _)).trans fR.ch).trans (oG.ch _)).trans (permCh pT _)).trans (Owns.J06 _ _ 8)
   replace li := li.ch Z15
   have Z16 := ((((((((((((rH.ch _).trans jI).trans (rI.ch _)).trans tt).trans (pS.ch _)).trans rJ).trans (oE.ch _)).trans g6).trans (oF.ch _)).trans fR.ch).trans (oG.ch _)).trans (permCh pT _)).trans (Owns.J06 _ _ 8)
   replace aY := aY.ch Z16
   have Z17 := ((((((((((((iL.ch.trans (rH.ch _)).trans jI).trans (rI.ch _)).trans tt).trans (pS.ch _)).trans rJ).trans (oE.ch _)).trans g6).trans (oF.ch _)).trans fR.ch).trans (oG.ch _)).trans (permCh pT _)).trans (Owns.J06 _ _ 8)
   replace iA := iA.ch Z17
   have Z18 := ((((((((((((((tq.ch _).trans iL.ch).trans (rH.ch _)).trans jI).trans (rI.ch _)).trans tt).trans (pS.ch _)).trans rJ).trans (oE.ch _)).trans g6).trans (oF.ch _)).trans fR.ch).trans (oG.ch _)).trans (permCh pT _)).trans (Owns.J06 _ _ 8)
   replace a9 := a9.ch Z18
   replace af := af.ch Z18
   have Z19 := ((((((((((((((qt.ch.trans (tq.ch _)).trans iL.ch).trans (rH.ch _)).trans jI).trans (rI.ch _)).trans tt).trans (pS.ch _)).trans rJ).trans (oE.ch _)).trans g6).trans (oF.ch _)).trans fR.ch).trans (oG.ch _)).trans (permCh pT _)).trans (Owns.J06 _ _ 8)
   replace ag := ag.ch Z19
   have Z20 := ((((((((((((((Z13.trans (tq.ch _)).trans iL.ch).trans (rH.ch _)).trans jI).trans (rI.ch _)).trans tt).trans (pS.ch _)).trans rJ).trans (oE.ch _)).trans g6).trans (oF.ch _)).trans fR.ch).trans (oG.ch _)).trans (permCh pT _)).trans (Owns.J06 _ _ 8)
   replace aj := aj.ch Z20
   replace aa := aa.ch Z20
   replace ai := ai.ch Z20
   replace ah := ah.ch Z20
   have Z21 := (((((((((((((((((((((wX.ch.trans wY.ch).trans i5.ch).trans BH).trans w4.ch).trans qr.ch).trans oB.ch).trans qt.ch).trans (tq.ch _)).trans iL.ch).trans (rH.ch _)).trans jI).trans (rI.ch _)).trans tt).trans (pS.ch _)).trans rJ).trans (oE.ch _)).trans g6).trans (oF.ch _)).trans fR.ch).trans (oG.ch _)).trans (permCh pT _)).trans (Owns.J06 _ _ 8)
   replace aD := aD.ch Z21
   have Z22 := ((((((((((((((((((((((x4.ch.trans wX.ch).trans wY.ch).trans i5.ch).trans BH).trans w4.ch).trans qr.ch).trans oB.ch).trans qt.ch).trans (tq.ch _)).trans iL.ch).trans (rH.ch _)).trans jI).trans (rI.ch _)).trans tt).trans (pS.ch _)).trans rJ).trans (oE.ch _)).trans g6).trans (oF.ch _)).trans fR.ch).trans (oG.ch _)).trans (permCh pT _)).trans (Owns.J06 _ _ 8)
   replace d6 := d6.ch Z22
   have Z23 := (((((((((((((((((((((((((fS.ch.trans FW).trans ng.ch).trans x4.ch).trans wX.ch).trans wY.ch).trans i5.ch).trans BH).trans w4.ch).trans qr.ch).trans oB.ch).trans qt.ch).trans (tq.ch _)).trans iL.ch).trans (rH.ch _)).trans jI).trans (rI.ch _)).trans tt).trans (pS.ch _)).trans rJ).trans (oE.ch _)).trans g6).trans (oF.ch _)).trans fR.ch).trans (oG.ch _)).trans (permCh pT _)).trans (Owns.J06 _ _ 8)
   replace ar := ar.ch Z23
   have Z24 := ((((((((((((((((((((((((((BG.ch.trans fS.ch).trans FW).trans ng.ch).trans x4.ch).trans wX.ch).trans wY.ch).trans i5.ch).trans BH).trans w4.ch).trans qr.ch).trans oB.ch).trans qt.ch).trans (tq.ch _)).trans iL.ch).trans (rH.ch _)).trans jI).trans (rI.ch _)).trans tt).trans (pS.ch _)).trans rJ).trans (oE.ch _)).trans g6).trans (oF.ch _)).trans fR.ch).trans (oG.ch _)).trans (permCh pT _)).trans (Owns.J06 _ _ 8)
   replace aw := aw.ch Z24
   dsimp only [eS, eZ] at hB hO ar aw d6 a9 aj ag aa ai af ah iA f6 li aY aD
   refine Go1.loopW (S := Nat × List Bool × List Str) (fun s σ w => match s with | (k3_339, d_340, d_343) => ∃ (pU : List Value) (dg : List Value), agrees σ [(0, .pointer (some ⟨B21, 0, none⟩)), (2, .pointer (some ⟨B207, 0, none⟩)), (5, .pointer (some ⟨B223, 0, none⟩)), (7, .int .i64 (r215.Elems.length : Int)), (8, .pointer (some ⟨dI, 0, none⟩)), (9, .int .i64 (k3_339 : Int))] ∧ (fun Z0 => Owns w0.heap.size w Z0 A ∧ Els (Rp.bool) (bl Z0 ++ A) w pU d_340 ∧ Els (Rp.str) (bl Z0 ++ A) w dg d_343 ∧ Els (Rp.int .i64) (bl Z0 ++ A) w bU r262 ∧ Els (rppart) (bl Z0 ++ A) w cW ((([] : List part)) ++ ([(⟨((0 : Int) + r26.Start), r26.Final, (0 : Int)⟩ : part)])) ∧ ISl (Rp.sl (Rp.int .i64)) (bl Z0 ++ A) w p45 r26.Letters.toNat d_60 ∧ ISl (Rp.sl (Rp.int .i64)) (bl Z0 ++ A) w aR aS r215.Gens ∧ ISl (Rp.sl (Rp.int .i64)) (bl Z0 ++ A) w aF aG r215.Elems ∧ ISl (Rp.int .i64) (bl Z0 ++ A) w aB aC r215.Prefix ∧ ISl (Rp.int .i64) (bl Z0 ++ A) w aT aU r215.Last ∧ ISl (Rp.sl (Rp.int .i64)) (bl Z0 ++ A) w az aA r215.Right ∧ ISl (rpRule) (bl Z0 ++ A) w aK aL r215.Rules ∧ Fr (bl []) w0 (bl Z0) w) [.blk dI (.cells #[.int .i64 (d_60.length : Int), .slice (some ⟨bA, 0, none⟩) r215.Elems.length r215.Elems.length, .slice (some ⟨bD, 0, none⟩) r215.Elems.length r215.Elems.length, .slice aM aO aN, .slice none 0 0, .slice (some ⟨bE, 0, none⟩) r215.Elems.length r215.Elems.length] 33 (0, 0)), .row 4 1 (some ⟨bE, 0, none⟩) r215.Elems.length r215.Elems.length pU, .row 9 1 (some ⟨bD, 0, none⟩) r215.Elems.length r215.Elems.length dg, t2 (Fl.int .i64) 31 3 (some ⟨bA, 0, none⟩) r215.Elems.length r215.Elems.length ((fun _ => (none, 0))) (List.replicate r215.Elems.length ([] : List Int)), .row 3 1 aM aO aN bU, .blk B223 (.cells #[.int .i64 r215.Points, .bool r215.Monoid, .slice aR r215.Gens.length aS, .slice aF r215.Elems.length aG, .slice aB r215.Prefix.length aC, .slice aT r215.Last.length aU, .slice az r215.Right.length aA, .slice aK r215.Rules.length aL, .int .i64 r215.Done] 123 (0, 0)), .blk B207 (.cells #[.int .i64 0, .slice none 0 0, .slice none 0 0, .slice none 0 0, .slice none 0 0, .slice none 0 0] 33 (0, 0)), .row 120 3 cj (0 + 1) ck cW, .blk B21 (.cells #[.slice p45 r26.Letters.toNat r26.Letters.toNat, .slice cj (0 + 1) ck, .int .i64 ((0 : Int) + (r26.Final.length : Int))] 83 (0, 0)), .blk B8 (.cells #[.int .i64 0, .slice none 0 0, .slice none 0 0, .slice none 0 0, .slice none 0 0, .slice none 0 0] 33 (0, 0))]) H ⟨C3, zX, ⟨rfl, rfl, rfl, rfl, rfl, rfl, trivial⟩, hO, f6, li, aY, aD, a9, aj, ag, aa, ai, af, ah, hB⟩ ?_
   intro X3
   refine prE fun k3_339 => prE fun d_340 => fun d_343 => ?_
   intro H hX3 σ SP
   refine exE fun pU => exE fun dg => andE fun hag => andE fun hO => andE fun ut => andE fun bw => andE fun aY => andE fun aD => andE fun a9 => andE fun aj => andE fun ag => andE fun aa => andE fun ai => andE fun af => andE fun ah => fun hB => ?_
   dsimp only at H
   refine Go1.keep [(0, .pointer (some ⟨B21, 0, none⟩)), (2, .pointer (some ⟨B207, 0, none⟩)), (5, .pointer (some ⟨B223, 0, none⟩)), (7, .int .i64 (r215.Elems.length : Int)), (8, .pointer (some ⟨dI, 0, none⟩)), (9, .int .i64 (k3_339 : Int))] hag ?_
   refine zq (zq (zr (zm rfl (zm rfl ?_))))
   by_cases yC : (k3_339 : Int) < (r215.Elems.length : Int)
   ·replace H := ifp yC H
    refine zo (fun w => opB (J08 rfl rfl w) (decide_eq_true yC)) (zn (zt rfl rfl (zk (zq (zb ?_)))))
    refine zq ?_
    refine Go1.drawS 1 [(0, .pure), (1, .stable), (2, .pure), (3, .pure), (4, .stable), (5, .pure), (6, .stable), (7, .pure), (8, .pure), (9, .stable), (10, .pure), (11, .stable), (12, .pure), (13, .stable), (14, .pure), (15, .pure), (16, .stable), (17, .pure), (18, .pure), (19, .loud), (20, .stable), (21, .pure), (22, .pure), (23, .last)] mixed (by kernel_rfl) ?_
    intro aaX Rd
    have qu := Stp.same hO Rd
    replace hO := qu.own
    refine GoQ.pure rfl (J00 Try.underlying33 rfl ti30 rfl (by decide)) rfl rfl ?_
    refine GoQ.stable rfl (oblk (i := 2) 0 hO rfl rfl Try.underlying30 rfl rfl) rfl rfl ?_
    refine GoQ.pure rfl (J03 rfl) rfl rfl ?_
    refine GoQ.pure rfl (J00 Try.underlying33 rfl ti30 rfl (by decide)) rfl rfl ?_
    refine GoQ.stable rfl (oblk (i := 2) 0 hO rfl rfl Try.underlying30 rfl rfl) rfl rfl ?_
    refine GoQ.pure rfl (J00 Try.underlying123 rfl ti31 rfl (by decide)) rfl rfl ?_
    refine GoQ.stable rfl (oblk (i := 4) 5 hO rfl rfl Try.underlying31 rfl rfl) rfl rfl ?_
    refine GoQ.pure rfl (J03 rfl) rfl rfl ?_
    obtain ⟨D8, H⟩ := H
    obtain ⟨HJ, H⟩ := H
    replace aa := aa.ch qu.ch
    refine GoQ.pure rfl (J02 Try.underlying31 ti3 rfl rfl D8 HJ (aa.some_ D8 HJ)) rfl rfl ?_
    refine GoQ.stable rfl (ldInt aa D8 HJ Try.underlying3 rfl rfl) rfl rfl ?_
    obtain ⟨FX, H⟩ := H
    obtain ⟨FY, H⟩ := H
    replace bw := bw.ch qu.ch
    refine GoQ.pure rfl (J02 Try.underlying30 ti9 rfl rfl FX (ltn (bw.neq hO 2 rfl) FY) (bw.psome hO 2 rfl FX FY)) rfl rfl ?_
    refine GoQ.stable rfl (oldStr 2 hO rfl bw FX FY Try.underlying9 rfl rfl) rfl rfl ?_
    have hle354 := Els.J2m bw FX FY
    refine GoQ.pure rfl (J00 Try.underlying123 rfl ti31 rfl (by decide)) rfl rfl ?_
    refine GoQ.stable rfl (oblk (i := 5) 5 hO rfl rfl Try.underlying31 rfl rfl) rfl rfl ?_
    refine GoQ.pure rfl (J03 rfl) rfl rfl ?_
    obtain ⟨zc, H⟩ := H
    obtain ⟨zd, H⟩ := H
    replace ai := ai.ch qu.ch
    refine GoQ.pure rfl (J02 Try.underlying31 ti3 rfl rfl zc zd (ai.some_ zc zd)) rfl rfl ?_
    refine GoQ.stable rfl (ldInt ai zc zd Try.underlying3 rfl rfl) rfl rfl ?_
    obtain ⟨Cl, H⟩ := H
    refine GoQ.pure rfl (J0e rfl rfl (wrap_i64 Cl)) rfl rfl ?_
    refine GoQ.pure rfl (J3O Try.underlying3 Try.underlying5 rfl rfl) rfl rfl ?_
    have zz := J0n (r := Rp.int .u8) (n := 1) (parts := [(0, .int .u8 (IntKind.u8.wrap ((97 : Int) + (ix r215.Last (k3_339 : Int)))))]) (vs := [.int .u8 (IntKind.u8.wrap ((97 : Int) + (ix r215.Last (k3_339 : Int))))]) (xs := [(IntKind.u8.wrap ((97 : Int) + (ix r215.Last (k3_339 : Int))))]) rfl Try.underlying126 ti5 hO (by decide) (by kernel_rfl) (Els.cons rfl rfl (Els.nil _ _ _) (by simp [mx])) rfl
    obtain ⟨J9, aaY, fm, zY, F0, MJ⟩ := zz
    refine GoQ.loud rfl (MJ rfl) F0 rfl rfl ?_
    replace hO := fm.own
    have hle365 := J7h zY.bd
    refine GoQ.stable rfl (oldBytes 0 hO rfl zY Try.underlying126 Try.underlying5 Try.underlying9 rfl) rfl rfl ?_
    obtain ⟨ML, H⟩ := H
    refine GoQ.pure rfl (J5z rfl rfl ML) rfl rfl ?_
    obtain ⟨HK, H⟩ := H
    obtain ⟨HL, H⟩ := H
    replace bw := bw.ch fm.ch
    refine GoQ.pure rfl (J02 Try.underlying30 ti9 rfl rfl HK (ltn (bw.neq hO 3 rfl) HL) (bw.psome hO 3 rfl HK HL)) rfl rfl ?_
    have zz := ost (r := Rp.str) rfl 3 hO rfl bw HK HL (v := .string (gstr ((ix d_343 (ix r215.Prefix (k3_339 : Int))) ++ (byt ([(IntKind.u8.wrap ((97 : Int) + (ix r215.Last (k3_339 : Int))))]))))) (u := ((ix d_343 (ix r215.Prefix (k3_339 : Int))) ++ (byt ([(IntKind.u8.wrap ((97 : Int) + (ix r215.Last (k3_339 : Int))))])))) rfl ⟨rfl, (lenApp ML)⟩
    obtain ⟨aa0, Re, gT, yD, Ds⟩ := zz
    dsimp only [sS, sZ] at gT yD
    refine GoQ.last rfl (Ds Try.underlying9 rfl ti9 (by exact rfl) (by exact rfl)) rfl rfl ?_
    replace hO := gT.own
    refine GoQ.nil ?_
    refine Go1.cut [(0, .pointer (some ⟨B21, 0, none⟩)), (2, .pointer (some ⟨B207, 0, none⟩)), (5, .pointer (some ⟨B223, 0, none⟩)), (7, .int .i64 (r215.Elems.length : Int)), (8, .pointer (some ⟨dI, 0, none⟩)), (9, .int .i64 (k3_339 : Int))] ⟨rfl, rfl, rfl, rfl, rfl, rfl, trivial⟩ ?_
    intro σ _
    refine zr (zo (J00 Try.underlying33 rfl ti22 rfl (by decide)) (zs (oblk (i := 5) 1 hO rfl rfl Try.underlying22 rfl rfl) (zm rfl ?_)))
    obtain ⟨Dr, H⟩ := H
    obtain ⟨yf, H⟩ := H
    have Z25 := (qu.ch.trans fm.ch).trans gT.ch
    replace ut := ut.ch Z25
    refine zo (J02 Try.underlying22 ti4 rfl rfl Dr (ltn (ut.neq hO 2 rfl) yf) (ut.psome hO 2 rfl Dr yf)) ?_
    have zz := ost (r := Rp.bool) rfl 2 hO rfl ut Dr yf (v := .bool true) (u := true) rfl rfl
    obtain ⟨aa1, Rf, oH, BJ, MM⟩ := zz
    dsimp only [sS, sZ] at oH BJ
    refine zg (MM Try.underlying4 rfl ti4 (by exact rfl) (by exact rfl)) ?_
    replace hO := oH.own
    refine zn ?_
    refine Go1.inBlock ?_
    refine zr (zm rfl ?_)
    replace ag := (ag.ch Z25).ch oH.ch
    refine zo (J0e rfl rfl (wrap_i64 (natbd yC ag.bd))) (za rfl (zn ?_))
    replace hO := hO.drop 0
    replace ag := ag.ch (Owns.J06 _ _ 0)
    replace BJ := BJ.ch (Owns.J06 _ _ 0)
    replace yD := (yD.ch oH.ch).ch (Owns.J06 _ _ 0)
    have Z26 := ((fm.ch.trans gT.ch).trans oH.ch).trans (Owns.J06 _ _ 0)
    replace aa := aa.ch Z26
    replace ai := ai.ch Z26
    have Z27 := (Z25.trans oH.ch).trans (Owns.J06 _ _ 0)
    replace aY := aY.ch Z27
    replace aD := aD.ch Z27
    replace a9 := a9.ch Z27
    replace aj := aj.ch Z27
    replace af := af.ch Z27
    replace ah := ah.ch Z27
    replace hB := ((((hB.trans qu.fr).trans fm.fr).trans gT.fr).trans oH.fr).trans (Owns.J09 _ _ 0)
    dsimp only [eS, eZ] at hB hO a9 aj ag aa ai af ah BJ yD aY aD
    exact hX3 _ H _ _ ⟨Rf, Re, ⟨rfl, rfl, rfl, rfl, rfl, rfl, trivial⟩, hO, BJ, yD, aY, aD, a9, aj, ag, aa, ai, af, ah, hB⟩
   replace H := ifn yC H
   refine zo (fun w => opB (J08 rfl rfl w) (decide_eq_false yC)) (zn (zf rfl rfl ?_))
   refine Go1.exit rfl ?_
   refine zq (zq (zr (zo (J00 Try.underlying123 rfl ti23 rfl (by decide)) (zs (oblk (i := 6) 5 hO rfl rfl Try.underlying23 rfl rfl) (zo (J0c Try.underlying23 rfl) ?_)))))
   replace H := H af.bd
   refine zm rfl (zn (zb ?_))
   refine Go1.loopW (S := Nat × List Bool × List (List Int)) (fun s σ w => match s with | (k4_382, d_383, d_386) => ∃ (fW : List Value) (d9 : Hd), agrees σ [(0, .pointer (some ⟨B21, 0, none⟩)), (2, .pointer (some ⟨B207, 0, none⟩)), (5, .pointer (some ⟨B223, 0, none⟩)), (7, .int .i64 (r215.Elems.length : Int)), (8, .pointer (some ⟨dI, 0, none⟩)), (86, .slice az r215.Right.length aA), (87, .int .i64 (r215.Right.length : Int)), (88, .int .i64 (k4_382 : Int))] ∧ (fun Z0 => Owns w0.heap.size w Z0 A ∧ Els (Rp.bool) (bl Z0 ++ A) w fW d_383 ∧ Els (Rp.str) (bl Z0 ++ A) w dg d_343 ∧ Els (Rp.int .i64) (bl Z0 ++ A) w bU r262 ∧ Els (rppart) (bl Z0 ++ A) w cW ((([] : List part)) ++ ([(⟨((0 : Int) + r26.Start), r26.Final, (0 : Int)⟩ : part)])) ∧ ISl (Rp.sl (Rp.int .i64)) (bl Z0 ++ A) w p45 r26.Letters.toNat d_60 ∧ ISl (Rp.sl (Rp.int .i64)) (bl Z0 ++ A) w aR aS r215.Gens ∧ ISl (Rp.sl (Rp.int .i64)) (bl Z0 ++ A) w aF aG r215.Elems ∧ ISl (Rp.int .i64) (bl Z0 ++ A) w aB aC r215.Prefix ∧ ISl (Rp.int .i64) (bl Z0 ++ A) w aT aU r215.Last ∧ ISl (Rp.sl (Rp.int .i64)) (bl Z0 ++ A) w az aA r215.Right ∧ ISl (rpRule) (bl Z0 ++ A) w aK aL r215.Rules ∧ Fr (bl []) w0 (bl Z0) w) [.blk dI (.cells #[.int .i64 (d_60.length : Int), .slice (some ⟨bA, 0, none⟩) r215.Elems.length r215.Elems.length, .slice (some ⟨bD, 0, none⟩) r215.Elems.length r215.Elems.length, .slice aM aO aN, .slice none 0 0, .slice (some ⟨bE, 0, none⟩) r215.Elems.length r215.Elems.length] 33 (0, 0)), .row 4 1 (some ⟨bE, 0, none⟩) r215.Elems.length r215.Elems.length fW, .row 9 1 (some ⟨bD, 0, none⟩) r215.Elems.length r215.Elems.length dg, t2 (Fl.int .i64) 31 3 (some ⟨bA, 0, none⟩) r215.Elems.length r215.Elems.length d9 d_386, .row 3 1 aM aO aN bU, .blk B223 (.cells #[.int .i64 r215.Points, .bool r215.Monoid, .slice aR r215.Gens.length aS, .slice aF r215.Elems.length aG, .slice aB r215.Prefix.length aC, .slice aT r215.Last.length aU, .slice az r215.Right.length aA, .slice aK r215.Rules.length aL, .int .i64 r215.Done] 123 (0, 0)), .blk B207 (.cells #[.int .i64 0, .slice none 0 0, .slice none 0 0, .slice none 0 0, .slice none 0 0, .slice none 0 0] 33 (0, 0)), .row 120 3 cj (0 + 1) ck cW, .blk B21 (.cells #[.slice p45 r26.Letters.toNat r26.Letters.toNat, .slice cj (0 + 1) ck, .int .i64 ((0 : Int) + (r26.Final.length : Int))] 83 (0, 0)), .blk B8 (.cells #[.int .i64 0, .slice none 0 0, .slice none 0 0, .slice none 0 0, .slice none 0 0, .slice none 0 0] 33 (0, 0))]) H ⟨pU, (fun _ => (none, 0)), ⟨rfl, rfl, rfl, rfl, rfl, rfl, rfl, rfl, trivial⟩, hO, ut, bw, aY, aD, a9, aj, ag, aa, ai, af, ah, hB⟩ ?_
   intro X4
   refine prE fun k4_382 => prE fun d_383 => fun d_386 => ?_
   intro H hX4 σ aa2
   refine exE fun fW => exE fun d9 => andE fun hag => andE fun hO => andE fun cU => andE fun bw => andE fun aY => andE fun aD => andE fun a9 => andE fun aj => andE fun ag => andE fun aa => andE fun ai => andE fun af => andE fun ah => fun hB => ?_
   dsimp only at H
   refine Go1.keep [(0, .pointer (some ⟨B21, 0, none⟩)), (2, .pointer (some ⟨B207, 0, none⟩)), (5, .pointer (some ⟨B223, 0, none⟩)), (7, .int .i64 (r215.Elems.length : Int)), (8, .pointer (some ⟨dI, 0, none⟩)), (86, .slice az r215.Right.length aA), (87, .int .i64 (r215.Right.length : Int)), (88, .int .i64 (k4_382 : Int))] hag ?_
   refine zq (zr ?_)
   by_cases Cm : (k4_382 : Int) < (r215.Right.length : Int)
   ·replace H := ifp Cm H
    refine zo (fun w => opB (J08 rfl rfl w) (decide_eq_true Cm)) (zn (zq (zt rfl rfl (zk (zq ?_)))))
    refine zb (zq (zr (zm rfl ?_)))
    obtain ⟨HM, H⟩ := H
    obtain ⟨Dv, H⟩ := H
    refine zo (J02 Try.underlying23 ti31 rfl rfl HM Dv (af.some_ HM Dv)) ?_
    have zz := ldSl af HM Dv
    obtain ⟨Uh, aa3, io, Rg⟩ := zz
    refine zs (Rg Try.underlying31 rfl rfl) (za rfl (za rfl (zn (zq ?_))))
    refine Go1.drawS 1 [(0, .pure), (1, .stable), (2, .pure), (3, .stable), (4, .pure), (5, .stable), (6, .pure), (7, .pure), (8, .loud), (9, .pure), (10, .pure), (11, .last)] mixed (by kernel_rfl) ?_
    intro aa4 Rh
    have oI := Stp.same hO Rh
    replace hO := oI.own
    refine GoQ.pure rfl (J00 Try.underlying33 rfl ti22 rfl (by decide)) rfl rfl ?_
    refine GoQ.stable rfl (oblk (i := 5) 0 hO rfl rfl Try.underlying22 rfl rfl) rfl rfl ?_
    refine GoQ.pure rfl (J00 Try.underlying33 rfl ti22 rfl (by decide)) rfl rfl ?_
    refine GoQ.stable rfl (oblk (i := 5) 0 hO rfl rfl Try.underlying22 rfl rfl) rfl rfl ?_
    obtain ⟨yO, H⟩ := H
    obtain ⟨yP, H⟩ := H
    replace cU := cU.ch oI.ch
    refine GoQ.pure rfl (J02 Try.underlying22 ti4 rfl rfl yO (ltn (cU.neq hO 1 rfl) yP) (cU.psome hO 1 rfl yO yP)) rfl rfl ?_
    by_cases h400 : ix d_383 (0 : Int) = true
    ·replace H := ifp h400 H
     refine GoQ.stable rfl (fun w hw => opB ((oldBool 1 hO rfl cU yO yP Try.underlying4 rfl rfl) w hw) (h400)) rfl rfl ?_
     refine GoQ.pure rfl (J03 rfl) rfl rfl ?_
     refine GoQ.pass rfl rfl rfl ?_
     refine GoQ.pass rfl rfl rfl ?_
     refine GoQ.pure rfl (J04 rfl rfl rfl) rfl rfl ?_
     obtain ⟨HN, H⟩ := H
     obtain ⟨HO, H⟩ := H
     refine GoQ.pure rfl (J02 Try.underlying22 ti4 rfl rfl HN (ltn (cU.neq hO 1 rfl) HO) (cU.psome hO 1 rfl HN HO)) rfl rfl ?_
     have zz := ost (r := Rp.bool) rfl 1 hO rfl cU HN HO (v := .bool true) (u := true) rfl rfl
     obtain ⟨aa5, ov, gq, dC, D9⟩ := zz
     dsimp only [sS, sZ] at gq dC
     refine GoQ.last rfl (D9 Try.underlying4 rfl ti4 (by exact rfl) (by exact rfl)) rfl rfl ?_
     replace hO := gq.own
     refine GoQ.nil ?_
     refine zq ?_
     refine Go1.drawS 1 [(0, .pure), (1, .stable), (2, .pure), (3, .pure), (4, .loud), (5, .pure), (6, .last)] mixed (by kernel_rfl) ?_
     intro TD Ft
     have gn := Stp.same hO Ft
     replace hO := gn.own
     refine GoQ.pure rfl (J00 Try.underlying33 rfl ti23 rfl (by decide)) rfl rfl ?_
     refine GoQ.stable rfl (oblk (i := 1) 0 hO rfl rfl Try.underlying23 rfl rfl) rfl rfl ?_
     refine GoQ.pure rfl (J03 rfl) rfl rfl ?_
     refine GoQ.pure rfl (J03 rfl) rfl rfl ?_
     obtain ⟨UB, H⟩ := H
     obtain ⟨UC, H⟩ := H
     have zz := omake (n := (r215.Elems.length : Int)) (r := Rp.int .i64) (d := (0 : Int)) Try.underlying31 ti3 (fun _ _ => rfl) rfl hO UB UC (by decide)
     obtain ⟨aa6, u6, V5, fL, yz, Jw, Ea⟩ := zz
     refine GoQ.loud rfl (Ea rfl rfl) Jw rfl rfl ?_
     replace hO := fL.own
     obtain ⟨HP, H⟩ := H
     obtain ⟨Eb, H⟩ := H
     refine GoQ.pure rfl (J02 Try.underlying23 ti31 rfl rfl HP (ltn (t2neq 4 hO rfl) Eb) (t2some 4 hO rfl HP Eb)) rfl rfl ?_
     have mW := Stp.front 4 hO rfl
     dsimp only [eS, eZ] at mW
     replace hO := mW.own
     have mX := Stp.front 1 hO rfl
     dsimp only [eS, eZ] at mX
     replace hO := mX.own
     replace yz := (yz.ch mW.ch).ch mX.ch
     have zz := t2put (hf := (Fl.int .i64)) hO yz HP Eb
     obtain ⟨aa7, oJ, MO⟩ := zz
     refine GoQ.last rfl (MO Try.underlying31 rfl ti31 (by exact rfl) (by exact rfl)) rfl rfl ?_
     replace hO := oJ.own
     refine GoQ.nil ?_
     refine zq ?_
     refine Go1.cut [(0, .pointer (some ⟨B21, 0, none⟩)), (2, .pointer (some ⟨B207, 0, none⟩)), (5, .pointer (some ⟨B223, 0, none⟩)), (7, .int .i64 (r215.Elems.length : Int)), (8, .pointer (some ⟨dI, 0, none⟩)), (10, .int .i64 (k4_382 : Int)), (86, .slice az r215.Right.length aA), (87, .int .i64 (r215.Right.length : Int)), (88, .int .i64 (k4_382 : Int))] ⟨rfl, rfl, rfl, rfl, rfl, rfl, rfl, rfl, rfl, trivial⟩ ?_
     intro σ _
     refine zr (zo (J00 Try.underlying33 rfl ti23 rfl (by decide)) (zs (oblk (i := 1) 1 hO rfl rfl Try.underlying23 rfl rfl) (zm rfl ?_)))
     obtain ⟨En, H⟩ := H
     obtain ⟨Az, H⟩ := H
     refine zo (J02 Try.underlying23 ti31 rfl rfl En (ltn (t2neq 0 hO rfl) Az) (t2some 0 hO rfl En Az)) (zs (t2head 0 hO rfl En Az Try.underlying31 rfl rfl) (zm rfl ?_))
     obtain ⟨HQ, H⟩ := H
     obtain ⟨HR, H⟩ := H
     refine zo (J02 Try.underlying31 ti3 rfl rfl HQ HR (t2isome 0 hO rfl En Az HQ HR)) ?_
     have zz := t2st (r := Rp.int .i64) (hf := (Fl.int .i64)) rfl 0 hO rfl En Az HQ HR (v := .int .i64 (k4_382 : Int)) (u := (k4_382 : Int)) rfl rfl
     obtain ⟨aa8, nG, MP⟩ := zz
     dsimp only [sS, sZ] at nG
     refine zg (MP Try.underlying3 rfl ti3 (by exact rfl) (by exact rfl)) ?_
     replace hO := nG.own
     refine zn (zq (zr (za rfl (zn (zb ?_)))))
     have Z28 := ((((gn.ch.trans fL.ch).trans mW.ch).trans mX.ch).trans oJ.ch).trans nG.ch
     replace dC := dC.ch Z28
     have Z29 := ((((((oI.ch.trans gq.ch).trans gn.ch).trans fL.ch).trans mW.ch).trans mX.ch).trans oJ.ch).trans nG.ch
     replace bw := bw.ch Z29
     replace aY := aY.ch Z29
     replace aD := aD.ch Z29
     replace a9 := a9.ch Z29
     replace aj := aj.ch Z29
     replace ag := ag.ch Z29
     replace aa := aa.ch Z29
     replace ai := ai.ch Z29
     replace af := af.ch Z29
     replace ah := ah.ch Z29
     replace hB := (((((((hB.trans oI.fr).trans gq.fr).trans gn.fr).trans fL.fr).trans mW.fr).trans mX.fr).trans oJ.fr).trans nG.fr
     refine Go1.loopW (S := Nat × List (List Int)) (fun s σ w => match s with | (k5_436, d_437) => agrees σ [(0, .pointer (some ⟨B21, 0, none⟩)), (2, .pointer (some ⟨B207, 0, none⟩)), (5, .pointer (some ⟨B223, 0, none⟩)), (7, .int .i64 (r215.Elems.length : Int)), (8, .pointer (some ⟨dI, 0, none⟩)), (10, .int .i64 (k4_382 : Int)), (12, .int .i64 (k5_436 : Int)), (86, .slice az r215.Right.length aA), (87, .int .i64 (r215.Right.length : Int)), (88, .int .i64 (k4_382 : Int))] ∧ (fun Z0 => Owns w0.heap.size w Z0 A ∧ Els (Rp.bool) (bl Z0 ++ A) w ov (st d_383 (0 : Int) true) ∧ Els (Rp.str) (bl Z0 ++ A) w dg d_343 ∧ Els (Rp.int .i64) (bl Z0 ++ A) w bU r262 ∧ Els (rppart) (bl Z0 ++ A) w cW ((([] : List part)) ++ ([(⟨((0 : Int) + r26.Start), r26.Final, (0 : Int)⟩ : part)])) ∧ ISl (Rp.sl (Rp.int .i64)) (bl Z0 ++ A) w p45 r26.Letters.toNat d_60 ∧ ISl (Rp.sl (Rp.int .i64)) (bl Z0 ++ A) w aR aS r215.Gens ∧ ISl (Rp.sl (Rp.int .i64)) (bl Z0 ++ A) w aF aG r215.Elems ∧ ISl (Rp.int .i64) (bl Z0 ++ A) w aB aC r215.Prefix ∧ ISl (Rp.int .i64) (bl Z0 ++ A) w aT aU r215.Last ∧ ISl (Rp.sl (Rp.int .i64)) (bl Z0 ++ A) w az aA r215.Right ∧ ISl (rpRule) (bl Z0 ++ A) w aK aL r215.Rules ∧ Fr (bl []) w0 (bl Z0) w) [t2 (Fl.int .i64) 31 3 (some ⟨bA, 0, none⟩) r215.Elems.length r215.Elems.length (hup d9 (k4_382 : Int).toNat (u6, r215.Elems.length)) d_437, .blk dI (.cells #[.int .i64 (d_60.length : Int), .slice (some ⟨bA, 0, none⟩) r215.Elems.length r215.Elems.length, .slice (some ⟨bD, 0, none⟩) r215.Elems.length r215.Elems.length, .slice aM aO aN, .slice none 0 0, .slice (some ⟨bE, 0, none⟩) r215.Elems.length r215.Elems.length] 33 (0, 0)), .row 4 1 (some ⟨bE, 0, none⟩) r215.Elems.length r215.Elems.length ov, .row 9 1 (some ⟨bD, 0, none⟩) r215.Elems.length r215.Elems.length dg, .row 3 1 aM aO aN bU, .blk B223 (.cells #[.int .i64 r215.Points, .bool r215.Monoid, .slice aR r215.Gens.length aS, .slice aF r215.Elems.length aG, .slice aB r215.Prefix.length aC, .slice aT r215.Last.length aU, .slice az r215.Right.length aA, .slice aK r215.Rules.length aL, .int .i64 r215.Done] 123 (0, 0)), .blk B207 (.cells #[.int .i64 0, .slice none 0 0, .slice none 0 0, .slice none 0 0, .slice none 0 0, .slice none 0 0] 33 (0, 0)), .row 120 3 cj (0 + 1) ck cW, .blk B21 (.cells #[.slice p45 r26.Letters.toNat r26.Letters.toNat, .slice cj (0 + 1) ck, .int .i64 ((0 : Int) + (r26.Final.length : Int))] 83 (0, 0)), .blk B8 (.cells #[.int .i64 0, .slice none 0 0, .slice none 0 0, .slice none 0 0, .slice none 0 0, .slice none 0 0] 33 (0, 0))]) H ⟨⟨rfl, rfl, rfl, rfl, rfl, rfl, rfl, rfl, rfl, rfl, trivial⟩, hO, dC, bw, aY, aD, a9, aj, ag, aa, ai, af, ah, hB⟩ ?_
     intro X5
     refine prE fun k5_436 => fun d_437 => ?_
     intro H hX5 σ aa9
     refine andE fun hag => andE fun hO => andE fun dC => andE fun bw => andE fun aY => andE fun aD => andE fun a9 => andE fun aj => andE fun ag => andE fun aa => andE fun ai => andE fun af => andE fun ah => fun hB => ?_
     dsimp only at H
     refine Go1.keep [(0, .pointer (some ⟨B21, 0, none⟩)), (2, .pointer (some ⟨B207, 0, none⟩)), (5, .pointer (some ⟨B223, 0, none⟩)), (7, .int .i64 (r215.Elems.length : Int)), (8, .pointer (some ⟨dI, 0, none⟩)), (10, .int .i64 (k4_382 : Int)), (12, .int .i64 (k5_436 : Int)), (86, .slice az r215.Right.length aA), (87, .int .i64 (r215.Right.length : Int)), (88, .int .i64 (k4_382 : Int))] hag ?_
     refine zq (zq (zr (zm rfl (zm rfl ?_))))
     by_cases Eo : (k5_436 : Int) < (r215.Elems.length : Int)
     ·replace H := ifp Eo H
      refine zo (fun w => opB (J08 rfl rfl w) (decide_eq_true Eo)) (zn (zt rfl rfl (zk (zq (zb ?_)))))
      refine Go1.drawS 1 [(0, .pure), (1, .stable), (2, .pure), (3, .pure), (4, .stable), (5, .pure), (6, .pure), (7, .stable), (8, .pure), (9, .stable), (10, .pure), (11, .pure), (12, .stable), (13, .pure), (14, .stable), (15, .pure), (16, .pure), (17, .stable), (18, .pure), (19, .stable), (20, .pure), (21, .stable), (22, .pure), (23, .stable), (24, .pure), (25, .pure), (26, .stable), (27, .pure), (28, .stable), (29, .pure), (30, .last)] mixed (by kernel_rfl) ?_
      intro aba Ri
      have qv := Stp.same hO Ri
      replace hO := qv.own
      refine GoQ.pure rfl (J00 Try.underlying33 rfl ti23 rfl (by decide)) rfl rfl ?_
      refine GoQ.stable rfl (oblk (i := 1) 1 hO rfl rfl Try.underlying23 rfl rfl) rfl rfl ?_
      refine GoQ.pure rfl (J03 rfl) rfl rfl ?_
      obtain ⟨Ep, H⟩ := H
      obtain ⟨Er, H⟩ := H
      refine GoQ.pure rfl (J02 Try.underlying23 ti31 rfl rfl Ep (ltn (t2neq 0 hO rfl) Er) (t2some 0 hO rfl Ep Er)) rfl rfl ?_
      refine GoQ.stable rfl (t2head 0 hO rfl Ep Er Try.underlying31 rfl rfl) rfl rfl ?_
      refine GoQ.pure rfl (J03 rfl) rfl rfl ?_
      refine GoQ.pure rfl (J00 Try.underlying123 rfl ti23 rfl (by decide)) rfl rfl ?_
      refine GoQ.stable rfl (oblk (i := 6) 5 hO rfl rfl Try.underlying23 rfl rfl) rfl rfl ?_
      refine GoQ.pure rfl (J00 Try.underlying33 rfl ti23 rfl (by decide)) rfl rfl ?_
      refine GoQ.stable rfl (oblk (i := 1) 1 hO rfl rfl Try.underlying23 rfl rfl) rfl rfl ?_
      refine GoQ.pure rfl (J03 rfl) rfl rfl ?_
      obtain ⟨AO, H⟩ := H
      obtain ⟨Et, H⟩ := H
      refine GoQ.pure rfl (J02 Try.underlying23 ti31 rfl rfl AO (ltn (t2neq 0 hO rfl) Et) (t2some 0 hO rfl AO Et)) rfl rfl ?_
      refine GoQ.stable rfl (t2head 0 hO rfl AO Et Try.underlying31 rfl rfl) rfl rfl ?_
      refine GoQ.pure rfl (J00 Try.underlying123 rfl ti31 rfl (by decide)) rfl rfl ?_
      refine GoQ.stable rfl (oblk (i := 4) 5 hO rfl rfl Try.underlying31 rfl rfl) rfl rfl ?_
      refine GoQ.pure rfl (J03 rfl) rfl rfl ?_
      obtain ⟨HS, H⟩ := H
      obtain ⟨HT, H⟩ := H
      replace aa := aa.ch qv.ch
      refine GoQ.pure rfl (J02 Try.underlying31 ti3 rfl rfl HS HT (aa.some_ HS HT)) rfl rfl ?_
      refine GoQ.stable rfl (ldInt aa HS HT Try.underlying3 rfl rfl) rfl rfl ?_
      obtain ⟨HU, H⟩ := H
      obtain ⟨HV, H⟩ := H
      refine GoQ.pure rfl (J02 Try.underlying31 ti3 rfl rfl HU HV (t2isome 0 hO rfl AO Et HU HV)) rfl rfl ?_
      refine GoQ.stable rfl (t2Int 0 hO rfl AO Et HU HV Try.underlying3 rfl rfl) rfl rfl ?_
      obtain ⟨HW, H⟩ := H
      obtain ⟨HX, H⟩ := H
      replace af := af.ch qv.ch
      refine GoQ.pure rfl (J02 Try.underlying23 ti31 rfl rfl HW HX (af.some_ HW HX)) rfl rfl ?_
      have zz := ldSl af HW HX
      obtain ⟨abb, abc, C4, Rj⟩ := zz
      refine GoQ.stable rfl (Rj Try.underlying31 rfl rfl) rfl rfl ?_
      refine GoQ.pure rfl (J00 Try.underlying123 rfl ti31 rfl (by decide)) rfl rfl ?_
      refine GoQ.stable rfl (oblk (i := 5) 5 hO rfl rfl Try.underlying31 rfl rfl) rfl rfl ?_
      refine GoQ.pure rfl (J03 rfl) rfl rfl ?_
      obtain ⟨HY, H⟩ := H
      obtain ⟨H0, H⟩ := H
      replace ai := ai.ch qv.ch
      refine GoQ.pure rfl (J02 Try.underlying31 ti3 rfl rfl HY H0 (ai.some_ HY H0)) rfl rfl ?_
      refine GoQ.stable rfl (ldInt ai HY H0 Try.underlying3 rfl rfl) rfl rfl ?_
      obtain ⟨H1, H⟩ := H
      obtain ⟨H2, H⟩ := H
      refine GoQ.pure rfl (J02 Try.underlying31 ti3 rfl rfl H1 H2 (C4.some_ H1 H2)) rfl rfl ?_
      refine GoQ.stable rfl (ldInt C4 H1 H2 Try.underlying3 rfl rfl) rfl rfl ?_
      obtain ⟨H3, H⟩ := H
      obtain ⟨H4, H⟩ := H
      refine GoQ.pure rfl (J02 Try.underlying31 ti3 rfl rfl H3 H4 (t2isome 0 hO rfl Ep Er H3 H4)) rfl rfl ?_
      have zz := t2st (r := Rp.int .i64) (hf := (Fl.int .i64)) rfl 0 hO rfl Ep Er H3 H4 (v := .int .i64 (ix (ix r215.Right (ix (ix d_437 (k4_382 : Int)) (ix r215.Prefix (k5_436 : Int)))) (ix r215.Last (k5_436 : Int)))) (u := (ix (ix r215.Right (ix (ix d_437 (k4_382 : Int)) (ix r215.Prefix (k5_436 : Int)))) (ix r215.Last (k5_436 : Int)))) rfl rfl
      obtain ⟨abd, nH, MQ⟩ := zz
      dsimp only [sS, sZ] at nH
      refine GoQ.last rfl (MQ Try.underlying3 rfl ti3 (by exact rfl) (by exact rfl)) rfl rfl ?_
      replace hO := nH.own
      refine GoQ.nil ?_
      refine Go1.inBlock ?_
      refine Go1.cut [(0, .pointer (some ⟨B21, 0, none⟩)), (2, .pointer (some ⟨B207, 0, none⟩)), (5, .pointer (some ⟨B223, 0, none⟩)), (7, .int .i64 (r215.Elems.length : Int)), (8, .pointer (some ⟨dI, 0, none⟩)), (10, .int .i64 (k4_382 : Int)), (12, .int .i64 (k5_436 : Int)), (86, .slice az r215.Right.length aA), (87, .int .i64 (r215.Right.length : Int)), (88, .int .i64 (k4_382 : Int))] ⟨rfl, rfl, rfl, rfl, rfl, rfl, rfl, rfl, rfl, rfl, trivial⟩ ?_
      intro σ _
      refine zr (zm rfl ?_)
      replace ag := (ag.ch qv.ch).ch nH.ch
      refine zo (J0e rfl rfl (wrap_i64 (natbd Eo ag.bd))) (za rfl (zn ?_))
      replace aa := aa.ch nH.ch
      replace ai := ai.ch nH.ch
      replace af := af.ch nH.ch
      have Z30 := qv.ch.trans nH.ch
      replace dC := dC.ch Z30
      replace bw := bw.ch Z30
      replace aY := aY.ch Z30
      replace aD := aD.ch Z30
      replace a9 := a9.ch Z30
      replace aj := aj.ch Z30
      replace ah := ah.ch Z30
      replace hB := (hB.trans qv.fr).trans nH.fr
      exact hX5 _ H _ _ ⟨⟨rfl, rfl, rfl, rfl, rfl, rfl, rfl, rfl, rfl, rfl, trivial⟩, hO, dC, bw, aY, aD, a9, aj, ag, aa, ai, af, ah, hB⟩
     replace H := ifn Eo H
     refine zo (fun w => opB (J08 rfl rfl w) (decide_eq_false Eo)) (zn (zf rfl rfl ?_))
     refine Go1.exit rfl ?_
     refine Go1.inBlock ?_
     refine zr (zo (J0e rfl rfl (wrap_i64 (natbd Cm af.bd))) (zm rfl (zn ?_)))
     have oK := Stp.front 9 hO rfl
     dsimp only [eS, eZ] at oK
     replace hO := oK.own
     have oL := Stp.front 9 hO rfl
     dsimp only [eS, eZ] at oL
     replace hO := oL.own
     have oM := Stp.front 9 hO rfl
     dsimp only [eS, eZ] at oM
     replace hO := oM.own
     have i4 := Stp.front 9 hO rfl
     dsimp only [eS, eZ] at i4
     replace hO := i4.own
     have oN := Stp.front 9 hO rfl
     dsimp only [eS, eZ] at oN
     replace hO := oN.own
     have oO := Stp.front 9 hO rfl
     dsimp only [eS, eZ] at oO
     replace hO := oO.own
     have fT := Stp.front 6 hO rfl
     dsimp only [eS, eZ] at fT
     replace hO := fT.own
     have oP := Stp.front 9 hO rfl
     dsimp only [eS, eZ] at oP
     replace hO := oP.own
     have oQ := Stp.front 9 hO rfl
     dsimp only [eS, eZ] at oQ
     replace hO := oQ.own
     have oR := Stp.front 9 hO rfl
     dsimp only [eS, eZ] at oR
     replace hO := oR.own
     have Z31 := ((((((((oK.ch.trans oL.ch).trans oM.ch).trans i4.ch).trans oN.ch).trans oO.ch).trans fT.ch).trans oP.ch).trans oQ.ch).trans oR.ch
     replace dC := dC.ch Z31
     replace bw := bw.ch Z31
     replace aY := aY.ch Z31
     replace aD := aD.ch Z31
     replace a9 := a9.ch Z31
     replace aj := aj.ch Z31
     replace ag := ag.ch Z31
     replace aa := aa.ch Z31
     replace ai := ai.ch Z31
     replace af := af.ch Z31
     replace ah := ah.ch Z31
     replace hB := (((((((((hB.trans oK.fr).trans oL.fr).trans oM.fr).trans i4.fr).trans oN.fr).trans oO.fr).trans fT.fr).trans oP.fr).trans oQ.fr).trans oR.fr
     exact hX4 _ H _ _ ⟨ov, hup d9 (k4_382 : Int).toNat (u6, r215.Elems.length), ⟨rfl, rfl, rfl, rfl, rfl, rfl, rfl, rfl, trivial⟩, hO, dC, bw, aY, aD, a9, aj, ag, aa, ai, af, ah, hB⟩
    replace H := ifn h400 H
    refine GoQ.stable rfl (fun w hw => opB ((oldBool 1 hO rfl cU yO yP Try.underlying4 rfl rfl) w hw) (Bool.eq_false_iff.2 h400)) rfl rfl ?_
    refine GoQ.pure rfl (J03 rfl) rfl rfl ?_
    refine GoQ.pure rfl (J03 rfl) rfl rfl ?_
    replace io := io.ch oI.ch
    refine GoQ.call rfl (J0a body102 rfl (J2k hO.lt io H)) (fun v w hr => by obtain ⟨_, _, hs, _⟩ := hr; assumption) rfl rfl ?_
    rintro abe abf ⟨r475, rfl, Rk, H⟩
    have fU := Stp.same hO Rk
    replace hO := fU.own
    refine GoQ.pure rfl (J05 rfl rfl rfl) rfl rfl ?_
    obtain ⟨H5, H⟩ := H
    obtain ⟨H6, H⟩ := H
    replace cU := cU.ch fU.ch
    refine GoQ.pure rfl (J02 Try.underlying22 ti4 rfl rfl H5 (ltn (cU.neq hO 1 rfl) H6) (cU.psome hO 1 rfl H5 H6)) rfl rfl ?_
    have zz := ost (r := Rp.bool) rfl 1 hO rfl cU H5 H6 (v := .bool r475) (u := r475) rfl rfl
    obtain ⟨abg, rK, oS, f7, MR⟩ := zz
    dsimp only [sS, sZ] at oS f7
    refine GoQ.last rfl (MR Try.underlying4 rfl ti4 (by exact rfl) (by exact rfl)) rfl rfl ?_
    replace hO := oS.own
    refine GoQ.nil ?_
    refine zq ?_
    refine Go1.drawS 1 [(0, .pure), (1, .stable), (2, .pure), (3, .pure), (4, .loud), (5, .pure), (6, .last)] mixed (by kernel_rfl) ?_
    intro TJ Rl
    have oT := Stp.same hO Rl
    replace hO := oT.own
    refine GoQ.pure rfl (J00 Try.underlying33 rfl ti23 rfl (by decide)) rfl rfl ?_
    refine GoQ.stable rfl (oblk (i := 1) 0 hO rfl rfl Try.underlying23 rfl rfl) rfl rfl ?_
    refine GoQ.pure rfl (J03 rfl) rfl rfl ?_
    refine GoQ.pure rfl (J03 rfl) rfl rfl ?_
    obtain ⟨UD, H⟩ := H
    obtain ⟨UE, H⟩ := H
    have zz := omake (n := (r215.Elems.length : Int)) (r := Rp.int .i64) (d := (0 : Int)) Try.underlying31 ti3 (fun _ _ => rfl) rfl hO UD UE (by decide)
    obtain ⟨KX, uG, V6, oU, BK, Rm, MS⟩ := zz
    refine GoQ.loud rfl (MS rfl rfl) Rm rfl rfl ?_
    replace hO := oU.own
    obtain ⟨AP, H⟩ := H
    obtain ⟨H7, H⟩ := H
    refine GoQ.pure rfl (J02 Try.underlying23 ti31 rfl rfl AP (ltn (t2neq 4 hO rfl) H7) (t2some 4 hO rfl AP H7)) rfl rfl ?_
    have mY := Stp.front 4 hO rfl
    dsimp only [eS, eZ] at mY
    replace hO := mY.own
    have fM := Stp.front 1 hO rfl
    dsimp only [eS, eZ] at fM
    replace hO := fM.own
    replace BK := (BK.ch mY.ch).ch fM.ch
    have zz := t2put (hf := (Fl.int .i64)) hO BK AP H7
    obtain ⟨TL, oV, MT⟩ := zz
    refine GoQ.last rfl (MT Try.underlying31 rfl ti31 (by exact rfl) (by exact rfl)) rfl rfl ?_
    replace hO := oV.own
    refine GoQ.nil ?_
    refine zq (zr (zo (J00 Try.underlying33 rfl ti23 rfl (by decide)) (zs (oblk (i := 1) 1 hO rfl rfl Try.underlying23 rfl rfl) (zm rfl ?_))))
    obtain ⟨Eu, H⟩ := H
    obtain ⟨Ev, H⟩ := H
    refine zo (J02 Try.underlying23 ti31 rfl rfl Eu (ltn (t2neq 0 hO rfl) Ev) (t2some 0 hO rfl Eu Ev)) (zs (t2head 0 hO rfl Eu Ev Try.underlying31 rfl rfl) (zm rfl ?_))
    obtain ⟨H8, H⟩ := H
    obtain ⟨H9, H⟩ := H
    refine zo (J02 Try.underlying31 ti3 rfl rfl H8 H9 (t2isome 0 hO rfl Eu Ev H8 H9)) ?_
    have zz := t2st (r := Rp.int .i64) (hf := (Fl.int .i64)) rfl 0 hO rfl Eu Ev H8 H9 (v := .int .i64 (k4_382 : Int)) (u := (k4_382 : Int)) rfl rfl
    obtain ⟨abh, nI, MU⟩ := zz
    dsimp only [sS, sZ] at nI
    refine zg (MU Try.underlying3 rfl ti3 (by exact rfl) (by exact rfl)) ?_
    replace hO := nI.own
    refine zn (zq ?_)
    refine Go1.cut [(0, .pointer (some ⟨B21, 0, none⟩)), (2, .pointer (some ⟨B207, 0, none⟩)), (5, .pointer (some ⟨B223, 0, none⟩)), (7, .int .i64 (r215.Elems.length : Int)), (8, .pointer (some ⟨dI, 0, none⟩)), (10, .int .i64 (k4_382 : Int)), (86, .slice az r215.Right.length aA), (87, .int .i64 (r215.Right.length : Int)), (88, .int .i64 (k4_382 : Int))] ⟨rfl, rfl, rfl, rfl, rfl, rfl, rfl, rfl, rfl, trivial⟩ ?_
    intro σ _
    refine zr (za rfl (zn (zb ?_)))
    have Z32 := ((((oT.ch.trans oU.ch).trans mY.ch).trans fM.ch).trans oV.ch).trans nI.ch
    replace f7 := f7.ch Z32
    have Z33 := (((((((oI.ch.trans fU.ch).trans oS.ch).trans oT.ch).trans oU.ch).trans mY.ch).trans fM.ch).trans oV.ch).trans nI.ch
    replace bw := bw.ch Z33
    replace aY := aY.ch Z33
    replace aD := aD.ch Z33
    replace a9 := a9.ch Z33
    replace aj := aj.ch Z33
    replace ag := ag.ch Z33
    replace aa := aa.ch Z33
    replace ai := ai.ch Z33
    replace af := af.ch Z33
    replace ah := ah.ch Z33
    replace hB := ((((((((hB.trans oI.fr).trans fU.fr).trans oS.fr).trans oT.fr).trans oU.fr).trans mY.fr).trans fM.fr).trans oV.fr).trans nI.fr
    refine Go1.loopW (S := Nat × List (List Int)) (fun s σ w => match s with | (k6_516, d_517) => agrees σ [(0, .pointer (some ⟨B21, 0, none⟩)), (2, .pointer (some ⟨B207, 0, none⟩)), (5, .pointer (some ⟨B223, 0, none⟩)), (7, .int .i64 (r215.Elems.length : Int)), (8, .pointer (some ⟨dI, 0, none⟩)), (10, .int .i64 (k4_382 : Int)), (12, .int .i64 (k6_516 : Int)), (86, .slice az r215.Right.length aA), (87, .int .i64 (r215.Right.length : Int)), (88, .int .i64 (k4_382 : Int))] ∧ (fun Z0 => Owns w0.heap.size w Z0 A ∧ Els (Rp.bool) (bl Z0 ++ A) w rK (st d_383 (0 : Int) r475) ∧ Els (Rp.str) (bl Z0 ++ A) w dg d_343 ∧ Els (Rp.int .i64) (bl Z0 ++ A) w bU r262 ∧ Els (rppart) (bl Z0 ++ A) w cW ((([] : List part)) ++ ([(⟨((0 : Int) + r26.Start), r26.Final, (0 : Int)⟩ : part)])) ∧ ISl (Rp.sl (Rp.int .i64)) (bl Z0 ++ A) w p45 r26.Letters.toNat d_60 ∧ ISl (Rp.sl (Rp.int .i64)) (bl Z0 ++ A) w aR aS r215.Gens ∧ ISl (Rp.sl (Rp.int .i64)) (bl Z0 ++ A) w aF aG r215.Elems ∧ ISl (Rp.int .i64) (bl Z0 ++ A) w aB aC r215.Prefix ∧ ISl (Rp.int .i64) (bl Z0 ++ A) w aT aU r215.Last ∧ ISl (Rp.sl (Rp.int .i64)) (bl Z0 ++ A) w az aA r215.Right ∧ ISl (rpRule) (bl Z0 ++ A) w aK aL r215.Rules ∧ Fr (bl []) w0 (bl Z0) w) [t2 (Fl.int .i64) 31 3 (some ⟨bA, 0, none⟩) r215.Elems.length r215.Elems.length (hup d9 (k4_382 : Int).toNat (uG, r215.Elems.length)) d_517, .blk dI (.cells #[.int .i64 (d_60.length : Int), .slice (some ⟨bA, 0, none⟩) r215.Elems.length r215.Elems.length, .slice (some ⟨bD, 0, none⟩) r215.Elems.length r215.Elems.length, .slice aM aO aN, .slice none 0 0, .slice (some ⟨bE, 0, none⟩) r215.Elems.length r215.Elems.length] 33 (0, 0)), .row 4 1 (some ⟨bE, 0, none⟩) r215.Elems.length r215.Elems.length rK, .row 9 1 (some ⟨bD, 0, none⟩) r215.Elems.length r215.Elems.length dg, .row 3 1 aM aO aN bU, .blk B223 (.cells #[.int .i64 r215.Points, .bool r215.Monoid, .slice aR r215.Gens.length aS, .slice aF r215.Elems.length aG, .slice aB r215.Prefix.length aC, .slice aT r215.Last.length aU, .slice az r215.Right.length aA, .slice aK r215.Rules.length aL, .int .i64 r215.Done] 123 (0, 0)), .blk B207 (.cells #[.int .i64 0, .slice none 0 0, .slice none 0 0, .slice none 0 0, .slice none 0 0, .slice none 0 0] 33 (0, 0)), .row 120 3 cj (0 + 1) ck cW, .blk B21 (.cells #[.slice p45 r26.Letters.toNat r26.Letters.toNat, .slice cj (0 + 1) ck, .int .i64 ((0 : Int) + (r26.Final.length : Int))] 83 (0, 0)), .blk B8 (.cells #[.int .i64 0, .slice none 0 0, .slice none 0 0, .slice none 0 0, .slice none 0 0, .slice none 0 0] 33 (0, 0))]) H ⟨⟨rfl, rfl, rfl, rfl, rfl, rfl, rfl, rfl, rfl, rfl, trivial⟩, hO, f7, bw, aY, aD, a9, aj, ag, aa, ai, af, ah, hB⟩ ?_
    intro X6
    refine prE fun k6_516 => fun d_517 => ?_
    intro H hX6 σ abi
    refine andE fun hag => andE fun hO => andE fun f7 => andE fun bw => andE fun aY => andE fun aD => andE fun a9 => andE fun aj => andE fun ag => andE fun aa => andE fun ai => andE fun af => andE fun ah => fun hB => ?_
    dsimp only at H
    refine Go1.keep [(0, .pointer (some ⟨B21, 0, none⟩)), (2, .pointer (some ⟨B207, 0, none⟩)), (5, .pointer (some ⟨B223, 0, none⟩)), (7, .int .i64 (r215.Elems.length : Int)), (8, .pointer (some ⟨dI, 0, none⟩)), (10, .int .i64 (k4_382 : Int)), (12, .int .i64 (k6_516 : Int)), (86, .slice az r215.Right.length aA), (87, .int .i64 (r215.Right.length : Int)), (88, .int .i64 (k4_382 : Int))] hag ?_
    refine zq (zq (zr (zm rfl (zm rfl ?_))))
    by_cases Ew : (k6_516 : Int) < (r215.Elems.length : Int)
    ·replace H := ifp Ew H
     refine zo (fun w => opB (J08 rfl rfl w) (decide_eq_true Ew)) (zn (zt rfl rfl (zk (zq (zb ?_)))))
     refine Go1.drawS 1 [(0, .pure), (1, .stable), (2, .pure), (3, .pure), (4, .stable), (5, .pure), (6, .pure), (7, .stable), (8, .pure), (9, .stable), (10, .pure), (11, .pure), (12, .stable), (13, .pure), (14, .stable), (15, .pure), (16, .pure), (17, .stable), (18, .pure), (19, .stable), (20, .pure), (21, .stable), (22, .pure), (23, .stable), (24, .pure), (25, .pure), (26, .stable), (27, .pure), (28, .stable), (29, .pure), (30, .last)] mixed (by kernel_rfl) ?_
     intro abj Jo
     have qw := Stp.same hO Jo
     replace hO := qw.own
     refine GoQ.pure rfl (J00 Try.underlying33 rfl ti23 rfl (by decide)) rfl rfl ?_
     refine GoQ.stable rfl (oblk (i := 1) 1 hO rfl rfl Try.underlying23 rfl rfl) rfl rfl ?_
     refine GoQ.pure rfl (J03 rfl) rfl rfl ?_
     obtain ⟨Ex, H⟩ := H
     obtain ⟨Ey, H⟩ := H
     refine GoQ.pure rfl (J02 Try.underlying23 ti31 rfl rfl Ex (ltn (t2neq 0 hO rfl) Ey) (t2some 0 hO rfl Ex Ey)) rfl rfl ?_
     refine GoQ.stable rfl (t2head 0 hO rfl Ex Ey Try.underlying31 rfl rfl) rfl rfl ?_
     refine GoQ.pure rfl (J03 rfl) rfl rfl ?_
     refine GoQ.pure rfl (J00 Try.underlying123 rfl ti23 rfl (by decide)) rfl rfl ?_
     refine GoQ.stable rfl (oblk (i := 6) 5 hO rfl rfl Try.underlying23 rfl rfl) rfl rfl ?_
     refine GoQ.pure rfl (J00 Try.underlying33 rfl ti23 rfl (by decide)) rfl rfl ?_
     refine GoQ.stable rfl (oblk (i := 1) 1 hO rfl rfl Try.underlying23 rfl rfl) rfl rfl ?_
     refine GoQ.pure rfl (J03 rfl) rfl rfl ?_
     obtain ⟨Ez, H⟩ := H
     obtain ⟨EA, H⟩ := H
     refine GoQ.pure rfl (J02 Try.underlying23 ti31 rfl rfl Ez (ltn (t2neq 0 hO rfl) EA) (t2some 0 hO rfl Ez EA)) rfl rfl ?_
     refine GoQ.stable rfl (t2head 0 hO rfl Ez EA Try.underlying31 rfl rfl) rfl rfl ?_
     refine GoQ.pure rfl (J00 Try.underlying123 rfl ti31 rfl (by decide)) rfl rfl ?_
     refine GoQ.stable rfl (oblk (i := 4) 5 hO rfl rfl Try.underlying31 rfl rfl) rfl rfl ?_
     refine GoQ.pure rfl (J03 rfl) rfl rfl ?_
     obtain ⟨Ia, H⟩ := H
     obtain ⟨Ib, H⟩ := H
     replace aa := aa.ch qw.ch
     refine GoQ.pure rfl (J02 Try.underlying31 ti3 rfl rfl Ia Ib (aa.some_ Ia Ib)) rfl rfl ?_
     refine GoQ.stable rfl (ldInt aa Ia Ib Try.underlying3 rfl rfl) rfl rfl ?_
     obtain ⟨Ic, H⟩ := H
     obtain ⟨DX, H⟩ := H
     refine GoQ.pure rfl (J02 Try.underlying31 ti3 rfl rfl Ic DX (t2isome 0 hO rfl Ez EA Ic DX)) rfl rfl ?_
     refine GoQ.stable rfl (t2Int 0 hO rfl Ez EA Ic DX Try.underlying3 rfl rfl) rfl rfl ?_
     obtain ⟨Id, H⟩ := H
     obtain ⟨Ie, H⟩ := H
     replace af := af.ch qw.ch
     refine GoQ.pure rfl (J02 Try.underlying23 ti31 rfl rfl Id Ie (af.some_ Id Ie)) rfl rfl ?_
     have zz := ldSl af Id Ie
     obtain ⟨abk, abl, C5, Rn⟩ := zz
     refine GoQ.stable rfl (Rn Try.underlying31 rfl rfl) rfl rfl ?_
     refine GoQ.pure rfl (J00 Try.underlying123 rfl ti31 rfl (by decide)) rfl rfl ?_
     refine GoQ.stable rfl (oblk (i := 5) 5 hO rfl rfl Try.underlying31 rfl rfl) rfl rfl ?_
     refine GoQ.pure rfl (J03 rfl) rfl rfl ?_
     obtain ⟨Ig, H⟩ := H
     obtain ⟨Ih, H⟩ := H
     replace ai := ai.ch qw.ch
     refine GoQ.pure rfl (J02 Try.underlying31 ti3 rfl rfl Ig Ih (ai.some_ Ig Ih)) rfl rfl ?_
     refine GoQ.stable rfl (ldInt ai Ig Ih Try.underlying3 rfl rfl) rfl rfl ?_
     obtain ⟨Ii, H⟩ := H
     obtain ⟨Ij, H⟩ := H
     refine GoQ.pure rfl (J02 Try.underlying31 ti3 rfl rfl Ii Ij (C5.some_ Ii Ij)) rfl rfl ?_
     refine GoQ.stable rfl (ldInt C5 Ii Ij Try.underlying3 rfl rfl) rfl rfl ?_
     obtain ⟨Ik, H⟩ := H
     obtain ⟨Il, H⟩ := H
     refine GoQ.pure rfl (J02 Try.underlying31 ti3 rfl rfl Ik Il (t2isome 0 hO rfl Ex Ey Ik Il)) rfl rfl ?_
     have zz := t2st (r := Rp.int .i64) (hf := (Fl.int .i64)) rfl 0 hO rfl Ex Ey Ik Il (v := .int .i64 (ix (ix r215.Right (ix (ix d_517 (k4_382 : Int)) (ix r215.Prefix (k6_516 : Int)))) (ix r215.Last (k6_516 : Int)))) (u := (ix (ix r215.Right (ix (ix d_517 (k4_382 : Int)) (ix r215.Prefix (k6_516 : Int)))) (ix r215.Last (k6_516 : Int)))) rfl rfl
     obtain ⟨abm, nJ, MV⟩ := zz
     dsimp only [sS, sZ] at nJ
     refine GoQ.last rfl (MV Try.underlying3 rfl ti3 (by exact rfl) (by exact rfl)) rfl rfl ?_
     replace hO := nJ.own
     refine GoQ.nil ?_
     refine Go1.inBlock ?_
     refine Go1.cut [(0, .pointer (some ⟨B21, 0, none⟩)), (2, .pointer (some ⟨B207, 0, none⟩)), (5, .pointer (some ⟨B223, 0, none⟩)), (7, .int .i64 (r215.Elems.length : Int)), (8, .pointer (some ⟨dI, 0, none⟩)), (10, .int .i64 (k4_382 : Int)), (12, .int .i64 (k6_516 : Int)), (86, .slice az r215.Right.length aA), (87, .int .i64 (r215.Right.length : Int)), (88, .int .i64 (k4_382 : Int))] ⟨rfl, rfl, rfl, rfl, rfl, rfl, rfl, rfl, rfl, rfl, trivial⟩ ?_
     intro σ _
     refine zr (zm rfl ?_)
     replace ag := (ag.ch qw.ch).ch nJ.ch
     refine zo (J0e rfl rfl (wrap_i64 (natbd Ew ag.bd))) (za rfl (zn ?_))
     replace aa := aa.ch nJ.ch
     replace ai := ai.ch nJ.ch
     replace af := af.ch nJ.ch
     have Z34 := qw.ch.trans nJ.ch
     replace f7 := f7.ch Z34
     replace bw := bw.ch Z34
     replace aY := aY.ch Z34
     replace aD := aD.ch Z34
     replace a9 := a9.ch Z34
     replace aj := aj.ch Z34
     replace ah := ah.ch Z34
     replace hB := (hB.trans qw.fr).trans nJ.fr
     exact hX6 _ H _ _ ⟨⟨rfl, rfl, rfl, rfl, rfl, rfl, rfl, rfl, rfl, rfl, trivial⟩, hO, f7, bw, aY, aD, a9, aj, ag, aa, ai, af, ah, hB⟩
    replace H := ifn Ew H
    refine zo (fun w => opB (J08 rfl rfl w) (decide_eq_false Ew)) (zn (zf rfl rfl ?_))
    refine Go1.exit rfl ?_
    refine Go1.inBlock ?_
    refine zr (zo (J0e rfl rfl (wrap_i64 (natbd Cm af.bd))) (zm rfl (zn ?_)))
    have gA := Stp.front 9 hO rfl
    dsimp only [eS, eZ] at gA
    replace hO := gA.own
    have oW := Stp.front 9 hO rfl
    dsimp only [eS, eZ] at oW
    replace hO := oW.own
    have oX := Stp.front 9 hO rfl
    dsimp only [eS, eZ] at oX
    replace hO := oX.own
    have oY := Stp.front 9 hO rfl
    dsimp only [eS, eZ] at oY
    replace hO := oY.own
    have o3 := Stp.front 9 hO rfl
    dsimp only [eS, eZ] at o3
    replace hO := o3.own
    have o4 := Stp.front 9 hO rfl
    dsimp only [eS, eZ] at o4
    replace hO := o4.own
    have o5 := Stp.front 6 hO rfl
    dsimp only [eS, eZ] at o5
    replace hO := o5.own
    have o6 := Stp.front 9 hO rfl
    dsimp only [eS, eZ] at o6
    replace hO := o6.own
    have o7 := Stp.front 9 hO rfl
    dsimp only [eS, eZ] at o7
    replace hO := o7.own
    have o8 := Stp.front 9 hO rfl
    dsimp only [eS, eZ] at o8
    replace hO := o8.own
    have Z35 := ((((((((gA.ch.trans oW.ch).trans oX.ch).trans oY.ch).trans o3.ch).trans o4.ch).trans o5.ch).trans o6.ch).trans o7.ch).trans o8.ch
    replace f7 := f7.ch Z35
    replace bw := bw.ch Z35
    replace aY := aY.ch Z35
    replace aD := aD.ch Z35
    replace a9 := a9.ch Z35
    replace aj := aj.ch Z35
    replace ag := ag.ch Z35
    replace aa := aa.ch Z35
    replace ai := ai.ch Z35
    replace af := af.ch Z35
    replace ah := ah.ch Z35
    replace hB := (((((((((hB.trans gA.fr).trans oW.fr).trans oX.fr).trans oY.fr).trans o3.fr).trans o4.fr).trans o5.fr).trans o6.fr).trans o7.fr).trans o8.fr
    exact hX4 _ H _ _ ⟨rK, hup d9 (k4_382 : Int).toNat (uG, r215.Elems.length), ⟨rfl, rfl, rfl, rfl, rfl, rfl, rfl, rfl, trivial⟩, hO, f7, bw, aY, aD, a9, aj, ag, aa, ai, af, ah, hB⟩
   replace H := ifn Cm H
   refine zo (fun w => opB (J08 rfl rfl w) (decide_eq_false Cm)) (zn (zq (zf rfl rfl ?_)))
   refine Go1.exit rfl ?_
   refine zq (zr (zm rfl (zo (J01 rfl) (zo (J00 Try.underlying83 rfl ti81 rfl (by decide)) (zs (oblk (i := 1) 8 hO rfl rfl Try.underlying81 rfl rfl) ?_)))))
   refine zo (J0A Try.underlying81 rfl (aD.neq hO 7 rfl)) ?_
   obtain ⟨UF, H⟩ := H
   obtain ⟨UG, H⟩ := H
   have zz := t2makeS (m := (((([] : List part)) ++ ([(⟨((0 : Int) + r26.Start), r26.Final, (0 : Int)⟩ : part)])).length : Int)) (e' := 4) Fl.bool Try.underlying40 ti22 hO UF UG (by decide)
   obtain ⟨abn, j3, qz, V7, MW, hz565⟩ := zz
   refine zg (MW rfl rfl) ?_
   replace hO := qz.own
   refine za rfl (zn (zq (zq (zr (zm rfl ?_)))))
   refine zo (J01 rfl) (zo (J00 Try.underlying83 rfl ti81 rfl (by decide)) (zs (oblk (i := 1) 9 hO rfl rfl Try.underlying81 rfl rfl) ?_))
   replace aD := aD.ch qz.ch
   refine zo (J0A Try.underlying81 rfl (aD.neq hO 8 rfl)) (zm rfl (zn (zb ?_)))
   replace hO := hO.drop 9
   replace aD := aD.ch (Owns.J06 _ _ 9)
   have Z36 := qz.ch.trans (Owns.J06 _ _ 9)
   replace cU := cU.ch Z36
   replace bw := bw.ch Z36
   replace aY := aY.ch Z36
   replace a9 := a9.ch Z36
   replace aj := aj.ch Z36
   replace ag := ag.ch Z36
   replace aa := aa.ch Z36
   replace ai := ai.ch Z36
   replace af := af.ch Z36
   replace ah := ah.ch Z36
   replace hB := (hB.trans qz.fr).trans (Owns.J09 _ _ 9)
   dsimp only [eS, eZ] at hB hO a9 aj ag aa ai af ah cU bw aY aD
   refine Go1.loopW (S := Nat × List (List Bool)) (fun s σ w => match s with | (k7_567, d_568) => ∃ (f8 : Hd), agrees σ [(2, .pointer (some ⟨B207, 0, none⟩)), (5, .pointer (some ⟨B223, 0, none⟩)), (7, .int .i64 (r215.Elems.length : Int)), (8, .pointer (some ⟨dI, 0, none⟩)), (13, .slice j3 (((([] : List part)) ++ ([(⟨((0 : Int) + r26.Start), r26.Final, (0 : Int)⟩ : part)])).length) (((([] : List part)) ++ ([(⟨((0 : Int) + r26.Start), r26.Final, (0 : Int)⟩ : part)])).length)), (162, .slice cj (0 + 1) ck), (163, .int .i64 (((([] : List part)) ++ ([(⟨((0 : Int) + r26.Start), r26.Final, (0 : Int)⟩ : part)])).length : Int)), (164, .int .i64 (k7_567 : Int))] ∧ (fun Z0 => Owns w0.heap.size w Z0 A ∧ Els (Rp.bool) (bl Z0 ++ A) w fW d_383 ∧ Els (Rp.str) (bl Z0 ++ A) w dg d_343 ∧ Els (Rp.int .i64) (bl Z0 ++ A) w bU r262 ∧ Els (rppart) (bl Z0 ++ A) w cW ((([] : List part)) ++ ([(⟨((0 : Int) + r26.Start), r26.Final, (0 : Int)⟩ : part)])) ∧ ISl (Rp.sl (Rp.int .i64)) (bl Z0 ++ A) w aR aS r215.Gens ∧ ISl (Rp.sl (Rp.int .i64)) (bl Z0 ++ A) w aF aG r215.Elems ∧ ISl (Rp.int .i64) (bl Z0 ++ A) w aB aC r215.Prefix ∧ ISl (Rp.int .i64) (bl Z0 ++ A) w aT aU r215.Last ∧ ISl (Rp.sl (Rp.int .i64)) (bl Z0 ++ A) w az aA r215.Right ∧ ISl (rpRule) (bl Z0 ++ A) w aK aL r215.Rules ∧ Fr (bl []) w0 (bl Z0) w) [t2 Fl.bool 22 4 j3 (((([] : List part)) ++ ([(⟨((0 : Int) + r26.Start), r26.Final, (0 : Int)⟩ : part)])).length) (((([] : List part)) ++ ([(⟨((0 : Int) + r26.Start), r26.Final, (0 : Int)⟩ : part)])).length) f8 d_568, .blk dI (.cells #[.int .i64 (d_60.length : Int), .slice (some ⟨bA, 0, none⟩) r215.Elems.length r215.Elems.length, .slice (some ⟨bD, 0, none⟩) r215.Elems.length r215.Elems.length, .slice aM aO aN, .slice none 0 0, .slice (some ⟨bE, 0, none⟩) r215.Elems.length r215.Elems.length] 33 (0, 0)), .row 4 1 (some ⟨bE, 0, none⟩) r215.Elems.length r215.Elems.length fW, .row 9 1 (some ⟨bD, 0, none⟩) r215.Elems.length r215.Elems.length dg, t2 (Fl.int .i64) 31 3 (some ⟨bA, 0, none⟩) r215.Elems.length r215.Elems.length d9 d_386, .row 3 1 aM aO aN bU, .blk B223 (.cells #[.int .i64 r215.Points, .bool r215.Monoid, .slice aR r215.Gens.length aS, .slice aF r215.Elems.length aG, .slice aB r215.Prefix.length aC, .slice aT r215.Last.length aU, .slice az r215.Right.length aA, .slice aK r215.Rules.length aL, .int .i64 r215.Done] 123 (0, 0)), .blk B207 (.cells #[.int .i64 0, .slice none 0 0, .slice none 0 0, .slice none 0 0, .slice none 0 0, .slice none 0 0] 33 (0, 0)), .row 120 3 cj (0 + 1) ck cW, .blk B8 (.cells #[.int .i64 0, .slice none 0 0, .slice none 0 0, .slice none 0 0, .slice none 0 0, .slice none 0 0] 33 (0, 0))]) H ⟨(fun _ => (none, 0)), ⟨rfl, rfl, rfl, rfl, rfl, rfl, rfl, rfl, trivial⟩, hO, cU, bw, aY, aD, aj, ag, aa, ai, af, ah, hB⟩ ?_
   intro X7
   refine prE fun k7_567 => fun d_568 => ?_
   intro H hX7 σ abo
   refine exE fun f8 => andE fun hag => andE fun hO => andE fun cU => andE fun bw => andE fun aY => andE fun aD => andE fun aj => andE fun ag => andE fun aa => andE fun ai => andE fun af => andE fun ah => fun hB => ?_
   dsimp only at H
   refine Go1.keep [(2, .pointer (some ⟨B207, 0, none⟩)), (5, .pointer (some ⟨B223, 0, none⟩)), (7, .int .i64 (r215.Elems.length : Int)), (8, .pointer (some ⟨dI, 0, none⟩)), (13, .slice j3 (((([] : List part)) ++ ([(⟨((0 : Int) + r26.Start), r26.Final, (0 : Int)⟩ : part)])).length) (((([] : List part)) ++ ([(⟨((0 : Int) + r26.Start), r26.Final, (0 : Int)⟩ : part)])).length)), (162, .slice cj (0 + 1) ck), (163, .int .i64 (((([] : List part)) ++ ([(⟨((0 : Int) + r26.Start), r26.Final, (0 : Int)⟩ : part)])).length : Int)), (164, .int .i64 (k7_567 : Int))] hag ?_
   refine zq (zr ?_)
   by_cases EB : (k7_567 : Int) < (((([] : List part)) ++ ([(⟨((0 : Int) + r26.Start), r26.Final, (0 : Int)⟩ : part)])).length : Int)
   ·replace H := ifp EB H
    refine zo (fun w => opB (J08 rfl rfl w) (decide_eq_true EB)) (zn (zq (zt rfl rfl (zk (zq ?_)))))
    refine zb (zq (zr (zm rfl ?_)))
    obtain ⟨Im, H⟩ := H
    obtain ⟨Io, H⟩ := H
    refine zo (J02 Try.underlying81 ti120 rfl rfl Im (ltn (aD.neq hO 8 rfl) Io) (aD.psome hO 8 rfl Im Io)) ?_
    have Ro := oldAggR 8 hO rfl (r := rppart) aD Im Io
    obtain ⟨V8, Rq, hR576, MX⟩ := Ro
    replace hR576 := J6b Rq hR576
    obtain ⟨tF, tG, hcs578, jT⟩ := hR576
    subst hcs578
    refine zs (MX Try.underlying120 rfl ti120 rfl) ?_
    have zz := oalloc (t := 120) (cs := #[.int .i64 0, .slice none 0 0, .int .i64 0]) ti120 hO rfl
    obtain ⟨abp, B583, qA, V9, MY⟩ := zz
    refine GoR.op MY rfl rfl ?_
    replace hO := qA.own
    refine za rfl ?_
    have zz := J0b (us := [.int .i64 ((ix ((([] : List part)) ++ ([(⟨((0 : Int) + r26.Start), r26.Final, (0 : Int)⟩ : part)])) (k7_567 : Int)).start), .slice tF (((ix ((([] : List part)) ++ ([(⟨((0 : Int) + r26.Start), r26.Final, (0 : Int)⟩ : part)])) (k7_567 : Int)).final).length) tG, .int .i64 ((ix ((([] : List part)) ++ ([(⟨((0 : Int) + r26.Start), r26.Final, (0 : Int)⟩ : part)])) (k7_567 : Int)).shift)]) (o := 0) (cs' := #[.int .i64 ((ix ((([] : List part)) ++ ([(⟨((0 : Int) + r26.Start), r26.Final, (0 : Int)⟩ : part)])) (k7_567 : Int)).start), .slice tF (((ix ((([] : List part)) ++ ([(⟨((0 : Int) + r26.Start), r26.Final, (0 : Int)⟩ : part)])) (k7_567 : Int)).final).length) tG, .int .i64 ((ix ((([] : List part)) ++ ([(⟨((0 : Int) + r26.Start), r26.Final, (0 : Int)⟩ : part)])) (k7_567 : Int)).shift)]) 0 hO rfl rfl (Nat.le_of_ble_eq_true rfl) rfl
    obtain ⟨abq, o9, M0⟩ := zz
    dsimp only [sS, sZ] at o9
    refine zg (M0 ti120 (by exact rfl) (by exact rfl) rfl) ?_
    replace hO := o9.own
    refine zn (zq (zr (zm rfl (zm rfl (zm rfl ?_)))))
    obtain ⟨UH, H⟩ := H
    obtain ⟨G9, H⟩ := H
    have zz := omake (n := (r215.Elems.length : Int)) (r := Rp.bool) (d := false) Try.underlying22 ti4 (fun _ _ => rfl) rfl hO UH G9 (by decide)
    obtain ⟨abr, u7, Wa, qB, BL, Wb, M1⟩ := zz
    refine zg (M1 rfl rfl) ?_
    replace hO := qB.own
    obtain ⟨DY, H⟩ := H
    obtain ⟨Ip, H⟩ := H
    refine zo (J02 Try.underlying40 ti22 rfl rfl DY (ltn (t2neq 2 hO rfl) Ip) (t2some 2 hO rfl DY Ip)) ?_
    have nK := Stp.front 2 hO rfl
    dsimp only [eS, eZ] at nK
    replace hO := nK.own
    have iq := Stp.front 1 hO rfl
    dsimp only [eS, eZ] at iq
    replace hO := iq.own
    replace BL := (BL.ch nK.ch).ch iq.ch
    have zz := t2put (hf := Fl.bool) hO BL DY Ip
    obtain ⟨abs, qC, M2⟩ := zz
    refine zg (M2 Try.underlying22 rfl ti22 (by exact rfl) (by exact rfl)) ?_
    replace hO := qC.own
    refine zn (zq (zr (zo (J00 Try.underlying123 rfl ti23 rfl (by decide)) (zs (oblk (i := 3) 7 hO rfl rfl Try.underlying23 rfl rfl) (zo (J0c Try.underlying23 rfl) ?_)))))
    refine zm rfl (zn (zb ?_))
    have Z37 := ((((qA.ch.trans o9.ch).trans qB.ch).trans nK.ch).trans iq.ch).trans qC.ch
    replace cU := cU.ch Z37
    replace bw := bw.ch Z37
    replace aY := aY.ch Z37
    replace aD := aD.ch Z37
    replace aj := aj.ch Z37
    replace ag := ag.ch Z37
    replace aa := aa.ch Z37
    replace ai := ai.ch Z37
    replace af := af.ch Z37
    replace ah := ah.ch Z37
    replace jT := jT.ch Z37
    replace hB := (((((hB.trans qA.fr).trans o9.fr).trans qB.fr).trans nK.fr).trans iq.fr).trans qC.fr
    refine Go1.loopW (S := Nat × List (List Bool)) (fun s σ w => match s with | (k8_609, d_610) => agrees σ [(2, .pointer (some ⟨B207, 0, none⟩)), (5, .pointer (some ⟨B223, 0, none⟩)), (7, .int .i64 (r215.Elems.length : Int)), (8, .pointer (some ⟨dI, 0, none⟩)), (13, .slice j3 (((([] : List part)) ++ ([(⟨((0 : Int) + r26.Start), r26.Final, (0 : Int)⟩ : part)])).length) (((([] : List part)) ++ ([(⟨((0 : Int) + r26.Start), r26.Final, (0 : Int)⟩ : part)])).length)), (14, .int .i64 (k7_567 : Int)), (15, .pointer (some ⟨B583, 0, none⟩)), (162, .slice cj (0 + 1) ck), (163, .int .i64 (((([] : List part)) ++ ([(⟨((0 : Int) + r26.Start), r26.Final, (0 : Int)⟩ : part)])).length : Int)), (164, .int .i64 (k7_567 : Int)), (175, .slice aF r215.Elems.length aG), (176, .int .i64 (r215.Elems.length : Int)), (177, .int .i64 (k8_609 : Int))] ∧ (fun Z0 => Owns w0.heap.size w Z0 A ∧ Els (Rp.bool) (bl Z0 ++ A) w fW d_383 ∧ Els (Rp.str) (bl Z0 ++ A) w dg d_343 ∧ Els (Rp.int .i64) (bl Z0 ++ A) w bU r262 ∧ Els (rppart) (bl Z0 ++ A) w cW ((([] : List part)) ++ ([(⟨((0 : Int) + r26.Start), r26.Final, (0 : Int)⟩ : part)])) ∧ ISl (Rp.sl (Rp.int .i64)) (bl Z0 ++ A) w aR aS r215.Gens ∧ ISl (Rp.sl (Rp.int .i64)) (bl Z0 ++ A) w aF aG r215.Elems ∧ ISl (Rp.int .i64) (bl Z0 ++ A) w aB aC r215.Prefix ∧ ISl (Rp.int .i64) (bl Z0 ++ A) w aT aU r215.Last ∧ ISl (Rp.sl (Rp.int .i64)) (bl Z0 ++ A) w az aA r215.Right ∧ ISl (rpRule) (bl Z0 ++ A) w aK aL r215.Rules ∧ ISl (Rp.bool) (bl Z0 ++ A) w tF tG ((ix ((([] : List part)) ++ ([(⟨((0 : Int) + r26.Start), r26.Final, (0 : Int)⟩ : part)])) (k7_567 : Int)).final) ∧ Fr (bl []) w0 (bl Z0) w) [t2 Fl.bool 22 4 j3 (((([] : List part)) ++ ([(⟨((0 : Int) + r26.Start), r26.Final, (0 : Int)⟩ : part)])).length) (((([] : List part)) ++ ([(⟨((0 : Int) + r26.Start), r26.Final, (0 : Int)⟩ : part)])).length) (hup f8 (k7_567 : Int).toNat (u7, r215.Elems.length)) d_610, .blk B583 (.cells #[.int .i64 ((ix ((([] : List part)) ++ ([(⟨((0 : Int) + r26.Start), r26.Final, (0 : Int)⟩ : part)])) (k7_567 : Int)).start), .slice tF (((ix ((([] : List part)) ++ ([(⟨((0 : Int) + r26.Start), r26.Final, (0 : Int)⟩ : part)])) (k7_567 : Int)).final).length) tG, .int .i64 ((ix ((([] : List part)) ++ ([(⟨((0 : Int) + r26.Start), r26.Final, (0 : Int)⟩ : part)])) (k7_567 : Int)).shift)] 120 (0, 0)), .blk dI (.cells #[.int .i64 (d_60.length : Int), .slice (some ⟨bA, 0, none⟩) r215.Elems.length r215.Elems.length, .slice (some ⟨bD, 0, none⟩) r215.Elems.length r215.Elems.length, .slice aM aO aN, .slice none 0 0, .slice (some ⟨bE, 0, none⟩) r215.Elems.length r215.Elems.length] 33 (0, 0)), .row 4 1 (some ⟨bE, 0, none⟩) r215.Elems.length r215.Elems.length fW, .row 9 1 (some ⟨bD, 0, none⟩) r215.Elems.length r215.Elems.length dg, t2 (Fl.int .i64) 31 3 (some ⟨bA, 0, none⟩) r215.Elems.length r215.Elems.length d9 d_386, .row 3 1 aM aO aN bU, .blk B223 (.cells #[.int .i64 r215.Points, .bool r215.Monoid, .slice aR r215.Gens.length aS, .slice aF r215.Elems.length aG, .slice aB r215.Prefix.length aC, .slice aT r215.Last.length aU, .slice az r215.Right.length aA, .slice aK r215.Rules.length aL, .int .i64 r215.Done] 123 (0, 0)), .blk B207 (.cells #[.int .i64 0, .slice none 0 0, .slice none 0 0, .slice none 0 0, .slice none 0 0, .slice none 0 0] 33 (0, 0)), .row 120 3 cj (0 + 1) ck cW, .blk B8 (.cells #[.int .i64 0, .slice none 0 0, .slice none 0 0, .slice none 0 0, .slice none 0 0, .slice none 0 0] 33 (0, 0))]) H ⟨⟨rfl, rfl, rfl, rfl, rfl, rfl, rfl, rfl, rfl, rfl, rfl, rfl, rfl, trivial⟩, hO, cU, bw, aY, aD, aj, ag, aa, ai, af, ah, jT, hB⟩ ?_
    intro X8
    refine prE fun k8_609 => fun d_610 => ?_
    intro H hX8 σ abt
    refine andE fun hag => andE fun hO => andE fun cU => andE fun bw => andE fun aY => andE fun aD => andE fun aj => andE fun ag => andE fun aa => andE fun ai => andE fun af => andE fun ah => andE fun jT => fun hB => ?_
    dsimp only at H
    refine Go1.keep [(2, .pointer (some ⟨B207, 0, none⟩)), (5, .pointer (some ⟨B223, 0, none⟩)), (7, .int .i64 (r215.Elems.length : Int)), (8, .pointer (some ⟨dI, 0, none⟩)), (13, .slice j3 (((([] : List part)) ++ ([(⟨((0 : Int) + r26.Start), r26.Final, (0 : Int)⟩ : part)])).length) (((([] : List part)) ++ ([(⟨((0 : Int) + r26.Start), r26.Final, (0 : Int)⟩ : part)])).length)), (14, .int .i64 (k7_567 : Int)), (15, .pointer (some ⟨B583, 0, none⟩)), (162, .slice cj (0 + 1) ck), (163, .int .i64 (((([] : List part)) ++ ([(⟨((0 : Int) + r26.Start), r26.Final, (0 : Int)⟩ : part)])).length : Int)), (164, .int .i64 (k7_567 : Int)), (175, .slice aF r215.Elems.length aG), (176, .int .i64 (r215.Elems.length : Int)), (177, .int .i64 (k8_609 : Int))] hag ?_
    refine zq (zr ?_)
    by_cases xL : (k8_609 : Int) < (r215.Elems.length : Int)
    ·replace H := ifp xL H
     refine zo (fun w => opB (J08 rfl rfl w) (decide_eq_true xL)) (zn (zq (zt rfl rfl (zk (zq ?_)))))
     refine zb (zq (zr (zm rfl ?_)))
     obtain ⟨Iq, H⟩ := H
     obtain ⟨Ir, H⟩ := H
     refine zo (J02 Try.underlying23 ti31 rfl rfl Iq Ir (ag.some_ Iq Ir)) ?_
     have zz := ldSl ag Iq Ir
     obtain ⟨abu, abv, yE, Rr⟩ := zz
     refine zs (Rr Try.underlying31 rfl rfl) (za rfl (za rfl (zn ?_)))
     refine Go1.drawS 1 [(0, .pure), (1, .pure), (2, .pure), (3, .stable), (4, .pure), (5, .stable), (6, .pure), (7, .loud), (8, .pure), (9, .last)] mixed (by kernel_rfl) ?_
     intro TP Rs
     have iB := Stp.same hO Rs
     replace hO := iB.own
     refine GoQ.pure rfl (J03 rfl) rfl rfl ?_
     refine GoQ.pure rfl (J03 rfl) rfl rfl ?_
     obtain ⟨EC, H⟩ := H
     obtain ⟨ED, H⟩ := H
     refine GoQ.pure rfl (J02 Try.underlying40 ti22 rfl rfl EC (ltn (t2neq 0 hO rfl) ED) (t2some 0 hO rfl EC ED)) rfl rfl ?_
     refine GoQ.stable rfl (t2head 0 hO rfl EC ED Try.underlying22 rfl rfl) rfl rfl ?_
     refine GoQ.pure rfl (J03 rfl) rfl rfl ?_
     refine GoQ.stable rfl (J0l (vs := [.int .i64 ((ix ((([] : List part)) ++ ([(⟨((0 : Int) + r26.Start), r26.Final, (0 : Int)⟩ : part)])) (k7_567 : Int)).start), .slice tF (((ix ((([] : List part)) ++ ([(⟨((0 : Int) + r26.Start), r26.Final, (0 : Int)⟩ : part)])) (k7_567 : Int)).final).length) tG, .int .i64 ((ix ((([] : List part)) ++ ([(⟨((0 : Int) + r26.Start), r26.Final, (0 : Int)⟩ : part)])) (k7_567 : Int)).shift)]) (i := 0) 1 hO rfl rfl Try.underlying120 rfl ti120 rfl) rfl rfl ?_
     refine GoQ.pure rfl (J03 rfl) rfl rfl ?_
     replace jT := jT.ch iB.ch
     replace yE := yE.ch iB.ch
     refine GoQ.call rfl (J0a body103 rfl (J29 (p := (⟨((ix ((([] : List part)) ++ ([(⟨((0 : Int) + r26.Start), r26.Final, (0 : Int)⟩ : part)])) (k7_567 : Int)).start), (ix ((([] : List part)) ++ ([(⟨((0 : Int) + r26.Start), r26.Final, (0 : Int)⟩ : part)])) (k7_567 : Int)).final, ((ix ((([] : List part)) ++ ([(⟨((0 : Int) + r26.Start), r26.Final, (0 : Int)⟩ : part)])) (k7_567 : Int)).shift)⟩ : part)) hO.lt jT yE H)) (fun v w hr => by obtain ⟨_, _, hs, _⟩ := hr; assumption) rfl rfl ?_
     rintro abw abx ⟨r623, rfl, Rt, H⟩
     have pc := Stp.same hO Rt
     replace hO := pc.own
     obtain ⟨Iu, H⟩ := H
     obtain ⟨Iv, H⟩ := H
     refine GoQ.pure rfl (J02 Try.underlying22 ti4 rfl rfl Iu Iv (t2isome 0 hO rfl EC ED Iu Iv)) rfl rfl ?_
     have zz := t2st (r := Rp.bool) (hf := Fl.bool) rfl 0 hO rfl EC ED Iu Iv (v := .bool r623) (u := r623) rfl rfl
     obtain ⟨aby, nM, M3⟩ := zz
     dsimp only [sS, sZ] at nM
     refine GoQ.last rfl (M3 Try.underlying4 rfl ti4 (by exact rfl) (by exact rfl)) rfl rfl ?_
     replace hO := nM.own
     refine GoQ.nil ?_
     refine Go1.inBlock ?_
     refine zr ?_
     have Z38 := (iB.ch.trans pc.ch).trans nM.ch
     replace ag := ag.ch Z38
     refine zo (J0e rfl rfl (wrap_i64 (natbd xL ag.bd))) (zm rfl (zn ?_))
     replace jT := (jT.ch pc.ch).ch nM.ch
     replace cU := cU.ch Z38
     replace bw := bw.ch Z38
     replace aY := aY.ch Z38
     replace aD := aD.ch Z38
     replace aj := aj.ch Z38
     replace aa := aa.ch Z38
     replace ai := ai.ch Z38
     replace af := af.ch Z38
     replace ah := ah.ch Z38
     replace hB := ((hB.trans iB.fr).trans pc.fr).trans nM.fr
     exact hX8 _ H _ _ ⟨⟨rfl, rfl, rfl, rfl, rfl, rfl, rfl, rfl, rfl, rfl, rfl, rfl, rfl, trivial⟩, hO, cU, bw, aY, aD, aj, ag, aa, ai, af, ah, jT, hB⟩
    replace H := ifn xL H
    refine zo (fun w => opB (J08 rfl rfl w) (decide_eq_false xL)) (zn (zq (zf rfl rfl ?_)))
    refine Go1.exit rfl ?_
    refine Go1.inBlock ?_
    refine zr (zo (J0e rfl rfl (wrap_i64 (natbd EB aD.bd))) (zm rfl (zn ?_)))
    replace hO := hO.drop 1
    replace aj := aj.ch (Owns.J06 _ _ 1)
    replace ag := ag.ch (Owns.J06 _ _ 1)
    replace aa := aa.ch (Owns.J06 _ _ 1)
    replace ai := ai.ch (Owns.J06 _ _ 1)
    replace af := af.ch (Owns.J06 _ _ 1)
    replace ah := ah.ch (Owns.J06 _ _ 1)
    replace jT := jT.ch (Owns.J06 _ _ 1)
    replace cU := cU.ch (Owns.J06 _ _ 1)
    replace bw := bw.ch (Owns.J06 _ _ 1)
    replace aY := aY.ch (Owns.J06 _ _ 1)
    replace aD := aD.ch (Owns.J06 _ _ 1)
    replace hB := hB.trans (Owns.J09 _ _ 1)
    dsimp only [eS, eZ] at hB hO aj ag aa ai af ah jT cU bw aY aD
    exact hX7 _ H _ _ ⟨hup f8 (k7_567 : Int).toNat (u7, r215.Elems.length), ⟨rfl, rfl, rfl, rfl, rfl, rfl, rfl, rfl, trivial⟩, hO, cU, bw, aY, aD, aj, ag, aa, ai, af, ah, hB⟩
   replace H := ifn EB H
   refine zo (fun w => opB (J08 rfl rfl w) (decide_eq_false EB)) (zn (zq (zf rfl rfl ?_)))
   refine Go1.exit rfl ?_
   refine zq ?_
   refine Go1.cut [(2, .pointer (some ⟨B207, 0, none⟩)), (8, .pointer (some ⟨dI, 0, none⟩)), (13, .slice j3 (((([] : List part)) ++ ([(⟨((0 : Int) + r26.Start), r26.Final, (0 : Int)⟩ : part)])).length) (((([] : List part)) ++ ([(⟨((0 : Int) + r26.Start), r26.Final, (0 : Int)⟩ : part)])).length))] ⟨rfl, rfl, rfl, trivial⟩ ?_
   intro σ _
   refine zr (zs (J0l (vs := [.int .i64 (d_60.length : Int), .slice (some ⟨bA, 0, none⟩) r215.Elems.length r215.Elems.length, .slice (some ⟨bD, 0, none⟩) r215.Elems.length r215.Elems.length, .slice aM aO aN, .slice none 0 0, .slice (some ⟨bE, 0, none⟩) r215.Elems.length r215.Elems.length]) (i := 0) 1 hO rfl rfl Try.underlying33 rfl ti33 rfl) (zm rfl ?_))
   have zz := J0b (us := [.int .i64 (d_60.length : Int), .slice (some ⟨bA, 0, none⟩) r215.Elems.length r215.Elems.length, .slice (some ⟨bD, 0, none⟩) r215.Elems.length r215.Elems.length, .slice aM aO aN, .slice none 0 0, .slice (some ⟨bE, 0, none⟩) r215.Elems.length r215.Elems.length]) (o := 0) (cs' := #[.int .i64 (d_60.length : Int), .slice (some ⟨bA, 0, none⟩) r215.Elems.length r215.Elems.length, .slice (some ⟨bD, 0, none⟩) r215.Elems.length r215.Elems.length, .slice aM aO aN, .slice none 0 0, .slice (some ⟨bE, 0, none⟩) r215.Elems.length r215.Elems.length]) 7 hO rfl rfl (Nat.le_of_ble_eq_true rfl) rfl
   obtain ⟨abz, qD, M4⟩ := zz
   dsimp only [sS, sZ] at qD
   refine zg (M4 ti33 (by exact rfl) (by exact rfl) rfl) ?_
   replace hO := qD.own
   refine za rfl (za rfl (zn ?_))
   refine Go1.retC3V Try.func63 rfl rfl (J0i (vs := [.int .i64 (d_60.length : Int), .slice (some ⟨bA, 0, none⟩) r215.Elems.length r215.Elems.length, .slice (some ⟨bD, 0, none⟩) r215.Elems.length r215.Elems.length, .slice aM aO aN, .slice none 0 0, .slice (some ⟨bE, 0, none⟩) r215.Elems.length r215.Elems.length]) 7 hO rfl rfl Try.underlying33 rfl ti33) (show _ = .slice j3 (((([] : List part)) ++ ([(⟨((0 : Int) + r26.Start), r26.Final, (0 : Int)⟩ : part)])).length) (((([] : List part)) ++ ([(⟨((0 : Int) + r26.Start), r26.Final, (0 : Int)⟩ : part)])).length) from rfl) (show _ = .int .i64 0 from rfl) ?_
   refine hR205 _ _ ?_
   refine zm rfl (zo (J07 rfl rfl) (zo (J07 rfl rfl) (zo (J07 rfl rfl) ?_)))
   have zz := oalloc (t := 33) (cs := #[.int .i64 0, .slice none 0 0, .slice none 0 0, .slice none 0 0, .slice none 0 0, .slice none 0 0]) ti33 hO rfl
   obtain ⟨TS, B638, sE, Wc, M5⟩ := zz
   refine GoR.op M5 rfl rfl ?_
   replace hO := sE.own
   have zz := J0b (us := [.int .i64 (d_60.length : Int), .slice (some ⟨bA, 0, none⟩) r215.Elems.length r215.Elems.length, .slice (some ⟨bD, 0, none⟩) r215.Elems.length r215.Elems.length, .slice aM aO aN, .slice none 0 0, .slice (some ⟨bE, 0, none⟩) r215.Elems.length r215.Elems.length]) (o := 0) (cs' := #[.int .i64 (d_60.length : Int), .slice (some ⟨bA, 0, none⟩) r215.Elems.length r215.Elems.length, .slice (some ⟨bD, 0, none⟩) r215.Elems.length r215.Elems.length, .slice aM aO aN, .slice none 0 0, .slice (some ⟨bE, 0, none⟩) r215.Elems.length r215.Elems.length]) 0 hO rfl rfl (Nat.le_of_ble_eq_true rfl) rfl
   obtain ⟨abA, qE, D0⟩ := zz
   dsimp only [sS, sZ] at qE
   refine zg (D0 ti33 (by exact rfl) (by exact rfl) rfl) ?_
   replace hO := qE.own
   refine za rfl (za rfl (zn (zq (zq (zr ?_)))))
   refine zm rfl (zo (fun w => opB (J0j rfl rfl w) (ndT (by decide))) (zn (zf rfl rfl (zk (zq ?_)))))
   refine zr (zm rfl ?_)
   obtain ⟨F1, H⟩ := H
   obtain ⟨F2, H⟩ := H
   refine zo (J02 Try.underlying40 ti22 rfl rfl F1 (ltn (t2neq 1 hO rfl) F2) (t2some 1 hO rfl F1 F2)) (zs (t2head 1 hO rfl F1 F2 Try.underlying22 rfl rfl) (zo (J00 Try.underlying33 rfl ti22 rfl (by decide)) ?_))
   have zz := J0h (v := .slice (f8 (0 : Int).toNat).1 ((ix d_568 (0 : Int)).length) (f8 (0 : Int).toNat).2) (i := 4) (cs' := #[.int .i64 (d_60.length : Int), .slice (some ⟨bA, 0, none⟩) r215.Elems.length r215.Elems.length, .slice (some ⟨bD, 0, none⟩) r215.Elems.length r215.Elems.length, .slice aM aO aN, .slice (f8 (0 : Int).toNat).1 ((ix d_568 (0 : Int)).length) (f8 (0 : Int).toNat).2, .slice (some ⟨bE, 0, none⟩) r215.Elems.length r215.Elems.length]) 0 hO rfl rfl rfl rfl
   obtain ⟨abB, qF, M6⟩ := zz
   dsimp only [sS, sZ] at qF
   refine zg (M6 Try.underlying22 rfl ti22 (by exact rfl) (by exact rfl)) ?_
   replace hO := qF.own
   refine zn (zq ?_)
   refine Go1.cut [(2, .pointer (some ⟨B8, 0, none⟩)), (7, .pointer (some ⟨B638, 0, none⟩))] ⟨rfl, rfl, trivial⟩ ?_
   intro σ _
   refine zr (zs (J0l (vs := [.int .i64 (d_60.length : Int), .slice (some ⟨bA, 0, none⟩) r215.Elems.length r215.Elems.length, .slice (some ⟨bD, 0, none⟩) r215.Elems.length r215.Elems.length, .slice aM aO aN, .slice (f8 (0 : Int).toNat).1 ((ix d_568 (0 : Int)).length) (f8 (0 : Int).toNat).2, .slice (some ⟨bE, 0, none⟩) r215.Elems.length r215.Elems.length]) (i := 0) 0 hO rfl rfl Try.underlying33 rfl ti33 rfl) ?_)
   have zz := J0b (us := [.int .i64 (d_60.length : Int), .slice (some ⟨bA, 0, none⟩) r215.Elems.length r215.Elems.length, .slice (some ⟨bD, 0, none⟩) r215.Elems.length r215.Elems.length, .slice aM aO aN, .slice (f8 (0 : Int).toNat).1 ((ix d_568 (0 : Int)).length) (f8 (0 : Int).toNat).2, .slice (some ⟨bE, 0, none⟩) r215.Elems.length r215.Elems.length]) (o := 0) (cs' := #[.int .i64 (d_60.length : Int), .slice (some ⟨bA, 0, none⟩) r215.Elems.length r215.Elems.length, .slice (some ⟨bD, 0, none⟩) r215.Elems.length r215.Elems.length, .slice aM aO aN, .slice (f8 (0 : Int).toNat).1 ((ix d_568 (0 : Int)).length) (f8 (0 : Int).toNat).2, .slice (some ⟨bE, 0, none⟩) r215.Elems.length r215.Elems.length]) 10 hO rfl rfl (Nat.le_of_ble_eq_true rfl) rfl
   obtain ⟨TU, qG, M7⟩ := zz
   dsimp only [sS, sZ] at qG
   refine zg (M7 ti33 (by exact rfl) (by exact rfl) rfl) ?_
   replace hO := qG.own
   refine za rfl (zn ?_)
   have zz := t2freezeA 5 hO rfl
   obtain ⟨hO1, u9, vI, Ru⟩ := zz
   dsimp only [eS, eZ] at hO1 u9 vI
   replace hB := (((((hB.trans qD.fr).trans sE.fr).trans qE.fr).trans qF.fr).trans qG.fr).trans (Owns.J09 _ _ 5)
   dsimp only [eS, eZ] at hB
   replace hO := hO1; clear hO1
   have Z39 := ((((qD.ch.trans sE.ch).trans qE.ch).trans qF.ch).trans qG.ch).trans u9
   replace bw := bw.ch Z39
   have zz := freeze 4 hO rfl bw
   obtain ⟨hO1, va, xw, Rv⟩ := zz
   dsimp only [eS, eZ] at hO1 va xw
   replace hB := hB.trans (Owns.J09 _ _ 4)
   dsimp only [eS, eZ] at hB
   replace hO := hO1; clear hO1
   replace aY := (aY.ch Z39).ch va
   have zz := freeze 4 hO rfl aY
   obtain ⟨hO1, vb, z3, Rw⟩ := zz
   dsimp only [eS, eZ] at hO1 vb z3
   replace hB := hB.trans (Owns.J09 _ _ 4)
   dsimp only [eS, eZ] at hB
   replace hO := hO1; clear hO1
   have F3 := t2lendIn 1 hO rfl F1 F2
   have zz := t2freezeA 1 hO rfl
   obtain ⟨hO1, uD, F4, Wd⟩ := zz
   dsimp only [eS, eZ] at hO1 uD F4
   replace hB := hB.trans (Owns.J09 _ _ 1)
   dsimp only [eS, eZ] at hB
   replace hO := hO1; clear hO1
   have Z40 := ((Z39.trans va).trans vb).trans uD
   replace cU := cU.ch Z40
   have zz := freeze 2 hO rfl cU
   obtain ⟨hO1, tR, JG, Rx⟩ := zz
   dsimp only [eS, eZ] at hO1 tR JG
   replace hB := hB.trans (Owns.J09 _ _ 2)
   dsimp only [eS, eZ] at hB
   replace hO := hO1; clear hO1
   refine Go1.retC2 Try.func19 rfl rfl (J0i (vs := [.int .i64 (d_60.length : Int), .slice (some ⟨bA, 0, none⟩) r215.Elems.length r215.Elems.length, .slice (some ⟨bD, 0, none⟩) r215.Elems.length r215.Elems.length, .slice aM aO aN, .slice (f8 (0 : Int).toNat).1 ((ix d_568 (0 : Int)).length) (f8 (0 : Int).toNat).2, .slice (some ⟨bE, 0, none⟩) r215.Elems.length r215.Elems.length]) 5 hO rfl rfl Try.underlying33 rfl ti33) ?_
   replace F3 := F3.ch tR
   replace z3 := (z3.ch uD).ch tR
   have Z41 := (vb.trans uD).trans tR
   replace xw := xw.ch Z41
   have Z42 := ((va.trans vb).trans uD).trans tR
   replace vI := vI.ch Z42
   exact ⟨(⟨(d_60.length : Int), d_386, d_343, r262, (ix d_568 (0 : Int)), d_383⟩ : Syntactic), (0 : Int), (some ⟨bA, 0, none⟩), r215.Elems.length, (some ⟨bD, 0, none⟩), r215.Elems.length, aM, aN, (f8 (0 : Int).toNat).1, (f8 (0 : Int).toNat).2, (some ⟨bE, 0, none⟩), r215.Elems.length, (congrArg (fun l => Value.tuple (List.toArray l)) (J0k (congrArg (fun l => Value.agg (List.toArray l)) (J0k rfl (J0k (congrArg (fun nn => Value.slice (some ⟨bA, 0, none⟩) nn r215.Elems.length) Ru) (J0k (congrArg (fun nn => Value.slice (some ⟨bD, 0, none⟩) nn r215.Elems.length) Rv) (J0k (congrArg (fun nn => Value.slice aM nn aN) Rw) (J0k rfl (J0k (congrArg (fun nn => Value.slice (some ⟨bE, 0, none⟩) nn r215.Elems.length) Rx) rfl))))))) (J0k rfl rfl))), hB.same, (vI.ch (Ch.weak _ _ _)), (xw.ch (Ch.weak _ _ _)), (z3.ch (Ch.weak _ _ _)), (F3.ch (Ch.weak _ _ _)), (JG.ch (Ch.weak _ _ _)), H⟩
  replace H := ifn yw H
  refine zo (fun w => opB (J0j rfl rfl w) (ndF yw)) (zn (zt rfl rfl (zq (zr (zo (J0w Try.underlying33 ti33 (pl := [(0, 1), (1, 1), (2, 1), (3, 1), (4, 1), (5, 1)]) (vs := []) (cs := #[.int .i64 0, .slice none 0 0, .slice none 0 0, .slice none 0 0, .slice none 0 0, .slice none 0 0]) (by kernel_rfl) rfl (by kernel_rfl)) ?_)))))
  refine zm rfl ?_
  have zz := J0b (us := [.int .i64 0, .slice none 0 0, .slice none 0 0, .slice none 0 0, .slice none 0 0, .slice none 0 0]) (o := 0) (cs' := #[.int .i64 0, .slice none 0 0, .slice none 0 0, .slice none 0 0, .slice none 0 0, .slice none 0 0]) 1 hO rfl rfl (Nat.le_of_ble_eq_true rfl) rfl
  obtain ⟨abC, pe, M8⟩ := zz
  dsimp only [sS, sZ] at pe
  refine zg (M8 ti33 (by exact rfl) (by exact rfl) rfl) ?_
  replace hO := pe.own
  refine za rfl (za rfl (zn ?_))
  refine Go1.retC3V Try.func63 rfl rfl (J0i (vs := [.int .i64 0, .slice none 0 0, .slice none 0 0, .slice none 0 0, .slice none 0 0, .slice none 0 0]) 1 hO rfl rfl Try.underlying33 rfl ti33) (show _ = .slice none 0 0 from rfl) (show _ = .int .i64 r216 from rfl) ?_
  refine hR205 _ _ ?_
  refine zm rfl (zo (J07 rfl rfl) (zo (J07 rfl rfl) (zo (J07 rfl rfl) ?_)))
  have zz := oalloc (t := 33) (cs := #[.int .i64 0, .slice none 0 0, .slice none 0 0, .slice none 0 0, .slice none 0 0, .slice none 0 0]) ti33 hO rfl
  obtain ⟨abE, B674, qH, We, M9⟩ := zz
  refine GoR.op M9 rfl rfl ?_
  replace hO := qH.own
  have zz := J0b (us := [.int .i64 0, .slice none 0 0, .slice none 0 0, .slice none 0 0, .slice none 0 0, .slice none 0 0]) (o := 0) (cs' := #[.int .i64 0, .slice none 0 0, .slice none 0 0, .slice none 0 0, .slice none 0 0, .slice none 0 0]) 0 hO rfl rfl (Nat.le_of_ble_eq_true rfl) rfl
  obtain ⟨abG, pg, Na⟩ := zz
  dsimp only [sS, sZ] at pg
  refine zg (Na ti33 (by exact rfl) (by exact rfl) rfl) ?_
  replace hO := pg.own
  refine za rfl (za rfl (zn (zq (zq (zr ?_)))))
  refine zm rfl (zo (fun w => opB (J0j rfl rfl w) (ndF yw)) (zn (zt rfl rfl (zq (zr ?_)))))
  refine zo (J0w Try.underlying33 ti33 (pl := [(0, 1), (1, 1), (2, 1), (3, 1), (4, 1), (5, 1)]) (vs := []) (cs := #[.int .i64 0, .slice none 0 0, .slice none 0 0, .slice none 0 0, .slice none 0 0, .slice none 0 0]) (by kernel_rfl) rfl (by kernel_rfl)) (zm rfl ?_)
  have zz := J0b (us := [.int .i64 0, .slice none 0 0, .slice none 0 0, .slice none 0 0, .slice none 0 0, .slice none 0 0]) (o := 0) (cs' := #[.int .i64 0, .slice none 0 0, .slice none 0 0, .slice none 0 0, .slice none 0 0, .slice none 0 0]) 6 hO rfl rfl (Nat.le_of_ble_eq_true rfl) rfl
  obtain ⟨abH, ph, Nb⟩ := zz
  dsimp only [sS, sZ] at ph
  refine zg (Nb ti33 (by exact rfl) (by exact rfl) rfl) ?_
  replace hO := ph.own
  refine za rfl (zn ?_)
  refine Go1.retC2 Try.func19 rfl rfl (J0i (vs := [.int .i64 0, .slice none 0 0, .slice none 0 0, .slice none 0 0, .slice none 0 0, .slice none 0 0]) 6 hO rfl rfl Try.underlying33 rfl ti33) ?_
  replace hB := ((((((hB.trans w4.fr).trans qr.fr).trans oB.fr).trans pe.fr).trans qH.fr).trans pg.fr).trans ph.fr
  exact ⟨(⟨(0 : Int), ([] : List (List Int)), ([] : List Str), ([] : List Int), ([] : List Bool), ([] : List Bool)⟩ : Syntactic), r216, none, 0, none, 0, none, 0, none, 0, none, 0, rfl, hB.same, (ISl.null _ _ _), (ISl.null _ _ _), (ISl.null _ _ _), (ISl.null _ _ _), (ISl.null _ _ _), H⟩
 replace H := ifn h19 H
 refine zo (fun w => opB (J0j rfl rfl w) (ndF h19)) (zn (zt rfl rfl (zq ?_)))
 refine Go1.cut [(2, .pointer (some ⟨B8, 0, none⟩)), (4, .int .i64 r13)] ⟨rfl, rfl, trivial⟩ ?_
 intro σ _
 refine zr (zo (J0w Try.underlying33 ti33 (pl := [(0, 1), (1, 1), (2, 1), (3, 1), (4, 1), (5, 1)]) (vs := []) (cs := #[.int .i64 0, .slice none 0 0, .slice none 0 0, .slice none 0 0, .slice none 0 0, .slice none 0 0]) (by kernel_rfl) rfl (by kernel_rfl)) (zm rfl ?_))
 have zz := J0b (us := [.int .i64 0, .slice none 0 0, .slice none 0 0, .slice none 0 0, .slice none 0 0, .slice none 0 0]) (o := 0) (cs' := #[.int .i64 0, .slice none 0 0, .slice none 0 0, .slice none 0 0, .slice none 0 0, .slice none 0 0]) 0 hO rfl rfl (Nat.le_of_ble_eq_true rfl) rfl
 obtain ⟨abI, BM, Nc⟩ := zz
 refine zg (Nc ti33 (by exact rfl) (by exact rfl) rfl) ?_
 replace hO := BM.own
 refine za rfl (zn ?_)
 refine Go1.retC2 Try.func19 rfl rfl (J0i (vs := [.int .i64 0, .slice none 0 0, .slice none 0 0, .slice none 0 0, .slice none 0 0, .slice none 0 0]) 0 hO rfl rfl Try.underlying33 rfl ti33) ?_
 replace hB := (((hB.trans dX.fr).trans gU.fr).trans gN.fr).trans BM.fr
 exact ⟨(⟨(0 : Int), ([] : List (List Int)), ([] : List Str), ([] : List Int), ([] : List Bool), ([] : List Bool)⟩ : Syntactic), r13, none, 0, none, 0, none, 0, none, 0, none, 0, rfl, hB.same, (ISl.null _ _ _), (ISl.null _ _ _), (ISl.null _ _ _), (ISl.null _ _ _), (ISl.null _ _ _), H⟩
end Sg
