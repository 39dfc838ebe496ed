/- The walks: each call keeps to its plain transformer. Printed by walkgen.py. -/
import Derived.Test.YtdcibmiaiijjpaaTi
import Derived.Test.YtdcibmiaiijjpaaWGreenOrders
import Derived.Test.YtdcibmiaiijjpaaAl
namespace Sg
open Go Go.RowKit Go.Proofs
set_option linter.unusedVariables false
set_option linter.unusedSimpArgs false
set_option maxRecDepth 100000
set_option maxHeartbeats 4000000
theorem body9 : Body Try.prog 9 := ⟨Try.f9, Try.func9, rfl, by kernel_rfl⟩
theorem walk_green_Classes {A : List Nat} {w0 : World} {ay : Option Addr} {az : Nat} {a0 : List (List Int)} (hA : ∀ b ∈ A, b < w0.heap.size) (ao : ISl (Rp.sl (Rp.int .i64)) A w0 ay az a0) {K : Green → Prop} (H : green_Classes a0 K) :
    CallsV Try.prog 9 #[.slice ay a0.length az] w0 (fun v w' => ∃ (r0 : Green), ∃ (jb : Option Addr), ∃ (jc : Nat), ∃ (jd : Option Addr), ∃ (je : Nat), ∃ (jf : Option Addr), ∃ (jg : Nat), ∃ (jh : Option Addr), ∃ (ji : Nat), ∃ (gA : Option Addr), ∃ (gB : Nat), v = .agg #[.slice jb r0.R.length jc, .slice jd r0.L.length je, .slice jf r0.J.length jg, .slice jh r0.H.length ji, .slice gA r0.Below.length gB] ∧ Same w0 w' ∧ ISl (Rp.int .i64) A w' jb jc r0.R ∧ ISl (Rp.int .i64) A w' jd je r0.L ∧ ISl (Rp.int .i64) A w' jf jg r0.J ∧ ISl (Rp.int .i64) A w' jh ji r0.H ∧ ISl (Rp.sl (Rp.bool)) A w' gA gB r0.Below ∧ K r0) := by
 refine CallsV.of (l := [.slice ay a0.length az]) Try.func9 rfl Try.ntmps9 rfl ?_
 have hO := Owns.start hA
 have hB := Fr.refl (bl []) w0
 unfold green_Classes at H
 refine zq ?_
 refine Go1.cut [(0, .slice ay a0.length az)] ⟨rfl, trivial⟩ ?_
 intro σ _
 refine zr ?_
 have hobt := oalloc (t := 29) (cs := #[.slice none 0 0, .slice none 0 0, .slice none 0 0, .slice none 0 0, .slice none 0 0]) ti29 hO rfl
 obtain ⟨w1, B2, fu, hs4, ju⟩ := hobt
 refine GoR.op ju rfl rfl ?_
 replace hO := fu.own
 refine zn (zq (zq (zr (zm rfl ?_))))
 replace ao := (ao.ch (Ch.start A w0)).ch fu.ch
 refine GoR.call (op_call body24 rfl (walk_mult_Validate hO.lt ao H)) rfl rfl ?_
 rintro v11 w8 ⟨r7, rfl, hs9, H⟩
 have bz := Stp.same hO hs9
 replace hO := bz.own
 by_cases h13 : r7 = (0 : Int)
 ·replace H := ifp h13 H
  refine zo (fun w => opB (op_neq rfl rfl w) (ndT h13)) (zn (zf rfl rfl (zk (zq (zr ?_)))))
  refine zm rfl ?_
  replace ao := ao.ch bz.ch
  refine GoR.call (op_call body25 rfl (walk_green_rightIdeals hO.lt ao H)) rfl rfl ?_
  rintro v18 w15 ⟨r14, qh, qi, rfl, iH, bu, H⟩
  have bt := Stp.same hO iH
  replace hO := bt.own
  refine zm rfl ?_
  replace ao := ao.ch bt.ch
  refine GoR.call (op_call body26 rfl (walk_green_leftIdeals hO.lt ao H)) rfl rfl ?_
  rintro v24 w21 ⟨r20, qj, qk, rfl, ie, bv, H⟩
  have bO := Stp.same hO ie
  replace hO := bO.own
  refine za rfl (za rfl (zn (zq (zr (zm rfl ?_)))))
  refine zm rfl ?_
  replace bu := bu.ch bO.ch
  refine GoR.call (op_call body27 rfl (walk_green_twoSided hO.lt bu bv H)) rfl rfl ?_
  rintro v30 w27 ⟨r26, fe, ff, rfl, jW, aO, H⟩
  have cG := Stp.same hO jW
  replace hO := cG.own
  refine za rfl (zn (zq (zr (zm rfl ?_))))
  replace bu := bu.ch cG.ch
  refine GoR.call (op_call body28 rfl (walk_green_mutual hO.lt bu H)) rfl rfl ?_
  rintro v36 w33 ⟨r32, bc, bf, rfl, ka, aP, H⟩
  have bH := Stp.same hO ka
  replace hO := bH.own
  refine zm rfl ?_
  replace bv := (bv.ch cG.ch).ch bH.ch
  refine GoR.call (op_call body28 rfl (walk_green_mutual hO.lt bv H)) rfl rfl ?_
  rintro v42 w39 ⟨r38, bg, bh, rfl, kc, aQ, H⟩
  have b9 := Stp.same hO kc
  replace hO := b9.own
  refine zm rfl ?_
  replace aO := (aO.ch bH.ch).ch b9.ch
  refine GoR.call (op_call body28 rfl (walk_green_mutual hO.lt aO H)) rfl rfl ?_
  rintro v48 w45 ⟨r44, bi, bj, rfl, j4, aR, H⟩
  have cH := Stp.same hO j4
  replace hO := cH.own
  refine zo (op_build Try.underlying29 ti29 (pl := [(0, 1), (1, 1), (2, 1), (3, 1), (4, 1)]) (vs := [(0, .slice bc r32.length bf), (1, .slice bg r38.length bh), (2, .slice bi r44.length bj)]) (cs := #[.slice bc r32.length bf, .slice bg r38.length bh, .slice bi r44.length bj, .slice none 0 0, .slice none 0 0]) (by kernel_rfl) rfl (by kernel_rfl)) ?_
  have hobt := oalloc (t := 29) (cs := #[.slice none 0 0, .slice none 0 0, .slice none 0 0, .slice none 0 0, .slice none 0 0]) ti29 hO rfl
  obtain ⟨w50, B51, bG, qV, mF⟩ := hobt
  refine GoR.op mF rfl rfl ?_
  replace hO := bG.own
  have hobt := oblkStAgg (us := [.slice bc r32.length bf, .slice bg r38.length bh, .slice bi r44.length bj, .slice none 0 0, .slice none 0 0]) (o := 0) (cs' := #[.slice bc r32.length bf, .slice bg r38.length bh, .slice bi r44.length bj, .slice none 0 0, .slice none 0 0]) 0 hO rfl rfl (Nat.le_of_ble_eq_true rfl) rfl
  obtain ⟨w56, cy, iX⟩ := hobt
  refine zg (iX ti29 (by exact rfl) (by exact rfl) rfl) ?_
  replace hO := cy.own
  refine zn (zq ?_)
  refine Go1.cut [(2, .pointer (some ⟨B2, 0, none⟩)), (5, .slice fe r26.length ff), (6, .pointer (some ⟨B51, 0, none⟩))] ⟨rfl, rfl, rfl, trivial⟩ ?_
  intro σ _
  refine zr (zo (op_fieldAddr Try.underlying29 rfl ti26 rfl (by decide)) (zs (oblk (i := 0) 0 hO rfl rfl Try.underlying26 rfl rfl) (zo (op_fieldAddr Try.underlying29 rfl ti26 rfl (by decide)) (zs (oblk (i := 1) 0 hO rfl rfl Try.underlying26 rfl rfl) ?_))))
  have Z1 := (cH.ch.trans bG.ch).trans cy.ch
  replace aQ := aQ.ch Z1
  have Z2 := ((b9.ch.trans cH.ch).trans bG.ch).trans cy.ch
  replace aP := aP.ch Z2
  refine GoR.call (op_call body29 rfl (walk_partition_Meet hO.lt aP aQ H)) rfl rfl ?_
  rintro v63 w60 ⟨r59, bp, bq, rfl, pE, aX, H⟩
  have bV := Stp.same hO pE
  replace hO := bV.own
  refine zo (op_fieldAddr Try.underlying29 rfl ti26 rfl (by decide)) ?_
  have hobt := oblkSt2 (v := .slice bp r59.length bq) (i := 3) (cs' := #[.slice bc r32.length bf, .slice bg r38.length bh, .slice bi r44.length bj, .slice bp r59.length bq, .slice none 0 0]) 0 hO rfl rfl rfl rfl
  obtain ⟨w65, bA, mG⟩ := hobt
  refine zg (mG Try.underlying26 rfl ti26 (by exact rfl) (by exact rfl)) ?_
  replace hO := bA.own
  refine zn (zq (zr (zo (op_fieldAddr Try.underlying29 rfl ti26 rfl (by decide)) (zs (oblk (i := 2) 0 hO rfl rfl Try.underlying26 rfl rfl) ?_))))
  have Z3 := ((bG.ch.trans cy.ch).trans bV.ch).trans bA.ch
  replace aR := aR.ch Z3
  refine GoR.call (op_call body30 rfl (walk_partition_Classes hO.lt aR H)) rfl rfl ?_
  rintro v72 w69 ⟨r68, cz, cA, rfl, pF, aW, H⟩
  have dQ := Stp.same hO pF
  replace hO := dQ.own
  refine za rfl (zn (zq (zr (zm rfl (zo (op_len Try.underlying22 rfl) ?_)))))
  replace H := H aW.bd
  obtain ⟨h81, H⟩ := H
  obtain ⟨h82, H⟩ := H
  have hobt := t2make (m := (r68.length : Int)) (e' := 4) Fl.bool Try.underlying27 ti42 hO h81 h82 (by decide)
  obtain ⟨w74, p75, dA, lD, mH⟩ := hobt
  refine zg (mH rfl rfl) ?_
  replace hO := dA.own
  refine zo (op_fieldAddr Try.underlying29 rfl ti27 rfl (by decide)) ?_
  have hobt := oblkSt2 (v := .slice p75 r68.length r68.length) (i := 4) (cs' := #[.slice bc r32.length bf, .slice bg r38.length bh, .slice bi r44.length bj, .slice bp r59.length bq, .slice p75 r68.length r68.length]) 1 hO rfl rfl rfl rfl
  obtain ⟨w84, bN, mI⟩ := hobt
  refine zg (mI Try.underlying27 rfl ti27 (by exact rfl) (by exact rfl)) ?_
  replace hO := bN.own
  refine zn (zq (zq (zr (zm rfl (zo (op_len Try.underlying22 rfl) ?_)))))
  refine zm rfl (zn (zb ?_))
  replace aW := (aW.ch dA.ch).ch bN.ch
  have Z4 := (dQ.ch.trans dA.ch).trans bN.ch
  replace aR := aR.ch Z4
  have Z5 := ((bA.ch.trans dQ.ch).trans dA.ch).trans bN.ch
  replace aX := aX.ch Z5
  have Z6 := (((bV.ch.trans bA.ch).trans dQ.ch).trans dA.ch).trans bN.ch
  replace aP := aP.ch Z6
  replace aQ := aQ.ch Z6
  have Z7 := ((((Z1.trans bV.ch).trans bA.ch).trans dQ.ch).trans dA.ch).trans bN.ch
  replace aO := aO.ch Z7
  replace hB := ((((((((((((((hB.trans fu.fr).trans bz.fr).trans bt.fr).trans bO.fr).trans cG.fr).trans bH.fr).trans b9.fr).trans cH.fr).trans bG.fr).trans cy.fr).trans bV.fr).trans bA.fr).trans dQ.fr).trans dA.fr).trans bN.fr
  refine Go1.loopW (S := Nat × List (List Bool)) (fun s σ w => match s with | (k1_88, d_89) => ∃ (n92 : Nat), ∃ (p90 : Option Addr), ∃ (c91 : Nat), ∃ (cB : Hd), agrees σ [(2, .pointer (some ⟨B2, 0, none⟩)), (5, .slice fe r26.length ff), (6, .pointer (some ⟨B51, 0, none⟩)), (7, .slice cz r68.length cA), (43, .slice cz r68.length cA), (44, .int .i64 (r68.length : Int)), (45, .int .i64 (k1_88 : Int))] ∧ (fun Z0 => Owns w0.heap.size w Z0 A ∧ ISl (Rp.sl (Rp.int .u64)) (bl Z0 ++ A) w fe ff r26 ∧ ISl (Rp.int .i64) (bl Z0 ++ A) w bc bf r32 ∧ ISl (Rp.int .i64) (bl Z0 ++ A) w bg bh r38 ∧ ISl (Rp.int .i64) (bl Z0 ++ A) w bi bj r44 ∧ ISl (Rp.int .i64) (bl Z0 ++ A) w bp bq r59 ∧ ISl (Rp.sl (Rp.int .i64)) (bl Z0 ++ A) w cz cA r68 ∧ Fr (bl []) w0 (bl Z0) w) [t2 Fl.bool 42 4 p90 n92 c91 cB d_89, .blk B51 (.cells #[.slice bc r32.length bf, .slice bg r38.length bh, .slice bi r44.length bj, .slice bp r59.length bq, .slice p90 n92 c91] 29 (0, 0)), .blk B2 (.cells #[.slice none 0 0, .slice none 0 0, .slice none 0 0, .slice none 0 0, .slice none 0 0] 29 (0, 0))]) H ⟨r68.length, p75, r68.length, (fun _ => (none, 0)), ⟨rfl, rfl, rfl, rfl, rfl, rfl, rfl, trivial⟩, hO, aO, aP, aQ, aR, aX, aW, hB⟩ ?_
  intro X1
  refine prE fun k1_88 => fun d_89 => ?_
  intro H hX1 σ w87
  refine exE fun n92 => exE fun p90 => exE fun c91 => exE fun cB => andE fun hag => andE fun hO => andE fun aO => andE fun aP => andE fun aQ => andE fun aR => andE fun aX => andE fun aW => fun hB => ?_
  dsimp only at H
  refine Go1.keep [(2, .pointer (some ⟨B2, 0, none⟩)), (5, .slice fe r26.length ff), (6, .pointer (some ⟨B51, 0, none⟩)), (7, .slice cz r68.length cA), (43, .slice cz r68.length cA), (44, .int .i64 (r68.length : Int)), (45, .int .i64 (k1_88 : Int))] hag ?_
  refine zq (zr ?_)
  by_cases h94 : (k1_88 : Int) < (r68.length : Int)
  ·replace H := ifp h94 H
   refine zo (fun w => opB (op_lss rfl rfl w) (decide_eq_true h94)) (zn (zq (zt rfl rfl (zk (zq ?_)))))
   refine zb (zq (zr (zm rfl ?_)))
   obtain ⟨h95, H⟩ := H
   obtain ⟨h96, H⟩ := H
   refine zo (op_index Try.underlying22 ti26 rfl rfl h95 h96 (aW.some_ h95 h96)) ?_
   have hobt := ldSl aW h95 h96
   obtain ⟨p97, c98, cd, mJ⟩ := hobt
   refine zs (mJ Try.underlying26 rfl rfl) (za rfl (za rfl (zn (zq ?_))))
   refine Go1.drawS 1 [(0, .pure), (1, .stable), (2, .pure), (3, .pure), (4, .pure), (5, .loud), (6, .pure), (7, .last)] mixed (by kernel_rfl) ?_
   intro qW mK
   have bw := Stp.same hO mK
   replace hO := bw.own
   refine GoQ.pure rfl (op_fieldAddr Try.underlying29 rfl ti27 rfl (by decide)) rfl rfl ?_
   refine GoQ.stable rfl (oblk (i := 4) 1 hO rfl rfl Try.underlying27 rfl rfl) rfl rfl ?_
   refine GoQ.pure rfl (op_move rfl) rfl rfl ?_
   refine GoQ.pure rfl (op_move rfl) rfl rfl ?_
   refine GoQ.pure rfl (op_len Try.underlying22 rfl) rfl rfl ?_
   obtain ⟨io, H⟩ := H
   obtain ⟨gQ, H⟩ := H
   have hobt := omake (n := (r68.length : Int)) (r := Rp.bool) (d := false) Try.underlying42 ti4 (fun _ _ => rfl) rfl hO io gQ (by decide)
   obtain ⟨qX, fx, ql, dB, gC, mM, lE⟩ := hobt
   refine GoQ.loud rfl (lE rfl rfl) mM rfl rfl ?_
   replace hO := dB.own
   obtain ⟨eQ, H⟩ := H
   obtain ⟨eU, H⟩ := H
   refine GoQ.pure rfl (op_index Try.underlying27 ti42 rfl rfl eQ (ltn (t2neq 1 hO rfl) eU) (t2some 1 hO rfl eQ eU)) rfl rfl ?_
   have c7 := Stp.front 1 hO rfl
   replace hO := c7.own
   have c8 := Stp.front 1 hO rfl
   replace hO := c8.own
   replace gC := (gC.ch c7.ch).ch c8.ch
   have hobt := t2put (hf := Fl.bool) hO gC eQ eU
   obtain ⟨qY, dC, ip⟩ := hobt
   refine GoQ.last rfl (ip Try.underlying42 rfl ti42 (by exact rfl) (by exact rfl)) rfl rfl ?_
   replace hO := dC.own
   refine GoQ.nil ?_
   refine zq (zr (zm rfl (zo (op_len Try.underlying22 rfl) (zm rfl (zn ?_)))))
   refine zb ?_
   have Z8 := (((bw.ch.trans dB.ch).trans c7.ch).trans c8.ch).trans dC.ch
   replace aO := aO.ch Z8
   replace aP := aP.ch Z8
   replace aQ := aQ.ch Z8
   replace aR := aR.ch Z8
   replace aX := aX.ch Z8
   replace aW := aW.ch Z8
   replace cd := cd.ch Z8
   replace hB := ((((hB.trans bw.fr).trans dB.fr).trans c7.fr).trans c8.fr).trans dC.fr
   refine Go1.loopW (S := Nat × List (List Bool)) (fun s σ w => match s with | (k2_122, d_123) => agrees σ [(2, .pointer (some ⟨B2, 0, none⟩)), (5, .slice fe r26.length ff), (6, .pointer (some ⟨B51, 0, none⟩)), (7, .slice cz r68.length cA), (8, .int .i64 (k1_88 : Int)), (9, .slice p97 ((ix r68 (k1_88 : Int)).length) c98), (43, .slice cz r68.length cA), (44, .int .i64 (r68.length : Int)), (45, .int .i64 (k1_88 : Int)), (57, .slice cz r68.length cA), (58, .int .i64 (r68.length : Int)), (59, .int .i64 (k2_122 : Int))] ∧ (fun Z0 => Owns w0.heap.size w Z0 A ∧ ISl (Rp.sl (Rp.int .u64)) (bl Z0 ++ A) w fe ff r26 ∧ ISl (Rp.int .i64) (bl Z0 ++ A) w bc bf r32 ∧ ISl (Rp.int .i64) (bl Z0 ++ A) w bg bh r38 ∧ ISl (Rp.int .i64) (bl Z0 ++ A) w bi bj r44 ∧ ISl (Rp.int .i64) (bl Z0 ++ A) w bp bq r59 ∧ ISl (Rp.sl (Rp.int .i64)) (bl Z0 ++ A) w cz cA r68 ∧ ISl (Rp.int .i64) (bl Z0 ++ A) w p97 c98 (ix r68 (k1_88 : Int)) ∧ Fr (bl []) w0 (bl Z0) w) [t2 Fl.bool 42 4 p90 n92 c91 (hup cB (k1_88 : Int).toNat (fx, r68.length)) d_123, .blk B51 (.cells #[.slice bc r32.length bf, .slice bg r38.length bh, .slice bi r44.length bj, .slice bp r59.length bq, .slice p90 n92 c91] 29 (0, 0)), .blk B2 (.cells #[.slice none 0 0, .slice none 0 0, .slice none 0 0, .slice none 0 0, .slice none 0 0] 29 (0, 0))]) H ⟨⟨rfl, rfl, rfl, rfl, rfl, rfl, rfl, rfl, rfl, rfl, rfl, rfl, trivial⟩, hO, aO, aP, aQ, aR, aX, aW, cd, hB⟩ ?_
   intro X2
   refine prE fun k2_122 => fun d_123 => ?_
   intro H hX2 σ q8
   refine andE fun hag => andE fun hO => andE fun aO => andE fun aP => andE fun aQ => andE fun aR => andE fun aX => andE fun aW => andE fun cd => fun hB => ?_
   dsimp only at H
   refine Go1.keep [(2, .pointer (some ⟨B2, 0, none⟩)), (5, .slice fe r26.length ff), (6, .pointer (some ⟨B51, 0, none⟩)), (7, .slice cz r68.length cA), (8, .int .i64 (k1_88 : Int)), (9, .slice p97 ((ix r68 (k1_88 : Int)).length) c98), (43, .slice cz r68.length cA), (44, .int .i64 (r68.length : Int)), (45, .int .i64 (k1_88 : Int)), (57, .slice cz r68.length cA), (58, .int .i64 (r68.length : Int)), (59, .int .i64 (k2_122 : Int))] hag ?_
   refine zq (zr ?_)
   by_cases fP : (k2_122 : Int) < (r68.length : Int)
   ·replace H := ifp fP H
    refine zo (fun w => opB (op_lss rfl rfl w) (decide_eq_true fP)) (zn (zq (zt rfl rfl (zk (zq ?_)))))
    refine zb (zq (zr (zm rfl ?_)))
    obtain ⟨kd, H⟩ := H
    obtain ⟨ke, H⟩ := H
    refine zo (op_index Try.underlying22 ti26 rfl rfl kd ke (aW.some_ kd ke)) ?_
    have hobt := ldSl aW kd ke
    obtain ⟨cv, cE, fh, mO⟩ := hobt
    refine zs (mO Try.underlying26 rfl rfl) (za rfl (za rfl (zn ?_)))
    refine Go1.drawS 1 [(0, .pure), (1, .stable), (2, .pure), (3, .pure), (4, .stable), (5, .pure), (6, .pure), (7, .pure), (8, .pure), (9, .stable), (10, .pure), (11, .stable), (12, .pure), (13, .pure), (14, .stable), (15, .loud), (16, .pure), (17, .last)] mixed (by kernel_rfl) ?_
    intro q9 mP
    have db := Stp.same hO mP
    replace hO := db.own
    refine GoQ.pure rfl (op_fieldAddr Try.underlying29 rfl ti27 rfl (by decide)) rfl rfl ?_
    refine GoQ.stable rfl (oblk (i := 4) 1 hO rfl rfl Try.underlying27 rfl rfl) rfl rfl ?_
    refine GoQ.pure rfl (op_move rfl) rfl rfl ?_
    obtain ⟨fG, H⟩ := H
    obtain ⟨fH, H⟩ := H
    refine GoQ.pure rfl (op_index Try.underlying27 ti42 rfl rfl fG (ltn (t2neq 0 hO rfl) fH) (t2some 0 hO rfl fG fH)) rfl rfl ?_
    refine GoQ.stable rfl (t2head 0 hO rfl fG fH Try.underlying42 rfl rfl) rfl rfl ?_
    refine GoQ.pure rfl (op_move rfl) rfl rfl ?_
    refine GoQ.pure rfl (op_move rfl) rfl rfl ?_
    refine GoQ.pure rfl (op_move rfl) rfl rfl ?_
    obtain ⟨gn, H⟩ := H
    obtain ⟨gp, H⟩ := H
    replace fh := fh.ch db.ch
    refine GoQ.pure rfl (op_index Try.underlying26 ti3 rfl rfl gn gp (fh.some_ gn gp)) rfl rfl ?_
    refine GoQ.stable rfl (ldInt fh gn gp Try.underlying3 rfl rfl) rfl rfl ?_
    obtain ⟨kg, H⟩ := H
    obtain ⟨kh, H⟩ := H
    replace aO := aO.ch db.ch
    refine GoQ.pure rfl (op_index Try.underlying49 ti56 rfl rfl kg kh (aO.some_ kg kh)) rfl rfl ?_
    have hobt := ldSl aO kg kh
    obtain ⟨ra, rb, gD, mQ⟩ := hobt
    refine GoQ.stable rfl (mQ Try.underlying56 rfl rfl) rfl rfl ?_
    refine GoQ.pure rfl (op_move rfl) rfl rfl ?_
    obtain ⟨ki, H⟩ := H
    obtain ⟨fV, H⟩ := H
    replace cd := cd.ch db.ch
    refine GoQ.pure rfl (op_index Try.underlying26 ti3 rfl rfl ki fV (cd.some_ ki fV)) rfl rfl ?_
    refine GoQ.stable rfl (ldInt cd ki fV Try.underlying3 rfl rfl) rfl rfl ?_
    refine GoQ.call rfl (op_call body31 rfl (walk_green_ideal_has hO.lt gD H)) (fun v w hr => by obtain ⟨_, _, hs, _⟩ := hr; assumption) rfl rfl ?_
    rintro rc rf ⟨r146, rfl, mS, H⟩
    have cP := Stp.same hO mS
    replace hO := cP.own
    obtain ⟨kj, H⟩ := H
    obtain ⟨kl, H⟩ := H
    refine GoQ.pure rfl (op_index Try.underlying42 ti4 rfl rfl kj kl (t2isome 0 hO rfl fG fH kj kl)) rfl rfl ?_
    have hobt := t2st (r := Rp.bool) (hf := Fl.bool) rfl 0 hO rfl fG fH kj kl (v := .bool r146) (u := r146) rfl rfl
    obtain ⟨pG, cQ, lF⟩ := hobt
    refine GoQ.last rfl (lF Try.underlying4 rfl ti4 (by exact rfl) (by exact rfl)) rfl rfl ?_
    replace hO := cQ.own
    refine GoQ.nil ?_
    refine Go1.inBlock ?_
    refine Go1.cut [(2, .pointer (some ⟨B2, 0, none⟩)), (5, .slice fe r26.length ff), (6, .pointer (some ⟨B51, 0, none⟩)), (7, .slice cz r68.length cA), (8, .int .i64 (k1_88 : Int)), (9, .slice p97 ((ix r68 (k1_88 : Int)).length) c98), (43, .slice cz r68.length cA), (44, .int .i64 (r68.length : Int)), (45, .int .i64 (k1_88 : Int)), (57, .slice cz r68.length cA), (58, .int .i64 (r68.length : Int)), (59, .int .i64 (k2_122 : Int))] ⟨rfl, rfl, rfl, rfl, rfl, rfl, rfl, rfl, rfl, rfl, rfl, rfl, trivial⟩ ?_
    intro σ _
    refine zr ?_
    have Z9 := (db.ch.trans cP.ch).trans cQ.ch
    replace aW := aW.ch Z9
    refine zo (op_add rfl rfl (wrap_i64 (natbd fP aW.bd))) (zm rfl (zn ?_))
    have Z10 := cP.ch.trans cQ.ch
    replace aO := aO.ch Z10
    replace cd := cd.ch Z10
    replace aP := aP.ch Z9
    replace aQ := aQ.ch Z9
    replace aR := aR.ch Z9
    replace aX := aX.ch Z9
    replace hB := ((hB.trans db.fr).trans cP.fr).trans cQ.fr
    exact hX2 _ H _ _ ⟨⟨rfl, rfl, rfl, rfl, rfl, rfl, rfl, rfl, rfl, rfl, rfl, rfl, trivial⟩, hO, aO, aP, aQ, aR, aX, aW, cd, hB⟩
   replace H := ifn fP H
   refine zo (fun w => opB (op_lss rfl rfl w) (decide_eq_false fP)) (zn (zq (zf rfl rfl ?_)))
   refine Go1.exit rfl ?_
   refine Go1.inBlock ?_
   refine zr (zo (op_add rfl rfl (wrap_i64 (natbd h94 aW.bd))) (zm rfl (zn ?_)))
   exact hX1 _ H _ _ ⟨n92, p90, c91, hup cB (k1_88 : Int).toNat (fx, r68.length), ⟨rfl, rfl, rfl, rfl, rfl, rfl, rfl, trivial⟩, hO, aO, aP, aQ, aR, aX, aW, hB⟩
  replace H := ifn h94 H
  refine zo (fun w => opB (op_lss rfl rfl w) (decide_eq_false h94)) (zn (zq (zf rfl rfl ?_)))
  refine Go1.exit rfl ?_
  refine zq (zr (zs (oblkAgg (vs := [.slice bc r32.length bf, .slice bg r38.length bh, .slice bi r44.length bj, .slice bp r59.length bq, .slice p90 n92 c91]) (i := 0) 1 hO rfl rfl Try.underlying29 rfl ti29 rfl) ?_))
  have hobt := oblkStAgg (us := [.slice bc r32.length bf, .slice bg r38.length bh, .slice bi r44.length bj, .slice bp r59.length bq, .slice p90 n92 c91]) (o := 0) (cs' := #[.slice bc r32.length bf, .slice bg r38.length bh, .slice bi r44.length bj, .slice bp r59.length bq, .slice p90 n92 c91]) 2 hO rfl rfl (Nat.le_of_ble_eq_true rfl) rfl
  obtain ⟨rh, dS, lG⟩ := hobt
  refine zg (lG ti29 (by exact rfl) (by exact rfl) rfl) ?_
  replace hO := dS.own
  refine zn ?_
  have hobt := t2freezeA 0 hO rfl
  obtain ⟨hO1, gi, mT, mU⟩ := hobt
  replace hO := hO1; clear hO1
  refine Go1.retC1 Try.func9 rfl rfl (run_loadBlk (vs := [.slice bc r32.length bf, .slice bg r38.length bh, .slice bi r44.length bj, .slice bp r59.length bq, .slice p90 n92 c91]) 1 hO rfl rfl Try.underlying29 rfl ti29) ?_
  have Z11 := dS.ch.trans gi
  replace aP := aP.ch Z11
  replace aQ := aQ.ch Z11
  replace aR := aR.ch Z11
  replace aX := aX.ch Z11
  replace hB := (hB.trans dS.fr).trans (Owns.dropFr _ _ 0)
  exact ⟨(⟨r32, r38, r44, r59, d_89⟩ : Green), bc, bf, bg, bh, bi, bj, bp, bq, p90, c91, (congrArg (fun l => Value.agg (List.toArray l)) (cons_eq rfl (cons_eq rfl (cons_eq rfl (cons_eq rfl (cons_eq (congrArg (fun nn => Value.slice p90 nn c91) mU) rfl)))))), hB.same, (aP.ch (Ch.weak _ _ _)), (aQ.ch (Ch.weak _ _ _)), (aR.ch (Ch.weak _ _ _)), (aX.ch (Ch.weak _ _ _)), (mT.ch (Ch.weak _ _ _)), H⟩
 replace H := ifn h13 H
 refine zo (fun w => opB (op_neq rfl rfl w) (ndF h13)) (zn (zt rfl rfl (zq (zr (zo (op_build Try.underlying29 ti29 (pl := [(0, 1), (1, 1), (2, 1), (3, 1), (4, 1)]) (vs := []) (cs := #[.slice none 0 0, .slice none 0 0, .slice none 0 0, .slice none 0 0, .slice none 0 0]) (by kernel_rfl) rfl (by kernel_rfl)) ?_)))))
 have hobt := oblkStAgg (us := [.slice none 0 0, .slice none 0 0, .slice none 0 0, .slice none 0 0, .slice none 0 0]) (o := 0) (cs' := #[.slice none 0 0, .slice none 0 0, .slice none 0 0, .slice none 0 0, .slice none 0 0]) 0 hO rfl rfl (Nat.le_of_ble_eq_true rfl) rfl
 obtain ⟨ld, iq, lH⟩ := hobt
 refine zg (lH ti29 (by exact rfl) (by exact rfl) rfl) ?_
 replace hO := iq.own
 refine zn ?_
 refine Go1.retC1 Try.func9 rfl rfl (run_loadBlk (vs := [.slice none 0 0, .slice none 0 0, .slice none 0 0, .slice none 0 0, .slice none 0 0]) 0 hO rfl rfl Try.underlying29 rfl ti29) ?_
 replace hB := ((hB.trans fu.fr).trans bz.fr).trans iq.fr
 exact ⟨(⟨([] : List Int), ([] : List Int), ([] : List Int), ([] : List Int), ([] : List (List Bool))⟩ : Green), none, 0, none, 0, none, 0, none, 0, none, 0, rfl, hB.same, (ISl.null _ _ _), (ISl.null _ _ _), (ISl.null _ _ _), (ISl.null _ _ _), (ISl.null _ _ _), H⟩
theorem body22 : Body Try.prog 22 := ⟨Try.f22, Try.func22, rfl, by kernel_rfl⟩
theorem walk_ref03_Same {A : List Nat} {w0 : World} {p_a : Option Addr} {c_a : Nat} {p_b : Option Addr} {c_b : Nat} {a : List Int} {b : List Int} (hA : ∀ b ∈ A, b < w0.heap.size) (h_a : ISl (Rp.int .i64) A w0 p_a c_a a) (h_b : ISl (Rp.int .i64) A w0 p_b c_b b) {K : Bool → Prop} (H : ref03_Same a b K) :
    CallsV Try.prog 22 #[.slice p_a a.length c_a, .slice p_b b.length c_b] w0 (fun v w' => ∃ (r0 : Bool), v = .bool r0 ∧ Same w0 w' ∧ K r0) := by
 refine CallsV.of (l := [.slice p_a a.length c_a, .slice p_b b.length c_b]) Try.func22 rfl Try.ntmps22 rfl ?_
 have hO := Owns.start hA
 have hB := Fr.refl (bl []) w0
 unfold ref03_Same at H
 refine zq (zr (za rfl (zn (zq (zq ?_)))))
 refine zr (zm rfl (zo (op_len Try.underlying26 rfl) ?_))
 replace h_a := h_a.ch (Ch.start A w0)
 replace H := H h_a.bd
 refine zm rfl (zo (op_len Try.underlying26 rfl) ?_)
 replace h_b := h_b.ch (Ch.start A w0)
 replace H := H h_b.bd
 by_cases h1 : (a.length : Int) = (b.length : Int)
 ·replace H := ifp h1 H
  refine zo (fun w => opB (op_neq rfl rfl w) (ndT h1)) (zn (zf rfl rfl (zk (zq (zq ?_)))))
  refine zr (zm rfl (zo (op_len Try.underlying26 rfl) (zm rfl (zn (zb ?_)))))
  refine Go1.loopW (S := Nat) (fun s σ w => agrees σ [(0, .slice p_a a.length c_a), (1, .slice p_b b.length c_b), (12, .int .i64 (a.length : Int)), (13, .int .i64 (s : Int))] ∧ Owns w0.heap.size w [] A ∧ ISl (Rp.int .i64) (bl [] ++ A) w p_a c_a a ∧ ISl (Rp.int .i64) (bl [] ++ A) w p_b c_b b ∧ Fr (bl []) w0 (bl []) w) H ⟨⟨rfl, rfl, rfl, rfl, trivial⟩, hO, h_a, h_b, hB⟩ ?_
  intro X1 k1_3
  intro H hX1 σ w2
  refine andE fun hag => andE fun hO => andE fun h_a => andE fun h_b => fun hB => ?_
  refine Go1.keep [(0, .slice p_a a.length c_a), (1, .slice p_b b.length c_b), (12, .int .i64 (a.length : Int)), (13, .int .i64 (k1_3 : Int))] hag ?_
  refine zq (zr ?_)
  by_cases h4 : (k1_3 : Int) < (a.length : Int)
  ·replace H := ifp h4 H
   refine zo (fun w => opB (op_lss rfl rfl w) (decide_eq_true h4)) (zn (zq (zt rfl rfl (zk (zq ?_)))))
   refine zb (zq (zr (zm rfl (za rfl (zn ?_)))))
   refine zq ?_
   refine Go1.drawS 0 [(0, .pure), (1, .pure), (2, .pure), (3, .stable), (4, .pure), (5, .pure), (6, .pure), (7, .stable), (8, .pure)] mixed (by kernel_rfl) ?_
   intro w5 hs6
   have cJ := Stp.same hO hs6
   replace hO := cJ.own
   refine GoQ.pure rfl (op_move rfl) rfl rfl ?_
   refine GoQ.pure rfl (op_move rfl) rfl rfl ?_
   obtain ⟨h8, H⟩ := H
   obtain ⟨h9, H⟩ := H
   replace h_a := h_a.ch cJ.ch
   refine GoQ.pure rfl (op_index Try.underlying26 ti3 rfl rfl h8 h9 (h_a.some_ h8 h9)) rfl rfl ?_
   refine GoQ.stable rfl (ldInt h_a h8 h9 Try.underlying3 rfl rfl) rfl rfl ?_
   refine GoQ.pure rfl (op_move rfl) rfl rfl ?_
   refine GoQ.pure rfl (op_move rfl) rfl rfl ?_
   obtain ⟨h10, H⟩ := H
   obtain ⟨h11, H⟩ := H
   replace h_b := h_b.ch cJ.ch
   refine GoQ.pure rfl (op_index Try.underlying26 ti3 rfl rfl h10 h11 (h_b.some_ h10 h11)) rfl rfl ?_
   refine GoQ.stable rfl (ldInt h_b h10 h11 Try.underlying3 rfl rfl) rfl rfl ?_
   by_cases h12 : (ix a (k1_3 : Int)) = (ix b (k1_3 : Int))
   ·replace H := ifp h12 H
    refine GoQ.pure rfl (fun w => opB (op_neq rfl rfl w) (ndT h12)) rfl rfl ?_
    refine GoQ.nil ?_
    refine zf rfl rfl (zk ?_)
    refine Go1.inBlock ?_
    refine zr (zo (op_add rfl rfl (wrap_i64 (natbd h4 h_a.bd))) (zm rfl (zn ?_)))
    replace hB := hB.trans cJ.fr
    exact hX1 _ H _ _ ⟨⟨rfl, rfl, rfl, rfl, trivial⟩, hO, h_a, h_b, hB⟩
   replace H := ifn h12 H
   refine GoQ.pure rfl (fun w => opB (op_neq rfl rfl w) (ndF h12)) rfl rfl ?_
   refine GoQ.nil ?_
   refine zt rfl rfl (zq (zr (za rfl (zn ?_))))
   refine Go1.ret1 Try.func22 rfl ?_
   replace hB := hB.trans cJ.fr
   exact ⟨false, rfl, hB.same, H⟩
  replace H := ifn h4 H
  refine zo (fun w => opB (op_lss rfl rfl w) (decide_eq_false h4)) (zn (zq (zf rfl rfl ?_)))
  refine Go1.exit rfl ?_
  refine zq (zr (za rfl (zn ?_)))
  refine Go1.ret1 Try.func22 rfl ?_
  exact ⟨true, rfl, hB.same, H⟩
 replace H := ifn h1 H
 refine zo (fun w => opB (op_neq rfl rfl w) (ndF h1)) (zn (zt rfl rfl (zq (zr (za rfl ?_)))))
 refine zn ?_
 refine Go1.ret1 Try.func22 rfl ?_
 exact ⟨false, rfl, hB.same, H⟩
theorem body45 : Body Try.prog 45 := ⟨Try.f45, Try.func45, rfl, by kernel_rfl⟩
theorem body23 : Body Try.prog 23 := ⟨Try.f23, Try.func23, rfl, by kernel_rfl⟩
theorem walk_green_Heights {A : List Nat} {w0 : World} {p_t : Option Addr} {c_t : Nat} {t : List (List Int)} (hA : ∀ b ∈ A, b < w0.heap.size) (h_t : ISl (Rp.sl (Rp.int .i64)) A w0 p_t c_t t) {K : List Int → Prop} (H : green_Heights t K) :
    CallsV Try.prog 23 #[.slice p_t t.length c_t] w0 (fun v w' => ∃ (r0 : List Int), ∃ (a8 : Option Addr), ∃ (a9 : Nat), v = .slice a8 r0.length a9 ∧ Same w0 w' ∧ ISl (Rp.int .i64) A w' a8 a9 r0 ∧ K r0) := by
 refine CallsV.of (l := [.slice p_t t.length c_t]) Try.func23 rfl Try.ntmps23 rfl ?_
 have hO := Owns.start hA
 have hB := Fr.refl (bl []) w0
 unfold green_Heights at H
 refine zq (zr (za rfl (zn (zq (zr ?_)))))
 refine zm rfl ?_
 replace h_t := h_t.ch (Ch.start A w0)
 refine GoR.call (op_call body9 rfl (walk_green_Classes hO.lt h_t H)) rfl rfl ?_
 rintro v5 w2 ⟨r1, aE, aF, aG, aH, aI, aJ, aK, aL, aw, ax, rfl, hs3, aA, aB, aC, aD, av, H⟩
 have aV := Stp.same hO hs3
 replace hO := aV.own
 have hobt := oalloc (t := 29) (cs := #[.slice none 0 0, .slice none 0 0, .slice none 0 0, .slice none 0 0, .slice none 0 0]) ti29 hO rfl
 obtain ⟨w7, B8, eK, iG, mV⟩ := hobt
 refine GoR.op mV rfl rfl ?_
 replace hO := eK.own
 have hobt := oblkStAgg (us := [.slice aE r1.R.length aF, .slice aG r1.L.length aH, .slice aI r1.J.length aJ, .slice aK r1.H.length aL, .slice aw r1.Below.length ax]) (o := 0) (cs' := #[.slice aE r1.R.length aF, .slice aG r1.L.length aH, .slice aI r1.J.length aJ, .slice aK r1.H.length aL, .slice aw r1.Below.length ax]) 0 hO rfl rfl (Nat.le_of_ble_eq_true rfl) rfl
 obtain ⟨w13, dh, gx⟩ := hobt
 refine zg (gx ti29 (by exact rfl) (by exact rfl) rfl) ?_
 replace hO := dh.own
 refine zn (zq (zr (zo (op_fieldAddr Try.underlying29 rfl ti27 rfl (by decide)) (zs (oblk (i := 4) 0 hO rfl rfl Try.underlying27 rfl rfl) (zo (op_len Try.underlying27 rfl) ?_)))))
 replace av := (av.ch eK.ch).ch dh.ch
 replace H := H av.bd
 obtain ⟨h23, H⟩ := H
 obtain ⟨h24, H⟩ := H
 have hobt := omake (n := (r1.Below.length : Int)) (r := Rp.int .i64) (d := (0 : Int)) Try.underlying26 ti3 (fun _ _ => rfl) rfl hO h23 h24 (by decide)
 obtain ⟨w16, p17, pI, bt, bW, gR, mW⟩ := hobt
 refine zg (mW rfl rfl) ?_
 replace hO := bt.own
 have hobt := oalloc (t := 26) (cs := #[.slice none 0 0]) ti26 hO rfl
 obtain ⟨w26, B27, bU, fw, iR⟩ := hobt
 refine GoR.op iR rfl rfl ?_
 replace hO := bU.own
 have hobt := oblkSt2 (v := .slice p17 r1.Below.length r1.Below.length) (i := 0) (cs' := #[.slice p17 r1.Below.length r1.Below.length]) 0 hO rfl rfl rfl rfl
 obtain ⟨w32, bE, iT⟩ := hobt
 refine zg (iT Try.underlying26 rfl ti26 (by exact rfl) (by exact rfl)) ?_
 replace hO := bE.own
 refine zn (zq (zq (zr (zs (oblk (i := 0) 0 hO rfl rfl Try.underlying26 rfl rfl) ?_))))
 replace bW := (bW.ch bU.ch).ch bE.ch
 refine zo (op_lenN Try.underlying26 rfl (bW.neq hO 1 rfl)) (zm rfl (zn (zb ?_)))
 have Z1 := (bt.ch.trans bU.ch).trans bE.ch
 replace av := av.ch Z1
 have Z2 := (((eK.ch.trans dh.ch).trans bt.ch).trans bU.ch).trans bE.ch
 replace aA := aA.ch Z2
 replace aB := aB.ch Z2
 replace aC := aC.ch Z2
 replace aD := aD.ch Z2
 replace hB := (((((hB.trans aV.fr).trans eK.fr).trans dh.fr).trans bt.fr).trans bU.fr).trans bE.fr
 refine Go1.loopW (S := Nat × List Int) (fun s σ w => match s with | (k1_36, d_37) => ∃ (eV : List Value), agrees σ [(3, .pointer (some ⟨B8, 0, none⟩)), (4, .pointer (some ⟨B27, 0, none⟩)), (15, .int .i64 ((List.replicate r1.Below.length ((0 : Int))).length : Int)), (16, .int .i64 (k1_36 : Int))] ∧ (fun Z0 => Owns w0.heap.size w Z0 A ∧ Els (Rp.int .i64) (bl Z0 ++ A) w eV d_37 ∧ ISl (Rp.int .i64) (bl Z0 ++ A) w aE aF r1.R ∧ ISl (Rp.int .i64) (bl Z0 ++ A) w aG aH r1.L ∧ ISl (Rp.int .i64) (bl Z0 ++ A) w aI aJ r1.J ∧ ISl (Rp.int .i64) (bl Z0 ++ A) w aK aL r1.H ∧ ISl (Rp.sl (Rp.bool)) (bl Z0 ++ A) w aw ax r1.Below ∧ Fr (bl []) w0 (bl Z0) w) [.blk B27 (.cells #[.slice p17 r1.Below.length r1.Below.length] 26 (0, 0)), .row 3 1 p17 r1.Below.length r1.Below.length eV, .blk B8 (.cells #[.slice aE r1.R.length aF, .slice aG r1.L.length aH, .slice aI r1.J.length aJ, .slice aK r1.H.length aL, .slice aw r1.Below.length ax] 29 (0, 0))]) H ⟨pI, ⟨rfl, rfl, rfl, rfl, trivial⟩, hO, bW, aA, aB, aC, aD, av, hB⟩ ?_
 intro X1
 refine prE fun k1_36 => fun d_37 => ?_
 intro H hX1 σ w35
 refine exE fun eV => andE fun hag => andE fun hO => andE fun fQ => andE fun aA => andE fun aB => andE fun aC => andE fun aD => andE fun av => fun hB => ?_
 dsimp only at H
 refine Go1.keep [(3, .pointer (some ⟨B8, 0, none⟩)), (4, .pointer (some ⟨B27, 0, none⟩)), (15, .int .i64 ((List.replicate r1.Below.length ((0 : Int))).length : Int)), (16, .int .i64 (k1_36 : Int))] hag ?_
 refine zq (zr ?_)
 by_cases h40 : (k1_36 : Int) < ((List.replicate r1.Below.length ((0 : Int))).length : Int)
 ·replace H := ifp h40 H
  refine zo (fun w => opB (op_lss rfl rfl w) (decide_eq_true h40)) (zn (zq (zt rfl rfl (zk (zq ?_)))))
  refine zb (zq (zr (zm rfl (za rfl (zn ?_)))))
  refine zr (zs (oblk (i := 0) 0 hO rfl rfl Try.underlying26 rfl rfl) (zm rfl ?_))
  obtain ⟨h41, H⟩ := H
  obtain ⟨h42, H⟩ := H
  refine zo (op_index Try.underlying26 ti3 rfl rfl h41 (ltn (fQ.neq hO 1 rfl) h42) (fQ.psome hO 1 rfl h41 h42)) ?_
  have hobt := ost (r := Rp.int .i64) rfl 1 hO rfl fQ h41 h42 (v := .int .i64 (-1 : Int)) (u := (-1 : Int)) rfl rfl
  obtain ⟨w43, pK, bT, pM, iM⟩ := hobt
  refine zg (iM Try.underlying3 rfl ti3 (by exact rfl) (by exact rfl)) ?_
  replace hO := bT.own
  refine zn ?_
  refine Go1.inBlock ?_
  refine zr ?_
  obtain ⟨h48, H⟩ := H
  refine zo (op_add rfl rfl (wrap_i64 h48)) (zm rfl (zn ?_))
  replace aA := aA.ch bT.ch
  replace aB := aB.ch bT.ch
  replace aC := aC.ch bT.ch
  replace aD := aD.ch bT.ch
  replace av := av.ch bT.ch
  replace hB := hB.trans bT.fr
  exact hX1 _ H _ _ ⟨pK, ⟨rfl, rfl, rfl, rfl, trivial⟩, hO, pM, aA, aB, aC, aD, av, hB⟩
 replace H := ifn h40 H
 refine zo (fun w => opB (op_lss rfl rfl w) (decide_eq_false h40)) (zn (zq (zf rfl rfl ?_)))
 refine Go1.exit rfl ?_
 refine zq (zr ?_)
 have hobt := oalloc (t := 68) (cs := #[.nilFunc]) ti68 hO rfl
 obtain ⟨w49, B50, cx, lI, iJ⟩ := hobt
 refine GoR.op iJ rfl rfl ?_
 replace hO := cx.own
 refine zn (zq (zr (zo (op_makeFunc (vs := [.pointer (some ⟨B27, 0, none⟩), .pointer (some ⟨B8, 0, none⟩), .pointer (some ⟨B50, 0, none⟩)]) rfl) ?_)))
 have hobt := oblkSt2 (v := .func (.func 45) #[] #[.pointer (some ⟨B27, 0, none⟩), .pointer (some ⟨B8, 0, none⟩), .pointer (some ⟨B50, 0, none⟩)]) (i := 0) (cs' := #[.func (.func 45) #[] #[.pointer (some ⟨B27, 0, none⟩), .pointer (some ⟨B8, 0, none⟩), .pointer (some ⟨B50, 0, none⟩)]]) 0 hO rfl rfl rfl rfl
 obtain ⟨w55, bF, mX⟩ := hobt
 refine zg (mX Try.underlying68 rfl ti68 (by exact rfl) (by exact rfl)) ?_
 replace hO := bF.own
 refine zn (zq (zq (zr (zs (oblk (i := 0) 1 hO rfl rfl Try.underlying26 rfl rfl) ?_))))
 replace fQ := (fQ.ch cx.ch).ch bF.ch
 refine zo (op_lenN Try.underlying26 rfl (fQ.neq hO 2 rfl)) (zm rfl (zn (zb ?_)))
 have Z3 := cx.ch.trans bF.ch
 replace aA := aA.ch Z3
 replace aB := aB.ch Z3
 replace aC := aC.ch Z3
 replace aD := aD.ch Z3
 replace av := av.ch Z3
 replace hB := (hB.trans cx.fr).trans bF.fr
 refine Go1.loopW (S := Nat × List Int) (fun s σ w => match s with | (k2_59, d_60) => ∃ (eW : List Value), agrees σ [(4, .pointer (some ⟨B27, 0, none⟩)), (6, .pointer (some ⟨B50, 0, none⟩)), (25, .int .i64 (d_37.length : Int)), (26, .int .i64 (k2_59 : Int))] ∧ (fun Z0 => Owns w0.heap.size w Z0 A ∧ Els (Rp.int .i64) (bl Z0 ++ A) w eW d_60 ∧ ISl (Rp.int .i64) (bl Z0 ++ A) w aE aF r1.R ∧ ISl (Rp.int .i64) (bl Z0 ++ A) w aG aH r1.L ∧ ISl (Rp.int .i64) (bl Z0 ++ A) w aI aJ r1.J ∧ ISl (Rp.int .i64) (bl Z0 ++ A) w aK aL r1.H ∧ ISl (Rp.sl (Rp.bool)) (bl Z0 ++ A) w aw ax r1.Below ∧ Fr (bl []) w0 (bl Z0) w) [.blk B50 (.cells #[.func (.func 45) #[] #[.pointer (some ⟨B27, 0, none⟩), .pointer (some ⟨B8, 0, none⟩), .pointer (some ⟨B50, 0, none⟩)]] 68 (0, 0)), .blk B27 (.cells #[.slice p17 r1.Below.length r1.Below.length] 26 (0, 0)), .row 3 1 p17 r1.Below.length r1.Below.length eW, .blk B8 (.cells #[.slice aE r1.R.length aF, .slice aG r1.L.length aH, .slice aI r1.J.length aJ, .slice aK r1.H.length aL, .slice aw r1.Below.length ax] 29 (0, 0))]) H ⟨eV, ⟨rfl, rfl, rfl, rfl, trivial⟩, hO, fQ, aA, aB, aC, aD, av, hB⟩ ?_
 intro X2
 refine prE fun k2_59 => fun d_60 => ?_
 intro H hX2 σ w58
 refine exE fun eW => andE fun hag => andE fun hO => andE fun iY => andE fun aA => andE fun aB => andE fun aC => andE fun aD => andE fun av => fun hB => ?_
 dsimp only at H
 refine Go1.keep [(4, .pointer (some ⟨B27, 0, none⟩)), (6, .pointer (some ⟨B50, 0, none⟩)), (25, .int .i64 (d_37.length : Int)), (26, .int .i64 (k2_59 : Int))] hag ?_
 refine zq (zr ?_)
 by_cases h63 : (k2_59 : Int) < (d_37.length : Int)
 ·replace H := ifp h63 H
  refine zo (fun w => opB (op_lss rfl rfl w) (decide_eq_true h63)) (zn (zq (zt rfl rfl (zk (zq ?_)))))
  refine zb (zq (zr (zm rfl (za rfl (zn ?_)))))
  refine zr (zs (oblk (i := 0) 0 hO rfl rfl Try.underlying68 rfl rfl) (zm rfl ?_))
  refine useRec (P := Try.prog) (g := 45) (S := Int × List Int) (T := Int × List Int) (args := [.int .i64 (k2_59 : Int), .pointer (some ⟨B27, 0, none⟩), .pointer (some ⟨B8, 0, none⟩), .pointer (some ⟨B50, 0, none⟩)]) (fun s args w => ∃ (cF : List Value), args = [.int .i64 (s.1), .pointer (some ⟨B27, 0, none⟩), .pointer (some ⟨B8, 0, none⟩), .pointer (some ⟨B50, 0, none⟩)] ∧ (fun Z0 => Owns w0.heap.size w Z0 A ∧ Els (Rp.int .i64) (bl Z0 ++ A) w cF (s.2) ∧ ISl (Rp.int .i64) (bl Z0 ++ A) w aE aF r1.R ∧ ISl (Rp.int .i64) (bl Z0 ++ A) w aG aH r1.L ∧ ISl (Rp.int .i64) (bl Z0 ++ A) w aI aJ r1.J ∧ ISl (Rp.int .i64) (bl Z0 ++ A) w aK aL r1.H ∧ ISl (Rp.sl (Rp.bool)) (bl Z0 ++ A) w aw ax r1.Below) [.blk B50 (.cells #[.func (.func 45) #[] #[.pointer (some ⟨B27, 0, none⟩), .pointer (some ⟨B8, 0, none⟩), .pointer (some ⟨B50, 0, none⟩)]] 68 (0, 0)), .blk B27 (.cells #[.slice p17 r1.Below.length r1.Below.length] 26 (0, 0)), .row 3 1 p17 r1.Below.length r1.Below.length cF, .blk B8 (.cells #[.slice aE r1.R.length aF, .slice aG r1.L.length aH, .slice aI r1.J.length aJ, .slice aK r1.H.length aL, .slice aw r1.Below.length ax] 29 (0, 0))]) (fun we t v w => ∃ (cF : List Value), v = .int .i64 (t.1) ∧ (fun Z0 => Owns w0.heap.size w Z0 A ∧ Els (Rp.int .i64) (bl Z0 ++ A) w cF (t.2) ∧ Fr (bl Z0) we (bl Z0) w) [.blk B50 (.cells #[.func (.func 45) #[] #[.pointer (some ⟨B27, 0, none⟩), .pointer (some ⟨B8, 0, none⟩), .pointer (some ⟨B50, 0, none⟩)]] 68 (0, 0)), .blk B27 (.cells #[.slice p17 r1.Below.length r1.Below.length] 26 (0, 0)), .row 3 1 p17 r1.Below.length r1.Below.length cF, .blk B8 (.cells #[.slice aE r1.R.length aF, .slice aG r1.L.length aH, .slice aI r1.J.length aJ, .slice aK r1.H.length aL, .slice aw r1.Below.length ax] 29 (0, 0))]) ⟨eW, rfl, hO, iY, aA, aB, aC, aD, av⟩ H ?_ ?_
  ·rintro X3 hX3 ⟨i3_64, d3_65⟩ KR3 args w68 H ⟨cF, rfl, hO, fy, aA, aB, aC, aD, av⟩
   dsimp only at H
   refine CallsV.of (l := [.int .i64 i3_64, .pointer (some ⟨B27, 0, none⟩), .pointer (some ⟨B8, 0, none⟩), .pointer (some ⟨B50, 0, none⟩)]) Try.func45 rfl Try.ntmps45 rfl ?_
   have hB := Fr.refl (bl [.blk B50 (.cells #[.func (.func 45) #[] #[.pointer (some ⟨B27, 0, none⟩), .pointer (some ⟨B8, 0, none⟩), .pointer (some ⟨B50, 0, none⟩)]] 68 (0, 0)), .blk B27 (.cells #[.slice p17 r1.Below.length r1.Below.length] 26 (0, 0)), .row 3 1 p17 r1.Below.length r1.Below.length cF, .blk B8 (.cells #[.slice aE r1.R.length aF, .slice aG r1.L.length aH, .slice aI r1.J.length aJ, .slice aK r1.H.length aL, .slice aw r1.Below.length ax] 29 (0, 0))]) w68
   refine zq (zr (za rfl (zn (zq (zq ?_)))))
   refine zr (zs (oblk (i := 0) 1 hO rfl rfl Try.underlying26 rfl rfl) (zm rfl ?_))
   obtain ⟨h69, H⟩ := H
   obtain ⟨h70, H⟩ := H
   refine zo (op_index Try.underlying26 ti3 rfl rfl h69 (ltn (fy.neq hO 2 rfl) h70) (fy.psome hO 2 rfl h69 h70)) (zs (oldInt 2 hO rfl fy h69 h70 Try.underlying3 rfl rfl) ?_)
   by_cases h71 : (ix d3_65 i3_64) < (0 : Int)
   ·replace H := ifp h71 H
    refine zo (fun w => opB (op_lss rfl rfl w) (decide_eq_true h71)) (zn (zt rfl rfl (zq (zr (zs (oblk (i := 0) 1 hO rfl rfl Try.underlying26 rfl rfl) ?_)))))
    refine zm rfl ?_
    obtain ⟨h72, H⟩ := H
    obtain ⟨h73, H⟩ := H
    refine zo (op_index Try.underlying26 ti3 rfl rfl h72 (ltn (fy.neq hO 2 rfl) h73) (fy.psome hO 2 rfl h72 h73)) ?_
    have hobt := ost (r := Rp.int .i64) rfl 2 hO rfl fy h72 h73 (v := .int .i64 (0 : Int)) (u := (0 : Int)) rfl rfl
    obtain ⟨w74, pN, fR, pO, mY⟩ := hobt
    refine zg (mY Try.underlying3 rfl ti3 (by exact rfl) (by exact rfl)) ?_
    replace hO := fR.own
    refine zn (zq (zr (zo (op_fieldAddr Try.underlying29 rfl ti27 rfl (by decide)) (zs (oblk (i := 4) 3 hO rfl rfl Try.underlying27 rfl rfl) (zm rfl ?_)))))
    obtain ⟨h79, H⟩ := H
    obtain ⟨h80, H⟩ := H
    replace av := av.ch fR.ch
    refine zo (op_index Try.underlying27 ti42 rfl rfl h79 h80 (av.some_ h79 h80)) ?_
    have hobt := ldSl av h79 h80
    obtain ⟨p81, c82, bX, pP⟩ := hobt
    refine zs (pP Try.underlying42 rfl rfl) (zo (op_len Try.underlying42 rfl) ?_)
    replace H := H bX.bd
    refine zm rfl (zn (zb ?_))
    replace aA := aA.ch fR.ch
    replace aB := aB.ch fR.ch
    replace aC := aC.ch fR.ch
    replace aD := aD.ch fR.ch
    replace hB := hB.trans fR.fr
    refine Go1.loopW (S := Nat × List Int) (fun s σ w => match s with | (k4_86, d_87) => ∃ (dm : List Value), agrees σ [(0, .int .i64 i3_64), (1, .pointer (some ⟨B27, 0, none⟩)), (3, .pointer (some ⟨B50, 0, none⟩)), (20, .slice p81 ((ix r1.Below i3_64).length) c82), (21, .int .i64 ((ix r1.Below i3_64).length : Int)), (22, .int .i64 (k4_86 : Int))] ∧ (fun Z0 => Owns w0.heap.size w Z0 A ∧ Els (Rp.int .i64) (bl Z0 ++ A) w dm d_87 ∧ ISl (Rp.int .i64) (bl Z0 ++ A) w aE aF r1.R ∧ ISl (Rp.int .i64) (bl Z0 ++ A) w aG aH r1.L ∧ ISl (Rp.int .i64) (bl Z0 ++ A) w aI aJ r1.J ∧ ISl (Rp.int .i64) (bl Z0 ++ A) w aK aL r1.H ∧ ISl (Rp.sl (Rp.bool)) (bl Z0 ++ A) w aw ax r1.Below ∧ ISl (Rp.bool) (bl Z0 ++ A) w p81 c82 (ix r1.Below i3_64) ∧ Fr (bl [.blk B50 (.cells #[.func (.func 45) #[] #[.pointer (some ⟨B27, 0, none⟩), .pointer (some ⟨B8, 0, none⟩), .pointer (some ⟨B50, 0, none⟩)]] 68 (0, 0)), .blk B27 (.cells #[.slice p17 r1.Below.length r1.Below.length] 26 (0, 0)), .row 3 1 p17 r1.Below.length r1.Below.length cF, .blk B8 (.cells #[.slice aE r1.R.length aF, .slice aG r1.L.length aH, .slice aI r1.J.length aJ, .slice aK r1.H.length aL, .slice aw r1.Below.length ax] 29 (0, 0))]) w68 (bl Z0) w) [.blk B50 (.cells #[.func (.func 45) #[] #[.pointer (some ⟨B27, 0, none⟩), .pointer (some ⟨B8, 0, none⟩), .pointer (some ⟨B50, 0, none⟩)]] 68 (0, 0)), .blk B27 (.cells #[.slice p17 r1.Below.length r1.Below.length] 26 (0, 0)), .row 3 1 p17 r1.Below.length r1.Below.length dm, .blk B8 (.cells #[.slice aE r1.R.length aF, .slice aG r1.L.length aH, .slice aI r1.J.length aJ, .slice aK r1.H.length aL, .slice aw r1.Below.length ax] 29 (0, 0))]) H ⟨pN, ⟨rfl, rfl, rfl, rfl, rfl, rfl, trivial⟩, hO, pO, aA, aB, aC, aD, av, bX, hB⟩ ?_
    intro X4
    refine prE fun k4_86 => fun d_87 => ?_
    intro H hX4 σ w85
    refine exE fun dm => andE fun hag => andE fun hO => andE fun ce => andE fun aA => andE fun aB => andE fun aC => andE fun aD => andE fun av => andE fun bX => fun hB => ?_
    dsimp only at H
    refine Go1.keep [(0, .int .i64 i3_64), (1, .pointer (some ⟨B27, 0, none⟩)), (3, .pointer (some ⟨B50, 0, none⟩)), (20, .slice p81 ((ix r1.Below i3_64).length) c82), (21, .int .i64 ((ix r1.Below i3_64).length : Int)), (22, .int .i64 (k4_86 : Int))] hag ?_
    refine zq (zr ?_)
    by_cases h90 : (k4_86 : Int) < ((ix r1.Below i3_64).length : Int)
    ·replace H := ifp h90 H
     refine zo (fun w => opB (op_lss rfl rfl w) (decide_eq_true h90)) (zn (zq (zt rfl rfl (zk (zq ?_)))))
     refine zb (zq (zr (zm rfl ?_)))
     obtain ⟨h91, H⟩ := H
     obtain ⟨h92, H⟩ := H
     refine zo (op_index Try.underlying42 ti4 rfl rfl h91 h92 (bX.some_ h91 h92)) ?_
     by_cases h93 : ix (ix r1.Below i3_64) (k4_86 : Int) = true
     ·replace H := ifp h93 H
      refine zg (opB ((ldBool bX h91 h92 Try.underlying4 rfl rfl) _ (Same.refl _)) (h93)) (za rfl (za rfl (zn (zq (zr ?_)))))
      refine zm rfl (zm rfl (zm rfl (zm rfl ?_)))
      by_cases h94 : (k4_86 : Int) = i3_64
      ·replace H := ifp h94 H
       refine zo (fun w => opB (op_neq rfl rfl w) (ndT h94)) (zo (op_pickT rfl rfl rfl) (zn (zf rfl rfl (zk ?_))))
       refine Go1.inBlock ?_
       refine zr (zo (op_add rfl rfl (wrap_i64 (natbd h90 bX.bd))) (zm rfl (zn ?_)))
       exact hX4 _ H _ _ ⟨dm, ⟨rfl, rfl, rfl, rfl, rfl, rfl, trivial⟩, hO, ce, aA, aB, aC, aD, av, bX, hB⟩
      replace H := ifn h94 H
      refine zo (fun w => opB (op_neq rfl rfl w) (ndF h94)) (zo (op_pickT rfl rfl rfl) (zn (zt rfl rfl ?_)))
      refine Go1.drawRS [(some ⟨B27, 0, none⟩), (padd p17 (i3_64.toNat * 1)), (some ⟨B50, 0, none⟩)] 1 [(0, .stable), (1, .pure), (2, .stable), (3, .pure), (4, .pure), (5, .stable), (6, .stable), (7, .pure), (8, .loud), (9, .pure), (10, .pure), (11, .pure), (12, .last)] mixed (by kernel_rfl) ?_
      intro w95 pQ
      have eP := Stp.same hO pQ
      replace hO := eP.own
      refine GoQR.stable rfl (loadR (.head _) rfl (blkCell 1 hO rfl rfl) Try.underlying26 rfl rfl) rfl rfl ?_
      refine GoQR.pure rfl (op_move rfl) rfl rfl ?_
      refine GoQR.stable rfl (loadR (.head _) rfl (blkCell 1 hO rfl rfl) Try.underlying26 rfl rfl) rfl rfl ?_
      refine GoQR.pure rfl (op_move rfl) rfl rfl ?_
      obtain ⟨h98, H⟩ := H
      obtain ⟨h99, H⟩ := H
      replace ce := ce.ch eP.ch
      refine GoQR.pure rfl (op_index Try.underlying26 ti3 rfl rfl h98 (ltn (ce.neq hO 2 rfl) h99) (ce.psome hO 2 rfl h98 h99)) rfl rfl ?_
      refine GoQR.stable rfl (loadR (.tail _ (.head _)) (padd_some (ce.psome hO 2 rfl h98 h99)) (rowCellInt 2 hO rfl ce h98 h99) Try.underlying3 rfl rfl) rfl rfl ?_
      refine GoQR.stable rfl (loadR (.tail _ (.tail _ (.head _))) rfl (blkCell 0 hO rfl rfl) Try.underlying68 rfl rfl) rfl rfl ?_
      refine GoQR.pure rfl (op_move rfl) rfl rfl ?_
      replace aA := aA.ch eP.ch
      replace aB := aB.ch eP.ch
      replace aC := aC.ch eP.ch
      replace aD := aD.ch eP.ch
      replace av := av.ch eP.ch
      refine GoQR.call rfl (op_callV (vs := [.int .i64 (k4_86 : Int)]) (caps := [.pointer (some ⟨B27, 0, none⟩), .pointer (some ⟨B8, 0, none⟩), .pointer (some ⟨B50, 0, none⟩)]) body45 rfl rfl (hX3 ((k4_86 : Int), d_87) _ _ _ H ⟨dm, rfl, hO, ce, aA, aB, aC, aD, av⟩)) (fun v w hr => by obtain ⟨⟨r102, d103⟩, ⟨m0, rfl, hO9, m3, hF9⟩, H9⟩ := hr; dsimp only at H9; obtain ⟨kk1, kl1, H9⟩ := H9; exact (CS.cons (cs_eq (blkCell 1 hO rfl rfl) (blkCell 1 hO9 rfl rfl)) (CS.cons (cs_eq (rowCellInt 2 hO rfl ce h98 h99) (by rw [← kk1]; exact rowCellInt 2 hO9 rfl m3 h98 kl1)) (CS.cons (cs_eq (blkCell 0 hO rfl rfl) (blkCell 0 hO9 rfl rfl)) (CS.nil _ _))))) rfl rfl ?_
      rintro ri rk ⟨⟨r102, d103⟩, ⟨m0, rfl, hO, ce, hF⟩, H⟩
      dsimp only at H
      obtain ⟨kk1, kl1, H⟩ := H
      obtain ⟨pS, H⟩ := H
      refine GoQR.pure rfl (op_add rfl rfl (wrap_i64 pS)) rfl rfl ?_
      by_cases i4 : (ix d_87 i3_64) < ((1 : Int) + r102)
      ·replace H := ifp i4 H
       refine GoQR.pure rfl (op_maxT rfl rfl i4) rfl rfl ?_
       obtain ⟨gc, H⟩ := H
       obtain ⟨gs, H⟩ := H
       refine GoQR.pure rfl (op_index Try.underlying26 ti3 rfl rfl gc (ltn (ce.neq hO 2 rfl) gs) (ce.psome hO 2 rfl gc gs)) rfl rfl ?_
       have hobt := ost (r := Rp.int .i64) rfl 2 hO rfl ce gc gs (v := .int .i64 ((1 : Int) + r102)) (u := ((1 : Int) + r102)) rfl rfl
       obtain ⟨rm, m5, dT, m6, lJ⟩ := hobt
       refine GoQR.last rfl (lJ Try.underlying3 rfl ti3 (by exact rfl) (by exact rfl)) rfl rfl ?_
       replace hO := dT.own
       refine GoQR.nil ?_
       refine Go1.inBlock ?_
       refine zr ?_
       have Z4 := (eP.ch.trans (hF.ch.app A)).trans dT.ch
       replace bX := bX.ch Z4
       refine zo (op_add rfl rfl (wrap_i64 (natbd h90 bX.bd))) (zm rfl (zn ?_))
       have Z5 := (hF.ch.app A).trans dT.ch
       replace aA := aA.ch Z5
       replace aB := aB.ch Z5
       replace aC := aC.ch Z5
       replace aD := aD.ch Z5
       replace av := av.ch Z5
       replace hB := ((hB.trans eP.fr).trans hF).trans dT.fr
       exact hX4 _ H _ _ ⟨m5, ⟨rfl, rfl, rfl, rfl, rfl, rfl, trivial⟩, hO, m6, aA, aB, aC, aD, av, bX, hB⟩
      replace H := ifn i4 H
      refine GoQR.pure rfl (op_maxF rfl rfl i4) rfl rfl ?_
      obtain ⟨eQ, H⟩ := H
      obtain ⟨eU, H⟩ := H
      refine GoQR.pure rfl (op_index Try.underlying26 ti3 rfl rfl eQ (ltn (ce.neq hO 2 rfl) eU) (ce.psome hO 2 rfl eQ eU)) rfl rfl ?_
      have hobt := ost (r := Rp.int .i64) rfl 2 hO rfl ce eQ eU (v := .int .i64 (ix d_87 i3_64)) (u := (ix d_87 i3_64)) rfl rfl
      obtain ⟨ro, m7, dU, m8, ip⟩ := hobt
      refine GoQR.last rfl (ip Try.underlying3 rfl ti3 (by exact rfl) (by exact rfl)) rfl rfl ?_
      replace hO := dU.own
      refine GoQR.nil ?_
      refine Go1.inBlock ?_
      refine zr ?_
      have Z6 := (eP.ch.trans (hF.ch.app A)).trans dU.ch
      replace bX := bX.ch Z6
      refine zo (op_add rfl rfl (wrap_i64 (natbd h90 bX.bd))) (zm rfl (zn ?_))
      have Z7 := (hF.ch.app A).trans dU.ch
      replace aA := aA.ch Z7
      replace aB := aB.ch Z7
      replace aC := aC.ch Z7
      replace aD := aD.ch Z7
      replace av := av.ch Z7
      replace hB := ((hB.trans eP.fr).trans hF).trans dU.fr
      exact hX4 _ H _ _ ⟨m7, ⟨rfl, rfl, rfl, rfl, rfl, rfl, trivial⟩, hO, m8, aA, aB, aC, aD, av, bX, hB⟩
     replace H := ifn h93 H
     refine zg (opB ((ldBool bX h91 h92 Try.underlying4 rfl rfl) _ (Same.refl _)) (Bool.eq_false_iff.2 h93)) (za rfl (za rfl (zn (zq (zr ?_)))))
     refine zm rfl (zm rfl (zp (zp (zp (zo (op_pickF rfl rfl rfl) ?_)))))
     refine zn (zf rfl rfl (zk ?_))
     refine Go1.inBlock ?_
     refine zr (zo (op_add rfl rfl (wrap_i64 (natbd h90 bX.bd))) (zm rfl (zn ?_)))
     exact hX4 _ H _ _ ⟨dm, ⟨rfl, rfl, rfl, rfl, rfl, rfl, trivial⟩, hO, ce, aA, aB, aC, aD, av, bX, hB⟩
    replace H := ifn h90 H
    refine zo (fun w => opB (op_lss rfl rfl w) (decide_eq_false h90)) (zn (zq (zf rfl rfl ?_)))
    refine Go1.exit rfl ?_
    refine zq (zr (zs (oblk (i := 0) 1 hO rfl rfl Try.underlying26 rfl rfl) (zm rfl ?_)))
    obtain ⟨km, H⟩ := H
    obtain ⟨kn, H⟩ := H
    refine zo (op_index Try.underlying26 ti3 rfl rfl km (ltn (ce.neq hO 2 rfl) kn) (ce.psome hO 2 rfl km kn)) (zs (oldInt 2 hO rfl ce km kn Try.underlying3 rfl rfl) (za rfl (zn ?_)))
    refine Go1.ret1 Try.func45 rfl ?_
    exact ⟨((ix d_87 i3_64), d_87), ⟨dm, rfl, hO, ce, hB⟩, H⟩
   replace H := ifn h71 H
   refine zo (fun w => opB (op_lss rfl rfl w) (decide_eq_false h71)) (zn (zf rfl rfl (zk (zq (zr ?_)))))
   refine zs (oblk (i := 0) 1 hO rfl rfl Try.underlying26 rfl rfl) (zm rfl ?_)
   obtain ⟨ko, H⟩ := H
   obtain ⟨fP, H⟩ := H
   refine zo (op_index Try.underlying26 ti3 rfl rfl ko (ltn (fy.neq hO 2 rfl) fP) (fy.psome hO 2 rfl ko fP)) (zs (oldInt 2 hO rfl fy ko fP Try.underlying3 rfl rfl) (za rfl (zn ?_)))
   refine Go1.ret1 Try.func45 rfl ?_
   exact ⟨((ix d3_65 i3_64), d3_65), ⟨cF, rfl, hO, fy, hB⟩, H⟩
  ·intro hrec3
   refine GoR.call (op_callV (vs := [.int .i64 (k2_59 : Int)]) (caps := [.pointer (some ⟨B27, 0, none⟩), .pointer (some ⟨B8, 0, none⟩), .pointer (some ⟨B50, 0, none⟩)]) body45 rfl rfl hrec3) rfl rfl ?_
   rintro rp pT ⟨⟨r127, d128⟩, ⟨m9, rfl, hO, iY, hF⟩, H⟩
   dsimp only at H
   refine zn ?_
   refine Go1.inBlock ?_
   refine Go1.cut [(4, .pointer (some ⟨B27, 0, none⟩)), (6, .pointer (some ⟨B50, 0, none⟩)), (25, .int .i64 (d_37.length : Int)), (26, .int .i64 (k2_59 : Int))] ⟨rfl, rfl, rfl, rfl, trivial⟩ ?_
   intro σ _
   refine zr ?_
   obtain ⟨pU, H⟩ := H
   refine zo (op_add rfl rfl (wrap_i64 pU)) (zm rfl (zn ?_))
   replace aA := aA.ch (hF.ch.app A)
   replace aB := aB.ch (hF.ch.app A)
   replace aC := aC.ch (hF.ch.app A)
   replace aD := aD.ch (hF.ch.app A)
   replace av := av.ch (hF.ch.app A)
   replace hB := hB.trans hF
   exact hX2 _ H _ _ ⟨m9, ⟨rfl, rfl, rfl, rfl, trivial⟩, hO, iY, aA, aB, aC, aD, av, hB⟩
 replace H := ifn h63 H
 refine zo (fun w => opB (op_lss rfl rfl w) (decide_eq_false h63)) (zn (zq (zf rfl rfl ?_)))
 refine Go1.exit rfl ?_
 refine zq (zr (zs (oblk (i := 0) 1 hO rfl rfl Try.underlying26 rfl rfl) (za rfl (zn ?_))))
 have hobt := freeze 2 hO rfl iY
 obtain ⟨hO1, gE, na, nb⟩ := hobt
 replace hO := hO1; clear hO1
 refine Go1.ret1 Try.func23 rfl ?_
 replace hB := hB.trans (Owns.dropFr _ _ 2)
 exact ⟨d_60, p17, r1.Below.length, (congrArg (fun nn => Value.slice p17 nn r1.Below.length) nb), hB.same, (na.ch (Ch.weak _ _ _)), H⟩
theorem body8 : Body Try.prog 8 := ⟨Try.f8, Try.func8, rfl, by kernel_rfl⟩
theorem walk_law15_awake {A : List Nat} {w0 : World} (hA : ∀ b ∈ A, b < w0.heap.size) {K : Bool → Prop} (H : law15_awake  K) :
    CallsV Try.prog 8 #[] w0 (fun v w' => ∃ (r0 : Bool), v = .bool r0 ∧ Same w0 w' ∧ K r0) := by
 refine CallsV.of (l := []) Try.func8 rfl Try.ntmps8 rfl ?_
 have hO := Owns.start hA
 have hB := Fr.refl (bl []) w0
 unfold law15_awake at H
 refine zq (zr (za rfl (zn (zq (zr ?_)))))
 refine GoR.call (op_call body21 rfl (walk_law15_flip hO.lt H)) rfl rfl ?_
 rintro v5 w2 ⟨r1, rq, rs, rfl, hs3, cC, H⟩
 have aV := Stp.same hO hs3
 replace hO := aV.own
 refine GoR.call (op_call body9 rfl (walk_green_Classes hO.lt cC H)) rfl rfl ?_
 rintro v11 w8 ⟨r7, jj, jk, jl, jm, gF, gG, jo, jp, gH, gI, rfl, hs9, bI, bK, bD, bM, aY, H⟩
 have bz := Stp.same hO hs9
 replace hO := bz.own
 have hobt := oalloc (t := 29) (cs := #[.slice none 0 0, .slice none 0 0, .slice none 0 0, .slice none 0 0, .slice none 0 0]) ti29 hO rfl
 obtain ⟨w13, B14, fk, iH, nc⟩ := hobt
 refine GoR.op nc rfl rfl ?_
 replace hO := fk.own
 have hobt := oblkStAgg (us := [.slice jj r7.R.length jk, .slice jl r7.L.length jm, .slice gF r7.J.length gG, .slice jo r7.H.length jp, .slice gH r7.Below.length gI]) (o := 0) (cs' := #[.slice jj r7.R.length jk, .slice jl r7.L.length jm, .slice gF r7.J.length gG, .slice jo r7.H.length jp, .slice gH r7.Below.length gI]) 0 hO rfl rfl (Nat.le_of_ble_eq_true rfl) rfl
 obtain ⟨w19, fm, iv⟩ := hobt
 refine zg (iv ti29 (by exact rfl) (by exact rfl) rfl) ?_
 replace hO := fm.own
 refine zn (zq (zr (zo (op_fieldAddr Try.underlying29 rfl ti26 rfl (by decide)) (zs (oblk (i := 2) 0 hO rfl rfl Try.underlying26 rfl rfl) ?_))))
 have hobt := obuild (r := Rp.int .i64) (n := 3) (parts := [(0, .int .i64 (0 : Int)), (1, .int .i64 (0 : Int)), (2, .int .i64 (1 : Int))]) (vs := [.int .i64 (0 : Int), .int .i64 (0 : Int), .int .i64 (1 : Int)]) (xs := [(0 : Int), (0 : Int), (1 : Int)]) rfl Try.underlying26 ti3 hO (by decide) (by kernel_rfl) (Els.cons rfl rfl (Els.cons rfl rfl (Els.cons rfl rfl (Els.nil _ _ _) (by simp [mx])) (by simp [mx])) (by simp [mx])) rfl
 obtain ⟨w22, p23, ba, eX, ru, ne⟩ := hobt
 refine zg (ne rfl) ?_
 replace hO := ba.own
 have hobt := rowlend 0 hO rfl eX
 obtain ⟨pV, pW⟩ := hobt
 have hOc31 := hO.drop 0
 have Z1 := (fk.ch.trans fm.ch).trans ba.ch
 replace bD := bD.ch Z1
 refine GoR.call (op_call body22 (show ([.slice gF r7.J.length gG, .slice p23 3 3] : List Value) = [.slice gF r7.J.length gG, .slice p23 ([(0 : Int), (0 : Int), (1 : Int)]).length 3] from by rw [← pW]) (walk_ref03_Same hOc31.lt (bD.ch (Owns.dropCh _ _ 0)) pV H)) rfl rfl ?_
 rintro v36 w33 ⟨r32, rfl, ka, H⟩
 have bH := Stp.same hO ka
 replace hO := bH.own
 refine zm rfl ?_
 cases r32
 ·replace H := ifn Bool.false_ne_true H
  refine zp (zp (zp (zp (zo (op_pickF rfl rfl rfl) (zm rfl ?_)))))
  refine zp (zp (zp (zp (zo (op_pickF rfl rfl rfl) (za rfl ?_)))))
  refine zn ?_
  refine Go1.ret1 Try.func8 rfl ?_
  replace hB := (((((hB.trans aV.fr).trans bz.fr).trans fk.fr).trans fm.fr).trans ba.fr).trans bH.fr
  exact ⟨false, rfl, hB.same, H⟩
 replace H := ifp rfl H
 refine zo (op_fieldAddr Try.underlying29 rfl ti27 rfl (by decide)) (zs (oblk (i := 4) 1 hO rfl rfl Try.underlying27 rfl rfl) (zo (op_len Try.underlying27 rfl) ?_))
 replace aY := (aY.ch Z1).ch bH.ch
 replace H := H aY.bd
 by_cases h38 : (r7.Below.length : Int) = (2 : Int)
 ·replace H := ifp h38 H
  refine zo (fun w => opB (op_eql rfl rfl w) (decide_eq_true h38)) (zo (op_pickT rfl rfl rfl) (zm rfl ?_))
  refine GoR.call (op_call body21 rfl (walk_law15_flip hO.lt H)) rfl rfl ?_
  rintro v43 w40 ⟨r39, qm, qn, rfl, pX, fS, H⟩
  have bP := Stp.same hO pX
  replace hO := bP.own
  refine GoR.call (op_call body23 rfl (walk_green_Heights hO.lt fS H)) rfl rfl ?_
  rintro v49 w46 ⟨r45, kO, kP, rfl, pY, gJ, H⟩
  have cI := Stp.same hO pY
  replace hO := cI.own
  have hobt := obuild (r := Rp.int .i64) (n := 2) (parts := [(0, .int .i64 (0 : Int)), (1, .int .i64 (1 : Int))]) (vs := [.int .i64 (0 : Int), .int .i64 (1 : Int)]) (xs := [(0 : Int), (1 : Int)]) rfl Try.underlying26 ti3 hO (by decide) (by kernel_rfl) (Els.cons rfl rfl (Els.cons rfl rfl (Els.nil _ _ _) (by simp [mx])) (by simp [mx])) rfl
  obtain ⟨w51, p52, dD, kq, rv, nf⟩ := hobt
  refine zg (nf rfl) ?_
  replace hO := dD.own
  have hobt := rowlend 0 hO rfl kq
  obtain ⟨p5, p6⟩ := hobt
  have hOc60 := hO.drop 0
  replace gJ := gJ.ch dD.ch
  refine GoR.call (op_call body22 (show ([.slice kO r45.length kP, .slice p52 2 2] : List Value) = [.slice kO r45.length kP, .slice p52 ([(0 : Int), (1 : Int)]).length 2] from by rw [← p6]) (walk_ref03_Same hOc60.lt (gJ.ch (Owns.dropCh _ _ 0)) p5 H)) rfl rfl ?_
  rintro v65 w62 ⟨r61, rfl, kr, H⟩
  have bA := Stp.same hO kr
  replace hO := bA.own
  refine zo (op_pickT rfl rfl rfl) (za rfl (zn ?_))
  refine Go1.ret1 Try.func8 rfl ?_
  replace hB := (((((((((hB.trans aV.fr).trans bz.fr).trans fk.fr).trans fm.fr).trans ba.fr).trans bH.fr).trans bP.fr).trans cI.fr).trans dD.fr).trans bA.fr
  exact ⟨r61, rfl, hB.same, H⟩
 replace H := ifn h38 H
 refine zo (fun w => opB (op_eql rfl rfl w) (decide_eq_false h38)) (zo (op_pickT rfl rfl rfl) (zm rfl (zp (zp (zp ?_)))))
 refine zp (zo (op_pickF rfl rfl rfl) (za rfl (zn ?_)))
 refine Go1.ret1 Try.func8 rfl ?_
 replace hB := (((((hB.trans aV.fr).trans bz.fr).trans fk.fr).trans fm.fr).trans ba.fr).trans bH.fr
 exact ⟨false, rfl, hB.same, H⟩
theorem body32 : Body Try.prog 32 := ⟨Try.f32, Try.func32, rfl, by kernel_rfl⟩
theorem walk_green_areElements {A : List Nat} {w0 : World} {p_t : Option Addr} {c_t : Nat} {t : List (List Int)} {x : Int} {y : Int} (hA : ∀ b ∈ A, b < w0.heap.size) (h_t : ISl (Rp.sl (Rp.int .i64)) A w0 p_t c_t t) {K : Bool → Prop} (H : green_areElements t x y K) :
    CallsV Try.prog 32 #[.slice p_t t.length c_t, .int .i64 x, .int .i64 y] w0 (fun v w' => ∃ (r0 : Bool), v = .bool r0 ∧ Same w0 w' ∧ K r0) := by
 refine CallsV.of (l := [.slice p_t t.length c_t, .int .i64 x, .int .i64 y]) Try.func32 rfl Try.ntmps32 rfl ?_
 have hO := Owns.start hA
 have hB := Fr.refl (bl []) w0
 unfold green_areElements at H
 refine zq (zr (za rfl (zn (zq (zr ?_)))))
 refine zm rfl (zm rfl ?_)
 by_cases h1 : y < x
 ·replace H := ifp h1 H
  refine zo (op_minT rfl rfl h1) ?_
  by_cases h2 : (0 : Int) ≤ y
  ·replace H := ifp h2 H
   refine zo (fun w => opB (op_geq rfl rfl w) (decide_eq_true h2)) (zm rfl (zm rfl (zm rfl ?_)))
   by_cases h3 : x < y
   ·replace H := ifp h3 H
    refine zo (op_maxT rfl rfl h3) (zm rfl (zo (op_len Try.underlying22 rfl) ?_))
    replace h_t := h_t.ch (Ch.start A w0)
    replace H := H h_t.bd
    by_cases h4 : y < (t.length : Int)
    ·replace H := ifp h4 H
     refine zo (fun w => opB (op_lss rfl rfl w) (decide_eq_true h4)) (zo (op_pickT rfl rfl rfl) (zm rfl (zm rfl ?_)))
     refine GoR.call (op_call body24 rfl (walk_mult_Validate hO.lt h_t H)) rfl rfl ?_
     rintro v9 w6 ⟨r5, rfl, hs7, H⟩
     have cf := Stp.same hO hs7
     replace hO := cf.own
     by_cases h11 : r5 = (0 : Int)
     ·replace H := ifp h11 H
      refine zo (fun w => opB (op_eql rfl rfl w) (decide_eq_true h11)) (zo (op_pickT rfl rfl rfl) (za rfl (zn ?_)))
      refine Go1.ret1 Try.func32 rfl ?_
      replace hB := hB.trans cf.fr
      exact ⟨true, rfl, hB.same, H⟩
     replace H := ifn h11 H
     refine zo (fun w => opB (op_eql rfl rfl w) (decide_eq_false h11)) (zo (op_pickT rfl rfl rfl) (za rfl (zn ?_)))
     refine Go1.ret1 Try.func32 rfl ?_
     replace hB := hB.trans cf.fr
     exact ⟨false, rfl, hB.same, H⟩
    replace H := ifn h4 H
    refine zo (fun w => opB (op_lss rfl rfl w) (decide_eq_false h4)) (zo (op_pickT rfl rfl rfl) (zm rfl (zp (zp (zp ?_)))))
    refine zo (op_pickF rfl rfl rfl) (za rfl (zn ?_))
    refine Go1.ret1 Try.func32 rfl ?_
    exact ⟨false, rfl, hB.same, H⟩
   replace H := ifn h3 H
   refine zo (op_maxF rfl rfl h3) (zm rfl (zo (op_len Try.underlying22 rfl) ?_))
   replace h_t := h_t.ch (Ch.start A w0)
   replace H := H h_t.bd
   by_cases h12 : x < (t.length : Int)
   ·replace H := ifp h12 H
    refine zo (fun w => opB (op_lss rfl rfl w) (decide_eq_true h12)) (zo (op_pickT rfl rfl rfl) (zm rfl (zm rfl ?_)))
    refine GoR.call (op_call body24 rfl (walk_mult_Validate hO.lt h_t H)) rfl rfl ?_
    rintro v17 w14 ⟨r13, rfl, ks, H⟩
    have fo := Stp.same hO ks
    replace hO := fo.own
    by_cases h19 : r13 = (0 : Int)
    ·replace H := ifp h19 H
     refine zo (fun w => opB (op_eql rfl rfl w) (decide_eq_true h19)) (zo (op_pickT rfl rfl rfl) (za rfl (zn ?_)))
     refine Go1.ret1 Try.func32 rfl ?_
     replace hB := hB.trans fo.fr
     exact ⟨true, rfl, hB.same, H⟩
    replace H := ifn h19 H
    refine zo (fun w => opB (op_eql rfl rfl w) (decide_eq_false h19)) (zo (op_pickT rfl rfl rfl) (za rfl (zn ?_)))
    refine Go1.ret1 Try.func32 rfl ?_
    replace hB := hB.trans fo.fr
    exact ⟨false, rfl, hB.same, H⟩
   replace H := ifn h12 H
   refine zo (fun w => opB (op_lss rfl rfl w) (decide_eq_false h12)) (zo (op_pickT rfl rfl rfl) (zm rfl (zp (zp (zp ?_)))))
   refine zo (op_pickF rfl rfl rfl) (za rfl (zn ?_))
   refine Go1.ret1 Try.func32 rfl ?_
   exact ⟨false, rfl, hB.same, H⟩
  replace H := ifn h2 H
  refine zo (fun w => opB (op_geq rfl rfl w) (decide_eq_false h2)) (zm rfl (zp (zp (zp (zp ?_)))))
  refine zp (zp (zo (op_pickF rfl rfl rfl) (zm rfl (zp (zp ?_)))))
  refine zp (zo (op_pickF rfl rfl rfl) (za rfl (zn ?_)))
  refine Go1.ret1 Try.func32 rfl ?_
  exact ⟨false, rfl, hB.same, H⟩
 replace H := ifn h1 H
 refine zo (op_minF rfl rfl h1) ?_
 by_cases h20 : (0 : Int) ≤ x
 ·replace H := ifp h20 H
  refine zo (fun w => opB (op_geq rfl rfl w) (decide_eq_true h20)) (zm rfl (zm rfl (zm rfl ?_)))
  by_cases h21 : x < y
  ·replace H := ifp h21 H
   refine zo (op_maxT rfl rfl h21) (zm rfl (zo (op_len Try.underlying22 rfl) ?_))
   replace h_t := h_t.ch (Ch.start A w0)
   replace H := H h_t.bd
   by_cases h22 : y < (t.length : Int)
   ·replace H := ifp h22 H
    refine zo (fun w => opB (op_lss rfl rfl w) (decide_eq_true h22)) (zo (op_pickT rfl rfl rfl) (zm rfl (zm rfl ?_)))
    refine GoR.call (op_call body24 rfl (walk_mult_Validate hO.lt h_t H)) rfl rfl ?_
    rintro v27 w24 ⟨r23, rfl, p7, H⟩
    have bU := Stp.same hO p7
    replace hO := bU.own
    by_cases h29 : r23 = (0 : Int)
    ·replace H := ifp h29 H
     refine zo (fun w => opB (op_eql rfl rfl w) (decide_eq_true h29)) (zo (op_pickT rfl rfl rfl) (za rfl (zn ?_)))
     refine Go1.ret1 Try.func32 rfl ?_
     replace hB := hB.trans bU.fr
     exact ⟨true, rfl, hB.same, H⟩
    replace H := ifn h29 H
    refine zo (fun w => opB (op_eql rfl rfl w) (decide_eq_false h29)) (zo (op_pickT rfl rfl rfl) (za rfl (zn ?_)))
    refine Go1.ret1 Try.func32 rfl ?_
    replace hB := hB.trans bU.fr
    exact ⟨false, rfl, hB.same, H⟩
   replace H := ifn h22 H
   refine zo (fun w => opB (op_lss rfl rfl w) (decide_eq_false h22)) (zo (op_pickT rfl rfl rfl) (zm rfl (zp (zp (zp ?_)))))
   refine zo (op_pickF rfl rfl rfl) (za rfl (zn ?_))
   refine Go1.ret1 Try.func32 rfl ?_
   exact ⟨false, rfl, hB.same, H⟩
  replace H := ifn h21 H
  refine zo (op_maxF rfl rfl h21) (zm rfl (zo (op_len Try.underlying22 rfl) ?_))
  replace h_t := h_t.ch (Ch.start A w0)
  replace H := H h_t.bd
  by_cases h30 : x < (t.length : Int)
  ·replace H := ifp h30 H
   refine zo (fun w => opB (op_lss rfl rfl w) (decide_eq_true h30)) (zo (op_pickT rfl rfl rfl) (zm rfl (zm rfl ?_)))
   refine GoR.call (op_call body24 rfl (walk_mult_Validate hO.lt h_t H)) rfl rfl ?_
   rintro v35 w32 ⟨r31, rfl, kt, H⟩
   have b8 := Stp.same hO kt
   replace hO := b8.own
   by_cases h37 : r31 = (0 : Int)
   ·replace H := ifp h37 H
    refine zo (fun w => opB (op_eql rfl rfl w) (decide_eq_true h37)) (zo (op_pickT rfl rfl rfl) (za rfl (zn ?_)))
    refine Go1.ret1 Try.func32 rfl ?_
    replace hB := hB.trans b8.fr
    exact ⟨true, rfl, hB.same, H⟩
   replace H := ifn h37 H
   refine zo (fun w => opB (op_eql rfl rfl w) (decide_eq_false h37)) (zo (op_pickT rfl rfl rfl) (za rfl (zn ?_)))
   refine Go1.ret1 Try.func32 rfl ?_
   replace hB := hB.trans b8.fr
   exact ⟨false, rfl, hB.same, H⟩
  replace H := ifn h30 H
  refine zo (fun w => opB (op_lss rfl rfl w) (decide_eq_false h30)) (zo (op_pickT rfl rfl rfl) (zm rfl (zp (zp (zp ?_)))))
  refine zo (op_pickF rfl rfl rfl) (za rfl (zn ?_))
  refine Go1.ret1 Try.func32 rfl ?_
  exact ⟨false, rfl, hB.same, H⟩
 replace H := ifn h20 H
 refine zo (fun w => opB (op_geq rfl rfl w) (decide_eq_false h20)) (zm rfl (zp (zp (zp (zp ?_)))))
 refine zp (zp (zo (op_pickF rfl rfl rfl) (zm rfl (zp (zp ?_)))))
 refine zp (zo (op_pickF rfl rfl rfl) (za rfl (zn ?_)))
 refine Go1.ret1 Try.func32 rfl ?_
 exact ⟨false, rfl, hB.same, H⟩
theorem body10 : Body Try.prog 10 := ⟨Try.f10, Try.func10, rfl, by kernel_rfl⟩
theorem walk_green_LeqR {A : List Nat} {w0 : World} {p_t : Option Addr} {c_t : Nat} {t : List (List Int)} {x : Int} {y : Int} (hA : ∀ b ∈ A, b < w0.heap.size) (h_t : ISl (Rp.sl (Rp.int .i64)) A w0 p_t c_t t) {K : Bool → Prop} (H : green_LeqR t x y K) :
    CallsV Try.prog 10 #[.slice p_t t.length c_t, .int .i64 x, .int .i64 y] w0 (fun v w' => ∃ (r0 : Bool), v = .bool r0 ∧ Same w0 w' ∧ K r0) := by
 refine CallsV.of (l := [.slice p_t t.length c_t, .int .i64 x, .int .i64 y]) Try.func10 rfl Try.ntmps10 rfl ?_
 have hO := Owns.start hA
 have hB := Fr.refl (bl []) w0
 unfold green_LeqR at H
 refine zq (zr (za rfl (zn (zq (zr ?_)))))
 refine zm rfl (zm rfl (zm rfl ?_))
 replace h_t := h_t.ch (Ch.start A w0)
 refine GoR.call (op_call body32 rfl (walk_green_areElements hO.lt h_t H)) rfl rfl ?_
 rintro v5 w2 ⟨r1, rfl, hs3, H⟩
 have aV := Stp.same hO hs3
 replace hO := aV.own
 refine zm rfl ?_
 cases r1
 ·replace H := ifn Bool.false_ne_true H
  refine zp (zp (zp (zp (zp (zp ?_)))))
  refine zp (zo (op_pickF rfl rfl rfl) (za rfl (zn ?_)))
  refine Go1.ret1 Try.func10 rfl ?_
  replace hB := hB.trans aV.fr
  exact ⟨false, rfl, hB.same, H⟩
 replace H := ifp rfl H
 refine zm rfl ?_
 replace h_t := h_t.ch aV.ch
 refine GoR.call (op_call body25 rfl (walk_green_rightIdeals hO.lt h_t H)) rfl rfl ?_
 rintro v11 w8 ⟨r7, lK, lL, rfl, hs9, cR, H⟩
 have bz := Stp.same hO hs9
 replace hO := bz.own
 refine zm rfl ?_
 obtain ⟨h13, H⟩ := H
 obtain ⟨h14, H⟩ := H
 refine zo (op_index Try.underlying49 ti56 rfl rfl h13 h14 (cR.some_ h13 h14)) ?_
 have hobt := ldSl cR h13 h14
 obtain ⟨p15, c16, gt, ku⟩ := hobt
 refine zs (ku Try.underlying56 rfl rfl) (zm rfl ?_)
 refine GoR.call (op_call body31 rfl (walk_green_ideal_has hO.lt gt H)) rfl rfl ?_
 rintro v23 w20 ⟨r19, rfl, gR, H⟩
 have ba := Stp.same hO gR
 replace hO := ba.own
 refine zo (op_pickT rfl rfl rfl) (za rfl (zn ?_))
 refine Go1.ret1 Try.func10 rfl ?_
 replace hB := ((hB.trans aV.fr).trans bz.fr).trans ba.fr
 exact ⟨r19, rfl, hB.same, H⟩
theorem body11 : Body Try.prog 11 := ⟨Try.f11, Try.func11, rfl, by kernel_rfl⟩
theorem walk_green_LeqL {A : List Nat} {w0 : World} {p_t : Option Addr} {c_t : Nat} {t : List (List Int)} {x : Int} {y : Int} (hA : ∀ b ∈ A, b < w0.heap.size) (h_t : ISl (Rp.sl (Rp.int .i64)) A w0 p_t c_t t) {K : Bool → Prop} (H : green_LeqL t x y K) :
    CallsV Try.prog 11 #[.slice p_t t.length c_t, .int .i64 x, .int .i64 y] w0 (fun v w' => ∃ (r0 : Bool), v = .bool r0 ∧ Same w0 w' ∧ K r0) := by
 refine CallsV.of (l := [.slice p_t t.length c_t, .int .i64 x, .int .i64 y]) Try.func11 rfl Try.ntmps11 rfl ?_
 have hO := Owns.start hA
 have hB := Fr.refl (bl []) w0
 unfold green_LeqL at H
 refine zq (zr (za rfl (zn (zq (zr ?_)))))
 refine zm rfl (zm rfl (zm rfl ?_))
 replace h_t := h_t.ch (Ch.start A w0)
 refine GoR.call (op_call body32 rfl (walk_green_areElements hO.lt h_t H)) rfl rfl ?_
 rintro v5 w2 ⟨r1, rfl, hs3, H⟩
 have aV := Stp.same hO hs3
 replace hO := aV.own
 refine zm rfl ?_
 cases r1
 ·replace H := ifn Bool.false_ne_true H
  refine zp (zp (zp (zp (zp (zp ?_)))))
  refine zp (zo (op_pickF rfl rfl rfl) (za rfl (zn ?_)))
  refine Go1.ret1 Try.func11 rfl ?_
  replace hB := hB.trans aV.fr
  exact ⟨false, rfl, hB.same, H⟩
 replace H := ifp rfl H
 refine zm rfl ?_
 replace h_t := h_t.ch aV.ch
 refine GoR.call (op_call body26 rfl (walk_green_leftIdeals hO.lt h_t H)) rfl rfl ?_
 rintro v11 w8 ⟨r7, lK, lL, rfl, hs9, cR, H⟩
 have bz := Stp.same hO hs9
 replace hO := bz.own
 refine zm rfl ?_
 obtain ⟨h13, H⟩ := H
 obtain ⟨h14, H⟩ := H
 refine zo (op_index Try.underlying49 ti56 rfl rfl h13 h14 (cR.some_ h13 h14)) ?_
 have hobt := ldSl cR h13 h14
 obtain ⟨p15, c16, gt, ku⟩ := hobt
 refine zs (ku Try.underlying56 rfl rfl) (zm rfl ?_)
 refine GoR.call (op_call body31 rfl (walk_green_ideal_has hO.lt gt H)) rfl rfl ?_
 rintro v23 w20 ⟨r19, rfl, gR, H⟩
 have ba := Stp.same hO gR
 replace hO := ba.own
 refine zo (op_pickT rfl rfl rfl) (za rfl (zn ?_))
 refine Go1.ret1 Try.func11 rfl ?_
 replace hB := ((hB.trans aV.fr).trans bz.fr).trans ba.fr
 exact ⟨r19, rfl, hB.same, H⟩
theorem body12 : Body Try.prog 12 := ⟨Try.f12, Try.func12, rfl, by kernel_rfl⟩
theorem walk_green_LeqJ {A : List Nat} {w0 : World} {p_t : Option Addr} {c_t : Nat} {t : List (List Int)} {x : Int} {y : Int} (hA : ∀ b ∈ A, b < w0.heap.size) (h_t : ISl (Rp.sl (Rp.int .i64)) A w0 p_t c_t t) {K : Bool → Prop} (H : green_LeqJ t x y K) :
    CallsV Try.prog 12 #[.slice p_t t.length c_t, .int .i64 x, .int .i64 y] w0 (fun v w' => ∃ (r0 : Bool), v = .bool r0 ∧ Same w0 w' ∧ K r0) := by
 refine CallsV.of (l := [.slice p_t t.length c_t, .int .i64 x, .int .i64 y]) Try.func12 rfl Try.ntmps12 rfl ?_
 have hO := Owns.start hA
 have hB := Fr.refl (bl []) w0
 unfold green_LeqJ at H
 refine zq (zr (za rfl (zn (zq (zr ?_)))))
 refine zm rfl (zm rfl (zm rfl ?_))
 replace h_t := h_t.ch (Ch.start A w0)
 refine GoR.call (op_call body32 rfl (walk_green_areElements hO.lt h_t H)) rfl rfl ?_
 rintro v5 w2 ⟨r1, rfl, hs3, H⟩
 have aV := Stp.same hO hs3
 replace hO := aV.own
 refine zm rfl ?_
 cases r1
 ·replace H := ifn Bool.false_ne_true H
  refine zp (zp (zp (zp (zp (zp ?_)))))
  refine zp (zp (zp (zp (zo (op_pickF rfl rfl rfl) (za rfl ?_)))))
  refine zn ?_
  refine Go1.ret1 Try.func12 rfl ?_
  replace hB := hB.trans aV.fr
  exact ⟨false, rfl, hB.same, H⟩
 replace H := ifp rfl H
 refine zm rfl ?_
 replace h_t := h_t.ch aV.ch
 refine GoR.call (op_call body25 rfl (walk_green_rightIdeals hO.lt h_t H)) rfl rfl ?_
 rintro v11 w8 ⟨r7, lK, lL, rfl, hs9, cR, H⟩
 have bz := Stp.same hO hs9
 replace hO := bz.own
 refine zm rfl ?_
 replace h_t := h_t.ch bz.ch
 refine GoR.call (op_call body26 rfl (walk_green_leftIdeals hO.lt h_t H)) rfl rfl ?_
 rintro v17 w14 ⟨r13, qo, qq, rfl, ks, gK, H⟩
 have fo := Stp.same hO ks
 replace hO := fo.own
 replace cR := cR.ch fo.ch
 refine GoR.call (op_call body27 rfl (walk_green_twoSided hO.lt cR gK H)) rfl rfl ?_
 rintro v23 w20 ⟨r19, bm, bn, rfl, gR, g9, H⟩
 have ba := Stp.same hO gR
 replace hO := ba.own
 refine zm rfl ?_
 obtain ⟨h25, H⟩ := H
 obtain ⟨h26, H⟩ := H
 refine zo (op_index Try.underlying49 ti56 rfl rfl h25 h26 (g9.some_ h25 h26)) ?_
 have hobt := ldSl g9 h25 h26
 obtain ⟨p27, c28, kw, qa⟩ := hobt
 refine zs (qa Try.underlying56 rfl rfl) (zm rfl ?_)
 refine GoR.call (op_call body31 rfl (walk_green_ideal_has hO.lt kw H)) rfl rfl ?_
 rintro v35 w32 ⟨r31, rfl, kt, H⟩
 have b8 := Stp.same hO kt
 replace hO := b8.own
 refine zo (op_pickT rfl rfl rfl) (za rfl (zn ?_))
 refine Go1.ret1 Try.func12 rfl ?_
 replace hB := ((((hB.trans aV.fr).trans bz.fr).trans fo.fr).trans ba.fr).trans b8.fr
 exact ⟨r31, rfl, hB.same, H⟩
end Sg
