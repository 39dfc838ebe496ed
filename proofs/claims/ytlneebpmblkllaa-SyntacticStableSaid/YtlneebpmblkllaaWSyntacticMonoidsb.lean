/- -/
import Derived.Test.YtlneebpmblkllaaTi
import Derived.Test.YtlneebpmblkllaaWSyntacticMonoids
import Derived.Test.YtlneebpmblkllaaAl
namespace Sg
open Go Go.RowKit Go.Proofs
set_option linter.unusedVariables false
set_option linter.unusedSimpArgs false
set_option maxRecDepth 100000
set_option maxHeartbeats 4000000
theorem body66 : Body Try.prog 66 := ⟨Try.f66, Try.func66, rfl, by kernel_rfl⟩
theorem J2G {A : List Nat} {w0 : World} {bf : Option Addr} {bg : Nat} {bx : Option Addr} {bz : Nat} {a0 : DFA} (hA : ∀ b ∈ A, b < w0.heap.size) (am : ISl (Rp.bool) A w0 bf bg a0.Final) (aq : ISl (Rp.sl (Rp.int .i64)) A w0 bx bz a0.Next) {K : DFA → List Int → Prop} (H : J0U a0 K) :
    CallsV Try.prog 66 #[.agg #[.int .i64 a0.Letters, .int .i64 a0.Start, .slice bf a0.Final.length bg, .slice bx a0.Next.length bz]] w0 (fun v w' => ∃ (r0 : DFA) (r1 : List Int) (iV : Option Addr) (iW : Nat) (jD : Option Addr) (jE : Nat) (Db : Option Addr) (Dc : Nat), v = .tuple #[.agg #[.int .i64 r0.Letters, .int .i64 r0.Start, .slice iV r0.Final.length iW, .slice jD r0.Next.length jE], .slice Db r1.length Dc] ∧ Same w0 w' ∧ ISl (Rp.bool) A w' iV iW r0.Final ∧ ISl (Rp.sl (Rp.int .i64)) A w' jD jE r0.Next ∧ ISl (Rp.int .i64) A w' Db Dc r1 ∧ K r0 r1) := by
 refine CallsV.of (l := [.agg #[.int .i64 a0.Letters, .int .i64 a0.Start, .slice bf a0.Final.length bg, .slice bx a0.Next.length bz]]) Try.func66 rfl Try.ntmps66 rfl ?_
 have hO := Owns.start hA
 have hB := Fr.refl (bl []) w0
 unfold J0U at H
 refine zq (zr ?_)
 have zz := obox (t := 25) (v := .agg #[.int .i64 a0.Letters, .int .i64 a0.Start, .slice bf a0.Final.length bg, .slice bx a0.Next.length bz]) (cs := #[.int .i64 a0.Letters, .int .i64 a0.Start, .slice bf a0.Final.length bg, .slice bx a0.Next.length bz]) hO rfl
 obtain ⟨w1, B2, dX, hs4, jU⟩ := zz
 refine zg (jU rfl) ?_
 replace hO := dX.own
 have zz := oalloc (t := 25) (cs := #[.int .i64 0, .int .i64 0, .slice none 0 0, .slice none 0 0]) ti25 hO rfl
 obtain ⟨w7, B8, gU, xF, tH⟩ := zz
 refine GoR.op tH rfl rfl ?_
 replace hO := gU.own
 refine za rfl (zn (zq (zr (zs (J0l (vs := [.int .i64 a0.Letters, .int .i64 a0.Start, .slice bf a0.Final.length bg, .slice bx a0.Next.length bz]) (i := 0) 1 hO rfl rfl Try.underlying25 rfl ti25 rfl) ?_))))
 have Z1 := ((Ch.start A w0).trans dX.ch).trans gU.ch
 replace am := am.ch Z1
 replace aq := aq.ch Z1
 refine GoR.call (J0a body109 rfl (J3A (d := a0) hO.lt am aq H)) rfl rfl ?_
 rintro v18 w15 ⟨r13, r14, d7, d8, eI, eK, tL, tM, rfl, S3, a8, bh, dt, H⟩
 have CK := Stp.same hO S3
 replace hO := CK.own
 refine zm rfl (zo (J07 rfl rfl) (zo (J07 rfl rfl) ?_))
 have zz := oalloc (t := 25) (cs := #[.int .i64 0, .int .i64 0, .slice none 0 0, .slice none 0 0]) ti25 hO rfl
 obtain ⟨w20, B21, jG, GL, Bb⟩ := zz
 refine GoR.op Bb rfl rfl ?_
 replace hO := jG.own
 have zz := J0b (us := [.int .i64 r13.Letters, .int .i64 r13.Start, .slice d7 r13.Final.length d8, .slice eI r13.Next.length eK]) (o := 0) (cs' := #[.int .i64 r13.Letters, .int .i64 r13.Start, .slice d7 r13.Final.length d8, .slice eI r13.Next.length eK]) 0 hO rfl rfl (Nat.le_of_ble_eq_true rfl) rfl
 obtain ⟨w26, qR, N4⟩ := zz
 refine zg (N4 ti25 (by exact rfl) (by exact rfl) rfl) ?_
 replace hO := qR.own
 refine za rfl (zn (zq (zr (zs (J0l (vs := [.int .i64 r13.Letters, .int .i64 r13.Start, .slice d7 r13.Final.length d8, .slice eI r13.Next.length eK]) (i := 0) 0 hO rfl rfl Try.underlying25 rfl ti25 rfl) ?_))))
 have Z2 := jG.ch.trans qR.ch
 replace a8 := a8.ch Z2
 replace bh := bh.ch Z2
 refine GoR.call (J0a body110 rfl (J2L (a0 := r13) hO.lt a8 bh H)) rfl rfl ?_
 rintro v33 w30 ⟨r29, nN, nO, rfl, S4, dB, H⟩
 have qS := Stp.same hO S4
 replace hO := qS.own
 refine za rfl (zn (zq (zr (zo (J00 Try.underlying25 rfl ti3 rfl (by decide)) (zs (oblk (i := 0) 2 hO rfl rfl Try.underlying3 rfl rfl) ?_)))))
 refine zo (J0w Try.underlying25 ti25 (pl := [(0, 1), (1, 1), (2, 1), (3, 1)]) (vs := [(0, .int .i64 a0.Letters)]) (cs := #[.int .i64 a0.Letters, .int .i64 0, .slice none 0 0, .slice none 0 0]) (by kernel_rfl) rfl (by kernel_rfl)) ?_
 have zz := oalloc (t := 25) (cs := #[.int .i64 0, .int .i64 0, .slice none 0 0, .slice none 0 0]) ti25 hO rfl
 obtain ⟨w35, B36, pF, WR, N5⟩ := zz
 refine GoR.op N5 rfl rfl ?_
 replace hO := pF.own
 have zz := J0b (us := [.int .i64 a0.Letters, .int .i64 0, .slice none 0 0, .slice none 0 0]) (o := 0) (cs' := #[.int .i64 a0.Letters, .int .i64 0, .slice none 0 0, .slice none 0 0]) 0 hO rfl rfl (Nat.le_of_ble_eq_true rfl) rfl
 obtain ⟨w41, qT, yj⟩ := zz
 refine zg (yj ti25 (by exact rfl) (by exact rfl) rfl) ?_
 replace hO := qT.own
 refine zn (zq (zq ?_))
 refine Go1.cut [(1, .pointer (some ⟨B2, 0, none⟩)), (2, .pointer (some ⟨B8, 0, none⟩)), (4, .pointer (some ⟨B21, 0, none⟩)), (5, .slice tL r14.length tM), (6, .slice nN r29.length nO), (7, .pointer (some ⟨B36, 0, none⟩))] ⟨rfl, rfl, rfl, rfl, rfl, rfl, trivial⟩ ?_
 intro σ _
 refine zr (zm rfl (zo (J0c Try.underlying31 rfl) ?_))
 replace dB := (dB.ch pF.ch).ch qT.ch
 replace H := H dB.bd
 refine zm rfl (zn (zb ?_))
 have xi := Stp.nil (e := 4) (r := 1) hO
 replace hO := xi.own
 have GM := Els.nil (Rp.bool) (bl (.row 4 1 none 0 0 [] :: [.blk B36 (.cells #[.int .i64 a0.Letters, .int .i64 0, .slice none 0 0, .slice none 0 0] 25 (0, 0)), .blk B21 (.cells #[.int .i64 r13.Letters, .int .i64 r13.Start, .slice d7 r13.Final.length d8, .slice eI r13.Next.length eK] 25 (0, 0)), .blk B8 (.cells #[.int .i64 0, .int .i64 0, .slice none 0 0, .slice none 0 0] 25 (0, 0)), .blk B2 (.cells #[.int .i64 a0.Letters, .int .i64 a0.Start, .slice bf a0.Final.length bg, .slice bx a0.Next.length bz] 25 (0, 0))]) ++ A) w41
 have sV := Stp.nil (e := 31) (r := 1) hO
 replace hO := sV.own
 have Gk := Els.nil (Rp.sl (Rp.int .i64)) (bl (.row 31 1 none 0 0 [] :: [.row 4 1 none 0 0 [], .blk B36 (.cells #[.int .i64 a0.Letters, .int .i64 0, .slice none 0 0, .slice none 0 0] 25 (0, 0)), .blk B21 (.cells #[.int .i64 r13.Letters, .int .i64 r13.Start, .slice d7 r13.Final.length d8, .slice eI r13.Next.length eK] 25 (0, 0)), .blk B8 (.cells #[.int .i64 0, .int .i64 0, .slice none 0 0, .slice none 0 0] 25 (0, 0)), .blk B2 (.cells #[.int .i64 a0.Letters, .int .i64 a0.Start, .slice bf a0.Final.length bg, .slice bx a0.Next.length bz] 25 (0, 0))]) ++ A) w41
 replace GM := GM.ch sV.ch
 replace dB := (dB.ch xi.ch).ch sV.ch
 have Z3 := (((qS.ch.trans pF.ch).trans qT.ch).trans xi.ch).trans sV.ch
 replace a8 := a8.ch Z3
 replace bh := bh.ch Z3
 have Z4 := ((((Z2.trans qS.ch).trans pF.ch).trans qT.ch).trans xi.ch).trans sV.ch
 replace dt := dt.ch Z4
 have Z5 := ((((((CK.ch.trans jG.ch).trans qR.ch).trans qS.ch).trans pF.ch).trans qT.ch).trans xi.ch).trans sV.ch
 replace am := am.ch Z5
 replace aq := aq.ch Z5
 replace hB := (((((((((hB.trans dX.fr).trans gU.fr).trans CK.fr).trans jG.fr).trans qR.fr).trans qS.fr).trans pF.fr).trans qT.fr).trans xi.fr).trans sV.fr
 refine Go1.loopW (S := Nat × List (List Int) × List Bool) (fun s σ w => match s with | (k1_51, d_52, d_58) => ∃ (n57 : Nat) (p55 : Option Addr) (c56 : Nat) (lQ : List Value) (n63 : Nat) (p61 : Option Addr) (c62 : Nat) (lR : List Value), agrees σ [(1, .pointer (some ⟨B2, 0, none⟩)), (2, .pointer (some ⟨B8, 0, none⟩)), (4, .pointer (some ⟨B21, 0, none⟩)), (5, .slice tL r14.length tM), (6, .slice nN r29.length nO), (7, .pointer (some ⟨B36, 0, none⟩)), (28, .slice nN r29.length nO), (29, .int .i64 (r29.length : Int)), (30, .int .i64 (k1_51 : Int))] ∧ (fun Z0 => Owns w0.heap.size w Z0 A ∧ Els (Rp.sl (Rp.int .i64)) (bl Z0 ++ A) w lQ d_52 ∧ Els (Rp.bool) (bl Z0 ++ A) w lR d_58 ∧ ISl (Rp.bool) (bl Z0 ++ A) w bf bg a0.Final ∧ ISl (Rp.sl (Rp.int .i64)) (bl Z0 ++ A) w bx bz a0.Next ∧ ISl (Rp.bool) (bl Z0 ++ A) w d7 d8 r13.Final ∧ ISl (Rp.sl (Rp.int .i64)) (bl Z0 ++ A) w eI eK r13.Next ∧ ISl (Rp.int .i64) (bl Z0 ++ A) w tL tM r14 ∧ ISl (Rp.int .i64) (bl Z0 ++ A) w nN nO r29 ∧ Fr (bl []) w0 (bl Z0) w) [.row 31 1 p55 n57 c56 lQ, .row 4 1 p61 n63 c62 lR, .blk B36 (.cells #[.int .i64 a0.Letters, .int .i64 0, .slice p61 n63 c62, .slice p55 n57 c56] 25 (0, 0)), .blk B21 (.cells #[.int .i64 r13.Letters, .int .i64 r13.Start, .slice d7 r13.Final.length d8, .slice eI r13.Next.length eK] 25 (0, 0)), .blk B8 (.cells #[.int .i64 0, .int .i64 0, .slice none 0 0, .slice none 0 0] 25 (0, 0)), .blk B2 (.cells #[.int .i64 a0.Letters, .int .i64 a0.Start, .slice bf a0.Final.length bg, .slice bx a0.Next.length bz] 25 (0, 0))]) H ⟨0, none, 0, [], 0, none, 0, [], ⟨rfl, rfl, rfl, rfl, rfl, rfl, rfl, rfl, rfl, trivial⟩, hO, Gk, GM, am, aq, a8, bh, dt, dB, hB⟩ ?_
 intro X1
 refine prE fun k1_51 => prE fun d_52 => fun d_58 => ?_
 intro H hX1 σ w50
 refine exE fun n57 => exE fun p55 => exE fun c56 => exE fun lQ => exE fun n63 => exE fun p61 => exE fun c62 => exE fun lR => andE fun hag => andE fun hO => andE fun kU => andE fun tw => andE fun am => andE fun aq => andE fun a8 => andE fun bh => andE fun dt => andE fun dB => fun hB => ?_
 dsimp only at H
 refine Go1.keep [(1, .pointer (some ⟨B2, 0, none⟩)), (2, .pointer (some ⟨B8, 0, none⟩)), (4, .pointer (some ⟨B21, 0, none⟩)), (5, .slice tL r14.length tM), (6, .slice nN r29.length nO), (7, .pointer (some ⟨B36, 0, none⟩)), (28, .slice nN r29.length nO), (29, .int .i64 (r29.length : Int)), (30, .int .i64 (k1_51 : Int))] hag ?_
 refine zq (zr ?_)
 by_cases h64 : (k1_51 : Int) < (r29.length : Int)
 ·replace H := ifp h64 H
  refine zo (fun w => opB (J08 rfl rfl w) (decide_eq_true h64)) (zn (zq (zt rfl rfl (zk (zq ?_)))))
  refine zb (zq (zr (zm rfl ?_)))
  obtain ⟨h65, H⟩ := H
  obtain ⟨h66, H⟩ := H
  refine zo (J02 Try.underlying31 ti3 rfl rfl h65 h66 (dB.some_ h65 h66)) (zs (ldInt dB h65 h66 Try.underlying3 rfl rfl) (za rfl (za rfl (zn (zq ?_)))))
  refine zq (zr (zm rfl (zo (J00 Try.underlying25 rfl ti22 rfl (by decide)) (zs (oblk (i := 2) 2 hO rfl rfl Try.underlying22 rfl rfl) (zo (J0A Try.underlying22 rfl (tw.neq hO 1 rfl)) ?_)))))
  by_cases h67 : (ix r29 (k1_51 : Int)) < (d_58.length : Int)
  ·replace H := ifp h67 H
   refine zo (fun w => opB (J08 rfl rfl w) (decide_eq_true h67)) (zn (zt rfl rfl ?_))
   refine Go1.exit rfl ?_
   refine zr (zo (J0e rfl rfl (wrap_i64 (natbd h64 dB.bd))) (zm rfl (zn ?_)))
   exact hX1 _ H _ _ ⟨n57, p55, c56, lQ, n63, p61, c62, lR, ⟨rfl, rfl, rfl, rfl, rfl, rfl, rfl, rfl, rfl, trivial⟩, hO, kU, tw, am, aq, a8, bh, dt, dB, hB⟩
  replace H := ifn h67 H
  refine zo (fun w => opB (J08 rfl rfl w) (decide_eq_false h67)) (zn (zf rfl rfl (zk (zq (zr ?_)))))
  refine zo (J00 Try.underlying25 rfl ti3 rfl (by decide)) (zs (oblk (i := 0) 5 hO rfl rfl Try.underlying3 rfl rfl) ?_)
  obtain ⟨h75, H⟩ := H
  obtain ⟨h76, H⟩ := H
  have zz := omake (n := a0.Letters) (r := Rp.int .i64) (d := (0 : Int)) Try.underlying31 ti3 (fun _ _ => rfl) rfl hO h75 h76 (by decide)
  obtain ⟨w68, p69, S5, gJ, S6, E7, N6⟩ := zz
  refine zg (N6 rfl rfl) ?_
  replace hO := gJ.own
  refine za rfl (zn (zq (zq (zr (zo (J00 Try.underlying25 rfl ti23 rfl (by decide)) ?_)))))
  refine zs (oblk (i := 3) 4 hO rfl rfl Try.underlying23 rfl rfl) (zm rfl ?_)
  obtain ⟨h78, H⟩ := H
  obtain ⟨h79, H⟩ := H
  replace bh := bh.ch gJ.ch
  refine zo (J02 Try.underlying23 ti31 rfl rfl h78 h79 (bh.some_ h78 h79)) ?_
  have zz := ldSl bh h78 h79
  obtain ⟨p80, c81, ks, S7⟩ := zz
  refine zs (S7 Try.underlying31 rfl rfl) (zo (J0c Try.underlying31 rfl) ?_)
  replace H := H ks.bd
  refine zm rfl (zn (zb ?_))
  replace kU := kU.ch gJ.ch
  replace tw := tw.ch gJ.ch
  replace am := am.ch gJ.ch
  replace aq := aq.ch gJ.ch
  replace a8 := a8.ch gJ.ch
  replace dt := dt.ch gJ.ch
  replace dB := dB.ch gJ.ch
  replace hB := hB.trans gJ.fr
  refine Go1.loopW (S := Nat × List Int) (fun s σ w => match s with | (k2_85, d_86) => ∃ (uO : List Value), agrees σ [(1, .pointer (some ⟨B2, 0, none⟩)), (2, .pointer (some ⟨B8, 0, none⟩)), (4, .pointer (some ⟨B21, 0, none⟩)), (5, .slice tL r14.length tM), (6, .slice nN r29.length nO), (7, .pointer (some ⟨B36, 0, none⟩)), (8, .int .i64 (k1_51 : Int)), (10, .slice p69 a0.Letters.toNat a0.Letters.toNat), (28, .slice nN r29.length nO), (29, .int .i64 (r29.length : Int)), (30, .int .i64 (k1_51 : Int)), (47, .slice p80 ((ix r13.Next (k1_51 : Int)).length) c81), (48, .int .i64 ((ix r13.Next (k1_51 : Int)).length : Int)), (49, .int .i64 (k2_85 : Int))] ∧ (fun Z0 => Owns w0.heap.size w Z0 A ∧ Els (Rp.int .i64) (bl Z0 ++ A) w uO d_86 ∧ Els (Rp.sl (Rp.int .i64)) (bl Z0 ++ A) w lQ d_52 ∧ Els (Rp.bool) (bl Z0 ++ A) w lR d_58 ∧ ISl (Rp.bool) (bl Z0 ++ A) w bf bg a0.Final ∧ ISl (Rp.sl (Rp.int .i64)) (bl Z0 ++ A) w bx bz a0.Next ∧ ISl (Rp.bool) (bl Z0 ++ A) w d7 d8 r13.Final ∧ ISl (Rp.sl (Rp.int .i64)) (bl Z0 ++ A) w eI eK r13.Next ∧ ISl (Rp.int .i64) (bl Z0 ++ A) w tL tM r14 ∧ ISl (Rp.int .i64) (bl Z0 ++ A) w nN nO r29 ∧ ISl (Rp.int .i64) (bl Z0 ++ A) w p80 c81 (ix r13.Next (k1_51 : Int)) ∧ Fr (bl []) w0 (bl Z0) w) [.row 3 1 p69 a0.Letters.toNat a0.Letters.toNat uO, .row 31 1 p55 n57 c56 lQ, .row 4 1 p61 n63 c62 lR, .blk B36 (.cells #[.int .i64 a0.Letters, .int .i64 0, .slice p61 n63 c62, .slice p55 n57 c56] 25 (0, 0)), .blk B21 (.cells #[.int .i64 r13.Letters, .int .i64 r13.Start, .slice d7 r13.Final.length d8, .slice eI r13.Next.length eK] 25 (0, 0)), .blk B8 (.cells #[.int .i64 0, .int .i64 0, .slice none 0 0, .slice none 0 0] 25 (0, 0)), .blk B2 (.cells #[.int .i64 a0.Letters, .int .i64 a0.Start, .slice bf a0.Final.length bg, .slice bx a0.Next.length bz] 25 (0, 0))]) H ⟨S5, ⟨rfl, rfl, rfl, rfl, rfl, rfl, rfl, rfl, rfl, rfl, rfl, rfl, rfl, rfl, trivial⟩, hO, S6, kU, tw, am, aq, a8, bh, dt, dB, ks, hB⟩ ?_
  intro X2
  refine prE fun k2_85 => fun d_86 => ?_
  intro H hX2 σ w84
  refine exE fun uO => andE fun hag => andE fun hO => andE fun uP => andE fun kU => andE fun tw => andE fun am => andE fun aq => andE fun a8 => andE fun bh => andE fun dt => andE fun dB => andE fun ks => fun hB => ?_
  dsimp only at H
  refine Go1.keep [(1, .pointer (some ⟨B2, 0, none⟩)), (2, .pointer (some ⟨B8, 0, none⟩)), (4, .pointer (some ⟨B21, 0, none⟩)), (5, .slice tL r14.length tM), (6, .slice nN r29.length nO), (7, .pointer (some ⟨B36, 0, none⟩)), (8, .int .i64 (k1_51 : Int)), (10, .slice p69 a0.Letters.toNat a0.Letters.toNat), (28, .slice nN r29.length nO), (29, .int .i64 (r29.length : Int)), (30, .int .i64 (k1_51 : Int)), (47, .slice p80 ((ix r13.Next (k1_51 : Int)).length) c81), (48, .int .i64 ((ix r13.Next (k1_51 : Int)).length : Int)), (49, .int .i64 (k2_85 : Int))] hag ?_
  refine zq (zr ?_)
  by_cases h89 : (k2_85 : Int) < ((ix r13.Next (k1_51 : Int)).length : Int)
  ·replace H := ifp h89 H
   refine zo (fun w => opB (J08 rfl rfl w) (decide_eq_true h89)) (zn (zq (zt rfl rfl (zk (zq ?_)))))
   refine zb (zq (zr (zm rfl ?_)))
   obtain ⟨h90, H⟩ := H
   obtain ⟨h91, H⟩ := H
   refine zo (J02 Try.underlying31 ti3 rfl rfl h90 h91 (ks.some_ h90 h91)) (zs (ldInt ks h90 h91 Try.underlying3 rfl rfl) (za rfl (za rfl (zn (zr ?_)))))
   refine zm rfl (zm rfl (zm rfl (zm rfl ?_)))
   obtain ⟨h92, H⟩ := H
   obtain ⟨h93, H⟩ := H
   refine zo (J02 Try.underlying31 ti3 rfl rfl h92 h93 (dB.some_ h92 h93)) (zs (ldInt dB h92 h93 Try.underlying3 rfl rfl) ?_)
   obtain ⟨h94, H⟩ := H
   obtain ⟨h95, H⟩ := H
   refine zo (J02 Try.underlying31 ti3 rfl rfl h94 (ltn (uP.neq hO 0 rfl) h95) (uP.psome hO 0 rfl h94 h95)) ?_
   have zz := ost (r := Rp.int .i64) rfl 0 hO rfl uP h94 h95 (v := .int .i64 (ix r29 (ix (ix r13.Next (k1_51 : Int)) (k2_85 : Int)))) (u := (ix r29 (ix (ix r13.Next (k1_51 : Int)) (k2_85 : Int)))) rfl rfl
   obtain ⟨w96, S8, mq, xH, Kk⟩ := zz
   dsimp only [sS, sZ] at mq xH
   refine zg (Kk Try.underlying3 rfl ti3 (by exact rfl) (by exact rfl)) ?_
   replace hO := mq.own
   refine zn ?_
   refine Go1.inBlock ?_
   refine zr ?_
   replace ks := ks.ch mq.ch
   refine zo (J0e rfl rfl (wrap_i64 (natbd h89 ks.bd))) (zm rfl (zn ?_))
   replace kU := kU.ch mq.ch
   replace tw := tw.ch mq.ch
   replace am := am.ch mq.ch
   replace aq := aq.ch mq.ch
   replace a8 := a8.ch mq.ch
   replace bh := bh.ch mq.ch
   replace dt := dt.ch mq.ch
   replace dB := dB.ch mq.ch
   replace hB := hB.trans mq.fr
   exact hX2 _ H _ _ ⟨S8, ⟨rfl, rfl, rfl, rfl, rfl, rfl, rfl, rfl, rfl, rfl, rfl, rfl, rfl, rfl, trivial⟩, hO, xH, kU, tw, am, aq, a8, bh, dt, dB, ks, hB⟩
  replace H := ifn h89 H
  refine zo (fun w => opB (J08 rfl rfl w) (decide_eq_false h89)) (zn (zq (zf rfl rfl ?_)))
  refine Go1.exit rfl ?_
  refine zq ?_
  refine Go1.drawS 4 [(0, .pure), (1, .stable), (2, .pure), (3, .stable), (4, .pure), (5, .pure), (6, .stable), (7, .loud), (8, .last), (9, .pure), (10, .last)] mixed (by kernel_rfl) ?_
  intro WS N7
  have j5 := Stp.same hO N7
  replace hO := j5.own
  refine GoQ.pure rfl (J00 Try.underlying25 rfl ti22 rfl (by decide)) rfl rfl ?_
  refine GoQ.stable rfl (oblk (i := 2) 3 hO rfl rfl Try.underlying22 rfl rfl) rfl rfl ?_
  refine GoQ.pure rfl (J00 Try.underlying25 rfl ti22 rfl (by decide)) rfl rfl ?_
  refine GoQ.stable rfl (oblk (i := 2) 4 hO rfl rfl Try.underlying22 rfl rfl) rfl rfl ?_
  refine GoQ.pure rfl (J03 rfl) rfl rfl ?_
  obtain ⟨sL, H⟩ := H
  obtain ⟨uF, H⟩ := H
  replace a8 := a8.ch j5.ch
  refine GoQ.pure rfl (J02 Try.underlying22 ti4 rfl rfl sL uF (a8.some_ sL uF)) rfl rfl ?_
  refine GoQ.stable rfl (ldBool a8 sL uF Try.underlying4 rfl rfl) rfl rfl ?_
  have zz := J0n (r := Rp.bool) (n := 1) (parts := [(0, .bool (ix r13.Final (k1_51 : Int)))]) (vs := [.bool (ix r13.Final (k1_51 : Int))]) (xs := [ix r13.Final (k1_51 : Int)]) rfl Try.underlying22 ti4 hO (by decide) (by kernel_rfl) (Els.cons rfl rfl (Els.nil _ _ _) (by simp [mx])) rfl
  obtain ⟨WT, WU, rL, N8, N9, DA⟩ := zz
  refine GoQ.loud rfl (DA rfl) N9 rfl rfl ?_
  replace hO := rL.own
  have zz := freeze 0 hO rfl N8
  obtain ⟨hO1, uQ, pG, Oa⟩ := zz
  dsimp only [eS, eZ] at hO1 uQ pG
  replace hB := ((hB.trans j5.fr).trans rL.fr).trans (Owns.J09 _ _ 0)
  dsimp only [eS, eZ] at hB
  replace hO := hO1; clear hO1
  obtain ⟨BU, H⟩ := H
  have Z6 := (j5.ch.trans rL.ch).trans uQ
  replace tw := tw.ch Z6
  have zz := oapp Try.underlying22 ti4 rfl 2 hO rfl tw pG Oa BU (by decide)
  obtain ⟨S9, E8, E9, Ob, fN, pI, Kl⟩ := zz
  dsimp only [sS, sZ] at fN pI
  refine GoQ.last rfl (Kl (by exact rfl) (by exact rfl)) rfl rfl ?_
  replace hO := fN.own
  refine GoQ.pure rfl (J00 Try.underlying25 rfl ti22 rfl (by decide)) rfl rfl ?_
  have zz := J0h (v := .slice E8 (n63 + 1) E9) (i := 2) (cs' := #[.int .i64 a0.Letters, .int .i64 0, .slice E8 (n63 + 1) E9, .slice p55 n57 c56]) 3 hO rfl rfl rfl rfl
  obtain ⟨WW, oc, Dy⟩ := zz
  dsimp only [sS, sZ] at oc
  refine GoQ.last rfl (Dy Try.underlying22 rfl ti22 (by exact rfl) (by exact rfl)) rfl rfl ?_
  replace hO := oc.own
  refine GoQ.nil ?_
  refine Go1.cut [(1, .pointer (some ⟨B2, 0, none⟩)), (2, .pointer (some ⟨B8, 0, none⟩)), (4, .pointer (some ⟨B21, 0, none⟩)), (5, .slice tL r14.length tM), (6, .slice nN r29.length nO), (7, .pointer (some ⟨B36, 0, none⟩)), (10, .slice p69 a0.Letters.toNat a0.Letters.toNat), (28, .slice nN r29.length nO), (29, .int .i64 (r29.length : Int)), (30, .int .i64 (k1_51 : Int))] ⟨rfl, rfl, rfl, rfl, rfl, rfl, rfl, rfl, rfl, rfl, trivial⟩ ?_
  intro σ _
  refine zr (zo (J00 Try.underlying25 rfl ti23 rfl (by decide)) (zs (oblk (i := 3) 3 hO rfl rfl Try.underlying23 rfl rfl) (zm rfl ?_)))
  replace uP := ((uP.ch Z6).ch fN.ch).ch oc.ch
  have zz := freeze 0 hO rfl uP
  obtain ⟨hO1, uR, vq, Oc⟩ := zz
  dsimp only [eS, eZ] at hO1 uR vq
  replace hB := ((hB.trans fN.fr).trans oc.fr).trans (Owns.J09 _ _ 0)
  dsimp only [eS, eZ] at hB
  replace hO := hO1; clear hO1
  have zz := J0n (r := Rp.sl (Rp.int .i64)) (n := 1) (parts := [(0, .slice p69 a0.Letters.toNat a0.Letters.toNat)]) (vs := [.slice p69 a0.Letters.toNat a0.Letters.toNat]) (xs := [d_86]) rfl Try.underlying23 ti31 hO (by decide) (by kernel_rfl) (Els.cons rfl ⟨p69, a0.Letters.toNat, congrArg some (congrArg (fun nn => Value.slice p69 nn a0.Letters.toNat) Oc), vq⟩ (Els.nil _ _ _) (by simp [mx])) rfl
  obtain ⟨Ta, ju, mz, Od, Vu, DB⟩ := zz
  refine zg (DB rfl) ?_
  replace hO := mz.own
  have zz := freeze 0 hO rfl Od
  obtain ⟨hO1, uq, kq, Oe⟩ := zz
  dsimp only [eS, eZ] at hO1 uq kq
  replace hB := (hB.trans mz.fr).trans (Owns.J09 _ _ 0)
  dsimp only [eS, eZ] at hB
  replace hO := hO1; clear hO1
  obtain ⟨uL, H⟩ := H
  have Z7 := ((((Z6.trans fN.ch).trans oc.ch).trans uR).trans mz.ch).trans uq
  replace kU := kU.ch Z7
  have zz := oapp Try.underlying23 ti31 rfl 0 hO rfl kU kq Oe uL (by decide)
  obtain ⟨WX, GO, GP, Og, jx, CM, Km⟩ := zz
  dsimp only [sS, sZ] at jx CM
  refine zg (Km (by exact rfl) (by exact rfl)) ?_
  replace hO := jx.own
  refine zo (J00 Try.underlying25 rfl ti23 rfl (by decide)) ?_
  have zz := J0h (v := .slice GO (n57 + 1) GP) (i := 3) (cs' := #[.int .i64 a0.Letters, .int .i64 0, .slice E8 (n63 + 1) E9, .slice GO (n57 + 1) GP]) 2 hO rfl rfl rfl rfl
  obtain ⟨Tc, gG, Kn⟩ := zz
  dsimp only [sS, sZ] at gG
  refine zg (Kn Try.underlying23 rfl ti23 (by exact rfl) (by exact rfl)) ?_
  replace hO := gG.own
  refine zn ?_
  refine Go1.inBlock ?_
  refine zr ?_
  replace dB := ((dB.ch Z7).ch jx.ch).ch gG.ch
  refine zo (J0e rfl rfl (wrap_i64 (natbd h64 dB.bd))) (zm rfl (zn ?_))
  replace CM := CM.ch gG.ch
  replace hB := (hB.trans jx.fr).trans gG.fr
  have Z8 := ((((oc.ch.trans uR).trans mz.ch).trans uq).trans jx.ch).trans gG.ch
  replace pI := pI.ch Z8
  have Z9 := (((((((rL.ch.trans uQ).trans fN.ch).trans oc.ch).trans uR).trans mz.ch).trans uq).trans jx.ch).trans gG.ch
  replace a8 := a8.ch Z9
  have Z10 := (Z7.trans jx.ch).trans gG.ch
  replace am := am.ch Z10
  replace aq := aq.ch Z10
  replace bh := bh.ch Z10
  replace dt := dt.ch Z10
  exact hX1 _ H _ _ ⟨n57 + 1, GO, GP, Og, n63 + 1, E8, E9, Ob, ⟨rfl, rfl, rfl, rfl, rfl, rfl, rfl, rfl, rfl, trivial⟩, hO, CM, pI, am, aq, a8, bh, dt, dB, hB⟩
 replace H := ifn h64 H
 refine zo (fun w => opB (J08 rfl rfl w) (decide_eq_false h64)) (zn (zq (zf rfl rfl ?_)))
 refine Go1.exit rfl ?_
 refine zq (zr (zs (J0l (vs := [.int .i64 a0.Letters, .int .i64 0, .slice p61 n63 c62, .slice p55 n57 c56]) (i := 0) 2 hO rfl rfl Try.underlying25 rfl ti25 rfl) ?_))
 have zz := freeze 1 hO rfl tw
 obtain ⟨hO1, xj, mr, Oh⟩ := zz
 dsimp only [eS, eZ] at hO1 xj mr
 replace hB := hB.trans (Owns.J09 _ _ 1)
 dsimp only [eS, eZ] at hB
 replace hO := hO1; clear hO1
 replace kU := kU.ch xj
 have zz := freeze 0 hO rfl kU
 obtain ⟨hO1, xk, nP, Oi⟩ := zz
 dsimp only [eS, eZ] at hO1 xk nP
 replace hB := hB.trans (Owns.J09 _ _ 0)
 dsimp only [eS, eZ] at hB
 replace hO := hO1; clear hO1
 replace mr := mr.ch xk
 refine GoR.call (J0a body109 (show ([.agg #[.int .i64 a0.Letters, .int .i64 0, .slice p61 n63 c62, .slice p55 n57 c56]] : List Value) = [.agg #[.int .i64 a0.Letters, .int .i64 0, .slice p61 d_58.length c62, .slice p55 d_52.length c56]] from by rw [← Oh, ← Oi]) (J3A (d := (⟨a0.Letters, (0 : Int), d_58, d_52⟩ : DFA)) hO.lt mr nP H)) rfl rfl ?_
 rintro WY W0 ⟨r159, r160, gi, gj, gE, gF, yS, yT, rfl, Oj, en, eM, gY, H⟩
 have uc := Stp.same hO Oj
 replace hO := uc.own
 refine zm rfl (zo (J07 rfl rfl) (zo (J07 rfl rfl) ?_))
 have zz := oalloc (t := 25) (cs := #[.int .i64 0, .int .i64 0, .slice none 0 0, .slice none 0 0]) ti25 hO rfl
 obtain ⟨Sz, B167, pW, Jk, DD⟩ := zz
 refine GoR.op DD rfl rfl ?_
 replace hO := pW.own
 have zz := J0b (us := [.int .i64 r159.Letters, .int .i64 r159.Start, .slice gi r159.Final.length gj, .slice gE r159.Next.length gF]) (o := 0) (cs' := #[.int .i64 r159.Letters, .int .i64 r159.Start, .slice gi r159.Final.length gj, .slice gE r159.Next.length gF]) 0 hO rfl rfl (Nat.le_of_ble_eq_true rfl) rfl
 obtain ⟨Td, od, Ko⟩ := zz
 dsimp only [sS, sZ] at od
 refine zg (Ko ti25 (by exact rfl) (by exact rfl) rfl) ?_
 replace hO := od.own
 refine za rfl (zn (zq (zr (zm rfl (zo (J0c Try.underlying31 rfl) ?_)))))
 have Z11 := (((xj.trans xk).trans uc.ch).trans pW.ch).trans od.ch
 replace dt := dt.ch Z11
 replace H := H dt.bd
 obtain ⟨DE, H⟩ := H
 obtain ⟨Te, H⟩ := H
 have zz := omake (n := (r14.length : Int)) (r := Rp.int .i64) (d := (0 : Int)) Try.underlying31 ti3 (fun _ _ => rfl) rfl hO DE Te (by decide)
 obtain ⟨W1, uS, Ok, fS, uT, Jl, DF⟩ := zz
 refine zg (DF rfl rfl) ?_
 replace hO := fS.own
 refine za rfl (zn (zq (zq ?_)))
 refine Go1.cut [(2, .pointer (some ⟨B8, 0, none⟩)), (5, .slice tL r14.length tM), (6, .slice nN r29.length nO), (13, .pointer (some ⟨B167, 0, none⟩)), (14, .slice yS r160.length yT), (15, .slice uS r14.length r14.length)] ⟨rfl, rfl, rfl, rfl, rfl, rfl, trivial⟩ ?_
 intro σ _
 refine zr (zm rfl (zo (J0c Try.underlying31 rfl) (zm rfl (zn (zb ?_)))))
 replace hO := hO.drop 2
 replace uT := uT.ch (Owns.J06 _ _ 2)
 replace dt := (dt.ch fS.ch).ch (Owns.J06 _ _ 2)
 have Z12 := ((pW.ch.trans od.ch).trans fS.ch).trans (Owns.J06 _ _ 2)
 replace en := en.ch Z12
 replace eM := eM.ch Z12
 replace gY := gY.ch Z12
 have Z13 := (((uc.ch.trans pW.ch).trans od.ch).trans fS.ch).trans (Owns.J06 _ _ 2)
 replace mr := mr.ch Z13
 replace nP := nP.ch Z13
 replace hB := ((((hB.trans uc.fr).trans pW.fr).trans od.fr).trans fS.fr).trans (Owns.J09 _ _ 2)
 have Z14 := (Z11.trans fS.ch).trans (Owns.J06 _ _ 2)
 replace am := am.ch Z14
 replace aq := aq.ch Z14
 replace a8 := a8.ch Z14
 replace bh := bh.ch Z14
 replace dB := dB.ch Z14
 dsimp only [eS, eZ] at hB hO am aq a8 bh dt dB mr nP en eM gY uT
 replace hO := hO.drop 2
 replace am := am.ch (Owns.J06 _ _ 2)
 replace aq := aq.ch (Owns.J06 _ _ 2)
 replace a8 := a8.ch (Owns.J06 _ _ 2)
 replace bh := bh.ch (Owns.J06 _ _ 2)
 replace dt := dt.ch (Owns.J06 _ _ 2)
 replace dB := dB.ch (Owns.J06 _ _ 2)
 replace mr := mr.ch (Owns.J06 _ _ 2)
 replace nP := nP.ch (Owns.J06 _ _ 2)
 replace en := en.ch (Owns.J06 _ _ 2)
 replace eM := eM.ch (Owns.J06 _ _ 2)
 replace gY := gY.ch (Owns.J06 _ _ 2)
 replace uT := uT.ch (Owns.J06 _ _ 2)
 replace hB := hB.trans (Owns.J09 _ _ 2)
 dsimp only [eS, eZ] at hB hO am aq a8 bh dt dB mr nP en eM gY uT
 replace hO := hO.drop 3
 replace dt := dt.ch (Owns.J06 _ _ 3)
 replace dB := dB.ch (Owns.J06 _ _ 3)
 replace en := en.ch (Owns.J06 _ _ 3)
 replace eM := eM.ch (Owns.J06 _ _ 3)
 replace gY := gY.ch (Owns.J06 _ _ 3)
 replace uT := uT.ch (Owns.J06 _ _ 3)
 replace hB := hB.trans (Owns.J09 _ _ 3)
 refine Go1.loopW (S := Nat × List Int) (fun s σ w => match s with | (k3_186, d_187) => ∃ (vr : List Value), agrees σ [(2, .pointer (some ⟨B8, 0, none⟩)), (6, .slice nN r29.length nO), (13, .pointer (some ⟨B167, 0, none⟩)), (14, .slice yS r160.length yT), (15, .slice uS r14.length r14.length), (87, .slice tL r14.length tM), (88, .int .i64 (r14.length : Int)), (89, .int .i64 (k3_186 : Int))] ∧ (fun Z0 => Owns w0.heap.size w Z0 A ∧ Els (Rp.int .i64) (bl Z0 ++ A) w vr d_187 ∧ ISl (Rp.int .i64) (bl Z0 ++ A) w tL tM r14 ∧ ISl (Rp.int .i64) (bl Z0 ++ A) w nN nO r29 ∧ ISl (Rp.bool) (bl Z0 ++ A) w gi gj r159.Final ∧ ISl (Rp.sl (Rp.int .i64)) (bl Z0 ++ A) w gE gF r159.Next ∧ ISl (Rp.int .i64) (bl Z0 ++ A) w yS yT r160 ∧ Fr (bl []) w0 (bl Z0) w) [.row 3 1 uS r14.length r14.length vr, .blk B167 (.cells #[.int .i64 r159.Letters, .int .i64 r159.Start, .slice gi r159.Final.length gj, .slice gE r159.Next.length gF] 25 (0, 0)), .blk B8 (.cells #[.int .i64 0, .int .i64 0, .slice none 0 0, .slice none 0 0] 25 (0, 0))]) H ⟨Ok, ⟨rfl, rfl, rfl, rfl, rfl, rfl, rfl, rfl, trivial⟩, hO, uT, dt, dB, en, eM, gY, hB⟩ ?_
 intro X3
 refine prE fun k3_186 => fun d_187 => ?_
 intro H hX3 σ W2
 refine exE fun vr => andE fun hag => andE fun hO => andE fun zE => andE fun dt => andE fun dB => andE fun en => andE fun eM => andE fun gY => fun hB => ?_
 dsimp only at H
 refine Go1.keep [(2, .pointer (some ⟨B8, 0, none⟩)), (6, .slice nN r29.length nO), (13, .pointer (some ⟨B167, 0, none⟩)), (14, .slice yS r160.length yT), (15, .slice uS r14.length r14.length), (87, .slice tL r14.length tM), (88, .int .i64 (r14.length : Int)), (89, .int .i64 (k3_186 : Int))] hag ?_
 refine zq (zr ?_)
 by_cases wr : (k3_186 : Int) < (r14.length : Int)
 ·replace H := ifp wr H
  refine zo (fun w => opB (J08 rfl rfl w) (decide_eq_true wr)) (zn (zq (zt rfl rfl (zk (zq ?_)))))
  refine zb (zq (zr (zm rfl ?_)))
  obtain ⟨GQ, H⟩ := H
  obtain ⟨DG, H⟩ := H
  refine zo (J02 Try.underlying31 ti3 rfl rfl GQ DG (dt.some_ GQ DG)) (zs (ldInt dt GQ DG Try.underlying3 rfl rfl) (za rfl (za rfl (zn (zq ?_)))))
  refine zr (zm rfl (zm rfl ?_))
  obtain ⟨GR, H⟩ := H
  obtain ⟨GT, H⟩ := H
  refine zo (J02 Try.underlying31 ti3 rfl rfl GR (ltn (zE.neq hO 0 rfl) GT) (zE.psome hO 0 rfl GR GT)) ?_
  have zz := ost (r := Rp.int .i64) rfl 0 hO rfl zE GR GT (v := .int .i64 (-1)) (u := (-1 : Int)) rfl rfl
  obtain ⟨SC, Fa, iN, uU, DH⟩ := zz
  refine zg (DH Try.underlying3 rfl ti3 (by exact rfl) (by exact rfl)) ?_
  replace hO := iN.own
  refine zn (zq (zr (zm rfl ?_)))
  by_cases Fb : (0 : Int) ≤ (ix r14 (k3_186 : Int))
  ·replace H := ifp Fb H
   refine zo (fun w => opB (J1k rfl rfl w) (decide_eq_true Fb)) (zn (zt rfl rfl (zr (zm rfl (zm rfl ?_)))))
   refine zm rfl (zm rfl (zm rfl ?_))
   obtain ⟨DJ, H⟩ := H
   obtain ⟨GU, H⟩ := H
   replace dB := dB.ch iN.ch
   refine zo (J02 Try.underlying31 ti3 rfl rfl DJ GU (dB.some_ DJ GU)) (zs (ldInt dB DJ GU Try.underlying3 rfl rfl) ?_)
   obtain ⟨At, H⟩ := H
   obtain ⟨wQ, H⟩ := H
   replace gY := gY.ch iN.ch
   refine zo (J02 Try.underlying31 ti3 rfl rfl At wQ (gY.some_ At wQ)) (zs (ldInt gY At wQ Try.underlying3 rfl rfl) ?_)
   obtain ⟨yb, H⟩ := H
   obtain ⟨Dh, H⟩ := H
   refine zo (J02 Try.underlying31 ti3 rfl rfl yb (ltn (uU.neq hO 0 rfl) Dh) (uU.psome hO 0 rfl yb Dh)) ?_
   have zz := ost (r := Rp.int .i64) rfl 0 hO rfl uU yb Dh (v := .int .i64 (ix r160 (ix r29 (ix r14 (k3_186 : Int))))) (u := (ix r160 (ix r29 (ix r14 (k3_186 : Int))))) rfl rfl
   obtain ⟨W3, Ol, wR, Om, Kq⟩ := zz
   refine zg (Kq Try.underlying3 rfl ti3 (by exact rfl) (by exact rfl)) ?_
   replace hO := wR.own
   refine zn ?_
   refine Go1.inBlock ?_
   refine Go1.cut [(2, .pointer (some ⟨B8, 0, none⟩)), (6, .slice nN r29.length nO), (13, .pointer (some ⟨B167, 0, none⟩)), (14, .slice yS r160.length yT), (15, .slice uS r14.length r14.length), (87, .slice tL r14.length tM), (88, .int .i64 (r14.length : Int)), (89, .int .i64 (k3_186 : Int))] ⟨rfl, rfl, rfl, rfl, rfl, rfl, rfl, rfl, trivial⟩ ?_
   intro σ _
   refine zr ?_
   replace dt := (dt.ch iN.ch).ch wR.ch
   refine zo (J0e rfl rfl (wrap_i64 (natbd wr dt.bd))) (zm rfl (zn ?_))
   replace dB := dB.ch wR.ch
   replace gY := gY.ch wR.ch
   have Z15 := iN.ch.trans wR.ch
   replace en := en.ch Z15
   replace eM := eM.ch Z15
   replace hB := (hB.trans iN.fr).trans wR.fr
   exact hX3 _ H _ _ ⟨Ol, ⟨rfl, rfl, rfl, rfl, rfl, rfl, rfl, rfl, trivial⟩, hO, Om, dt, dB, en, eM, gY, hB⟩
  replace H := ifn Fb H
  refine zo (fun w => opB (J1k rfl rfl w) (decide_eq_false Fb)) (zn (zf rfl rfl (zk ?_)))
  refine Go1.inBlock ?_
  refine zr ?_
  replace dt := dt.ch iN.ch
  refine zo (J0e rfl rfl (wrap_i64 (natbd wr dt.bd))) (zm rfl (zn ?_))
  replace dB := dB.ch iN.ch
  replace en := en.ch iN.ch
  replace eM := eM.ch iN.ch
  replace gY := gY.ch iN.ch
  replace hB := hB.trans iN.fr
  exact hX3 _ H _ _ ⟨Fa, ⟨rfl, rfl, rfl, rfl, rfl, rfl, rfl, rfl, trivial⟩, hO, uU, dt, dB, en, eM, gY, hB⟩
 replace H := ifn wr H
 refine zo (fun w => opB (J08 rfl rfl w) (decide_eq_false wr)) (zn (zq (zf rfl rfl ?_)))
 refine Go1.exit rfl ?_
 refine zq (zr (zs (J0l (vs := [.int .i64 r159.Letters, .int .i64 r159.Start, .slice gi r159.Final.length gj, .slice gE r159.Next.length gF]) (i := 0) 1 hO rfl rfl Try.underlying25 rfl ti25 rfl) (zm rfl ?_)))
 have zz := J0b (us := [.int .i64 r159.Letters, .int .i64 r159.Start, .slice gi r159.Final.length gj, .slice gE r159.Next.length gF]) (o := 0) (cs' := #[.int .i64 r159.Letters, .int .i64 r159.Start, .slice gi r159.Final.length gj, .slice gE r159.Next.length gF]) 2 hO rfl rfl (Nat.le_of_ble_eq_true rfl) rfl
 obtain ⟨W4, vX, Kr⟩ := zz
 refine zg (Kr ti25 (by exact rfl) (by exact rfl) rfl) ?_
 replace hO := vX.own
 refine za rfl (zn ?_)
 replace zE := zE.ch vX.ch
 have zz := freeze 0 hO rfl zE
 obtain ⟨hO1, Bc, Oo, Oq⟩ := zz
 replace hO := hO1; clear hO1
 refine Go1.retC2 Try.func66 rfl rfl (J0i (vs := [.int .i64 r159.Letters, .int .i64 r159.Start, .slice gi r159.Final.length gj, .slice gE r159.Next.length gF]) 1 hO rfl rfl Try.underlying25 rfl ti25) ?_
 have Z16 := vX.ch.trans Bc
 replace en := en.ch Z16
 replace eM := eM.ch Z16
 replace hB := (hB.trans vX.fr).trans (Owns.J09 _ _ 0)
 exact ⟨(⟨r159.Letters, r159.Start, r159.Final, r159.Next⟩ : DFA), d_187, gi, gj, gE, gF, uS, r14.length, (congrArg (fun l => Value.tuple (List.toArray l)) (J0k rfl (J0k (congrArg (fun nn => Value.slice uS nn r14.length) Oq) rfl))), hB.same, (en.ch (Ch.weak _ _ _)), (eM.ch (Ch.weak _ _ _)), (Oo.ch (Ch.weak _ _ _)), H⟩
theorem body22 : Body Try.prog 22 := ⟨Try.f22, Try.func22, rfl, by kernel_rfl⟩
theorem J2V {A : List Nat} {w0 : World} {bj : Option Addr} {bk : Nat} {bm : Option Addr} {bn : Nat} {d : DFA} (hA : ∀ b ∈ A, b < w0.heap.size) (ak : ISl (Rp.bool) A w0 bj bk d.Final) (ap : ISl (Rp.sl (Rp.int .i64)) A w0 bm bn d.Next) {K : DFA → Prop} (H : J0R d K) :
    CallsV Try.prog 22 #[.agg #[.int .i64 d.Letters, .int .i64 d.Start, .slice bj d.Final.length bk, .slice bm d.Next.length bn]] w0 (fun v w' => ∃ (r0 : DFA) (iV : Option Addr) (iW : Nat) (jD : Option Addr) (jE : Nat), v = .agg #[.int .i64 r0.Letters, .int .i64 r0.Start, .slice iV r0.Final.length iW, .slice jD r0.Next.length jE] ∧ Same w0 w' ∧ ISl (Rp.bool) A w' iV iW r0.Final ∧ ISl (Rp.sl (Rp.int .i64)) A w' jD jE r0.Next ∧ K r0) := by
 refine CallsV.of (l := [.agg #[.int .i64 d.Letters, .int .i64 d.Start, .slice bj d.Final.length bk, .slice bm d.Next.length bn]]) Try.func22 rfl Try.ntmps22 rfl ?_
 have hO := Owns.start hA
 have hB := Fr.refl (bl []) w0
 unfold J0R at H
 refine zq (zr ?_)
 have zz := obox (t := 25) (v := .agg #[.int .i64 d.Letters, .int .i64 d.Start, .slice bj d.Final.length bk, .slice bm d.Next.length bn]) (cs := #[.int .i64 d.Letters, .int .i64 d.Start, .slice bj d.Final.length bk, .slice bm d.Next.length bn]) hO rfl
 obtain ⟨w1, B2, dX, hs4, jU⟩ := zz
 refine zg (jU rfl) ?_
 replace hO := dX.own
 have zz := oalloc (t := 25) (cs := #[.int .i64 0, .int .i64 0, .slice none 0 0, .slice none 0 0]) ti25 hO rfl
 obtain ⟨w7, B8, gU, xF, tH⟩ := zz
 refine GoR.op tH rfl rfl ?_
 replace hO := gU.own
 refine zn (zq (zq (zr (zs (J0l (vs := [.int .i64 d.Letters, .int .i64 d.Start, .slice bj d.Final.length bk, .slice bm d.Next.length bn]) (i := 0) 1 hO rfl rfl Try.underlying25 rfl ti25 rfl) ?_))))
 have Z1 := ((Ch.start A w0).trans dX.ch).trans gU.ch
 replace ak := ak.ch Z1
 replace ap := ap.ch Z1
 refine GoR.call (J0a body61 rfl (J15 (d := d) hO.lt ak ap H)) rfl rfl ?_
 rintro v17 w14 ⟨r13, rfl, x8, H⟩
 have gN := Stp.same hO x8
 replace hO := gN.own
 by_cases h19 : r13 = (0 : Int)
 ·replace H := ifp h19 H
  refine zo (fun w => opB (J0j rfl rfl w) (ndT h19)) (zn (zf rfl rfl (zk (zq (zr ?_)))))
  refine zs (J0l (vs := [.int .i64 d.Letters, .int .i64 d.Start, .slice bj d.Final.length bk, .slice bm d.Next.length bn]) (i := 0) 1 hO rfl rfl Try.underlying25 rfl ti25 rfl) ?_
  replace ak := ak.ch gN.ch
  replace ap := ap.ch gN.ch
  refine GoR.call (J0a body66 rfl (J2G (a0 := d) hO.lt ak ap H)) rfl rfl ?_
  rintro v25 w22 ⟨r20, r21, pt, pv, qU, qV, fD, fE, rfl, GL, pz, qW, zF, H⟩
  have m6 := Stp.same hO GL
  replace hO := m6.own
  refine zm rfl (zo (J07 rfl rfl) (zo (J07 rfl rfl) ?_))
  have zz := oalloc (t := 25) (cs := #[.int .i64 0, .int .i64 0, .slice none 0 0, .slice none 0 0]) ti25 hO rfl
  obtain ⟨w27, B28, um, Su, ES⟩ := zz
  refine GoR.op ES rfl rfl ?_
  replace hO := um.own
  have zz := J0b (us := [.int .i64 r20.Letters, .int .i64 r20.Start, .slice pt r20.Final.length pv, .slice qU r20.Next.length qV]) (o := 0) (cs' := #[.int .i64 r20.Letters, .int .i64 r20.Start, .slice pt r20.Final.length pv, .slice qU r20.Next.length qV]) 0 hO rfl rfl (Nat.le_of_ble_eq_true rfl) rfl
  obtain ⟨w33, qS, Os⟩ := zz
  refine zg (Os ti25 (by exact rfl) (by exact rfl) rfl) ?_
  replace hO := qS.own
  refine za rfl (zn (zq (zr (zs (J0l (vs := [.int .i64 r20.Letters, .int .i64 r20.Start, .slice pt r20.Final.length pv, .slice qU r20.Next.length qV]) (i := 0) 0 hO rfl rfl Try.underlying25 rfl ti25 rfl) ?_))))
  have zz := J0b (us := [.int .i64 r20.Letters, .int .i64 r20.Start, .slice pt r20.Final.length pv, .slice qU r20.Next.length qV]) (o := 0) (cs' := #[.int .i64 r20.Letters, .int .i64 r20.Start, .slice pt r20.Final.length pv, .slice qU r20.Next.length qV]) 1 hO rfl rfl (Nat.le_of_ble_eq_true rfl) rfl
  obtain ⟨w36, pF, ET⟩ := zz
  refine zg (ET ti25 (by exact rfl) (by exact rfl) rfl) ?_
  replace hO := pF.own
  refine zn ?_
  refine Go1.retC1 Try.func22 rfl rfl (J0i (vs := [.int .i64 r20.Letters, .int .i64 r20.Start, .slice pt r20.Final.length pv, .slice qU r20.Next.length qV]) 1 hO rfl rfl Try.underlying25 rfl ti25) ?_
  have Z2 := (um.ch.trans qS.ch).trans pF.ch
  replace pz := pz.ch Z2
  replace qW := qW.ch Z2
  replace hB := ((((((hB.trans dX.fr).trans gU.fr).trans gN.fr).trans m6.fr).trans um.fr).trans qS.fr).trans pF.fr
  exact ⟨(⟨r20.Letters, r20.Start, r20.Final, r20.Next⟩ : DFA), pt, pv, qU, qV, rfl, hB.same, (pz.ch (Ch.weak _ _ _)), (qW.ch (Ch.weak _ _ _)), H⟩
 replace H := ifn h19 H
 refine zo (fun w => opB (J0j rfl rfl w) (ndF h19)) (zn (zt rfl rfl (zq (zr (zo (J0w Try.underlying25 ti25 (pl := [(0, 1), (1, 1), (2, 1), (3, 1)]) (vs := []) (cs := #[.int .i64 0, .int .i64 0, .slice none 0 0, .slice none 0 0]) (by kernel_rfl) rfl (by kernel_rfl)) ?_)))))
 have zz := J0b (us := [.int .i64 0, .int .i64 0, .slice none 0 0, .slice none 0 0]) (o := 0) (cs' := #[.int .i64 0, .int .i64 0, .slice none 0 0, .slice none 0 0]) 0 hO rfl rfl (Nat.le_of_ble_eq_true rfl) rfl
 obtain ⟨w39, sX, Ot⟩ := zz
 refine zg (Ot ti25 (by exact rfl) (by exact rfl) rfl) ?_
 replace hO := sX.own
 refine zn ?_
 refine Go1.retC1 Try.func22 rfl rfl (J0i (vs := [.int .i64 0, .int .i64 0, .slice none 0 0, .slice none 0 0]) 0 hO rfl rfl Try.underlying25 rfl ti25) ?_
 replace hB := (((hB.trans dX.fr).trans gU.fr).trans gN.fr).trans sX.fr
 exact ⟨(⟨(0 : Int), (0 : Int), ([] : List Bool), ([] : List (List Int))⟩ : DFA), none, 0, none, 0, rfl, hB.same, (ISl.null _ _ _), (ISl.null _ _ _), H⟩
theorem body154 : Body Try.prog 154 := ⟨Try.f154, Try.func154, rfl, by kernel_rfl⟩
theorem J1H {A : List Nat} {w0 : World} {p_f : Option Addr} {c_f : Nat} {f : List Int} (hA : ∀ b ∈ A, b < w0.heap.size) (h_f : ISl (Rp.int .i64) A w0 p_f c_f f) {K : Bool → Prop} (H : J1y f K) :
    CallsV Try.prog 154 #[.slice p_f f.length c_f] w0 (fun v w' => ∃ (r0 : Bool), v = .bool r0 ∧ Same w0 w' ∧ K r0) := by
 refine CallsV.of (l := [.slice p_f f.length c_f]) Try.func154 rfl Try.ntmps154 rfl ?_
 have hO := Owns.start hA
 have hB := Fr.refl (bl []) w0
 unfold J1y at H
 refine zq (zr (za rfl (zn (zq (zq ?_)))))
 refine zr (zm rfl (zo (J0c Try.underlying31 rfl) ?_))
 replace h_f := h_f.ch (Ch.start A w0)
 replace H := H h_f.bd
 by_cases h1 : (f.length : Int) < (1 : Int)
 ·replace H := ifp h1 H
  refine zo (fun w => opB (J08 rfl rfl w) (decide_eq_true h1)) (zm rfl (zp (zp (zp (zo (J04 rfl rfl rfl) ?_)))))
  refine zn (zt rfl rfl (zq (zr (za rfl (zn ?_)))))
  refine Go1.ret1 Try.func154 rfl ?_
  exact ⟨false, rfl, hB.same, H⟩
 replace H := ifn h1 H
 refine zo (fun w => opB (J08 rfl rfl w) (decide_eq_false h1)) (zm rfl (zm rfl (zo (J0c Try.underlying31 rfl) ?_)))
 by_cases h2 : (32 : Int) < (f.length : Int)
 ·replace H := ifp h2 H
  refine zo (fun w => opB (J17 rfl rfl w) (decide_eq_true h2)) (zo (J05 rfl rfl rfl) (zn (zt rfl rfl (zq (zr ?_)))))
  refine za rfl (zn ?_)
  refine Go1.ret1 Try.func154 rfl ?_
  exact ⟨false, rfl, hB.same, H⟩
 replace H := ifn h2 H
 refine zo (fun w => opB (J17 rfl rfl w) (decide_eq_false h2)) (zo (J05 rfl rfl rfl) (zn (zf rfl rfl (zk (zq ?_)))))
 refine zq (zr (zm rfl (zo (J0c Try.underlying31 rfl) (zm rfl (zn ?_)))))
 refine zb ?_
 refine Go1.loopW (S := Nat) (fun s σ w => agrees σ [(0, .slice p_f f.length c_f), (13, .slice p_f f.length c_f), (14, .int .i64 (f.length : Int)), (15, .int .i64 (s : Int))] ∧ Owns w0.heap.size w [] A ∧ ISl (Rp.int .i64) (bl [] ++ A) w p_f c_f f ∧ Fr (bl []) w0 (bl []) w) H ⟨⟨rfl, rfl, rfl, rfl, trivial⟩, hO, h_f, hB⟩ ?_
 intro X1 k1_4
 intro H hX1 σ w3
 refine andE fun hag => andE fun hO => andE fun h_f => fun hB => ?_
 refine Go1.keep [(0, .slice p_f f.length c_f), (13, .slice p_f f.length c_f), (14, .int .i64 (f.length : Int)), (15, .int .i64 (k1_4 : Int))] hag ?_
 refine zq (zr ?_)
 by_cases h5 : (k1_4 : Int) < (f.length : Int)
 ·replace H := ifp h5 H
  refine zo (fun w => opB (J08 rfl rfl w) (decide_eq_true h5)) (zn (zq (zt rfl rfl (zk (zq ?_)))))
  refine zb (zq (zr ?_))
  obtain ⟨h6, H⟩ := H
  obtain ⟨h7, H⟩ := H
  refine zo (J02 Try.underlying31 ti3 rfl rfl h6 h7 (h_f.some_ h6 h7)) (zs (ldInt h_f h6 h7 Try.underlying3 rfl rfl) (za rfl (zn (zq (zr ?_)))))
  refine zm rfl ?_
  by_cases h8 : (ix f (k1_4 : Int)) < (0 : Int)
  ·replace H := ifp h8 H
   refine zo (fun w => opB (J08 rfl rfl w) (decide_eq_true h8)) (zm rfl (zp (zp (zp (zp ?_)))))
   refine zo (J04 rfl rfl rfl) (zn (zt rfl rfl (zq (zr (za rfl ?_)))))
   refine zn ?_
   refine Go1.ret1 Try.func154 rfl ?_
   exact ⟨false, rfl, hB.same, H⟩
  replace H := ifn h8 H
  refine zo (fun w => opB (J08 rfl rfl w) (decide_eq_false h8)) (zm rfl (zm rfl (zm rfl (zo (J0c Try.underlying31 rfl) ?_))))
  by_cases h9 : (f.length : Int) ≤ (ix f (k1_4 : Int))
  ·replace H := ifp h9 H
   refine zo (fun w => opB (J1k rfl rfl w) (decide_eq_true h9)) (zo (J05 rfl rfl rfl) (zn (zt rfl rfl (zq ?_))))
   refine Go1.cut [] trivial ?_
   intro σ _
   refine zr (za rfl (zn ?_))
   refine Go1.ret1 Try.func154 rfl ?_
   exact ⟨false, rfl, hB.same, H⟩
  replace H := ifn h9 H
  refine zo (fun w => opB (J1k rfl rfl w) (decide_eq_false h9)) (zo (J05 rfl rfl rfl) (zn (zf rfl rfl (zk ?_))))
  refine Go1.inBlock ?_
  refine zr (zo (J0e rfl rfl (wrap_i64 (natbd h5 h_f.bd))) (zm rfl (zn ?_)))
  exact hX1 _ H _ _ ⟨⟨rfl, rfl, rfl, rfl, trivial⟩, hO, h_f, hB⟩
 replace H := ifn h5 H
 refine zo (fun w => opB (J08 rfl rfl w) (decide_eq_false h5)) (zn (zq (zf rfl rfl ?_)))
 refine Go1.exit rfl ?_
 refine zq (zr (za rfl (zn ?_)))
 refine Go1.ret1 Try.func154 rfl ?_
 exact ⟨true, rfl, hB.same, H⟩
theorem body86 : Body Try.prog 86 := ⟨Try.f86, Try.func86, rfl, by kernel_rfl⟩
theorem J0I {A : List Nat} {w0 : World} {nW : Option Addr} {sI : Nat} {s_ : List Int} (hA : ∀ b ∈ A, b < w0.heap.size) (iU : ISl (Rp.int .i64) A w0 nW sI s_) {K : List Int → Prop} (H : J0x s_ K) :
    CallsV Try.prog 86 #[.slice nW s_.length sI] w0 (fun v w' => ∃ (r0 : List Int) (Ag : Nat) (tS : Option Addr) (tT : Nat) (x5 : List Value), v = .slice tS Ag tT ∧ Same w0 w' ∧ Owns w0.heap.size w' [.row 3 1 tS Ag tT x5] A ∧ Els (Rp.int .i64) (bl [.row 3 1 tS Ag tT x5] ++ A) w' x5 r0 ∧ K r0) := by
 refine CallsV.of (l := [.slice nW s_.length sI]) Try.func86 rfl Try.ntmps86 rfl ?_
 have hO := Owns.start hA
 have hB := Fr.refl (bl []) w0
 unfold J0x at H
 refine zq (zr (za rfl (zn (zq (zq ?_)))))
 refine zr (zm rfl ?_)
 replace iU := iU.ch (Ch.start A w0)
 replace H := H nW.isNone (fun h => iU.nilD h)
 by_cases hz2 : nW.isNone = true
 ·replace H := ifp hz2 H
  refine zo (fun w => opB (J1V Try.underlying31 rfl rfl w) (hz2)) (zn (zt rfl rfl (zq (zr (za rfl ?_)))))
  refine zn ?_
  have ne := Stp.nil (e := 3) (r := 1) hO
  replace hO := ne.own
  have hE5 := Els.nil (Rp.int .i64) (bl (.row 3 1 none 0 0 [] :: []) ++ A) w0
  refine Go1.ret1 Try.func86 rfl ?_
  replace hB := hB.trans ne.fr
  exact ⟨(([] : List Int)), 0, none, 0, ([]), rfl, hB.same, hO, hE5, H⟩
 ·replace H := ifn hz2 H
  refine zo (fun w => opB (J1V Try.underlying31 rfl rfl w) (Bool.eq_false_iff.2 hz2)) (zn (zf rfl rfl (zk (zq (zr ?_)))))
  have zz := J0n (r := Rp.int .i64) (n := 0) (parts := []) (vs := []) (xs := ([] : List Int)) rfl Try.underlying31 ti3 hO (by decide) (by kernel_rfl) (Els.nil _ _ _) rfl
  obtain ⟨w6, p7, Ah, hE9, xF, tH⟩ := zz
  refine zg (tH rfl) ?_
  replace hO := Ah.own
  refine zm rfl ?_
  obtain ⟨h13, H⟩ := H
  replace iU := iU.ch Ah.ch
  have zz := oapp Try.underlying31 ti3 rfl 0 hO rfl hE9 iU rfl h13 (by decide)
  obtain ⟨w14, p15, c16, lH, gN, Gh, x6⟩ := zz
  refine zg (x6 (by exact rfl) (by exact rfl)) ?_
  replace hO := gN.own
  refine za rfl (zn ?_)
  refine Go1.ret1 Try.func86 rfl ?_
  replace hB := (hB.trans Ah.fr).trans gN.fr
  exact ⟨((([] : List Int)) ++ s_), (0 + s_.length), p15, c16, lH, rfl, hB.same, hO, Gh, H⟩
theorem body156 : Body Try.prog 156 := ⟨Try.f156, Try.func156, rfl, by kernel_rfl⟩
theorem J3o {A : List Nat} {w0 : World} {n : Int} (hA : ∀ b ∈ A, b < w0.heap.size) {K : List Int → Prop} (H : J19 n K) :
    CallsV Try.prog 156 #[.int .i64 n] w0 (fun v w' => ∃ (r0 : List Int) (tS : Option Addr) (tT : Nat), v = .slice tS r0.length tT ∧ Same w0 w' ∧ ISl (Rp.int .i64) A w' tS tT r0 ∧ K r0) := by
 refine CallsV.of (l := [.int .i64 n]) Try.func156 rfl Try.ntmps156 rfl ?_
 have hO := Owns.start hA
 have hB := Fr.refl (bl []) w0
 unfold J19 at H
 refine zq (zr (za rfl (zn (zq (zq ?_)))))
 refine zr (zm rfl ?_)
 by_cases h1 : n < (1 : Int)
 ·replace H := ifp h1 H
  refine zo (fun w => opB (J08 rfl rfl w) (decide_eq_true h1)) (zm rfl (zp (zp (zo (J04 rfl rfl rfl) (zn ?_)))))
  refine zt rfl rfl (zq (zr (za rfl (zn ?_))))
  refine Go1.ret1 Try.func156 rfl ?_
  exact ⟨([] : List Int), none, 0, rfl, hB.same, (ISl.null _ _ _), H⟩
 replace H := ifn h1 H
 refine zo (fun w => opB (J08 rfl rfl w) (decide_eq_false h1)) (zm rfl (zm rfl ?_))
 by_cases h2 : (32 : Int) < n
 ·replace H := ifp h2 H
  refine zo (fun w => opB (J17 rfl rfl w) (decide_eq_true h2)) (zo (J05 rfl rfl rfl) (zn (zt rfl rfl (zq (zr ?_)))))
  refine za rfl (zn ?_)
  refine Go1.ret1 Try.func156 rfl ?_
  exact ⟨([] : List Int), none, 0, rfl, hB.same, (ISl.null _ _ _), H⟩
 replace H := ifn h2 H
 refine zo (fun w => opB (J17 rfl rfl w) (decide_eq_false h2)) (zo (J05 rfl rfl rfl) (zn (zf rfl rfl (zk (zq ?_)))))
 refine zr (zm rfl ?_)
 obtain ⟨h10, H⟩ := H
 obtain ⟨h11, H⟩ := H
 have zz := omake (n := n) (r := Rp.int .i64) (d := (0 : Int)) Try.underlying31 ti3 (fun _ _ => rfl) rfl hO h10 h11 (by decide)
 obtain ⟨w3, p4, vs5, yn, hE7, hs8, Tf⟩ := zz
 refine zg (Tf rfl rfl) ?_
 replace hO := yn.own
 refine za rfl (zn (zq (zq (zr (zm rfl ?_)))))
 refine zo (J0A Try.underlying31 rfl (hE7.neq hO 0 rfl)) (zm rfl (zn (zb ?_)))
 replace hB := hB.trans yn.fr
 refine Go1.loopW (S := Nat × List Int) (fun s σ w => match s with | (k1_14, f1_15) => ∃ (yg : List Value), agrees σ [(3, .slice p4 n.toNat n.toNat), (14, .int .i64 ((List.replicate n.toNat ((0 : Int))).length : Int)), (15, .int .i64 (k1_14 : Int))] ∧ (fun Z0 => Owns w0.heap.size w Z0 A ∧ Els (Rp.int .i64) (bl Z0 ++ A) w yg f1_15 ∧ Fr (bl []) w0 (bl Z0) w) [.row 3 1 p4 n.toNat n.toNat yg]) H ⟨vs5, ⟨rfl, rfl, rfl, trivial⟩, hO, hE7, hB⟩ ?_
 intro X1
 refine prE fun k1_14 => fun f1_15 => ?_
 intro H hX1 σ w13
 refine exE fun yg => andE fun hag => andE fun hO => andE fun xG => fun hB => ?_
 dsimp only at H
 refine Go1.keep [(3, .slice p4 n.toNat n.toNat), (14, .int .i64 ((List.replicate n.toNat ((0 : Int))).length : Int)), (15, .int .i64 (k1_14 : Int))] hag ?_
 refine zq (zr ?_)
 by_cases h18 : (k1_14 : Int) < ((List.replicate n.toNat ((0 : Int))).length : Int)
 ·replace H := ifp h18 H
  refine zo (fun w => opB (J08 rfl rfl w) (decide_eq_true h18)) (zn (zq (zt rfl rfl (zk (zq ?_)))))
  refine zb (zq (zr (zm rfl (za rfl (zn ?_)))))
  refine zr (zm rfl (zm rfl (zm rfl ?_)))
  obtain ⟨h19, H⟩ := H
  obtain ⟨h20, H⟩ := H
  refine zo (J02 Try.underlying31 ti3 rfl rfl h19 (ltn (xG.neq hO 0 rfl) h20) (xG.psome hO 0 rfl h19 h20)) ?_
  have zz := ost (r := Rp.int .i64) rfl 0 hO rfl xG h19 h20 (v := .int .i64 (k1_14 : Int)) (u := (k1_14 : Int)) rfl rfl
  obtain ⟨w21, GW, ml, cO, A7⟩ := zz
  refine zg (A7 Try.underlying3 rfl ti3 (by exact rfl) (by exact rfl)) ?_
  replace hO := ml.own
  refine zn ?_
  refine Go1.inBlock ?_
  refine zr ?_
  obtain ⟨h26, H⟩ := H
  refine zo (J0e rfl rfl (wrap_i64 h26)) (zm rfl (zn ?_))
  replace hB := hB.trans ml.fr
  exact hX1 _ H _ _ ⟨GW, ⟨rfl, rfl, rfl, trivial⟩, hO, cO, hB⟩
 replace H := ifn h18 H
 refine zo (fun w => opB (J08 rfl rfl w) (decide_eq_false h18)) (zn (zq (zf rfl rfl ?_)))
 refine Go1.exit rfl ?_
 refine zq (zr (zm rfl (za rfl (zn ?_))))
 have zz := freeze 0 hO rfl xG
 obtain ⟨hO1, W5, Tg, Th⟩ := zz
 replace hO := hO1; clear hO1
 refine Go1.ret1 Try.func156 rfl ?_
 replace hB := hB.trans (Owns.J09 _ _ 0)
 exact ⟨f1_15, p4, n.toNat, (congrArg (fun nn => Value.slice p4 nn n.toNat) Th), hB.same, (Tg.ch (Ch.weak _ _ _)), H⟩
theorem body157 : Body Try.prog 157 := ⟨Try.f157, Try.func157, rfl, by kernel_rfl⟩
theorem J0p {A : List Nat} {w0 : World} {p_f : Option Addr} {c_f : Nat} {f : List Int} (hA : ∀ b ∈ A, b < w0.heap.size) (h_f : ISl (Rp.int .i64) A w0 p_f c_f f) {K : Str → Prop} (H : J0q f K) :
    CallsV Try.prog 157 #[.slice p_f f.length c_f] w0 (fun v w' => ∃ (r0 : Str), v = .string (gstr r0) ∧ Same w0 w' ∧ r0.length ≤ mx ∧ K r0) := by
 refine CallsV.of (l := [.slice p_f f.length c_f]) Try.func157 rfl Try.ntmps157 rfl ?_
 have hO := Owns.start hA
 have hB := Fr.refl (bl []) w0
 unfold J0q at H
 refine zq (zr (za rfl (zn (zq (zr ?_)))))
 refine zm rfl (zo (J0c Try.underlying31 rfl) ?_)
 replace h_f := h_f.ch (Ch.start A w0)
 replace H := H h_f.bd
 obtain ⟨h8, H⟩ := H
 obtain ⟨h9, H⟩ := H
 have zz := omake (n := (f.length : Int)) (r := Rp.int .u8) (d := (0 : Int)) Try.underlying126 ti5 (fun _ _ => rfl) rfl hO h8 h9 (by decide)
 obtain ⟨w1, p2, vs3, ne, hE5, hs6, DK⟩ := zz
 refine zg (DK rfl rfl) ?_
 replace hO := ne.own
 refine za rfl (zn (zq (zq (zr (zm rfl ?_)))))
 refine zo (J0c Try.underlying31 rfl) (zm rfl (zn (zb ?_)))
 replace h_f := h_f.ch ne.ch
 replace hB := hB.trans ne.fr
 refine Go1.loopW (S := Nat × List Int) (fun s σ w => match s with | (k1_12, b1_13) => ∃ (pC : List Value), agrees σ [(3, .slice p2 f.length f.length), (9, .slice p_f f.length c_f), (10, .int .i64 (f.length : Int)), (11, .int .i64 (k1_12 : Int))] ∧ (fun Z0 => Owns w0.heap.size w Z0 A ∧ Els (Rp.int .u8) (bl Z0 ++ A) w pC b1_13 ∧ ISl (Rp.int .i64) (bl Z0 ++ A) w p_f c_f f ∧ Fr (bl []) w0 (bl Z0) w) [.row 5 1 p2 f.length f.length pC]) H ⟨vs3, ⟨rfl, rfl, rfl, rfl, trivial⟩, hO, hE5, h_f, hB⟩ ?_
 intro X1
 refine prE fun k1_12 => fun b1_13 => ?_
 intro H hX1 σ w11
 refine exE fun pC => andE fun hag => andE fun hO => andE fun cg => andE fun h_f => fun hB => ?_
 dsimp only at H
 refine Go1.keep [(3, .slice p2 f.length f.length), (9, .slice p_f f.length c_f), (10, .int .i64 (f.length : Int)), (11, .int .i64 (k1_12 : Int))] hag ?_
 refine zq (zr ?_)
 by_cases h16 : (k1_12 : Int) < (f.length : Int)
 ·replace H := ifp h16 H
  refine zo (fun w => opB (J08 rfl rfl w) (decide_eq_true h16)) (zn (zq (zt rfl rfl (zk (zq ?_)))))
  refine zb (zq (zr (zm rfl ?_)))
  obtain ⟨h17, H⟩ := H
  obtain ⟨h18, H⟩ := H
  refine zo (J02 Try.underlying31 ti3 rfl rfl h17 h18 (h_f.some_ h17 h18)) (zs (ldInt h_f h17 h18 Try.underlying3 rfl rfl) (za rfl (za rfl (zn (zr ?_)))))
  refine zm rfl (zm rfl (zm rfl (zo (J3O Try.underlying3 Try.underlying5 rfl rfl) ?_)))
  obtain ⟨h19, H⟩ := H
  obtain ⟨h20, H⟩ := H
  refine zo (J02 Try.underlying126 ti5 rfl rfl h19 (ltn (cg.neq hO 0 rfl) h20) (cg.psome hO 0 rfl h19 h20)) ?_
  have zz := ost (r := Rp.int .u8) rfl 0 hO rfl cg h19 h20 (v := .int .u8 (IntKind.u8.wrap (ix f (k1_12 : Int)))) (u := (IntKind.u8.wrap (ix f (k1_12 : Int)))) rfl rfl
  obtain ⟨w21, GW, ml, cO, A7⟩ := zz
  refine zg (A7 Try.underlying5 rfl ti5 (by exact rfl) (by exact rfl)) ?_
  replace hO := ml.own
  refine zn ?_
  refine Go1.inBlock ?_
  refine zr ?_
  replace h_f := h_f.ch ml.ch
  refine zo (J0e rfl rfl (wrap_i64 (natbd h16 h_f.bd))) (zm rfl (zn ?_))
  replace hB := hB.trans ml.fr
  exact hX1 _ H _ _ ⟨GW, ⟨rfl, rfl, rfl, rfl, trivial⟩, hO, cO, h_f, hB⟩
 replace H := ifn h16 H
 refine zo (fun w => opB (J08 rfl rfl w) (decide_eq_false h16)) (zn (zq (zf rfl rfl ?_)))
 refine Go1.exit rfl ?_
 refine zq (zr (zm rfl ?_))
 have hle26 := J7h cg.bd
 refine zs (oldBytes 0 hO rfl cg Try.underlying126 Try.underlying5 Try.underlying9 rfl) (za rfl (zn ?_))
 refine Go1.ret1 Try.func157 rfl ?_
 exact ⟨byt b1_13, rfl, hB.same, hle26, H⟩
end Sg
