/- -/
import Derived.Test.YtlneebpmblkllaaTi
import Derived.Test.YtlneebpmblkllaaWSyntacticMonoids
import Derived.Test.YtlneebpmblkllaaAl
namespace Sg
open Go Go.RowKit Go.Proofs
set_option linter.unusedVariables false
set_option linter.unusedSimpArgs false
set_option maxRecDepth 100000
set_option maxHeartbeats 4000000
theorem body66 : Body Try.prog 66 := ⟨Try.f66, Try.func66, rfl, by kernel_rfl⟩
theorem walk_minimize_minimal {A : List Nat} {w0 : World} {bQ : Option Addr} {bS : Nat} {b7 : Option Addr} {b8 : Nat} {a0 : DFA} (hA : ∀ b ∈ A, b < w0.heap.size) (aq : ISl (Rp.bool) A w0 bQ bS a0.Final) (av : ISl (Rp.sl (Rp.int .i64)) A w0 b7 b8 a0.Next) {K : DFA → List Int → Prop} (H : J0U a0 K) :
    CallsV Try.prog 66 #[.agg #[.int .i64 a0.Letters, .int .i64 a0.Start, .slice bQ a0.Final.length bS, .slice b7 a0.Next.length b8]] w0 (fun v w' => ∃ (r0 : DFA) (r1 : List Int) (iR : Option Addr) (iT : Nat) (jv : Option Addr) (jw : Nat) (AX : Option Addr) (AY : Nat), v = .tuple #[.agg #[.int .i64 r0.Letters, .int .i64 r0.Start, .slice iR r0.Final.length iT, .slice jv r0.Next.length jw], .slice AX r1.length AY] ∧ Same w0 w' ∧ ISl (Rp.bool) A w' iR iT r0.Final ∧ ISl (Rp.sl (Rp.int .i64)) A w' jv jw r0.Next ∧ ISl (Rp.int .i64) A w' AX AY r1 ∧ K r0 r1) := by
 refine CallsV.of (l := [.agg #[.int .i64 a0.Letters, .int .i64 a0.Start, .slice bQ a0.Final.length bS, .slice b7 a0.Next.length b8]]) Try.func66 rfl Try.ntmps66 rfl ?_
 have hO := Owns.start hA
 have hB := Fr.refl (bl []) w0
 unfold J0U at H
 refine zq (zr ?_)
 have zz := obox (t := 25) (v := .agg #[.int .i64 a0.Letters, .int .i64 a0.Start, .slice bQ a0.Final.length bS, .slice b7 a0.Next.length b8]) (cs := #[.int .i64 a0.Letters, .int .i64 a0.Start, .slice bQ a0.Final.length bS, .slice b7 a0.Next.length b8]) hO rfl
 obtain ⟨w1, B2, c5, hs4, iQ⟩ := zz
 refine zg (iQ rfl) ?_
 replace hO := c5.own
 have zz := oalloc (t := 25) (cs := #[.int .i64 0, .int .i64 0, .slice none 0 0, .slice none 0 0]) ti25 hO rfl
 obtain ⟨w7, B8, f7, wX, tw⟩ := zz
 refine GoR.op tw rfl rfl ?_
 replace hO := f7.own
 refine za rfl (zn (zq (zr (zs (J0n (vs := [.int .i64 a0.Letters, .int .i64 a0.Start, .slice bQ a0.Final.length bS, .slice b7 a0.Next.length b8]) (i := 0) 1 hO rfl rfl Try.underlying25 rfl ti25 rfl) ?_))))
 have Z1 := ((Ch.start A w0).trans c5.ch).trans f7.ch
 replace aq := aq.ch Z1
 replace av := av.ch Z1
 refine GoR.call (J0a body109 rfl (walk_dfa_Trim (d := a0) hO.lt aq av H)) rfl rfl ?_
 rintro v18 w15 ⟨r13, r14, d9, eg, eC, eF, tA, tB, rfl, Rd, bk, bA, dD, H⟩
 have BT := Stp.same hO Rd
 replace hO := BT.own
 refine zm rfl (zo (J07 rfl rfl) (zo (J07 rfl rfl) ?_))
 have zz := oalloc (t := 25) (cs := #[.int .i64 0, .int .i64 0, .slice none 0 0, .slice none 0 0]) ti25 hO rfl
 obtain ⟨w20, B21, gH, FS, Ag⟩ := zz
 refine GoR.op Ag rfl rfl ?_
 replace hO := gH.own
 have zz := J0b (us := [.int .i64 r13.Letters, .int .i64 r13.Start, .slice d9 r13.Final.length eg, .slice eC r13.Next.length eF]) (o := 0) (cs' := #[.int .i64 r13.Letters, .int .i64 r13.Start, .slice d9 r13.Final.length eg, .slice eC r13.Next.length eF]) 0 hO rfl rfl (Nat.le_of_ble_eq_true rfl) rfl
 obtain ⟨w26, qI, MH⟩ := zz
 refine zg (MH ti25 (by exact rfl) (by exact rfl) rfl) ?_
 replace hO := qI.own
 refine za rfl (zn (zq (zr (zs (J0n (vs := [.int .i64 r13.Letters, .int .i64 r13.Start, .slice d9 r13.Final.length eg, .slice eC r13.Next.length eF]) (i := 0) 0 hO rfl rfl Try.underlying25 rfl ti25 rfl) ?_))))
 have Z2 := gH.ch.trans qI.ch
 replace bk := bk.ch Z2
 replace bA := bA.ch Z2
 refine GoR.call (J0a body110 rfl (walk_minimize_Classes (a0 := r13) hO.lt bk bA H)) rfl rfl ?_
 rintro v33 w30 ⟨r29, nE, nF, rfl, Re, dG, H⟩
 have qJ := Stp.same hO Re
 replace hO := qJ.own
 refine za rfl (zn (zq (zr (zo (J00 Try.underlying25 rfl ti3 rfl (by decide)) (zs (oblk (i := 0) 2 hO rfl rfl Try.underlying3 rfl rfl) ?_)))))
 refine zo (J0s Try.underlying25 ti25 (pl := [(0, 1), (1, 1), (2, 1), (3, 1)]) (vs := [(0, .int .i64 a0.Letters)]) (cs := #[.int .i64 a0.Letters, .int .i64 0, .slice none 0 0, .slice none 0 0]) (by kernel_rfl) rfl (by kernel_rfl)) ?_
 have zz := oalloc (t := 25) (cs := #[.int .i64 0, .int .i64 0, .slice none 0 0, .slice none 0 0]) ti25 hO rfl
 obtain ⟨w35, B36, iu, Vx, MJ⟩ := zz
 refine GoR.op MJ rfl rfl ?_
 replace hO := iu.own
 have zz := J0b (us := [.int .i64 a0.Letters, .int .i64 0, .slice none 0 0, .slice none 0 0]) (o := 0) (cs' := #[.int .i64 a0.Letters, .int .i64 0, .slice none 0 0, .slice none 0 0]) 0 hO rfl rfl (Nat.le_of_ble_eq_true rfl) rfl
 obtain ⟨w41, qK, Ad⟩ := zz
 refine zg (Ad ti25 (by exact rfl) (by exact rfl) rfl) ?_
 replace hO := qK.own
 refine zn (zq (zq ?_))
 refine Go1.cut [(1, .pointer (some ⟨B2, 0, none⟩)), (2, .pointer (some ⟨B8, 0, none⟩)), (4, .pointer (some ⟨B21, 0, none⟩)), (5, .slice tA r14.length tB), (6, .slice nE r29.length nF), (7, .pointer (some ⟨B36, 0, none⟩))] ⟨rfl, rfl, rfl, rfl, rfl, rfl, trivial⟩ ?_
 intro σ _
 refine zr (zm rfl (zo (J0d Try.underlying31 rfl) ?_))
 replace dG := (dG.ch iu.ch).ch qK.ch
 replace H := H dG.bd
 refine zm rfl (zn (zb ?_))
 have wK := Stp.nil (e := 4) (r := 1) hO
 replace hO := wK.own
 have FT := Els.nil (Rp.bool) (bl (.row 4 1 none 0 0 [] :: [.blk B36 (.cells #[.int .i64 a0.Letters, .int .i64 0, .slice none 0 0, .slice none 0 0] 25 (0, 0)), .blk B21 (.cells #[.int .i64 r13.Letters, .int .i64 r13.Start, .slice d9 r13.Final.length eg, .slice eC r13.Next.length eF] 25 (0, 0)), .blk B8 (.cells #[.int .i64 0, .int .i64 0, .slice none 0 0, .slice none 0 0] 25 (0, 0)), .blk B2 (.cells #[.int .i64 a0.Letters, .int .i64 a0.Start, .slice bQ a0.Final.length bS, .slice b7 a0.Next.length b8] 25 (0, 0))]) ++ A) w41
 have sK := Stp.nil (e := 31) (r := 1) hO
 replace hO := sK.own
 have Fk := Els.nil (Rp.sl (Rp.int .i64)) (bl (.row 31 1 none 0 0 [] :: [.row 4 1 none 0 0 [], .blk B36 (.cells #[.int .i64 a0.Letters, .int .i64 0, .slice none 0 0, .slice none 0 0] 25 (0, 0)), .blk B21 (.cells #[.int .i64 r13.Letters, .int .i64 r13.Start, .slice d9 r13.Final.length eg, .slice eC r13.Next.length eF] 25 (0, 0)), .blk B8 (.cells #[.int .i64 0, .int .i64 0, .slice none 0 0, .slice none 0 0] 25 (0, 0)), .blk B2 (.cells #[.int .i64 a0.Letters, .int .i64 a0.Start, .slice bQ a0.Final.length bS, .slice b7 a0.Next.length b8] 25 (0, 0))]) ++ A) w41
 replace FT := FT.ch sK.ch
 replace dG := (dG.ch wK.ch).ch sK.ch
 have Z3 := (((qJ.ch.trans iu.ch).trans qK.ch).trans wK.ch).trans sK.ch
 replace bk := bk.ch Z3
 replace bA := bA.ch Z3
 have Z4 := ((((Z2.trans qJ.ch).trans iu.ch).trans qK.ch).trans wK.ch).trans sK.ch
 replace dD := dD.ch Z4
 have Z5 := ((((((BT.ch.trans gH.ch).trans qI.ch).trans qJ.ch).trans iu.ch).trans qK.ch).trans wK.ch).trans sK.ch
 replace aq := aq.ch Z5
 replace av := av.ch Z5
 replace hB := (((((((((hB.trans c5.fr).trans f7.fr).trans BT.fr).trans gH.fr).trans qI.fr).trans qJ.fr).trans iu.fr).trans qK.fr).trans wK.fr).trans sK.fr
 refine Go1.loopW (S := Nat × List (List Int) × List Bool) (fun s σ w => match s with | (k1_51, d_52, d_58) => ∃ (n57 : Nat) (p55 : Option Addr) (c56 : Nat) (lK : List Value) (n63 : Nat) (p61 : Option Addr) (c62 : Nat) (lL : List Value), agrees σ [(1, .pointer (some ⟨B2, 0, none⟩)), (2, .pointer (some ⟨B8, 0, none⟩)), (4, .pointer (some ⟨B21, 0, none⟩)), (5, .slice tA r14.length tB), (6, .slice nE r29.length nF), (7, .pointer (some ⟨B36, 0, none⟩)), (28, .slice nE r29.length nF), (29, .int .i64 (r29.length : Int)), (30, .int .i64 (k1_51 : Int))] ∧ (fun Z0 => Owns w0.heap.size w Z0 A ∧ Els (Rp.sl (Rp.int .i64)) (bl Z0 ++ A) w lK d_52 ∧ Els (Rp.bool) (bl Z0 ++ A) w lL d_58 ∧ ISl (Rp.bool) (bl Z0 ++ A) w bQ bS a0.Final ∧ ISl (Rp.sl (Rp.int .i64)) (bl Z0 ++ A) w b7 b8 a0.Next ∧ ISl (Rp.bool) (bl Z0 ++ A) w d9 eg r13.Final ∧ ISl (Rp.sl (Rp.int .i64)) (bl Z0 ++ A) w eC eF r13.Next ∧ ISl (Rp.int .i64) (bl Z0 ++ A) w tA tB r14 ∧ ISl (Rp.int .i64) (bl Z0 ++ A) w nE nF r29 ∧ Fr (bl []) w0 (bl Z0) w) [.row 31 1 p55 n57 c56 lK, .row 4 1 p61 n63 c62 lL, .blk B36 (.cells #[.int .i64 a0.Letters, .int .i64 0, .slice p61 n63 c62, .slice p55 n57 c56] 25 (0, 0)), .blk B21 (.cells #[.int .i64 r13.Letters, .int .i64 r13.Start, .slice d9 r13.Final.length eg, .slice eC r13.Next.length eF] 25 (0, 0)), .blk B8 (.cells #[.int .i64 0, .int .i64 0, .slice none 0 0, .slice none 0 0] 25 (0, 0)), .blk B2 (.cells #[.int .i64 a0.Letters, .int .i64 a0.Start, .slice bQ a0.Final.length bS, .slice b7 a0.Next.length b8] 25 (0, 0))]) H ⟨0, none, 0, [], 0, none, 0, [], ⟨rfl, rfl, rfl, rfl, rfl, rfl, rfl, rfl, rfl, trivial⟩, hO, Fk, FT, aq, av, bk, bA, dD, dG, hB⟩ ?_
 intro X1
 refine prE fun k1_51 => prE fun d_52 => fun d_58 => ?_
 intro H hX1 σ w50
 refine exE fun n57 => exE fun p55 => exE fun c56 => exE fun lK => exE fun n63 => exE fun p61 => exE fun c62 => exE fun lL => andE fun hag => andE fun hO => andE fun kK => andE fun tf => andE fun aq => andE fun av => andE fun bk => andE fun bA => andE fun dD => andE fun dG => fun hB => ?_
 dsimp only at H
 refine Go1.keep [(1, .pointer (some ⟨B2, 0, none⟩)), (2, .pointer (some ⟨B8, 0, none⟩)), (4, .pointer (some ⟨B21, 0, none⟩)), (5, .slice tA r14.length tB), (6, .slice nE r29.length nF), (7, .pointer (some ⟨B36, 0, none⟩)), (28, .slice nE r29.length nF), (29, .int .i64 (r29.length : Int)), (30, .int .i64 (k1_51 : Int))] hag ?_
 refine zq (zr ?_)
 by_cases h64 : (k1_51 : Int) < (r29.length : Int)
 ·replace H := ifp h64 H
  refine zo (fun w => opB (J08 rfl rfl w) (decide_eq_true h64)) (zn (zq (zt rfl rfl (zk (zq ?_)))))
  refine zb (zq (zr (zm rfl ?_)))
  obtain ⟨h65, H⟩ := H
  obtain ⟨h66, H⟩ := H
  refine zo (J02 Try.underlying31 ti3 rfl rfl h65 h66 (dG.some_ h65 h66)) (zs (ldInt dG h65 h66 Try.underlying3 rfl rfl) (za rfl (za rfl (zn (zq ?_)))))
  refine zq (zr (zm rfl (zo (J00 Try.underlying25 rfl ti22 rfl (by decide)) (zs (oblk (i := 2) 2 hO rfl rfl Try.underlying22 rfl rfl) (zo (J0w Try.underlying22 rfl (tf.neq hO 1 rfl)) ?_)))))
  by_cases h67 : (ix r29 (k1_51 : Int)) < (d_58.length : Int)
  ·replace H := ifp h67 H
   refine zo (fun w => opB (J08 rfl rfl w) (decide_eq_true h67)) (zn (zt rfl rfl ?_))
   refine Go1.exit rfl ?_
   refine zr (zo (J0c rfl rfl (wrap_i64 (natbd h64 dG.bd))) (zm rfl (zn ?_)))
   exact hX1 _ H _ _ ⟨n57, p55, c56, lK, n63, p61, c62, lL, ⟨rfl, rfl, rfl, rfl, rfl, rfl, rfl, rfl, rfl, trivial⟩, hO, kK, tf, aq, av, bk, bA, dD, dG, hB⟩
  replace H := ifn h67 H
  refine zo (fun w => opB (J08 rfl rfl w) (decide_eq_false h67)) (zn (zf rfl rfl (zk (zq (zr ?_)))))
  refine zo (J00 Try.underlying25 rfl ti3 rfl (by decide)) (zs (oblk (i := 0) 5 hO rfl rfl Try.underlying3 rfl rfl) ?_)
  obtain ⟨h75, H⟩ := H
  obtain ⟨h76, H⟩ := H
  have zz := omake (n := a0.Letters) (r := Rp.int .i64) (d := (0 : Int)) Try.underlying31 ti3 (fun _ _ => rfl) rfl hO h75 h76 (by decide)
  obtain ⟨w68, p69, Rf, jC, Rg, I2, ML⟩ := zz
  refine zg (ML rfl rfl) ?_
  replace hO := jC.own
  refine za rfl (zn (zq (zq (zr (zo (J00 Try.underlying25 rfl ti23 rfl (by decide)) ?_)))))
  refine zs (oblk (i := 3) 4 hO rfl rfl Try.underlying23 rfl rfl) (zm rfl ?_)
  obtain ⟨h78, H⟩ := H
  obtain ⟨h79, H⟩ := H
  replace bA := bA.ch jC.ch
  refine zo (J02 Try.underlying23 ti31 rfl rfl h78 h79 (bA.some_ h78 h79)) ?_
  have zz := ldSl bA h78 h79
  obtain ⟨p80, c81, ki, Rh⟩ := zz
  refine zs (Rh Try.underlying31 rfl rfl) (zo (J0d Try.underlying31 rfl) ?_)
  replace H := H ki.bd
  refine zm rfl (zn (zb ?_))
  replace kK := kK.ch jC.ch
  replace tf := tf.ch jC.ch
  replace aq := aq.ch jC.ch
  replace av := av.ch jC.ch
  replace bk := bk.ch jC.ch
  replace dD := dD.ch jC.ch
  replace dG := dG.ch jC.ch
  replace hB := hB.trans jC.fr
  refine Go1.loopW (S := Nat × List Int) (fun s σ w => match s with | (k2_85, d_86) => ∃ (uA : List Value), agrees σ [(1, .pointer (some ⟨B2, 0, none⟩)), (2, .pointer (some ⟨B8, 0, none⟩)), (4, .pointer (some ⟨B21, 0, none⟩)), (5, .slice tA r14.length tB), (6, .slice nE r29.length nF), (7, .pointer (some ⟨B36, 0, none⟩)), (8, .int .i64 (k1_51 : Int)), (10, .slice p69 a0.Letters.toNat a0.Letters.toNat), (28, .slice nE r29.length nF), (29, .int .i64 (r29.length : Int)), (30, .int .i64 (k1_51 : Int)), (47, .slice p80 ((ix r13.Next (k1_51 : Int)).length) c81), (48, .int .i64 ((ix r13.Next (k1_51 : Int)).length : Int)), (49, .int .i64 (k2_85 : Int))] ∧ (fun Z0 => Owns w0.heap.size w Z0 A ∧ Els (Rp.int .i64) (bl Z0 ++ A) w uA d_86 ∧ Els (Rp.sl (Rp.int .i64)) (bl Z0 ++ A) w lK d_52 ∧ Els (Rp.bool) (bl Z0 ++ A) w lL d_58 ∧ ISl (Rp.bool) (bl Z0 ++ A) w bQ bS a0.Final ∧ ISl (Rp.sl (Rp.int .i64)) (bl Z0 ++ A) w b7 b8 a0.Next ∧ ISl (Rp.bool) (bl Z0 ++ A) w d9 eg r13.Final ∧ ISl (Rp.sl (Rp.int .i64)) (bl Z0 ++ A) w eC eF r13.Next ∧ ISl (Rp.int .i64) (bl Z0 ++ A) w tA tB r14 ∧ ISl (Rp.int .i64) (bl Z0 ++ A) w nE nF r29 ∧ ISl (Rp.int .i64) (bl Z0 ++ A) w p80 c81 (ix r13.Next (k1_51 : Int)) ∧ Fr (bl []) w0 (bl Z0) w) [.row 3 1 p69 a0.Letters.toNat a0.Letters.toNat uA, .row 31 1 p55 n57 c56 lK, .row 4 1 p61 n63 c62 lL, .blk B36 (.cells #[.int .i64 a0.Letters, .int .i64 0, .slice p61 n63 c62, .slice p55 n57 c56] 25 (0, 0)), .blk B21 (.cells #[.int .i64 r13.Letters, .int .i64 r13.Start, .slice d9 r13.Final.length eg, .slice eC r13.Next.length eF] 25 (0, 0)), .blk B8 (.cells #[.int .i64 0, .int .i64 0, .slice none 0 0, .slice none 0 0] 25 (0, 0)), .blk B2 (.cells #[.int .i64 a0.Letters, .int .i64 a0.Start, .slice bQ a0.Final.length bS, .slice b7 a0.Next.length b8] 25 (0, 0))]) H ⟨Rf, ⟨rfl, rfl, rfl, rfl, rfl, rfl, rfl, rfl, rfl, rfl, rfl, rfl, rfl, rfl, trivial⟩, hO, Rg, kK, tf, aq, av, bk, bA, dD, dG, ki, hB⟩ ?_
  intro X2
  refine prE fun k2_85 => fun d_86 => ?_
  intro H hX2 σ w84
  refine exE fun uA => andE fun hag => andE fun hO => andE fun uB => andE fun kK => andE fun tf => andE fun aq => andE fun av => andE fun bk => andE fun bA => andE fun dD => andE fun dG => andE fun ki => fun hB => ?_
  dsimp only at H
  refine Go1.keep [(1, .pointer (some ⟨B2, 0, none⟩)), (2, .pointer (some ⟨B8, 0, none⟩)), (4, .pointer (some ⟨B21, 0, none⟩)), (5, .slice tA r14.length tB), (6, .slice nE r29.length nF), (7, .pointer (some ⟨B36, 0, none⟩)), (8, .int .i64 (k1_51 : Int)), (10, .slice p69 a0.Letters.toNat a0.Letters.toNat), (28, .slice nE r29.length nF), (29, .int .i64 (r29.length : Int)), (30, .int .i64 (k1_51 : Int)), (47, .slice p80 ((ix r13.Next (k1_51 : Int)).length) c81), (48, .int .i64 ((ix r13.Next (k1_51 : Int)).length : Int)), (49, .int .i64 (k2_85 : Int))] hag ?_
  refine zq (zr ?_)
  by_cases h89 : (k2_85 : Int) < ((ix r13.Next (k1_51 : Int)).length : Int)
  ·replace H := ifp h89 H
   refine zo (fun w => opB (J08 rfl rfl w) (decide_eq_true h89)) (zn (zq (zt rfl rfl (zk (zq ?_)))))
   refine zb (zq (zr (zm rfl ?_)))
   obtain ⟨h90, H⟩ := H
   obtain ⟨h91, H⟩ := H
   refine zo (J02 Try.underlying31 ti3 rfl rfl h90 h91 (ki.some_ h90 h91)) (zs (ldInt ki h90 h91 Try.underlying3 rfl rfl) (za rfl (za rfl (zn (zr ?_)))))
   refine zm rfl (zm rfl (zm rfl (zm rfl ?_)))
   obtain ⟨h92, H⟩ := H
   obtain ⟨h93, H⟩ := H
   refine zo (J02 Try.underlying31 ti3 rfl rfl h92 h93 (dG.some_ h92 h93)) (zs (ldInt dG h92 h93 Try.underlying3 rfl rfl) ?_)
   obtain ⟨h94, H⟩ := H
   obtain ⟨h95, H⟩ := H
   refine zo (J02 Try.underlying31 ti3 rfl rfl h94 (ltn (uB.neq hO 0 rfl) h95) (uB.psome hO 0 rfl h94 h95)) ?_
   have zz := ost (r := Rp.int .i64) rfl 0 hO rfl uB h94 h95 (v := .int .i64 (ix r29 (ix (ix r13.Next (k1_51 : Int)) (k2_85 : Int)))) (u := (ix r29 (ix (ix r13.Next (k1_51 : Int)) (k2_85 : Int)))) rfl rfl
   obtain ⟨w96, Ri, iL, w4, I3⟩ := zz
   dsimp only [sS, sZ] at iL w4
   refine zg (I3 Try.underlying3 rfl ti3 (by exact rfl) (by exact rfl)) ?_
   replace hO := iL.own
   refine zn ?_
   refine Go1.inBlock ?_
   refine zr ?_
   replace ki := ki.ch iL.ch
   refine zo (J0c rfl rfl (wrap_i64 (natbd h89 ki.bd))) (zm rfl (zn ?_))
   replace kK := kK.ch iL.ch
   replace tf := tf.ch iL.ch
   replace aq := aq.ch iL.ch
   replace av := av.ch iL.ch
   replace bk := bk.ch iL.ch
   replace bA := bA.ch iL.ch
   replace dD := dD.ch iL.ch
   replace dG := dG.ch iL.ch
   replace hB := hB.trans iL.fr
   exact hX2 _ H _ _ ⟨Ri, ⟨rfl, rfl, rfl, rfl, rfl, rfl, rfl, rfl, rfl, rfl, rfl, rfl, rfl, rfl, trivial⟩, hO, w4, kK, tf, aq, av, bk, bA, dD, dG, ki, hB⟩
  replace H := ifn h89 H
  refine zo (fun w => opB (J08 rfl rfl w) (decide_eq_false h89)) (zn (zq (zf rfl rfl ?_)))
  refine Go1.exit rfl ?_
  refine zq ?_
  refine Go1.drawS 4 [(0, .pure), (1, .stable), (2, .pure), (3, .stable), (4, .pure), (5, .pure), (6, .stable), (7, .loud), (8, .last), (9, .pure), (10, .last)] mixed (by kernel_rfl) ?_
  intro Vy MM
  have jS := Stp.same hO MM
  replace hO := jS.own
  refine GoQ.pure rfl (J00 Try.underlying25 rfl ti22 rfl (by decide)) rfl rfl ?_
  refine GoQ.stable rfl (oblk (i := 2) 3 hO rfl rfl Try.underlying22 rfl rfl) rfl rfl ?_
  refine GoQ.pure rfl (J00 Try.underlying25 rfl ti22 rfl (by decide)) rfl rfl ?_
  refine GoQ.stable rfl (oblk (i := 2) 4 hO rfl rfl Try.underlying22 rfl rfl) rfl rfl ?_
  refine GoQ.pure rfl (J03 rfl) rfl rfl ?_
  obtain ⟨uC, H⟩ := H
  obtain ⟨wr, H⟩ := H
  replace bk := bk.ch jS.ch
  refine GoQ.pure rfl (J02 Try.underlying22 ti4 rfl rfl uC wr (bk.some_ uC wr)) rfl rfl ?_
  refine GoQ.stable rfl (ldBool bk uC wr Try.underlying4 rfl rfl) rfl rfl ?_
  have zz := J0j (r := Rp.bool) (n := 1) (parts := [(0, .bool (ix r13.Final (k1_51 : Int)))]) (vs := [.bool (ix r13.Final (k1_51 : Int))]) (xs := [ix r13.Final (k1_51 : Int)]) rfl Try.underlying22 ti4 hO (by decide) (by kernel_rfl) (Els.cons rfl rfl (Els.nil _ _ _) (by simp [mx])) rfl
  obtain ⟨Vz, VA, rC, MO, MP, CF⟩ := zz
  refine GoQ.loud rfl (CF rfl) MP rfl rfl ?_
  replace hO := rC.own
  have zz := freeze 0 hO rfl MO
  obtain ⟨hO1, uD, pk, MQ⟩ := zz
  dsimp only [eS, eZ] at hO1 uD pk
  replace hB := ((hB.trans jS.fr).trans rC.fr).trans (Owns.J09 _ _ 0)
  dsimp only [eS, eZ] at hB
  replace hO := hO1; clear hO1
  obtain ⟨A8, H⟩ := H
  have Z6 := (jS.ch.trans rC.ch).trans uD
  replace tf := tf.ch Z6
  have zz := oapp Try.underlying22 ti4 rfl 2 hO rfl tf pk MQ A8 (by decide)
  obtain ⟨Rj, Ee, Ef, MR, fL, po, I4⟩ := zz
  dsimp only [sS, sZ] at fL po
  refine GoQ.last rfl (I4 (by exact rfl) (by exact rfl)) rfl rfl ?_
  replace hO := fL.own
  refine GoQ.pure rfl (J00 Try.underlying25 rfl ti22 rfl (by decide)) rfl rfl ?_
  have zz := J0f (v := .slice Ee (n63 + 1) Ef) (i := 2) (cs' := #[.int .i64 a0.Letters, .int .i64 0, .slice Ee (n63 + 1) Ef, .slice p55 n57 c56]) 3 hO rfl rfl rfl rfl
  obtain ⟨VB, nT, CD⟩ := zz
  dsimp only [sS, sZ] at nT
  refine GoQ.last rfl (CD Try.underlying22 rfl ti22 (by exact rfl) (by exact rfl)) rfl rfl ?_
  replace hO := nT.own
  refine GoQ.nil ?_
  refine Go1.cut [(1, .pointer (some ⟨B2, 0, none⟩)), (2, .pointer (some ⟨B8, 0, none⟩)), (4, .pointer (some ⟨B21, 0, none⟩)), (5, .slice tA r14.length tB), (6, .slice nE r29.length nF), (7, .pointer (some ⟨B36, 0, none⟩)), (10, .slice p69 a0.Letters.toNat a0.Letters.toNat), (28, .slice nE r29.length nF), (29, .int .i64 (r29.length : Int)), (30, .int .i64 (k1_51 : Int))] ⟨rfl, rfl, rfl, rfl, rfl, rfl, rfl, rfl, rfl, rfl, trivial⟩ ?_
  intro σ _
  refine zr (zo (J00 Try.underlying25 rfl ti23 rfl (by decide)) (zs (oblk (i := 3) 3 hO rfl rfl Try.underlying23 rfl rfl) (zm rfl ?_)))
  replace uB := ((uB.ch Z6).ch fL.ch).ch nT.ch
  have zz := freeze 0 hO rfl uB
  obtain ⟨hO1, uE, va, MS⟩ := zz
  dsimp only [eS, eZ] at hO1 uE va
  replace hB := ((hB.trans fL.fr).trans nT.fr).trans (Owns.J09 _ _ 0)
  dsimp only [eS, eZ] at hB
  replace hO := hO1; clear hO1
  have zz := J0j (r := Rp.sl (Rp.int .i64)) (n := 1) (parts := [(0, .slice p69 a0.Letters.toNat a0.Letters.toNat)]) (vs := [.slice p69 a0.Letters.toNat a0.Letters.toNat]) (xs := [d_86]) rfl Try.underlying23 ti31 hO (by decide) (by kernel_rfl) (Els.cons rfl ⟨p69, a0.Letters.toNat, congrArg some (congrArg (fun nn => Value.slice p69 nn a0.Letters.toNat) MS), va⟩ (Els.nil _ _ _) (by simp [mx])) rfl
  obtain ⟨Rk, jl, mq, MT, T8, CG⟩ := zz
  refine zg (CG rfl) ?_
  replace hO := mq.own
  have zz := freeze 0 hO rfl MT
  obtain ⟨hO1, t8, kg, MU⟩ := zz
  dsimp only [eS, eZ] at hO1 t8 kg
  replace hB := (hB.trans mq.fr).trans (Owns.J09 _ _ 0)
  dsimp only [eS, eZ] at hB
  replace hO := hO1; clear hO1
  obtain ⟨xz, H⟩ := H
  have Z7 := ((((Z6.trans fL.ch).trans nT.ch).trans uE).trans mq.ch).trans t8
  replace kK := kK.ch Z7
  have zz := oapp Try.underlying23 ti31 rfl 0 hO rfl kK kg MU xz (by decide)
  obtain ⟨VC, FU, FV, MV, jp, BU, I5⟩ := zz
  dsimp only [sS, sZ] at jp BU
  refine zg (I5 (by exact rfl) (by exact rfl)) ?_
  replace hO := jp.own
  refine zo (J00 Try.underlying25 rfl ti23 rfl (by decide)) ?_
  have zz := J0f (v := .slice FU (n57 + 1) FV) (i := 3) (cs' := #[.int .i64 a0.Letters, .int .i64 0, .slice Ee (n63 + 1) Ef, .slice FU (n57 + 1) FV]) 2 hO rfl rfl rfl rfl
  obtain ⟨Rl, m8, I6⟩ := zz
  dsimp only [sS, sZ] at m8
  refine zg (I6 Try.underlying23 rfl ti23 (by exact rfl) (by exact rfl)) ?_
  replace hO := m8.own
  refine zn ?_
  refine Go1.inBlock ?_
  refine zr ?_
  replace dG := ((dG.ch Z7).ch jp.ch).ch m8.ch
  refine zo (J0c rfl rfl (wrap_i64 (natbd h64 dG.bd))) (zm rfl (zn ?_))
  replace BU := BU.ch m8.ch
  replace hB := (hB.trans jp.fr).trans m8.fr
  have Z8 := ((((nT.ch.trans uE).trans mq.ch).trans t8).trans jp.ch).trans m8.ch
  replace po := po.ch Z8
  have Z9 := (((((((rC.ch.trans uD).trans fL.ch).trans nT.ch).trans uE).trans mq.ch).trans t8).trans jp.ch).trans m8.ch
  replace bk := bk.ch Z9
  have Z10 := (Z7.trans jp.ch).trans m8.ch
  replace aq := aq.ch Z10
  replace av := av.ch Z10
  replace bA := bA.ch Z10
  replace dD := dD.ch Z10
  exact hX1 _ H _ _ ⟨n57 + 1, FU, FV, MV, n63 + 1, Ee, Ef, MR, ⟨rfl, rfl, rfl, rfl, rfl, rfl, rfl, rfl, rfl, trivial⟩, hO, BU, po, aq, av, bk, bA, dD, dG, hB⟩
 replace H := ifn h64 H
 refine zo (fun w => opB (J08 rfl rfl w) (decide_eq_false h64)) (zn (zq (zf rfl rfl ?_)))
 refine Go1.exit rfl ?_
 refine zq (zr (zs (J0n (vs := [.int .i64 a0.Letters, .int .i64 0, .slice p61 n63 c62, .slice p55 n57 c56]) (i := 0) 2 hO rfl rfl Try.underlying25 rfl ti25 rfl) ?_))
 have zz := freeze 1 hO rfl tf
 obtain ⟨hO1, wL, mh, MW⟩ := zz
 dsimp only [eS, eZ] at hO1 wL mh
 replace hB := hB.trans (Owns.J09 _ _ 1)
 dsimp only [eS, eZ] at hB
 replace hO := hO1; clear hO1
 replace kK := kK.ch wL
 have zz := freeze 0 hO rfl kK
 obtain ⟨hO1, wM, nG, MX⟩ := zz
 dsimp only [eS, eZ] at hO1 wM nG
 replace hB := hB.trans (Owns.J09 _ _ 0)
 dsimp only [eS, eZ] at hB
 replace hO := hO1; clear hO1
 replace mh := mh.ch wM
 refine GoR.call (J0a body109 (show ([.agg #[.int .i64 a0.Letters, .int .i64 0, .slice p61 n63 c62, .slice p55 n57 c56]] : List Value) = [.agg #[.int .i64 a0.Letters, .int .i64 0, .slice p61 d_58.length c62, .slice p55 d_52.length c56]] from by rw [← MW, ← MX]) (walk_dfa_Trim (d := (⟨a0.Letters, (0 : Int), d_58, d_52⟩ : DFA)) hO.lt mh nG H)) rfl rfl ?_
 rintro VD VE ⟨r159, r160, gf, gh, gA, gB, x6, x7, rfl, MY, en, eG, gR, H⟩
 have tT := Stp.same hO MY
 replace hO := tT.own
 refine zm rfl (zo (J07 rfl rfl) (zo (J07 rfl rfl) ?_))
 have zz := oalloc (t := 25) (cs := #[.int .i64 0, .int .i64 0, .slice none 0 0, .slice none 0 0]) ti25 hO rfl
 obtain ⟨QI, B167, pI, H0, CH⟩ := zz
 refine GoR.op CH rfl rfl ?_
 replace hO := pI.own
 have zz := J0b (us := [.int .i64 r159.Letters, .int .i64 r159.Start, .slice gf r159.Final.length gh, .slice gA r159.Next.length gB]) (o := 0) (cs' := #[.int .i64 r159.Letters, .int .i64 r159.Start, .slice gf r159.Final.length gh, .slice gA r159.Next.length gB]) 0 hO rfl rfl (Nat.le_of_ble_eq_true rfl) rfl
 obtain ⟨Rm, nU, I7⟩ := zz
 dsimp only [sS, sZ] at nU
 refine zg (I7 ti25 (by exact rfl) (by exact rfl) rfl) ?_
 replace hO := nU.own
 refine za rfl (zn (zq (zr (zm rfl (zo (J0d Try.underlying31 rfl) ?_)))))
 have Z11 := (((wL.trans wM).trans tT.ch).trans pI.ch).trans nU.ch
 replace dD := dD.ch Z11
 replace H := H dD.bd
 obtain ⟨Rn, H⟩ := H
 obtain ⟨Ro, H⟩ := H
 have zz := omake (n := (r14.length : Int)) (r := Rp.int .i64) (d := (0 : Int)) Try.underlying31 ti3 (fun _ _ => rfl) rfl hO Rn Ro (by decide)
 obtain ⟨VG, uF, M0, fQ, uG, H1, CJ⟩ := zz
 refine zg (CJ rfl rfl) ?_
 replace hO := fQ.own
 refine za rfl (zn (zq (zq ?_)))
 refine Go1.cut [(2, .pointer (some ⟨B8, 0, none⟩)), (5, .slice tA r14.length tB), (6, .slice nE r29.length nF), (13, .pointer (some ⟨B167, 0, none⟩)), (14, .slice x6 r160.length x7), (15, .slice uF r14.length r14.length)] ⟨rfl, rfl, rfl, rfl, rfl, rfl, trivial⟩ ?_
 intro σ _
 refine zr (zm rfl (zo (J0d Try.underlying31 rfl) (zm rfl (zn (zb ?_)))))
 replace hO := hO.drop 2
 replace uG := uG.ch (Owns.J04 _ _ 2)
 replace dD := (dD.ch fQ.ch).ch (Owns.J04 _ _ 2)
 have Z12 := ((pI.ch.trans nU.ch).trans fQ.ch).trans (Owns.J04 _ _ 2)
 replace en := en.ch Z12
 replace eG := eG.ch Z12
 replace gR := gR.ch Z12
 have Z13 := (((tT.ch.trans pI.ch).trans nU.ch).trans fQ.ch).trans (Owns.J04 _ _ 2)
 replace mh := mh.ch Z13
 replace nG := nG.ch Z13
 replace hB := ((((hB.trans tT.fr).trans pI.fr).trans nU.fr).trans fQ.fr).trans (Owns.J09 _ _ 2)
 have Z14 := (Z11.trans fQ.ch).trans (Owns.J04 _ _ 2)
 replace aq := aq.ch Z14
 replace av := av.ch Z14
 replace bk := bk.ch Z14
 replace bA := bA.ch Z14
 replace dG := dG.ch Z14
 dsimp only [eS, eZ] at hB hO aq av bk bA dD dG mh nG en eG gR uG
 replace hO := hO.drop 2
 replace aq := aq.ch (Owns.J04 _ _ 2)
 replace av := av.ch (Owns.J04 _ _ 2)
 replace bk := bk.ch (Owns.J04 _ _ 2)
 replace bA := bA.ch (Owns.J04 _ _ 2)
 replace dD := dD.ch (Owns.J04 _ _ 2)
 replace dG := dG.ch (Owns.J04 _ _ 2)
 replace mh := mh.ch (Owns.J04 _ _ 2)
 replace nG := nG.ch (Owns.J04 _ _ 2)
 replace en := en.ch (Owns.J04 _ _ 2)
 replace eG := eG.ch (Owns.J04 _ _ 2)
 replace gR := gR.ch (Owns.J04 _ _ 2)
 replace uG := uG.ch (Owns.J04 _ _ 2)
 replace hB := hB.trans (Owns.J09 _ _ 2)
 dsimp only [eS, eZ] at hB hO aq av bk bA dD dG mh nG en eG gR uG
 replace hO := hO.drop 3
 replace dD := dD.ch (Owns.J04 _ _ 3)
 replace dG := dG.ch (Owns.J04 _ _ 3)
 replace en := en.ch (Owns.J04 _ _ 3)
 replace eG := eG.ch (Owns.J04 _ _ 3)
 replace gR := gR.ch (Owns.J04 _ _ 3)
 replace uG := uG.ch (Owns.J04 _ _ 3)
 replace hB := hB.trans (Owns.J09 _ _ 3)
 refine Go1.loopW (S := Nat × List Int) (fun s σ w => match s with | (k3_186, d_187) => ∃ (vb : List Value), agrees σ [(2, .pointer (some ⟨B8, 0, none⟩)), (6, .slice nE r29.length nF), (13, .pointer (some ⟨B167, 0, none⟩)), (14, .slice x6 r160.length x7), (15, .slice uF r14.length r14.length), (87, .slice tA r14.length tB), (88, .int .i64 (r14.length : Int)), (89, .int .i64 (k3_186 : Int))] ∧ (fun Z0 => Owns w0.heap.size w Z0 A ∧ Els (Rp.int .i64) (bl Z0 ++ A) w vb d_187 ∧ ISl (Rp.int .i64) (bl Z0 ++ A) w tA tB r14 ∧ ISl (Rp.int .i64) (bl Z0 ++ A) w nE nF r29 ∧ ISl (Rp.bool) (bl Z0 ++ A) w gf gh r159.Final ∧ ISl (Rp.sl (Rp.int .i64)) (bl Z0 ++ A) w gA gB r159.Next ∧ ISl (Rp.int .i64) (bl Z0 ++ A) w x6 x7 r160 ∧ Fr (bl []) w0 (bl Z0) w) [.row 3 1 uF r14.length r14.length vb, .blk B167 (.cells #[.int .i64 r159.Letters, .int .i64 r159.Start, .slice gf r159.Final.length gh, .slice gA r159.Next.length gB] 25 (0, 0)), .blk B8 (.cells #[.int .i64 0, .int .i64 0, .slice none 0 0, .slice none 0 0] 25 (0, 0))]) H ⟨M0, ⟨rfl, rfl, rfl, rfl, rfl, rfl, rfl, rfl, trivial⟩, hO, uG, dD, dG, en, eG, gR, hB⟩ ?_
 intro X3
 refine prE fun k3_186 => fun d_187 => ?_
 intro H hX3 σ VH
 refine exE fun vb => andE fun hag => andE fun hO => andE fun yB => andE fun dD => andE fun dG => andE fun en => andE fun eG => andE fun gR => fun hB => ?_
 dsimp only at H
 refine Go1.keep [(2, .pointer (some ⟨B8, 0, none⟩)), (6, .slice nE r29.length nF), (13, .pointer (some ⟨B167, 0, none⟩)), (14, .slice x6 r160.length x7), (15, .slice uF r14.length r14.length), (87, .slice tA r14.length tB), (88, .int .i64 (r14.length : Int)), (89, .int .i64 (k3_186 : Int))] hag ?_
 refine zq (zr ?_)
 by_cases x8 : (k3_186 : Int) < (r14.length : Int)
 ·replace H := ifp x8 H
  refine zo (fun w => opB (J08 rfl rfl w) (decide_eq_true x8)) (zn (zq (zt rfl rfl (zk (zq ?_)))))
  refine zb (zq (zr (zm rfl ?_)))
  obtain ⟨FW, H⟩ := H
  obtain ⟨CK, H⟩ := H
  refine zo (J02 Try.underlying31 ti3 rfl rfl FW CK (dD.some_ FW CK)) (zs (ldInt dD FW CK Try.underlying3 rfl rfl) (za rfl (za rfl (zn (zq ?_)))))
  refine zr (zm rfl (zm rfl ?_))
  obtain ⟨FX, H⟩ := H
  obtain ⟨FY, H⟩ := H
  refine zo (J02 Try.underlying31 ti3 rfl rfl FX (ltn (yB.neq hO 0 rfl) FY) (yB.psome hO 0 rfl FX FY)) ?_
  have zz := ost (r := Rp.int .i64) rfl 0 hO rfl yB FX FY (v := .int .i64 (-1)) (u := (-1 : Int)) rfl rfl
  obtain ⟨QL, Eg, iH, uH, CM⟩ := zz
  refine zg (CM Try.underlying3 rfl ti3 (by exact rfl) (by exact rfl)) ?_
  replace hO := iH.own
  refine zn (zq (zr (zm rfl ?_)))
  by_cases Eh : (0 : Int) ≤ (ix r14 (k3_186 : Int))
  ·replace H := ifp Eh H
   refine zo (fun w => opB (J1n rfl rfl w) (decide_eq_true Eh)) (zn (zt rfl rfl (zr (zm rfl (zm rfl ?_)))))
   refine zm rfl (zm rfl (zm rfl ?_))
   obtain ⟨CO, H⟩ := H
   obtain ⟨F0, H⟩ := H
   replace dG := dG.ch iH.ch
   refine zo (J02 Try.underlying31 ti3 rfl rfl CO F0 (dG.some_ CO F0)) (zs (ldInt dG CO F0 Try.underlying3 rfl rfl) ?_)
   obtain ⟨F1, H⟩ := H
   obtain ⟨zE, H⟩ := H
   replace gR := gR.ch iH.ch
   refine zo (J02 Try.underlying31 ti3 rfl rfl F1 zE (gR.some_ F1 zE)) (zs (ldInt gR F1 zE Try.underlying3 rfl rfl) ?_)
   obtain ⟨xA, H⟩ := H
   obtain ⟨Cn, H⟩ := H
   refine zo (J02 Try.underlying31 ti3 rfl rfl xA (ltn (uH.neq hO 0 rfl) Cn) (uH.psome hO 0 rfl xA Cn)) ?_
   have zz := ost (r := Rp.int .i64) rfl 0 hO rfl uH xA Cn (v := .int .i64 (ix r160 (ix r29 (ix r14 (k3_186 : Int))))) (u := (ix r160 (ix r29 (ix r14 (k3_186 : Int))))) rfl rfl
   obtain ⟨VI, M1, ws, M2, I8⟩ := zz
   refine zg (I8 Try.underlying3 rfl ti3 (by exact rfl) (by exact rfl)) ?_
   replace hO := ws.own
   refine zn ?_
   refine Go1.inBlock ?_
   refine Go1.cut [(2, .pointer (some ⟨B8, 0, none⟩)), (6, .slice nE r29.length nF), (13, .pointer (some ⟨B167, 0, none⟩)), (14, .slice x6 r160.length x7), (15, .slice uF r14.length r14.length), (87, .slice tA r14.length tB), (88, .int .i64 (r14.length : Int)), (89, .int .i64 (k3_186 : Int))] ⟨rfl, rfl, rfl, rfl, rfl, rfl, rfl, rfl, trivial⟩ ?_
   intro σ _
   refine zr ?_
   replace dD := (dD.ch iH.ch).ch ws.ch
   refine zo (J0c rfl rfl (wrap_i64 (natbd x8 dD.bd))) (zm rfl (zn ?_))
   replace dG := dG.ch ws.ch
   replace gR := gR.ch ws.ch
   have Z15 := iH.ch.trans ws.ch
   replace en := en.ch Z15
   replace eG := eG.ch Z15
   replace hB := (hB.trans iH.fr).trans ws.fr
   exact hX3 _ H _ _ ⟨M1, ⟨rfl, rfl, rfl, rfl, rfl, rfl, rfl, rfl, trivial⟩, hO, M2, dD, dG, en, eG, gR, hB⟩
  replace H := ifn Eh H
  refine zo (fun w => opB (J1n rfl rfl w) (decide_eq_false Eh)) (zn (zf rfl rfl (zk ?_)))
  refine Go1.inBlock ?_
  refine zr ?_
  replace dD := dD.ch iH.ch
  refine zo (J0c rfl rfl (wrap_i64 (natbd x8 dD.bd))) (zm rfl (zn ?_))
  replace dG := dG.ch iH.ch
  replace en := en.ch iH.ch
  replace eG := eG.ch iH.ch
  replace gR := gR.ch iH.ch
  replace hB := hB.trans iH.fr
  exact hX3 _ H _ _ ⟨Eg, ⟨rfl, rfl, rfl, rfl, rfl, rfl, rfl, rfl, trivial⟩, hO, uH, dD, dG, en, eG, gR, hB⟩
 replace H := ifn x8 H
 refine zo (fun w => opB (J08 rfl rfl w) (decide_eq_false x8)) (zn (zq (zf rfl rfl ?_)))
 refine Go1.exit rfl ?_
 refine zq (zr (zs (J0n (vs := [.int .i64 r159.Letters, .int .i64 r159.Start, .slice gf r159.Final.length gh, .slice gA r159.Next.length gB]) (i := 0) 1 hO rfl rfl Try.underlying25 rfl ti25 rfl) (zm rfl ?_)))
 have zz := J0b (us := [.int .i64 r159.Letters, .int .i64 r159.Start, .slice gf r159.Final.length gh, .slice gA r159.Next.length gB]) (o := 0) (cs' := #[.int .i64 r159.Letters, .int .i64 r159.Start, .slice gf r159.Final.length gh, .slice gA r159.Next.length gB]) 2 hO rfl rfl (Nat.le_of_ble_eq_true rfl) rfl
 obtain ⟨VJ, vB, I9⟩ := zz
 refine zg (I9 ti25 (by exact rfl) (by exact rfl) rfl) ?_
 replace hO := vB.own
 refine za rfl (zn ?_)
 replace yB := yB.ch vB.ch
 have zz := freeze 0 hO rfl yB
 obtain ⟨hO1, Ah, M3, M4⟩ := zz
 replace hO := hO1; clear hO1
 refine Go1.retC2 Try.func66 rfl rfl (J0h (vs := [.int .i64 r159.Letters, .int .i64 r159.Start, .slice gf r159.Final.length gh, .slice gA r159.Next.length gB]) 1 hO rfl rfl Try.underlying25 rfl ti25) ?_
 have Z16 := vB.ch.trans Ah
 replace en := en.ch Z16
 replace eG := eG.ch Z16
 replace hB := (hB.trans vB.fr).trans (Owns.J09 _ _ 0)
 exact ⟨(⟨r159.Letters, r159.Start, r159.Final, r159.Next⟩ : DFA), d_187, gf, gh, gA, gB, uF, r14.length, (congrArg (fun l => Value.tuple (List.toArray l)) (J0i rfl (J0i (congrArg (fun nn => Value.slice uF nn r14.length) M4) rfl))), hB.same, (en.ch (Ch.weak _ _ _)), (eG.ch (Ch.weak _ _ _)), (M3.ch (Ch.weak _ _ _)), H⟩
theorem body22 : Body Try.prog 22 := ⟨Try.f22, Try.func22, rfl, by kernel_rfl⟩
theorem walk_minimize_Minimal {A : List Nat} {w0 : World} {bn : Option Addr} {bo : Nat} {bt : Option Addr} {bu : Nat} {d : DFA} (hA : ∀ b ∈ A, b < w0.heap.size) (ag : ISl (Rp.bool) A w0 bn bo d.Final) (ak : ISl (Rp.sl (Rp.int .i64)) A w0 bt bu d.Next) {K : DFA → Prop} (H : J0X d K) :
    CallsV Try.prog 22 #[.agg #[.int .i64 d.Letters, .int .i64 d.Start, .slice bn d.Final.length bo, .slice bt d.Next.length bu]] w0 (fun v w' => ∃ (r0 : DFA) (iR : Option Addr) (iT : Nat) (jv : Option Addr) (jw : Nat), v = .agg #[.int .i64 r0.Letters, .int .i64 r0.Start, .slice iR r0.Final.length iT, .slice jv r0.Next.length jw] ∧ Same w0 w' ∧ ISl (Rp.bool) A w' iR iT r0.Final ∧ ISl (Rp.sl (Rp.int .i64)) A w' jv jw r0.Next ∧ K r0) := by
 refine CallsV.of (l := [.agg #[.int .i64 d.Letters, .int .i64 d.Start, .slice bn d.Final.length bo, .slice bt d.Next.length bu]]) Try.func22 rfl Try.ntmps22 rfl ?_
 have hO := Owns.start hA
 have hB := Fr.refl (bl []) w0
 unfold J0X at H
 refine zq (zr ?_)
 have zz := obox (t := 25) (v := .agg #[.int .i64 d.Letters, .int .i64 d.Start, .slice bn d.Final.length bo, .slice bt d.Next.length bu]) (cs := #[.int .i64 d.Letters, .int .i64 d.Start, .slice bn d.Final.length bo, .slice bt d.Next.length bu]) hO rfl
 obtain ⟨w1, B2, c5, hs4, iQ⟩ := zz
 refine zg (iQ rfl) ?_
 replace hO := c5.own
 have zz := oalloc (t := 25) (cs := #[.int .i64 0, .int .i64 0, .slice none 0 0, .slice none 0 0]) ti25 hO rfl
 obtain ⟨w7, B8, f7, wX, tw⟩ := zz
 refine GoR.op tw rfl rfl ?_
 replace hO := f7.own
 refine zn (zq (zq (zr (zs (J0n (vs := [.int .i64 d.Letters, .int .i64 d.Start, .slice bn d.Final.length bo, .slice bt d.Next.length bu]) (i := 0) 1 hO rfl rfl Try.underlying25 rfl ti25 rfl) ?_))))
 have Z1 := ((Ch.start A w0).trans c5.ch).trans f7.ch
 replace ag := ag.ch Z1
 replace ak := ak.ch Z1
 refine GoR.call (J0a body61 rfl (J18 (d := d) hO.lt ag ak H)) rfl rfl ?_
 rintro v17 w14 ⟨r13, rfl, xw, H⟩
 have gG := Stp.same hO xw
 replace hO := gG.own
 by_cases h19 : r13 = (0 : Int)
 ·replace H := ifp h19 H
  refine zo (fun w => opB (J0g rfl rfl w) (ndT h19)) (zn (zf rfl rfl (zk (zq (zr ?_)))))
  refine zs (J0n (vs := [.int .i64 d.Letters, .int .i64 d.Start, .slice bn d.Final.length bo, .slice bt d.Next.length bu]) (i := 0) 1 hO rfl rfl Try.underlying25 rfl ti25 rfl) ?_
  replace ag := ag.ch gG.ch
  replace ak := ak.ch gG.ch
  refine GoR.call (J0a body66 rfl (walk_minimize_minimal (a0 := d) hO.lt ag ak H)) rfl rfl ?_
  rintro v25 w22 ⟨r20, r21, o8, o9, qL, qM, fB, fC, rfl, FS, pc, qN, yC, H⟩
  have mU := Stp.same hO FS
  replace hO := mU.own
  refine zm rfl (zo (J07 rfl rfl) (zo (J07 rfl rfl) ?_))
  have zz := oalloc (t := 25) (cs := #[.int .i64 0, .int .i64 0, .slice none 0 0, .slice none 0 0]) ti25 hO rfl
  obtain ⟨w27, B28, t6, Fj, DY⟩ := zz
  refine GoR.op DY rfl rfl ?_
  replace hO := t6.own
  have zz := J0b (us := [.int .i64 r20.Letters, .int .i64 r20.Start, .slice o8 r20.Final.length o9, .slice qL r20.Next.length qM]) (o := 0) (cs' := #[.int .i64 r20.Letters, .int .i64 r20.Start, .slice o8 r20.Final.length o9, .slice qL r20.Next.length qM]) 0 hO rfl rfl (Nat.le_of_ble_eq_true rfl) rfl
  obtain ⟨w33, qJ, M5⟩ := zz
  refine zg (M5 ti25 (by exact rfl) (by exact rfl) rfl) ?_
  replace hO := qJ.own
  refine za rfl (zn (zq (zr (zs (J0n (vs := [.int .i64 r20.Letters, .int .i64 r20.Start, .slice o8 r20.Final.length o9, .slice qL r20.Next.length qM]) (i := 0) 0 hO rfl rfl Try.underlying25 rfl ti25 rfl) ?_))))
  have zz := J0b (us := [.int .i64 r20.Letters, .int .i64 r20.Start, .slice o8 r20.Final.length o9, .slice qL r20.Next.length qM]) (o := 0) (cs' := #[.int .i64 r20.Letters, .int .i64 r20.Start, .slice o8 r20.Final.length o9, .slice qL r20.Next.length qM]) 1 hO rfl rfl (Nat.le_of_ble_eq_true rfl) rfl
  obtain ⟨w36, iu, D0⟩ := zz
  refine zg (D0 ti25 (by exact rfl) (by exact rfl) rfl) ?_
  replace hO := iu.own
  refine zn ?_
  refine Go1.retC1 Try.func22 rfl rfl (J0h (vs := [.int .i64 r20.Letters, .int .i64 r20.Start, .slice o8 r20.Final.length o9, .slice qL r20.Next.length qM]) 1 hO rfl rfl Try.underlying25 rfl ti25) ?_
  have Z2 := (t6.ch.trans qJ.ch).trans iu.ch
  replace pc := pc.ch Z2
  replace qN := qN.ch Z2
  replace hB := ((((((hB.trans c5.fr).trans f7.fr).trans gG.fr).trans mU.fr).trans t6.fr).trans qJ.fr).trans iu.fr
  exact ⟨(⟨r20.Letters, r20.Start, r20.Final, r20.Next⟩ : DFA), o8, o9, qL, qM, rfl, hB.same, (pc.ch (Ch.weak _ _ _)), (qN.ch (Ch.weak _ _ _)), H⟩
 replace H := ifn h19 H
 refine zo (fun w => opB (J0g rfl rfl w) (ndF h19)) (zn (zt rfl rfl (zq (zr (zo (J0s Try.underlying25 ti25 (pl := [(0, 1), (1, 1), (2, 1), (3, 1)]) (vs := []) (cs := #[.int .i64 0, .int .i64 0, .slice none 0 0, .slice none 0 0]) (by kernel_rfl) rfl (by kernel_rfl)) ?_)))))
 have zz := J0b (us := [.int .i64 0, .int .i64 0, .slice none 0 0, .slice none 0 0]) (o := 0) (cs' := #[.int .i64 0, .int .i64 0, .slice none 0 0, .slice none 0 0]) 0 hO rfl rfl (Nat.le_of_ble_eq_true rfl) rfl
 obtain ⟨w39, BV, M6⟩ := zz
 refine zg (M6 ti25 (by exact rfl) (by exact rfl) rfl) ?_
 replace hO := BV.own
 refine zn ?_
 refine Go1.retC1 Try.func22 rfl rfl (J0h (vs := [.int .i64 0, .int .i64 0, .slice none 0 0, .slice none 0 0]) 0 hO rfl rfl Try.underlying25 rfl ti25) ?_
 replace hB := (((hB.trans c5.fr).trans f7.fr).trans gG.fr).trans BV.fr
 exact ⟨(⟨(0 : Int), (0 : Int), ([] : List Bool), ([] : List (List Int))⟩ : DFA), none, 0, none, 0, rfl, hB.same, (ISl.null _ _ _), (ISl.null _ _ _), H⟩
theorem body154 : Body Try.prog 154 := ⟨Try.f154, Try.func154, rfl, by kernel_rfl⟩
theorem walk_trans_Valid {A : List Nat} {w0 : World} {p_f : Option Addr} {c_f : Nat} {f : List Int} (hA : ∀ b ∈ A, b < w0.heap.size) (h_f : ISl (Rp.int .i64) A w0 p_f c_f f) {K : Bool → Prop} (H : trans_Valid f K) :
    CallsV Try.prog 154 #[.slice p_f f.length c_f] w0 (fun v w' => ∃ (r0 : Bool), v = .bool r0 ∧ Same w0 w' ∧ K r0) := by
 refine CallsV.of (l := [.slice p_f f.length c_f]) Try.func154 rfl Try.ntmps154 rfl ?_
 have hO := Owns.start hA
 have hB := Fr.refl (bl []) w0
 unfold trans_Valid at H
 refine zq (zr (za rfl (zn (zq (zq ?_)))))
 refine zr (zm rfl (zo (J0d Try.underlying31 rfl) ?_))
 replace h_f := h_f.ch (Ch.start A w0)
 replace H := H h_f.bd
 by_cases h1 : (f.length : Int) < (1 : Int)
 ·replace H := ifp h1 H
  refine zo (fun w => opB (J08 rfl rfl w) (decide_eq_true h1)) (zm rfl (zp (zp (zp (zo (J06 rfl rfl rfl) ?_)))))
  refine zn (zt rfl rfl (zq (zr (za rfl (zn ?_)))))
  refine Go1.ret1 Try.func154 rfl ?_
  exact ⟨false, rfl, hB.same, H⟩
 replace H := ifn h1 H
 refine zo (fun w => opB (J08 rfl rfl w) (decide_eq_false h1)) (zm rfl (zm rfl (zo (J0d Try.underlying31 rfl) ?_)))
 by_cases h2 : (32 : Int) < (f.length : Int)
 ·replace H := ifp h2 H
  refine zo (fun w => opB (J1a rfl rfl w) (decide_eq_true h2)) (zo (J05 rfl rfl rfl) (zn (zt rfl rfl (zq (zr ?_)))))
  refine za rfl (zn ?_)
  refine Go1.ret1 Try.func154 rfl ?_
  exact ⟨false, rfl, hB.same, H⟩
 replace H := ifn h2 H
 refine zo (fun w => opB (J1a rfl rfl w) (decide_eq_false h2)) (zo (J05 rfl rfl rfl) (zn (zf rfl rfl (zk (zq ?_)))))
 refine zq (zr (zm rfl (zo (J0d Try.underlying31 rfl) (zm rfl (zn ?_)))))
 refine zb ?_
 refine Go1.loopW (S := Nat) (fun s σ w => agrees σ [(0, .slice p_f f.length c_f), (13, .slice p_f f.length c_f), (14, .int .i64 (f.length : Int)), (15, .int .i64 (s : Int))] ∧ Owns w0.heap.size w [] A ∧ ISl (Rp.int .i64) (bl [] ++ A) w p_f c_f f ∧ Fr (bl []) w0 (bl []) w) H ⟨⟨rfl, rfl, rfl, rfl, trivial⟩, hO, h_f, hB⟩ ?_
 intro X1 k1_4
 intro H hX1 σ w3
 refine andE fun hag => andE fun hO => andE fun h_f => fun hB => ?_
 refine Go1.keep [(0, .slice p_f f.length c_f), (13, .slice p_f f.length c_f), (14, .int .i64 (f.length : Int)), (15, .int .i64 (k1_4 : Int))] hag ?_
 refine zq (zr ?_)
 by_cases h5 : (k1_4 : Int) < (f.length : Int)
 ·replace H := ifp h5 H
  refine zo (fun w => opB (J08 rfl rfl w) (decide_eq_true h5)) (zn (zq (zt rfl rfl (zk (zq ?_)))))
  refine zb (zq (zr ?_))
  obtain ⟨h6, H⟩ := H
  obtain ⟨h7, H⟩ := H
  refine zo (J02 Try.underlying31 ti3 rfl rfl h6 h7 (h_f.some_ h6 h7)) (zs (ldInt h_f h6 h7 Try.underlying3 rfl rfl) (za rfl (zn (zq (zr ?_)))))
  refine zm rfl ?_
  by_cases h8 : (ix f (k1_4 : Int)) < (0 : Int)
  ·replace H := ifp h8 H
   refine zo (fun w => opB (J08 rfl rfl w) (decide_eq_true h8)) (zm rfl (zp (zp (zp (zp ?_)))))
   refine zo (J06 rfl rfl rfl) (zn (zt rfl rfl (zq (zr (za rfl ?_)))))
   refine zn ?_
   refine Go1.ret1 Try.func154 rfl ?_
   exact ⟨false, rfl, hB.same, H⟩
  replace H := ifn h8 H
  refine zo (fun w => opB (J08 rfl rfl w) (decide_eq_false h8)) (zm rfl (zm rfl (zm rfl (zo (J0d Try.underlying31 rfl) ?_))))
  by_cases h9 : (f.length : Int) ≤ (ix f (k1_4 : Int))
  ·replace H := ifp h9 H
   refine zo (fun w => opB (J1n rfl rfl w) (decide_eq_true h9)) (zo (J05 rfl rfl rfl) (zn (zt rfl rfl (zq ?_))))
   refine Go1.cut [] trivial ?_
   intro σ _
   refine zr (za rfl (zn ?_))
   refine Go1.ret1 Try.func154 rfl ?_
   exact ⟨false, rfl, hB.same, H⟩
  replace H := ifn h9 H
  refine zo (fun w => opB (J1n rfl rfl w) (decide_eq_false h9)) (zo (J05 rfl rfl rfl) (zn (zf rfl rfl (zk ?_))))
  refine Go1.inBlock ?_
  refine zr (zo (J0c rfl rfl (wrap_i64 (natbd h5 h_f.bd))) (zm rfl (zn ?_)))
  exact hX1 _ H _ _ ⟨⟨rfl, rfl, rfl, rfl, trivial⟩, hO, h_f, hB⟩
 replace H := ifn h5 H
 refine zo (fun w => opB (J08 rfl rfl w) (decide_eq_false h5)) (zn (zq (zf rfl rfl ?_)))
 refine Go1.exit rfl ?_
 refine zq (zr (za rfl (zn ?_)))
 refine Go1.ret1 Try.func154 rfl ?_
 exact ⟨true, rfl, hB.same, H⟩
theorem body86 : Body Try.prog 86 := ⟨Try.f86, Try.func86, rfl, by kernel_rfl⟩
theorem J0F {A : List Nat} {w0 : World} {nM : Option Addr} {sx : Nat} {s_ : List Int} (hA : ∀ b ∈ A, b < w0.heap.size) (iP : ISl (Rp.int .i64) A w0 nM sx s_) {K : List Int → Prop} (H : J0t s_ K) :
    CallsV Try.prog 86 #[.slice nM s_.length sx] w0 (fun v w' => ∃ (r0 : List Int) (zi : Nat) (qD : Option Addr) (qE : Nat) (xr : List Value), v = .slice qD zi qE ∧ Same w0 w' ∧ Owns w0.heap.size w' [.row 3 1 qD zi qE xr] A ∧ Els (Rp.int .i64) (bl [.row 3 1 qD zi qE xr] ++ A) w' xr r0 ∧ K r0) := by
 refine CallsV.of (l := [.slice nM s_.length sx]) Try.func86 rfl Try.ntmps86 rfl ?_
 have hO := Owns.start hA
 have hB := Fr.refl (bl []) w0
 unfold J0t at H
 refine zq (zr (za rfl (zn (zq (zq ?_)))))
 refine zr (zm rfl ?_)
 replace iP := iP.ch (Ch.start A w0)
 replace H := H nM.isNone (fun h => iP.nilD h)
 by_cases hz2 : nM.isNone = true
 ·replace H := ifp hz2 H
  refine zo (fun w => opB (op_nilSlice Try.underlying31 rfl rfl w) (hz2)) (zn (zt rfl rfl (zq (zr (za rfl ?_)))))
  refine zn ?_
  have m5 := Stp.nil (e := 3) (r := 1) hO
  replace hO := m5.own
  have hE5 := Els.nil (Rp.int .i64) (bl (.row 3 1 none 0 0 [] :: []) ++ A) w0
  refine Go1.ret1 Try.func86 rfl ?_
  replace hB := hB.trans m5.fr
  exact ⟨(([] : List Int)), 0, none, 0, ([]), rfl, hB.same, hO, hE5, H⟩
 ·replace H := ifn hz2 H
  refine zo (fun w => opB (op_nilSlice Try.underlying31 rfl rfl w) (Bool.eq_false_iff.2 hz2)) (zn (zf rfl rfl (zk (zq (zr ?_)))))
  have zz := J0j (r := Rp.int .i64) (n := 0) (parts := []) (vs := []) (xs := ([] : List Int)) rfl Try.underlying31 ti3 hO (by decide) (by kernel_rfl) (Els.nil _ _ _) rfl
  obtain ⟨w6, p7, zj, hE9, wX, tw⟩ := zz
  refine zg (tw rfl) ?_
  replace hO := zj.own
  refine zm rfl ?_
  obtain ⟨h13, H⟩ := H
  replace iP := iP.ch zj.ch
  have zz := oapp Try.underlying31 ti3 rfl 0 hO rfl hE9 iP rfl h13 (by decide)
  obtain ⟨w14, p15, c16, lv, gG, Fg, xt⟩ := zz
  refine zg (xt (by exact rfl) (by exact rfl)) ?_
  replace hO := gG.own
  refine za rfl (zn ?_)
  refine Go1.ret1 Try.func86 rfl ?_
  replace hB := (hB.trans zj.fr).trans gG.fr
  exact ⟨((([] : List Int)) ++ s_), (0 + s_.length), p15, c16, lv, rfl, hB.same, hO, Fg, H⟩
theorem body156 : Body Try.prog 156 := ⟨Try.f156, Try.func156, rfl, by kernel_rfl⟩
theorem walk_trans_Identity {A : List Nat} {w0 : World} {n : Int} (hA : ∀ b ∈ A, b < w0.heap.size) {K : List Int → Prop} (H : J1c n K) :
    CallsV Try.prog 156 #[.int .i64 n] w0 (fun v w' => ∃ (r0 : List Int) (qD : Option Addr) (qE : Nat), v = .slice qD r0.length qE ∧ Same w0 w' ∧ ISl (Rp.int .i64) A w' qD qE r0 ∧ K r0) := by
 refine CallsV.of (l := [.int .i64 n]) Try.func156 rfl Try.ntmps156 rfl ?_
 have hO := Owns.start hA
 have hB := Fr.refl (bl []) w0
 unfold J1c at H
 refine zq (zr (za rfl (zn (zq (zq ?_)))))
 refine zr (zm rfl ?_)
 by_cases h1 : n < (1 : Int)
 ·replace H := ifp h1 H
  refine zo (fun w => opB (J08 rfl rfl w) (decide_eq_true h1)) (zm rfl (zp (zp (zo (J06 rfl rfl rfl) (zn ?_)))))
  refine zt rfl rfl (zq (zr (za rfl (zn ?_))))
  refine Go1.ret1 Try.func156 rfl ?_
  exact ⟨([] : List Int), none, 0, rfl, hB.same, (ISl.null _ _ _), H⟩
 replace H := ifn h1 H
 refine zo (fun w => opB (J08 rfl rfl w) (decide_eq_false h1)) (zm rfl (zm rfl ?_))
 by_cases h2 : (32 : Int) < n
 ·replace H := ifp h2 H
  refine zo (fun w => opB (J1a rfl rfl w) (decide_eq_true h2)) (zo (J05 rfl rfl rfl) (zn (zt rfl rfl (zq (zr ?_)))))
  refine za rfl (zn ?_)
  refine Go1.ret1 Try.func156 rfl ?_
  exact ⟨([] : List Int), none, 0, rfl, hB.same, (ISl.null _ _ _), H⟩
 replace H := ifn h2 H
 refine zo (fun w => opB (J1a rfl rfl w) (decide_eq_false h2)) (zo (J05 rfl rfl rfl) (zn (zf rfl rfl (zk (zq ?_)))))
 refine zr (zm rfl ?_)
 obtain ⟨h10, H⟩ := H
 obtain ⟨h11, H⟩ := H
 have zz := omake (n := n) (r := Rp.int .i64) (d := (0 : Int)) Try.underlying31 ti3 (fun _ _ => rfl) rfl hO h10 h11 (by decide)
 obtain ⟨w3, p4, vs5, xH, hE7, hs8, Rq⟩ := zz
 refine zg (Rq rfl rfl) ?_
 replace hO := xH.own
 refine za rfl (zn (zq (zq (zr (zm rfl ?_)))))
 refine zo (J0w Try.underlying31 rfl (hE7.neq hO 0 rfl)) (zm rfl (zn (zb ?_)))
 replace hB := hB.trans xH.fr
 refine Go1.loopW (S := Nat × List Int) (fun s σ w => match s with | (k1_14, f1_15) => ∃ (xD : List Value), agrees σ [(3, .slice p4 n.toNat n.toNat), (14, .int .i64 ((List.replicate n.toNat ((0 : Int))).length : Int)), (15, .int .i64 (k1_14 : Int))] ∧ (fun Z0 => Owns w0.heap.size w Z0 A ∧ Els (Rp.int .i64) (bl Z0 ++ A) w xD f1_15 ∧ Fr (bl []) w0 (bl Z0) w) [.row 3 1 p4 n.toNat n.toNat xD]) H ⟨vs5, ⟨rfl, rfl, rfl, trivial⟩, hO, hE7, hB⟩ ?_
 intro X1
 refine prE fun k1_14 => fun f1_15 => ?_
 intro H hX1 σ w13
 refine exE fun xD => andE fun hag => andE fun hO => andE fun wY => fun hB => ?_
 dsimp only at H
 refine Go1.keep [(3, .slice p4 n.toNat n.toNat), (14, .int .i64 ((List.replicate n.toNat ((0 : Int))).length : Int)), (15, .int .i64 (k1_14 : Int))] hag ?_
 refine zq (zr ?_)
 by_cases h18 : (k1_14 : Int) < ((List.replicate n.toNat ((0 : Int))).length : Int)
 ·replace H := ifp h18 H
  refine zo (fun w => opB (J08 rfl rfl w) (decide_eq_true h18)) (zn (zq (zt rfl rfl (zk (zq ?_)))))
  refine zb (zq (zr (zm rfl (za rfl (zn ?_)))))
  refine zr (zm rfl (zm rfl (zm rfl ?_)))
  obtain ⟨h19, H⟩ := H
  obtain ⟨h20, H⟩ := H
  refine zo (J02 Try.underlying31 ti3 rfl rfl h19 (ltn (wY.neq hO 0 rfl) h20) (wY.psome hO 0 rfl h19 h20)) ?_
  have zz := ost (r := Rp.int .i64) rfl 0 hO rfl wY h19 h20 (v := .int .i64 (k1_14 : Int)) (u := (k1_14 : Int)) rfl rfl
  obtain ⟨w21, F2, mc, cY, Ab⟩ := zz
  refine zg (Ab Try.underlying3 rfl ti3 (by exact rfl) (by exact rfl)) ?_
  replace hO := mc.own
  refine zn ?_
  refine Go1.inBlock ?_
  refine zr ?_
  obtain ⟨h26, H⟩ := H
  refine zo (J0c rfl rfl (wrap_i64 h26)) (zm rfl (zn ?_))
  replace hB := hB.trans mc.fr
  exact hX1 _ H _ _ ⟨F2, ⟨rfl, rfl, rfl, trivial⟩, hO, cY, hB⟩
 replace H := ifn h18 H
 refine zo (fun w => opB (J08 rfl rfl w) (decide_eq_false h18)) (zn (zq (zf rfl rfl ?_)))
 refine Go1.exit rfl ?_
 refine zq (zr (zm rfl (za rfl (zn ?_))))
 have zz := freeze 0 hO rfl wY
 obtain ⟨hO1, VK, Rr, Rs⟩ := zz
 replace hO := hO1; clear hO1
 refine Go1.ret1 Try.func156 rfl ?_
 replace hB := hB.trans (Owns.J09 _ _ 0)
 exact ⟨f1_15, p4, n.toNat, (congrArg (fun nn => Value.slice p4 nn n.toNat) Rs), hB.same, (Rr.ch (Ch.weak _ _ _)), H⟩
theorem body157 : Body Try.prog 157 := ⟨Try.f157, Try.func157, rfl, by kernel_rfl⟩
theorem J0l {A : List Nat} {w0 : World} {p_f : Option Addr} {c_f : Nat} {f : List Int} (hA : ∀ b ∈ A, b < w0.heap.size) (h_f : ISl (Rp.int .i64) A w0 p_f c_f f) {K : Str → Prop} (H : J0m f K) :
    CallsV Try.prog 157 #[.slice p_f f.length c_f] w0 (fun v w' => ∃ (r0 : Str), v = .string (gstr r0) ∧ Same w0 w' ∧ r0.length ≤ mx ∧ K r0) := by
 refine CallsV.of (l := [.slice p_f f.length c_f]) Try.func157 rfl Try.ntmps157 rfl ?_
 have hO := Owns.start hA
 have hB := Fr.refl (bl []) w0
 unfold J0m at H
 refine zq (zr (za rfl (zn (zq (zr ?_)))))
 refine zm rfl (zo (J0d Try.underlying31 rfl) ?_)
 replace h_f := h_f.ch (Ch.start A w0)
 replace H := H h_f.bd
 obtain ⟨h8, H⟩ := H
 obtain ⟨h9, H⟩ := H
 have zz := omake (n := (f.length : Int)) (r := Rp.int .u8) (d := (0 : Int)) Try.underlying126 ti5 (fun _ _ => rfl) rfl hO h8 h9 (by decide)
 obtain ⟨w1, p2, vs3, m5, hE5, hs6, CP⟩ := zz
 refine zg (CP rfl rfl) ?_
 replace hO := m5.own
 refine za rfl (zn (zq (zq (zr (zm rfl ?_)))))
 refine zo (J0d Try.underlying31 rfl) (zm rfl (zn (zb ?_)))
 replace h_f := h_f.ch m5.ch
 replace hB := hB.trans m5.fr
 refine Go1.loopW (S := Nat × List Int) (fun s σ w => match s with | (k1_12, b1_13) => ∃ (pe : List Value), agrees σ [(3, .slice p2 f.length f.length), (9, .slice p_f f.length c_f), (10, .int .i64 (f.length : Int)), (11, .int .i64 (k1_12 : Int))] ∧ (fun Z0 => Owns w0.heap.size w Z0 A ∧ Els (Rp.int .u8) (bl Z0 ++ A) w pe b1_13 ∧ ISl (Rp.int .i64) (bl Z0 ++ A) w p_f c_f f ∧ Fr (bl []) w0 (bl Z0) w) [.row 5 1 p2 f.length f.length pe]) H ⟨vs3, ⟨rfl, rfl, rfl, rfl, trivial⟩, hO, hE5, h_f, hB⟩ ?_
 intro X1
 refine prE fun k1_12 => fun b1_13 => ?_
 intro H hX1 σ w11
 refine exE fun pe => andE fun hag => andE fun hO => andE fun cx => andE fun h_f => fun hB => ?_
 dsimp only at H
 refine Go1.keep [(3, .slice p2 f.length f.length), (9, .slice p_f f.length c_f), (10, .int .i64 (f.length : Int)), (11, .int .i64 (k1_12 : Int))] hag ?_
 refine zq (zr ?_)
 by_cases h16 : (k1_12 : Int) < (f.length : Int)
 ·replace H := ifp h16 H
  refine zo (fun w => opB (J08 rfl rfl w) (decide_eq_true h16)) (zn (zq (zt rfl rfl (zk (zq ?_)))))
  refine zb (zq (zr (zm rfl ?_)))
  obtain ⟨h17, H⟩ := H
  obtain ⟨h18, H⟩ := H
  refine zo (J02 Try.underlying31 ti3 rfl rfl h17 h18 (h_f.some_ h17 h18)) (zs (ldInt h_f h17 h18 Try.underlying3 rfl rfl) (za rfl (za rfl (zn (zr ?_)))))
  refine zm rfl (zm rfl (zm rfl (zo (op_conv Try.underlying3 Try.underlying5 rfl rfl) ?_)))
  obtain ⟨h19, H⟩ := H
  obtain ⟨h20, H⟩ := H
  refine zo (J02 Try.underlying126 ti5 rfl rfl h19 (ltn (cx.neq hO 0 rfl) h20) (cx.psome hO 0 rfl h19 h20)) ?_
  have zz := ost (r := Rp.int .u8) rfl 0 hO rfl cx h19 h20 (v := .int .u8 (IntKind.u8.wrap (ix f (k1_12 : Int)))) (u := (IntKind.u8.wrap (ix f (k1_12 : Int)))) rfl rfl
  obtain ⟨w21, F2, mc, cY, Ab⟩ := zz
  refine zg (Ab Try.underlying5 rfl ti5 (by exact rfl) (by exact rfl)) ?_
  replace hO := mc.own
  refine zn ?_
  refine Go1.inBlock ?_
  refine zr ?_
  replace h_f := h_f.ch mc.ch
  refine zo (J0c rfl rfl (wrap_i64 (natbd h16 h_f.bd))) (zm rfl (zn ?_))
  replace hB := hB.trans mc.fr
  exact hX1 _ H _ _ ⟨F2, ⟨rfl, rfl, rfl, rfl, trivial⟩, hO, cY, h_f, hB⟩
 replace H := ifn h16 H
 refine zo (fun w => opB (J08 rfl rfl w) (decide_eq_false h16)) (zn (zq (zf rfl rfl ?_)))
 refine Go1.exit rfl ?_
 refine zq (zr (zm rfl ?_))
 have hle26 := byt_le cx.bd
 refine zs (oldBytes 0 hO rfl cx Try.underlying126 Try.underlying5 Try.underlying9 rfl) (za rfl (zn ?_))
 refine Go1.ret1 Try.func157 rfl ?_
 exact ⟨byt b1_13, rfl, hB.same, hle26, H⟩
end Sg
