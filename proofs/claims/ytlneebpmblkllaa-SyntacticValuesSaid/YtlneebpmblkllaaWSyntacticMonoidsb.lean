/- -/
import Derived.Test.YtlneebpmblkllaaTi
import Derived.Test.YtlneebpmblkllaaWSyntacticMonoids
import Derived.Test.YtlneebpmblkllaaAl
namespace Sg
open Go Go.RowKit Go.Proofs
set_option linter.unusedVariables false
set_option linter.unusedSimpArgs false
set_option maxRecDepth 100000
set_option maxHeartbeats 4000000
theorem body66 : Body Try.prog 66 := ⟨Try.f66, Try.func66, rfl, by kernel_rfl⟩
theorem walk_minimize_minimal {A : List Nat} {w0 : World} {bB : Option Addr} {bC : Nat} {bK : Option Addr} {bM : Nat} {a0 : DFA} (hA : ∀ b ∈ A, b < w0.heap.size) (aq : ISl (Rp.bool) A w0 bB bC a0.Final) (aw : ISl (Rp.sl (Rp.int .i64)) A w0 bK bM a0.Next) {K : DFA → List Int → Prop} (H : J0W a0 K) :
    CallsV Try.prog 66 #[.agg #[.int .i64 a0.Letters, .int .i64 a0.Start, .slice bB a0.Final.length bC, .slice bK a0.Next.length bM]] w0 (fun v w' => ∃ (r0 : DFA) (r1 : List Int) (iT : Option Addr) (iU : Nat) (jy : Option Addr) (jz : Nat) (Cs : Option Addr) (Ct : Nat), v = .tuple #[.agg #[.int .i64 r0.Letters, .int .i64 r0.Start, .slice iT r0.Final.length iU, .slice jy r0.Next.length jz], .slice Cs r1.length Ct] ∧ Same w0 w' ∧ ISl (Rp.bool) A w' iT iU r0.Final ∧ ISl (Rp.sl (Rp.int .i64)) A w' jy jz r0.Next ∧ ISl (Rp.int .i64) A w' Cs Ct r1 ∧ K r0 r1) := by
 refine CallsV.of (l := [.agg #[.int .i64 a0.Letters, .int .i64 a0.Start, .slice bB a0.Final.length bC, .slice bK a0.Next.length bM]]) Try.func66 rfl Try.ntmps66 rfl ?_
 have hO := Owns.start hA
 have hB := Fr.refl (bl []) w0
 unfold J0W at H
 refine zq (zr ?_)
 have zz := obox (t := 25) (v := .agg #[.int .i64 a0.Letters, .int .i64 a0.Start, .slice bB a0.Final.length bC, .slice bK a0.Next.length bM]) (cs := #[.int .i64 a0.Letters, .int .i64 a0.Start, .slice bB a0.Final.length bC, .slice bK a0.Next.length bM]) hO rfl
 obtain ⟨w1, B2, cB, hs4, ic⟩ := zz
 refine zg (ic rfl) ?_
 replace hO := cB.own
 have zz := oalloc (t := 25) (cs := #[.int .i64 0, .int .i64 0, .slice none 0 0, .slice none 0 0]) ti25 hO rfl
 obtain ⟨w7, B8, ja, xq, tI⟩ := zz
 refine GoR.op tI rfl rfl ?_
 replace hO := ja.own
 refine za rfl (zn (zq (zr (zs (J0j (vs := [.int .i64 a0.Letters, .int .i64 a0.Start, .slice bB a0.Final.length bC, .slice bK a0.Next.length bM]) (i := 0) 1 hO rfl rfl Try.underlying25 rfl ti25 rfl) ?_))))
 have Z1 := ((Ch.start A w0).trans cB.ch).trans ja.ch
 replace aq := aq.ch Z1
 replace aw := aw.ch Z1
 refine GoR.call (J0a body109 rfl (walk_dfa_Trim (d := a0) hO.lt aq aw H)) rfl rfl ?_
 rintro v18 w15 ⟨r13, r14, dX, dY, en, eo, tM, tN, rfl, F0, bf, bj, dj, H⟩
 have i6 := Stp.same hO F0
 replace hO := i6.own
 refine zm rfl (zo (J07 rfl rfl) (zo (J07 rfl rfl) ?_))
 have zz := oalloc (t := 25) (cs := #[.int .i64 0, .int .i64 0, .slice none 0 0, .slice none 0 0]) ti25 hO rfl
 obtain ⟨w20, B21, nS, F1, Ay⟩ := zz
 refine GoR.op Ay rfl rfl ?_
 replace hO := nS.own
 have zz := J0b (us := [.int .i64 r13.Letters, .int .i64 r13.Start, .slice dX r13.Final.length dY, .slice en r13.Next.length eo]) (o := 0) (cs' := #[.int .i64 r13.Letters, .int .i64 r13.Start, .slice dX r13.Final.length dY, .slice en r13.Next.length eo]) 0 hO rfl rfl (Nat.le_of_ble_eq_true rfl) rfl
 obtain ⟨w26, qL, MO⟩ := zz
 refine zg (MO ti25 (by exact rfl) (by exact rfl) rfl) ?_
 replace hO := qL.own
 refine za rfl (zn (zq (zr (zs (J0j (vs := [.int .i64 r13.Letters, .int .i64 r13.Start, .slice dX r13.Final.length dY, .slice en r13.Next.length eo]) (i := 0) 0 hO rfl rfl Try.underlying25 rfl ti25 rfl) ?_))))
 have Z2 := nS.ch.trans qL.ch
 replace bf := bf.ch Z2
 replace bj := bj.ch Z2
 refine GoR.call (J0a body110 rfl (walk_minimize_Classes (a0 := r13) hO.lt bf bj H)) rfl rfl ?_
 rintro v33 w30 ⟨r29, nC, nE, rfl, Rl, dn, H⟩
 have qM := Stp.same hO Rl
 replace hO := qM.own
 refine za rfl (zn (zq (zr (zo (J00 Try.underlying25 rfl ti3 rfl (by decide)) (zs (oblk (i := 0) 2 hO rfl rfl Try.underlying3 rfl rfl) ?_)))))
 refine zo (J0q Try.underlying25 ti25 (pl := [(0, 1), (1, 1), (2, 1), (3, 1)]) (vs := [(0, .int .i64 a0.Letters)]) (cs := #[.int .i64 a0.Letters, .int .i64 0, .slice none 0 0, .slice none 0 0]) (by kernel_rfl) rfl (by kernel_rfl)) ?_
 have zz := oalloc (t := 25) (cs := #[.int .i64 0, .int .i64 0, .slice none 0 0, .slice none 0 0]) ti25 hO rfl
 obtain ⟨w35, B36, po, Vk, MP⟩ := zz
 refine GoR.op MP rfl rfl ?_
 replace hO := po.own
 have zz := J0b (us := [.int .i64 a0.Letters, .int .i64 0, .slice none 0 0, .slice none 0 0]) (o := 0) (cs' := #[.int .i64 a0.Letters, .int .i64 0, .slice none 0 0, .slice none 0 0]) 0 hO rfl rfl (Nat.le_of_ble_eq_true rfl) rfl
 obtain ⟨w41, qN, xX⟩ := zz
 refine zg (xX ti25 (by exact rfl) (by exact rfl) rfl) ?_
 replace hO := qN.own
 refine zn (zq (zq ?_))
 refine Go1.cut [(1, .pointer (some ⟨B2, 0, none⟩)), (2, .pointer (some ⟨B8, 0, none⟩)), (4, .pointer (some ⟨B21, 0, none⟩)), (5, .slice tM r14.length tN), (6, .slice nC r29.length nE), (7, .pointer (some ⟨B36, 0, none⟩))] ⟨rfl, rfl, rfl, rfl, rfl, rfl, trivial⟩ ?_
 intro σ _
 refine zr (zm rfl (zo (J0d Try.underlying31 rfl) ?_))
 replace dn := (dn.ch po.ch).ch qN.ch
 replace H := H dn.bd
 refine zm rfl (zn (zb ?_))
 have xc := Stp.nil (e := 4) (r := 1) hO
 replace hO := xc.own
 have F2 := Els.nil (Rp.bool) (bl (.row 4 1 none 0 0 [] :: [.blk B36 (.cells #[.int .i64 a0.Letters, .int .i64 0, .slice none 0 0, .slice none 0 0] 25 (0, 0)), .blk B21 (.cells #[.int .i64 r13.Letters, .int .i64 r13.Start, .slice dX r13.Final.length dY, .slice en r13.Next.length eo] 25 (0, 0)), .blk B8 (.cells #[.int .i64 0, .int .i64 0, .slice none 0 0, .slice none 0 0] 25 (0, 0)), .blk B2 (.cells #[.int .i64 a0.Letters, .int .i64 a0.Start, .slice bB a0.Final.length bC, .slice bK a0.Next.length bM] 25 (0, 0))]) ++ A) w41
 have sU := Stp.nil (e := 31) (r := 1) hO
 replace hO := sU.own
 have Ft := Els.nil (Rp.sl (Rp.int .i64)) (bl (.row 31 1 none 0 0 [] :: [.row 4 1 none 0 0 [], .blk B36 (.cells #[.int .i64 a0.Letters, .int .i64 0, .slice none 0 0, .slice none 0 0] 25 (0, 0)), .blk B21 (.cells #[.int .i64 r13.Letters, .int .i64 r13.Start, .slice dX r13.Final.length dY, .slice en r13.Next.length eo] 25 (0, 0)), .blk B8 (.cells #[.int .i64 0, .int .i64 0, .slice none 0 0, .slice none 0 0] 25 (0, 0)), .blk B2 (.cells #[.int .i64 a0.Letters, .int .i64 a0.Start, .slice bB a0.Final.length bC, .slice bK a0.Next.length bM] 25 (0, 0))]) ++ A) w41
 replace F2 := F2.ch sU.ch
 replace dn := (dn.ch xc.ch).ch sU.ch
 have Z3 := (((qM.ch.trans po.ch).trans qN.ch).trans xc.ch).trans sU.ch
 replace bf := bf.ch Z3
 replace bj := bj.ch Z3
 have Z4 := ((((Z2.trans qM.ch).trans po.ch).trans qN.ch).trans xc.ch).trans sU.ch
 replace dj := dj.ch Z4
 have Z5 := ((((((i6.ch.trans nS.ch).trans qL.ch).trans qM.ch).trans po.ch).trans qN.ch).trans xc.ch).trans sU.ch
 replace aq := aq.ch Z5
 replace aw := aw.ch Z5
 replace hB := (((((((((hB.trans cB.fr).trans ja.fr).trans i6.fr).trans nS.fr).trans qL.fr).trans qM.fr).trans po.fr).trans qN.fr).trans xc.fr).trans sU.fr
 refine Go1.loopW (S := Nat × List (List Int) × List Bool) (fun s σ w => match s with | (k1_51, d_52, d_58) => ∃ (n57 : Nat) (p55 : Option Addr) (c56 : Nat) (lH : List Value) (n63 : Nat) (p61 : Option Addr) (c62 : Nat) (lI : List Value), agrees σ [(1, .pointer (some ⟨B2, 0, none⟩)), (2, .pointer (some ⟨B8, 0, none⟩)), (4, .pointer (some ⟨B21, 0, none⟩)), (5, .slice tM r14.length tN), (6, .slice nC r29.length nE), (7, .pointer (some ⟨B36, 0, none⟩)), (28, .slice nC r29.length nE), (29, .int .i64 (r29.length : Int)), (30, .int .i64 (k1_51 : Int))] ∧ (fun Z0 => Owns w0.heap.size w Z0 A ∧ Els (Rp.sl (Rp.int .i64)) (bl Z0 ++ A) w lH d_52 ∧ Els (Rp.bool) (bl Z0 ++ A) w lI d_58 ∧ ISl (Rp.bool) (bl Z0 ++ A) w bB bC a0.Final ∧ ISl (Rp.sl (Rp.int .i64)) (bl Z0 ++ A) w bK bM a0.Next ∧ ISl (Rp.bool) (bl Z0 ++ A) w dX dY r13.Final ∧ ISl (Rp.sl (Rp.int .i64)) (bl Z0 ++ A) w en eo r13.Next ∧ ISl (Rp.int .i64) (bl Z0 ++ A) w tM tN r14 ∧ ISl (Rp.int .i64) (bl Z0 ++ A) w nC nE r29 ∧ Fr (bl []) w0 (bl Z0) w) [.row 31 1 p55 n57 c56 lH, .row 4 1 p61 n63 c62 lI, .blk B36 (.cells #[.int .i64 a0.Letters, .int .i64 0, .slice p61 n63 c62, .slice p55 n57 c56] 25 (0, 0)), .blk B21 (.cells #[.int .i64 r13.Letters, .int .i64 r13.Start, .slice dX r13.Final.length dY, .slice en r13.Next.length eo] 25 (0, 0)), .blk B8 (.cells #[.int .i64 0, .int .i64 0, .slice none 0 0, .slice none 0 0] 25 (0, 0)), .blk B2 (.cells #[.int .i64 a0.Letters, .int .i64 a0.Start, .slice bB a0.Final.length bC, .slice bK a0.Next.length bM] 25 (0, 0))]) H ⟨0, none, 0, [], 0, none, 0, [], ⟨rfl, rfl, rfl, rfl, rfl, rfl, rfl, rfl, rfl, trivial⟩, hO, Ft, F2, aq, aw, bf, bj, dj, dn, hB⟩ ?_
 intro X1
 refine prE fun k1_51 => prE fun d_52 => fun d_58 => ?_
 intro H hX1 σ w50
 refine exE fun n57 => exE fun p55 => exE fun c56 => exE fun lH => exE fun n63 => exE fun p61 => exE fun c62 => exE fun lI => andE fun hag => andE fun hO => andE fun kM => andE fun tx => andE fun aq => andE fun aw => andE fun bf => andE fun bj => andE fun dj => andE fun dn => fun hB => ?_
 dsimp only at H
 refine Go1.keep [(1, .pointer (some ⟨B2, 0, none⟩)), (2, .pointer (some ⟨B8, 0, none⟩)), (4, .pointer (some ⟨B21, 0, none⟩)), (5, .slice tM r14.length tN), (6, .slice nC r29.length nE), (7, .pointer (some ⟨B36, 0, none⟩)), (28, .slice nC r29.length nE), (29, .int .i64 (r29.length : Int)), (30, .int .i64 (k1_51 : Int))] hag ?_
 refine zq (zr ?_)
 by_cases h64 : (k1_51 : Int) < (r29.length : Int)
 ·replace H := ifp h64 H
  refine zo (fun w => opB (J08 rfl rfl w) (decide_eq_true h64)) (zn (zq (zt rfl rfl (zk (zq ?_)))))
  refine zb (zq (zr (zm rfl ?_)))
  obtain ⟨h65, H⟩ := H
  obtain ⟨h66, H⟩ := H
  refine zo (J02 Try.underlying31 ti3 rfl rfl h65 h66 (dn.some_ h65 h66)) (zs (ldInt dn h65 h66 Try.underlying3 rfl rfl) (za rfl (za rfl (zn (zq ?_)))))
  refine zq (zr (zm rfl (zo (J00 Try.underlying25 rfl ti22 rfl (by decide)) (zs (oblk (i := 2) 2 hO rfl rfl Try.underlying22 rfl rfl) (zo (J0y Try.underlying22 rfl (tx.neq hO 1 rfl)) ?_)))))
  by_cases h67 : (ix r29 (k1_51 : Int)) < (d_58.length : Int)
  ·replace H := ifp h67 H
   refine zo (fun w => opB (J08 rfl rfl w) (decide_eq_true h67)) (zn (zt rfl rfl ?_))
   refine Go1.exit rfl ?_
   refine zr (zo (J0c rfl rfl (wrap_i64 (natbd h64 dn.bd))) (zm rfl (zn ?_)))
   exact hX1 _ H _ _ ⟨n57, p55, c56, lH, n63, p61, c62, lI, ⟨rfl, rfl, rfl, rfl, rfl, rfl, rfl, rfl, rfl, trivial⟩, hO, kM, tx, aq, aw, bf, bj, dj, dn, hB⟩
  replace H := ifn h67 H
  refine zo (fun w => opB (J08 rfl rfl w) (decide_eq_false h67)) (zn (zf rfl rfl (zk (zq (zr ?_)))))
  refine zo (J00 Try.underlying25 rfl ti3 rfl (by decide)) (zs (oblk (i := 0) 5 hO rfl rfl Try.underlying3 rfl rfl) ?_)
  obtain ⟨h75, H⟩ := H
  obtain ⟨h76, H⟩ := H
  have zz := omake (n := a0.Letters) (r := Rp.int .i64) (d := (0 : Int)) Try.underlying31 ti3 (fun _ _ => rfl) rfl hO h75 h76 (by decide)
  obtain ⟨w68, p69, Rm, jF, Rn, I7, MQ⟩ := zz
  refine zg (MQ rfl rfl) ?_
  replace hO := jF.own
  refine za rfl (zn (zq (zq (zr (zo (J00 Try.underlying25 rfl ti23 rfl (by decide)) ?_)))))
  refine zs (oblk (i := 3) 4 hO rfl rfl Try.underlying23 rfl rfl) (zm rfl ?_)
  obtain ⟨h78, H⟩ := H
  obtain ⟨h79, H⟩ := H
  replace bj := bj.ch jF.ch
  refine zo (J02 Try.underlying23 ti31 rfl rfl h78 h79 (bj.some_ h78 h79)) ?_
  have zz := ldSl bj h78 h79
  obtain ⟨p80, c81, kj, Ro⟩ := zz
  refine zs (Ro Try.underlying31 rfl rfl) (zo (J0d Try.underlying31 rfl) ?_)
  replace H := H kj.bd
  refine zm rfl (zn (zb ?_))
  replace kM := kM.ch jF.ch
  replace tx := tx.ch jF.ch
  replace aq := aq.ch jF.ch
  replace aw := aw.ch jF.ch
  replace bf := bf.ch jF.ch
  replace dj := dj.ch jF.ch
  replace dn := dn.ch jF.ch
  replace hB := hB.trans jF.fr
  refine Go1.loopW (S := Nat × List Int) (fun s σ w => match s with | (k2_85, d_86) => ∃ (uO : List Value), agrees σ [(1, .pointer (some ⟨B2, 0, none⟩)), (2, .pointer (some ⟨B8, 0, none⟩)), (4, .pointer (some ⟨B21, 0, none⟩)), (5, .slice tM r14.length tN), (6, .slice nC r29.length nE), (7, .pointer (some ⟨B36, 0, none⟩)), (8, .int .i64 (k1_51 : Int)), (10, .slice p69 a0.Letters.toNat a0.Letters.toNat), (28, .slice nC r29.length nE), (29, .int .i64 (r29.length : Int)), (30, .int .i64 (k1_51 : Int)), (47, .slice p80 ((ix r13.Next (k1_51 : Int)).length) c81), (48, .int .i64 ((ix r13.Next (k1_51 : Int)).length : Int)), (49, .int .i64 (k2_85 : Int))] ∧ (fun Z0 => Owns w0.heap.size w Z0 A ∧ Els (Rp.int .i64) (bl Z0 ++ A) w uO d_86 ∧ Els (Rp.sl (Rp.int .i64)) (bl Z0 ++ A) w lH d_52 ∧ Els (Rp.bool) (bl Z0 ++ A) w lI d_58 ∧ ISl (Rp.bool) (bl Z0 ++ A) w bB bC a0.Final ∧ ISl (Rp.sl (Rp.int .i64)) (bl Z0 ++ A) w bK bM a0.Next ∧ ISl (Rp.bool) (bl Z0 ++ A) w dX dY r13.Final ∧ ISl (Rp.sl (Rp.int .i64)) (bl Z0 ++ A) w en eo r13.Next ∧ ISl (Rp.int .i64) (bl Z0 ++ A) w tM tN r14 ∧ ISl (Rp.int .i64) (bl Z0 ++ A) w nC nE r29 ∧ ISl (Rp.int .i64) (bl Z0 ++ A) w p80 c81 (ix r13.Next (k1_51 : Int)) ∧ Fr (bl []) w0 (bl Z0) w) [.row 3 1 p69 a0.Letters.toNat a0.Letters.toNat uO, .row 31 1 p55 n57 c56 lH, .row 4 1 p61 n63 c62 lI, .blk B36 (.cells #[.int .i64 a0.Letters, .int .i64 0, .slice p61 n63 c62, .slice p55 n57 c56] 25 (0, 0)), .blk B21 (.cells #[.int .i64 r13.Letters, .int .i64 r13.Start, .slice dX r13.Final.length dY, .slice en r13.Next.length eo] 25 (0, 0)), .blk B8 (.cells #[.int .i64 0, .int .i64 0, .slice none 0 0, .slice none 0 0] 25 (0, 0)), .blk B2 (.cells #[.int .i64 a0.Letters, .int .i64 a0.Start, .slice bB a0.Final.length bC, .slice bK a0.Next.length bM] 25 (0, 0))]) H ⟨Rm, ⟨rfl, rfl, rfl, rfl, rfl, rfl, rfl, rfl, rfl, rfl, rfl, rfl, rfl, rfl, trivial⟩, hO, Rn, kM, tx, aq, aw, bf, bj, dj, dn, kj, hB⟩ ?_
  intro X2
  refine prE fun k2_85 => fun d_86 => ?_
  intro H hX2 σ w84
  refine exE fun uO => andE fun hag => andE fun hO => andE fun uP => andE fun kM => andE fun tx => andE fun aq => andE fun aw => andE fun bf => andE fun bj => andE fun dj => andE fun dn => andE fun kj => fun hB => ?_
  dsimp only at H
  refine Go1.keep [(1, .pointer (some ⟨B2, 0, none⟩)), (2, .pointer (some ⟨B8, 0, none⟩)), (4, .pointer (some ⟨B21, 0, none⟩)), (5, .slice tM r14.length tN), (6, .slice nC r29.length nE), (7, .pointer (some ⟨B36, 0, none⟩)), (8, .int .i64 (k1_51 : Int)), (10, .slice p69 a0.Letters.toNat a0.Letters.toNat), (28, .slice nC r29.length nE), (29, .int .i64 (r29.length : Int)), (30, .int .i64 (k1_51 : Int)), (47, .slice p80 ((ix r13.Next (k1_51 : Int)).length) c81), (48, .int .i64 ((ix r13.Next (k1_51 : Int)).length : Int)), (49, .int .i64 (k2_85 : Int))] hag ?_
  refine zq (zr ?_)
  by_cases h89 : (k2_85 : Int) < ((ix r13.Next (k1_51 : Int)).length : Int)
  ·replace H := ifp h89 H
   refine zo (fun w => opB (J08 rfl rfl w) (decide_eq_true h89)) (zn (zq (zt rfl rfl (zk (zq ?_)))))
   refine zb (zq (zr (zm rfl ?_)))
   obtain ⟨h90, H⟩ := H
   obtain ⟨h91, H⟩ := H
   refine zo (J02 Try.underlying31 ti3 rfl rfl h90 h91 (kj.some_ h90 h91)) (zs (ldInt kj h90 h91 Try.underlying3 rfl rfl) (za rfl (za rfl (zn (zr ?_)))))
   refine zm rfl (zm rfl (zm rfl (zm rfl ?_)))
   obtain ⟨h92, H⟩ := H
   obtain ⟨h93, H⟩ := H
   refine zo (J02 Try.underlying31 ti3 rfl rfl h92 h93 (dn.some_ h92 h93)) (zs (ldInt dn h92 h93 Try.underlying3 rfl rfl) ?_)
   obtain ⟨h94, H⟩ := H
   obtain ⟨h95, H⟩ := H
   refine zo (J02 Try.underlying31 ti3 rfl rfl h94 (ltn (uP.neq hO 0 rfl) h95) (uP.psome hO 0 rfl h94 h95)) ?_
   have zz := ost (r := Rp.int .i64) rfl 0 hO rfl uP h94 h95 (v := .int .i64 (ix r29 (ix (ix r13.Next (k1_51 : Int)) (k2_85 : Int)))) (u := (ix r29 (ix (ix r13.Next (k1_51 : Int)) (k2_85 : Int)))) rfl rfl
   obtain ⟨w96, Rq, mf, xt, I8⟩ := zz
   dsimp only [sS, sZ] at mf xt
   refine zg (I8 Try.underlying3 rfl ti3 (by exact rfl) (by exact rfl)) ?_
   replace hO := mf.own
   refine zn ?_
   refine Go1.inBlock ?_
   refine zr ?_
   replace kj := kj.ch mf.ch
   refine zo (J0c rfl rfl (wrap_i64 (natbd h89 kj.bd))) (zm rfl (zn ?_))
   replace kM := kM.ch mf.ch
   replace tx := tx.ch mf.ch
   replace aq := aq.ch mf.ch
   replace aw := aw.ch mf.ch
   replace bf := bf.ch mf.ch
   replace bj := bj.ch mf.ch
   replace dj := dj.ch mf.ch
   replace dn := dn.ch mf.ch
   replace hB := hB.trans mf.fr
   exact hX2 _ H _ _ ⟨Rq, ⟨rfl, rfl, rfl, rfl, rfl, rfl, rfl, rfl, rfl, rfl, rfl, rfl, rfl, rfl, trivial⟩, hO, xt, kM, tx, aq, aw, bf, bj, dj, dn, kj, hB⟩
  replace H := ifn h89 H
  refine zo (fun w => opB (J08 rfl rfl w) (decide_eq_false h89)) (zn (zq (zf rfl rfl ?_)))
  refine Go1.exit rfl ?_
  refine zq ?_
  refine Go1.drawS 4 [(0, .pure), (1, .stable), (2, .pure), (3, .stable), (4, .pure), (5, .pure), (6, .stable), (7, .loud), (8, .last), (9, .pure), (10, .last)] mixed (by kernel_rfl) ?_
  intro Vl MR
  have jU := Stp.same hO MR
  replace hO := jU.own
  refine GoQ.pure rfl (J00 Try.underlying25 rfl ti22 rfl (by decide)) rfl rfl ?_
  refine GoQ.stable rfl (oblk (i := 2) 3 hO rfl rfl Try.underlying22 rfl rfl) rfl rfl ?_
  refine GoQ.pure rfl (J00 Try.underlying25 rfl ti22 rfl (by decide)) rfl rfl ?_
  refine GoQ.stable rfl (oblk (i := 2) 4 hO rfl rfl Try.underlying22 rfl rfl) rfl rfl ?_
  refine GoQ.pure rfl (J03 rfl) rfl rfl ?_
  obtain ⟨uQ, H⟩ := H
  obtain ⟨wK, H⟩ := H
  replace bf := bf.ch jU.ch
  refine GoQ.pure rfl (J02 Try.underlying22 ti4 rfl rfl uQ wK (bf.some_ uQ wK)) rfl rfl ?_
  refine GoQ.stable rfl (ldBool bf uQ wK Try.underlying4 rfl rfl) rfl rfl ?_
  have zz := J0k (r := Rp.bool) (n := 1) (parts := [(0, .bool (ix r13.Final (k1_51 : Int)))]) (vs := [.bool (ix r13.Final (k1_51 : Int))]) (xs := [ix r13.Final (k1_51 : Int)]) rfl Try.underlying22 ti4 hO (by decide) (by kernel_rfl) (Els.cons rfl rfl (Els.nil _ _ _) (by simp [mx])) rfl
  obtain ⟨Vm, Vn, rI, MS, MT, CR⟩ := zz
  refine GoQ.loud rfl (CR rfl) MT rfl rfl ?_
  replace hO := rI.own
  have zz := freeze 0 hO rfl MS
  obtain ⟨hO1, uR, pp, MU⟩ := zz
  dsimp only [eS, eZ] at hO1 uR pp
  replace hB := ((hB.trans jU.fr).trans rI.fr).trans (Owns.J09 _ _ 0)
  dsimp only [eS, eZ] at hB
  replace hO := hO1; clear hO1
  obtain ⟨Bn, H⟩ := H
  have Z6 := (jU.ch.trans rI.ch).trans uR
  replace tx := tx.ch Z6
  have zz := oapp Try.underlying22 ti4 rfl 2 hO rfl tx pp MU Bn (by decide)
  obtain ⟨Rr, Eo, Ep, MV, fD, pq, I9⟩ := zz
  dsimp only [sS, sZ] at fD pq
  refine GoQ.last rfl (I9 (by exact rfl) (by exact rfl)) rfl rfl ?_
  replace hO := fD.own
  refine GoQ.pure rfl (J00 Try.underlying25 rfl ti22 rfl (by decide)) rfl rfl ?_
  have zz := J0e (v := .slice Eo (n63 + 1) Ep) (i := 2) (cs' := #[.int .i64 a0.Letters, .int .i64 0, .slice Eo (n63 + 1) Ep, .slice p55 n57 c56]) 3 hO rfl rfl rfl rfl
  obtain ⟨Vo, nT, CP⟩ := zz
  dsimp only [sS, sZ] at nT
  refine GoQ.last rfl (CP Try.underlying22 rfl ti22 (by exact rfl) (by exact rfl)) rfl rfl ?_
  replace hO := nT.own
  refine GoQ.nil ?_
  refine Go1.cut [(1, .pointer (some ⟨B2, 0, none⟩)), (2, .pointer (some ⟨B8, 0, none⟩)), (4, .pointer (some ⟨B21, 0, none⟩)), (5, .slice tM r14.length tN), (6, .slice nC r29.length nE), (7, .pointer (some ⟨B36, 0, none⟩)), (10, .slice p69 a0.Letters.toNat a0.Letters.toNat), (28, .slice nC r29.length nE), (29, .int .i64 (r29.length : Int)), (30, .int .i64 (k1_51 : Int))] ⟨rfl, rfl, rfl, rfl, rfl, rfl, rfl, rfl, rfl, rfl, trivial⟩ ?_
  intro σ _
  refine zr (zo (J00 Try.underlying25 rfl ti23 rfl (by decide)) (zs (oblk (i := 3) 3 hO rfl rfl Try.underlying23 rfl rfl) (zm rfl ?_)))
  replace uP := ((uP.ch Z6).ch fD.ch).ch nT.ch
  have zz := freeze 0 hO rfl uP
  obtain ⟨hO1, uS, vq, MW⟩ := zz
  dsimp only [eS, eZ] at hO1 uS vq
  replace hB := ((hB.trans fD.fr).trans nT.fr).trans (Owns.J09 _ _ 0)
  dsimp only [eS, eZ] at hB
  replace hO := hO1; clear hO1
  have zz := J0k (r := Rp.sl (Rp.int .i64)) (n := 1) (parts := [(0, .slice p69 a0.Letters.toNat a0.Letters.toNat)]) (vs := [.slice p69 a0.Letters.toNat a0.Letters.toNat]) (xs := [d_86]) rfl Try.underlying23 ti31 hO (by decide) (by kernel_rfl) (Els.cons rfl ⟨p69, a0.Letters.toNat, congrArg some (congrArg (fun nn => Value.slice p69 nn a0.Letters.toNat) MW), vq⟩ (Els.nil _ _ _) (by simp [mx])) rfl
  obtain ⟨Rs, jp, mp, MX, TU, CT⟩ := zz
  refine zg (CT rfl) ?_
  replace hO := mp.own
  have zz := freeze 0 hO rfl MX
  obtain ⟨hO1, uq, kh, MY⟩ := zz
  dsimp only [eS, eZ] at hO1 uq kh
  replace hB := (hB.trans mp.fr).trans (Owns.J09 _ _ 0)
  dsimp only [eS, eZ] at hB
  replace hO := hO1; clear hO1
  obtain ⟨xR, H⟩ := H
  have Z7 := ((((Z6.trans fD.ch).trans nT.ch).trans uS).trans mp.ch).trans uq
  replace kM := kM.ch Z7
  have zz := oapp Try.underlying23 ti31 rfl 0 hO rfl kM kh MY xR (by decide)
  obtain ⟨Vp, F3, F4, M0, jt, B9, Ja⟩ := zz
  dsimp only [sS, sZ] at jt B9
  refine zg (Ja (by exact rfl) (by exact rfl)) ?_
  replace hO := jt.own
  refine zo (J00 Try.underlying25 rfl ti23 rfl (by decide)) ?_
  have zz := J0e (v := .slice F3 (n57 + 1) F4) (i := 3) (cs' := #[.int .i64 a0.Letters, .int .i64 0, .slice Eo (n63 + 1) Ep, .slice F3 (n57 + 1) F4]) 2 hO rfl rfl rfl rfl
  obtain ⟨Rt, m7, Jb⟩ := zz
  dsimp only [sS, sZ] at m7
  refine zg (Jb Try.underlying23 rfl ti23 (by exact rfl) (by exact rfl)) ?_
  replace hO := m7.own
  refine zn ?_
  refine Go1.inBlock ?_
  refine zr ?_
  replace dn := ((dn.ch Z7).ch jt.ch).ch m7.ch
  refine zo (J0c rfl rfl (wrap_i64 (natbd h64 dn.bd))) (zm rfl (zn ?_))
  replace B9 := B9.ch m7.ch
  replace hB := (hB.trans jt.fr).trans m7.fr
  have Z8 := ((((nT.ch.trans uS).trans mp.ch).trans uq).trans jt.ch).trans m7.ch
  replace pq := pq.ch Z8
  have Z9 := (((((((rI.ch.trans uR).trans fD.ch).trans nT.ch).trans uS).trans mp.ch).trans uq).trans jt.ch).trans m7.ch
  replace bf := bf.ch Z9
  have Z10 := (Z7.trans jt.ch).trans m7.ch
  replace aq := aq.ch Z10
  replace aw := aw.ch Z10
  replace bj := bj.ch Z10
  replace dj := dj.ch Z10
  exact hX1 _ H _ _ ⟨n57 + 1, F3, F4, M0, n63 + 1, Eo, Ep, MV, ⟨rfl, rfl, rfl, rfl, rfl, rfl, rfl, rfl, rfl, trivial⟩, hO, B9, pq, aq, aw, bf, bj, dj, dn, hB⟩
 replace H := ifn h64 H
 refine zo (fun w => opB (J08 rfl rfl w) (decide_eq_false h64)) (zn (zq (zf rfl rfl ?_)))
 refine Go1.exit rfl ?_
 refine zq (zr (zs (J0j (vs := [.int .i64 a0.Letters, .int .i64 0, .slice p61 n63 c62, .slice p55 n57 c56]) (i := 0) 2 hO rfl rfl Try.underlying25 rfl ti25 rfl) ?_))
 have zz := freeze 1 hO rfl tx
 obtain ⟨hO1, xd, mg, M1⟩ := zz
 dsimp only [eS, eZ] at hO1 xd mg
 replace hB := hB.trans (Owns.J09 _ _ 1)
 dsimp only [eS, eZ] at hB
 replace hO := hO1; clear hO1
 replace kM := kM.ch xd
 have zz := freeze 0 hO rfl kM
 obtain ⟨hO1, xe, nF, M2⟩ := zz
 dsimp only [eS, eZ] at hO1 xe nF
 replace hB := hB.trans (Owns.J09 _ _ 0)
 dsimp only [eS, eZ] at hB
 replace hO := hO1; clear hO1
 replace mg := mg.ch xe
 refine GoR.call (J0a body109 (show ([.agg #[.int .i64 a0.Letters, .int .i64 0, .slice p61 n63 c62, .slice p55 n57 c56]] : List Value) = [.agg #[.int .i64 a0.Letters, .int .i64 0, .slice p61 d_58.length c62, .slice p55 d_52.length c56]] from by rw [← M1, ← M2]) (walk_dfa_Trim (d := (⟨a0.Letters, (0 : Int), d_58, d_52⟩ : DFA)) hO.lt mg nF H)) rfl rfl ?_
 rintro Vq Vr ⟨r159, r160, f5, f6, gA, gB, yu, yv, rfl, M3, d5, eA, gS, H⟩
 have uf := Stp.same hO M3
 replace hO := uf.own
 refine zm rfl (zo (J07 rfl rfl) (zo (J07 rfl rfl) ?_))
 have zz := oalloc (t := 25) (cs := #[.int .i64 0, .int .i64 0, .slice none 0 0, .slice none 0 0]) ti25 hO rfl
 obtain ⟨QQ, B167, pM, H6, CU⟩ := zz
 refine GoR.op CU rfl rfl ?_
 replace hO := pM.own
 have zz := J0b (us := [.int .i64 r159.Letters, .int .i64 r159.Start, .slice f5 r159.Final.length f6, .slice gA r159.Next.length gB]) (o := 0) (cs' := #[.int .i64 r159.Letters, .int .i64 r159.Start, .slice f5 r159.Final.length f6, .slice gA r159.Next.length gB]) 0 hO rfl rfl (Nat.le_of_ble_eq_true rfl) rfl
 obtain ⟨Ru, nU, Jc⟩ := zz
 dsimp only [sS, sZ] at nU
 refine zg (Jc ti25 (by exact rfl) (by exact rfl) rfl) ?_
 replace hO := nU.own
 refine za rfl (zn (zq (zr (zm rfl (zo (J0d Try.underlying31 rfl) ?_)))))
 have Z11 := (((xd.trans xe).trans uf.ch).trans pM.ch).trans nU.ch
 replace dj := dj.ch Z11
 replace H := H dj.bd
 obtain ⟨Rv, H⟩ := H
 obtain ⟨Rw, H⟩ := H
 have zz := omake (n := (r14.length : Int)) (r := Rp.int .i64) (d := (0 : Int)) Try.underlying31 ti3 (fun _ _ => rfl) rfl hO Rv Rw (by decide)
 obtain ⟨Vt, uT, M4, fK, uU, H7, CV⟩ := zz
 refine zg (CV rfl rfl) ?_
 replace hO := fK.own
 refine za rfl (zn (zq (zq ?_)))
 refine Go1.cut [(2, .pointer (some ⟨B8, 0, none⟩)), (5, .slice tM r14.length tN), (6, .slice nC r29.length nE), (13, .pointer (some ⟨B167, 0, none⟩)), (14, .slice yu r160.length yv), (15, .slice uT r14.length r14.length)] ⟨rfl, rfl, rfl, rfl, rfl, rfl, trivial⟩ ?_
 intro σ _
 refine zr (zm rfl (zo (J0d Try.underlying31 rfl) (zm rfl (zn (zb ?_)))))
 replace hO := hO.drop 2
 replace uU := uU.ch (Owns.J06 _ _ 2)
 replace dj := (dj.ch fK.ch).ch (Owns.J06 _ _ 2)
 have Z12 := ((pM.ch.trans nU.ch).trans fK.ch).trans (Owns.J06 _ _ 2)
 replace d5 := d5.ch Z12
 replace eA := eA.ch Z12
 replace gS := gS.ch Z12
 have Z13 := (((uf.ch.trans pM.ch).trans nU.ch).trans fK.ch).trans (Owns.J06 _ _ 2)
 replace mg := mg.ch Z13
 replace nF := nF.ch Z13
 replace hB := ((((hB.trans uf.fr).trans pM.fr).trans nU.fr).trans fK.fr).trans (Owns.J09 _ _ 2)
 have Z14 := (Z11.trans fK.ch).trans (Owns.J06 _ _ 2)
 replace aq := aq.ch Z14
 replace aw := aw.ch Z14
 replace bf := bf.ch Z14
 replace bj := bj.ch Z14
 replace dn := dn.ch Z14
 dsimp only [eS, eZ] at hB hO aq aw bf bj dj dn mg nF d5 eA gS uU
 replace hO := hO.drop 2
 replace aq := aq.ch (Owns.J06 _ _ 2)
 replace aw := aw.ch (Owns.J06 _ _ 2)
 replace bf := bf.ch (Owns.J06 _ _ 2)
 replace bj := bj.ch (Owns.J06 _ _ 2)
 replace dj := dj.ch (Owns.J06 _ _ 2)
 replace dn := dn.ch (Owns.J06 _ _ 2)
 replace mg := mg.ch (Owns.J06 _ _ 2)
 replace nF := nF.ch (Owns.J06 _ _ 2)
 replace d5 := d5.ch (Owns.J06 _ _ 2)
 replace eA := eA.ch (Owns.J06 _ _ 2)
 replace gS := gS.ch (Owns.J06 _ _ 2)
 replace uU := uU.ch (Owns.J06 _ _ 2)
 replace hB := hB.trans (Owns.J09 _ _ 2)
 dsimp only [eS, eZ] at hB hO aq aw bf bj dj dn mg nF d5 eA gS uU
 replace hO := hO.drop 3
 replace dj := dj.ch (Owns.J06 _ _ 3)
 replace dn := dn.ch (Owns.J06 _ _ 3)
 replace d5 := d5.ch (Owns.J06 _ _ 3)
 replace eA := eA.ch (Owns.J06 _ _ 3)
 replace gS := gS.ch (Owns.J06 _ _ 3)
 replace uU := uU.ch (Owns.J06 _ _ 3)
 replace hB := hB.trans (Owns.J09 _ _ 3)
 refine Go1.loopW (S := Nat × List Int) (fun s σ w => match s with | (k3_186, d_187) => ∃ (vr : List Value), agrees σ [(2, .pointer (some ⟨B8, 0, none⟩)), (6, .slice nC r29.length nE), (13, .pointer (some ⟨B167, 0, none⟩)), (14, .slice yu r160.length yv), (15, .slice uT r14.length r14.length), (87, .slice tM r14.length tN), (88, .int .i64 (r14.length : Int)), (89, .int .i64 (k3_186 : Int))] ∧ (fun Z0 => Owns w0.heap.size w Z0 A ∧ Els (Rp.int .i64) (bl Z0 ++ A) w vr d_187 ∧ ISl (Rp.int .i64) (bl Z0 ++ A) w tM tN r14 ∧ ISl (Rp.int .i64) (bl Z0 ++ A) w nC nE r29 ∧ ISl (Rp.bool) (bl Z0 ++ A) w f5 f6 r159.Final ∧ ISl (Rp.sl (Rp.int .i64)) (bl Z0 ++ A) w gA gB r159.Next ∧ ISl (Rp.int .i64) (bl Z0 ++ A) w yu yv r160 ∧ Fr (bl []) w0 (bl Z0) w) [.row 3 1 uT r14.length r14.length vr, .blk B167 (.cells #[.int .i64 r159.Letters, .int .i64 r159.Start, .slice f5 r159.Final.length f6, .slice gA r159.Next.length gB] 25 (0, 0)), .blk B8 (.cells #[.int .i64 0, .int .i64 0, .slice none 0 0, .slice none 0 0] 25 (0, 0))]) H ⟨M4, ⟨rfl, rfl, rfl, rfl, rfl, rfl, rfl, rfl, trivial⟩, hO, uU, dj, dn, d5, eA, gS, hB⟩ ?_
 intro X3
 refine prE fun k3_186 => fun d_187 => ?_
 intro H hX3 σ Vu
 refine exE fun vr => andE fun hag => andE fun hO => andE fun yT => andE fun dj => andE fun dn => andE fun d5 => andE fun eA => andE fun gS => fun hB => ?_
 dsimp only at H
 refine Go1.keep [(2, .pointer (some ⟨B8, 0, none⟩)), (6, .slice nC r29.length nE), (13, .pointer (some ⟨B167, 0, none⟩)), (14, .slice yu r160.length yv), (15, .slice uT r14.length r14.length), (87, .slice tM r14.length tN), (88, .int .i64 (r14.length : Int)), (89, .int .i64 (k3_186 : Int))] hag ?_
 refine zq (zr ?_)
 by_cases yw : (k3_186 : Int) < (r14.length : Int)
 ·replace H := ifp yw H
  refine zo (fun w => opB (J08 rfl rfl w) (decide_eq_true yw)) (zn (zq (zt rfl rfl (zk (zq ?_)))))
  refine zb (zq (zr (zm rfl ?_)))
  obtain ⟨F5, H⟩ := H
  obtain ⟨CW, H⟩ := H
  refine zo (J02 Try.underlying31 ti3 rfl rfl F5 CW (dj.some_ F5 CW)) (zs (ldInt dj F5 CW Try.underlying3 rfl rfl) (za rfl (za rfl (zn (zq ?_)))))
  refine zr (zm rfl (zm rfl ?_))
  obtain ⟨F6, H⟩ := H
  obtain ⟨F7, H⟩ := H
  refine zo (J02 Try.underlying31 ti3 rfl rfl F6 (ltn (yT.neq hO 0 rfl) F7) (yT.psome hO 0 rfl F6 F7)) ?_
  have zz := ost (r := Rp.int .i64) rfl 0 hO rfl yT F6 F7 (v := .int .i64 (-1)) (u := (-1 : Int)) rfl rfl
  obtain ⟨QT, Er, iK, uV, CX⟩ := zz
  refine zg (CX Try.underlying3 rfl ti3 (by exact rfl) (by exact rfl)) ?_
  replace hO := iK.own
  refine zn (zq (zr (zm rfl ?_)))
  by_cases Et : (0 : Int) ≤ (ix r14 (k3_186 : Int))
  ·replace H := ifp Et H
   refine zo (fun w => opB (J0L rfl rfl w) (decide_eq_true Et)) (zn (zt rfl rfl (zr (zm rfl (zm rfl ?_)))))
   refine zm rfl (zm rfl (zm rfl ?_))
   obtain ⟨C0, H⟩ := H
   obtain ⟨F8, H⟩ := H
   replace dn := dn.ch iK.ch
   refine zo (J02 Try.underlying31 ti3 rfl rfl C0 F8 (dn.some_ C0 F8)) (zs (ldInt dn C0 F8 Try.underlying3 rfl rfl) ?_)
   obtain ⟨F9, H⟩ := H
   obtain ⟨zW, H⟩ := H
   replace gS := gS.ch iK.ch
   refine zo (J02 Try.underlying31 ti3 rfl rfl F9 zW (gS.some_ F9 zW)) (zs (ldInt gS F9 zW Try.underlying3 rfl rfl) ?_)
   obtain ⟨xS, H⟩ := H
   obtain ⟨Cx, H⟩ := H
   refine zo (J02 Try.underlying31 ti3 rfl rfl xS (ltn (uV.neq hO 0 rfl) Cx) (uV.psome hO 0 rfl xS Cx)) ?_
   have zz := ost (r := Rp.int .i64) rfl 0 hO rfl uV xS Cx (v := .int .i64 (ix r160 (ix r29 (ix r14 (k3_186 : Int))))) (u := (ix r160 (ix r29 (ix r14 (k3_186 : Int))))) rfl rfl
   obtain ⟨Vv, M5, wL, M6, Jd⟩ := zz
   refine zg (Jd Try.underlying3 rfl ti3 (by exact rfl) (by exact rfl)) ?_
   replace hO := wL.own
   refine zn ?_
   refine Go1.inBlock ?_
   refine Go1.cut [(2, .pointer (some ⟨B8, 0, none⟩)), (6, .slice nC r29.length nE), (13, .pointer (some ⟨B167, 0, none⟩)), (14, .slice yu r160.length yv), (15, .slice uT r14.length r14.length), (87, .slice tM r14.length tN), (88, .int .i64 (r14.length : Int)), (89, .int .i64 (k3_186 : Int))] ⟨rfl, rfl, rfl, rfl, rfl, rfl, rfl, rfl, trivial⟩ ?_
   intro σ _
   refine zr ?_
   replace dj := (dj.ch iK.ch).ch wL.ch
   refine zo (J0c rfl rfl (wrap_i64 (natbd yw dj.bd))) (zm rfl (zn ?_))
   replace dn := dn.ch wL.ch
   replace gS := gS.ch wL.ch
   have Z15 := iK.ch.trans wL.ch
   replace d5 := d5.ch Z15
   replace eA := eA.ch Z15
   replace hB := (hB.trans iK.fr).trans wL.fr
   exact hX3 _ H _ _ ⟨M5, ⟨rfl, rfl, rfl, rfl, rfl, rfl, rfl, rfl, trivial⟩, hO, M6, dj, dn, d5, eA, gS, hB⟩
  replace H := ifn Et H
  refine zo (fun w => opB (J0L rfl rfl w) (decide_eq_false Et)) (zn (zf rfl rfl (zk ?_)))
  refine Go1.inBlock ?_
  refine zr ?_
  replace dj := dj.ch iK.ch
  refine zo (J0c rfl rfl (wrap_i64 (natbd yw dj.bd))) (zm rfl (zn ?_))
  replace dn := dn.ch iK.ch
  replace d5 := d5.ch iK.ch
  replace eA := eA.ch iK.ch
  replace gS := gS.ch iK.ch
  replace hB := hB.trans iK.fr
  exact hX3 _ H _ _ ⟨Er, ⟨rfl, rfl, rfl, rfl, rfl, rfl, rfl, rfl, trivial⟩, hO, uV, dj, dn, d5, eA, gS, hB⟩
 replace H := ifn yw H
 refine zo (fun w => opB (J08 rfl rfl w) (decide_eq_false yw)) (zn (zq (zf rfl rfl ?_)))
 refine Go1.exit rfl ?_
 refine zq (zr (zs (J0j (vs := [.int .i64 r159.Letters, .int .i64 r159.Start, .slice f5 r159.Final.length f6, .slice gA r159.Next.length gB]) (i := 0) 1 hO rfl rfl Try.underlying25 rfl ti25 rfl) (zm rfl ?_)))
 have zz := J0b (us := [.int .i64 r159.Letters, .int .i64 r159.Start, .slice f5 r159.Final.length f6, .slice gA r159.Next.length gB]) (o := 0) (cs' := #[.int .i64 r159.Letters, .int .i64 r159.Start, .slice f5 r159.Final.length f6, .slice gA r159.Next.length gB]) 2 hO rfl rfl (Nat.le_of_ble_eq_true rfl) rfl
 obtain ⟨Vw, vP, Je⟩ := zz
 refine zg (Je ti25 (by exact rfl) (by exact rfl) rfl) ?_
 replace hO := vP.own
 refine za rfl (zn ?_)
 replace yT := yT.ch vP.ch
 have zz := freeze 0 hO rfl yT
 obtain ⟨hO1, Az, M7, M8⟩ := zz
 replace hO := hO1; clear hO1
 refine Go1.retC2 Try.func66 rfl rfl (J0f (vs := [.int .i64 r159.Letters, .int .i64 r159.Start, .slice f5 r159.Final.length f6, .slice gA r159.Next.length gB]) 1 hO rfl rfl Try.underlying25 rfl ti25) ?_
 have Z16 := vP.ch.trans Az
 replace d5 := d5.ch Z16
 replace eA := eA.ch Z16
 replace hB := (hB.trans vP.fr).trans (Owns.J09 _ _ 0)
 exact ⟨(⟨r159.Letters, r159.Start, r159.Final, r159.Next⟩ : DFA), d_187, f5, f6, gA, gB, uT, r14.length, (congrArg (fun l => Value.tuple (List.toArray l)) (J0h rfl (J0h (congrArg (fun nn => Value.slice uT nn r14.length) M8) rfl))), hB.same, (d5.ch (Ch.weak _ _ _)), (eA.ch (Ch.weak _ _ _)), (M7.ch (Ch.weak _ _ _)), H⟩
theorem body22 : Body Try.prog 22 := ⟨Try.f22, Try.func22, rfl, by kernel_rfl⟩
theorem walk_minimize_Minimal {A : List Nat} {w0 : World} {aQ : Option Addr} {aR : Nat} {aW : Option Addr} {aX : Nat} {d : DFA} (hA : ∀ b ∈ A, b < w0.heap.size) (aa : ISl (Rp.bool) A w0 aQ aR d.Final) (ai : ISl (Rp.sl (Rp.int .i64)) A w0 aW aX d.Next) {K : DFA → Prop} (H : J0X d K) :
    CallsV Try.prog 22 #[.agg #[.int .i64 d.Letters, .int .i64 d.Start, .slice aQ d.Final.length aR, .slice aW d.Next.length aX]] w0 (fun v w' => ∃ (r0 : DFA) (iT : Option Addr) (iU : Nat) (jy : Option Addr) (jz : Nat), v = .agg #[.int .i64 r0.Letters, .int .i64 r0.Start, .slice iT r0.Final.length iU, .slice jy r0.Next.length jz] ∧ Same w0 w' ∧ ISl (Rp.bool) A w' iT iU r0.Final ∧ ISl (Rp.sl (Rp.int .i64)) A w' jy jz r0.Next ∧ K r0) := by
 refine CallsV.of (l := [.agg #[.int .i64 d.Letters, .int .i64 d.Start, .slice aQ d.Final.length aR, .slice aW d.Next.length aX]]) Try.func22 rfl Try.ntmps22 rfl ?_
 have hO := Owns.start hA
 have hB := Fr.refl (bl []) w0
 unfold J0X at H
 refine zq (zr ?_)
 have zz := obox (t := 25) (v := .agg #[.int .i64 d.Letters, .int .i64 d.Start, .slice aQ d.Final.length aR, .slice aW d.Next.length aX]) (cs := #[.int .i64 d.Letters, .int .i64 d.Start, .slice aQ d.Final.length aR, .slice aW d.Next.length aX]) hO rfl
 obtain ⟨w1, B2, cB, hs4, ic⟩ := zz
 refine zg (ic rfl) ?_
 replace hO := cB.own
 have zz := oalloc (t := 25) (cs := #[.int .i64 0, .int .i64 0, .slice none 0 0, .slice none 0 0]) ti25 hO rfl
 obtain ⟨w7, B8, ja, xq, tI⟩ := zz
 refine GoR.op tI rfl rfl ?_
 replace hO := ja.own
 refine zn (zq (zq (zr (zs (J0j (vs := [.int .i64 d.Letters, .int .i64 d.Start, .slice aQ d.Final.length aR, .slice aW d.Next.length aX]) (i := 0) 1 hO rfl rfl Try.underlying25 rfl ti25 rfl) ?_))))
 have Z1 := ((Ch.start A w0).trans cB.ch).trans ja.ch
 replace aa := aa.ch Z1
 replace ai := ai.ch Z1
 refine GoR.call (J0a body61 rfl (J0P (d := d) hO.lt aa ai H)) rfl rfl ?_
 rintro v17 w14 ⟨r13, rfl, xP, H⟩
 have gG := Stp.same hO xP
 replace hO := gG.own
 by_cases h19 : r13 = (0 : Int)
 ·replace H := ifp h19 H
  refine zo (fun w => opB (J0g rfl rfl w) (ndT h19)) (zn (zf rfl rfl (zk (zq (zr ?_)))))
  refine zs (J0j (vs := [.int .i64 d.Letters, .int .i64 d.Start, .slice aQ d.Final.length aR, .slice aW d.Next.length aX]) (i := 0) 1 hO rfl rfl Try.underlying25 rfl ti25 rfl) ?_
  replace aa := aa.ch gG.ch
  replace ai := ai.ch gG.ch
  refine GoR.call (J0a body66 rfl (walk_minimize_minimal (a0 := d) hO.lt aa ai H)) rfl rfl ?_
  rintro v25 w22 ⟨r20, r21, o7, o8, qO, qP, fq, ft, rfl, F1, o9, qQ, yU, H⟩
  have mS := Stp.same hO F1
  replace hO := mS.own
  refine zm rfl (zo (J07 rfl rfl) (zo (J07 rfl rfl) ?_))
  have zz := oalloc (t := 25) (cs := #[.int .i64 0, .int .i64 0, .slice none 0 0, .slice none 0 0]) ti25 hO rfl
  obtain ⟨w27, B28, um, QK, D9⟩ := zz
  refine GoR.op D9 rfl rfl ?_
  replace hO := um.own
  have zz := J0b (us := [.int .i64 r20.Letters, .int .i64 r20.Start, .slice o7 r20.Final.length o8, .slice qO r20.Next.length qP]) (o := 0) (cs' := #[.int .i64 r20.Letters, .int .i64 r20.Start, .slice o7 r20.Final.length o8, .slice qO r20.Next.length qP]) 0 hO rfl rfl (Nat.le_of_ble_eq_true rfl) rfl
  obtain ⟨w33, qM, M9⟩ := zz
  refine zg (M9 ti25 (by exact rfl) (by exact rfl) rfl) ?_
  replace hO := qM.own
  refine za rfl (zn (zq (zr (zs (J0j (vs := [.int .i64 r20.Letters, .int .i64 r20.Start, .slice o7 r20.Final.length o8, .slice qO r20.Next.length qP]) (i := 0) 0 hO rfl rfl Try.underlying25 rfl ti25 rfl) ?_))))
  have zz := J0b (us := [.int .i64 r20.Letters, .int .i64 r20.Start, .slice o7 r20.Final.length o8, .slice qO r20.Next.length qP]) (o := 0) (cs' := #[.int .i64 r20.Letters, .int .i64 r20.Start, .slice o7 r20.Final.length o8, .slice qO r20.Next.length qP]) 1 hO rfl rfl (Nat.le_of_ble_eq_true rfl) rfl
  obtain ⟨w36, po, Ea⟩ := zz
  refine zg (Ea ti25 (by exact rfl) (by exact rfl) rfl) ?_
  replace hO := po.own
  refine zn ?_
  refine Go1.retC1 Try.func22 rfl rfl (J0f (vs := [.int .i64 r20.Letters, .int .i64 r20.Start, .slice o7 r20.Final.length o8, .slice qO r20.Next.length qP]) 1 hO rfl rfl Try.underlying25 rfl ti25) ?_
  have Z2 := (um.ch.trans qM.ch).trans po.ch
  replace o9 := o9.ch Z2
  replace qQ := qQ.ch Z2
  replace hB := ((((((hB.trans cB.fr).trans ja.fr).trans gG.fr).trans mS.fr).trans um.fr).trans qM.fr).trans po.fr
  exact ⟨(⟨r20.Letters, r20.Start, r20.Final, r20.Next⟩ : DFA), o7, o8, qO, qP, rfl, hB.same, (o9.ch (Ch.weak _ _ _)), (qQ.ch (Ch.weak _ _ _)), H⟩
 replace H := ifn h19 H
 refine zo (fun w => opB (J0g rfl rfl w) (ndF h19)) (zn (zt rfl rfl (zq (zr (zo (J0q Try.underlying25 ti25 (pl := [(0, 1), (1, 1), (2, 1), (3, 1)]) (vs := []) (cs := #[.int .i64 0, .int .i64 0, .slice none 0 0, .slice none 0 0]) (by kernel_rfl) rfl (by kernel_rfl)) ?_)))))
 have zz := J0b (us := [.int .i64 0, .int .i64 0, .slice none 0 0, .slice none 0 0]) (o := 0) (cs' := #[.int .i64 0, .int .i64 0, .slice none 0 0, .slice none 0 0]) 0 hO rfl rfl (Nat.le_of_ble_eq_true rfl) rfl
 obtain ⟨w39, Ca, Na⟩ := zz
 refine zg (Na ti25 (by exact rfl) (by exact rfl) rfl) ?_
 replace hO := Ca.own
 refine zn ?_
 refine Go1.retC1 Try.func22 rfl rfl (J0f (vs := [.int .i64 0, .int .i64 0, .slice none 0 0, .slice none 0 0]) 0 hO rfl rfl Try.underlying25 rfl ti25) ?_
 replace hB := (((hB.trans cB.fr).trans ja.fr).trans gG.fr).trans Ca.fr
 exact ⟨(⟨(0 : Int), (0 : Int), ([] : List Bool), ([] : List (List Int))⟩ : DFA), none, 0, none, 0, rfl, hB.same, (ISl.null _ _ _), (ISl.null _ _ _), H⟩
theorem body154 : Body Try.prog 154 := ⟨Try.f154, Try.func154, rfl, by kernel_rfl⟩
theorem walk_trans_Valid {A : List Nat} {w0 : World} {p_f : Option Addr} {c_f : Nat} {f : List Int} (hA : ∀ b ∈ A, b < w0.heap.size) (h_f : ISl (Rp.int .i64) A w0 p_f c_f f) {K : Bool → Prop} (H : trans_Valid f K) :
    CallsV Try.prog 154 #[.slice p_f f.length c_f] w0 (fun v w' => ∃ (r0 : Bool), v = .bool r0 ∧ Same w0 w' ∧ K r0) := by
 refine CallsV.of (l := [.slice p_f f.length c_f]) Try.func154 rfl Try.ntmps154 rfl ?_
 have hO := Owns.start hA
 have hB := Fr.refl (bl []) w0
 unfold trans_Valid at H
 refine zq (zr (za rfl (zn (zq (zq ?_)))))
 refine zr (zm rfl (zo (J0d Try.underlying31 rfl) ?_))
 replace h_f := h_f.ch (Ch.start A w0)
 replace H := H h_f.bd
 by_cases h1 : (f.length : Int) < (1 : Int)
 ·replace H := ifp h1 H
  refine zo (fun w => opB (J08 rfl rfl w) (decide_eq_true h1)) (zm rfl (zp (zp (zp (zo (J05 rfl rfl rfl) ?_)))))
  refine zn (zt rfl rfl (zq (zr (za rfl (zn ?_)))))
  refine Go1.ret1 Try.func154 rfl ?_
  exact ⟨false, rfl, hB.same, H⟩
 replace H := ifn h1 H
 refine zo (fun w => opB (J08 rfl rfl w) (decide_eq_false h1)) (zm rfl (zm rfl (zo (J0d Try.underlying31 rfl) ?_)))
 by_cases h2 : (32 : Int) < (f.length : Int)
 ·replace H := ifp h2 H
  refine zo (fun w => opB (J0M rfl rfl w) (decide_eq_true h2)) (zo (J04 rfl rfl rfl) (zn (zt rfl rfl (zq (zr ?_)))))
  refine za rfl (zn ?_)
  refine Go1.ret1 Try.func154 rfl ?_
  exact ⟨false, rfl, hB.same, H⟩
 replace H := ifn h2 H
 refine zo (fun w => opB (J0M rfl rfl w) (decide_eq_false h2)) (zo (J04 rfl rfl rfl) (zn (zf rfl rfl (zk (zq ?_)))))
 refine zq (zr (zm rfl (zo (J0d Try.underlying31 rfl) (zm rfl (zn ?_)))))
 refine zb ?_
 refine Go1.loopW (S := Nat) (fun s σ w => agrees σ [(0, .slice p_f f.length c_f), (13, .slice p_f f.length c_f), (14, .int .i64 (f.length : Int)), (15, .int .i64 (s : Int))] ∧ Owns w0.heap.size w [] A ∧ ISl (Rp.int .i64) (bl [] ++ A) w p_f c_f f ∧ Fr (bl []) w0 (bl []) w) H ⟨⟨rfl, rfl, rfl, rfl, trivial⟩, hO, h_f, hB⟩ ?_
 intro X1 k1_4
 intro H hX1 σ w3
 refine andE fun hag => andE fun hO => andE fun h_f => fun hB => ?_
 refine Go1.keep [(0, .slice p_f f.length c_f), (13, .slice p_f f.length c_f), (14, .int .i64 (f.length : Int)), (15, .int .i64 (k1_4 : Int))] hag ?_
 refine zq (zr ?_)
 by_cases h5 : (k1_4 : Int) < (f.length : Int)
 ·replace H := ifp h5 H
  refine zo (fun w => opB (J08 rfl rfl w) (decide_eq_true h5)) (zn (zq (zt rfl rfl (zk (zq ?_)))))
  refine zb (zq (zr ?_))
  obtain ⟨h6, H⟩ := H
  obtain ⟨h7, H⟩ := H
  refine zo (J02 Try.underlying31 ti3 rfl rfl h6 h7 (h_f.some_ h6 h7)) (zs (ldInt h_f h6 h7 Try.underlying3 rfl rfl) (za rfl (zn (zq (zr ?_)))))
  refine zm rfl ?_
  by_cases h8 : (ix f (k1_4 : Int)) < (0 : Int)
  ·replace H := ifp h8 H
   refine zo (fun w => opB (J08 rfl rfl w) (decide_eq_true h8)) (zm rfl (zp (zp (zp (zp ?_)))))
   refine zo (J05 rfl rfl rfl) (zn (zt rfl rfl (zq (zr (za rfl ?_)))))
   refine zn ?_
   refine Go1.ret1 Try.func154 rfl ?_
   exact ⟨false, rfl, hB.same, H⟩
  replace H := ifn h8 H
  refine zo (fun w => opB (J08 rfl rfl w) (decide_eq_false h8)) (zm rfl (zm rfl (zm rfl (zo (J0d Try.underlying31 rfl) ?_))))
  by_cases h9 : (f.length : Int) ≤ (ix f (k1_4 : Int))
  ·replace H := ifp h9 H
   refine zo (fun w => opB (J0L rfl rfl w) (decide_eq_true h9)) (zo (J04 rfl rfl rfl) (zn (zt rfl rfl (zq ?_))))
   refine Go1.cut [] trivial ?_
   intro σ _
   refine zr (za rfl (zn ?_))
   refine Go1.ret1 Try.func154 rfl ?_
   exact ⟨false, rfl, hB.same, H⟩
  replace H := ifn h9 H
  refine zo (fun w => opB (J0L rfl rfl w) (decide_eq_false h9)) (zo (J04 rfl rfl rfl) (zn (zf rfl rfl (zk ?_))))
  refine Go1.inBlock ?_
  refine zr (zo (J0c rfl rfl (wrap_i64 (natbd h5 h_f.bd))) (zm rfl (zn ?_)))
  exact hX1 _ H _ _ ⟨⟨rfl, rfl, rfl, rfl, trivial⟩, hO, h_f, hB⟩
 replace H := ifn h5 H
 refine zo (fun w => opB (J08 rfl rfl w) (decide_eq_false h5)) (zn (zq (zf rfl rfl ?_)))
 refine Go1.exit rfl ?_
 refine zq (zr (za rfl (zn ?_)))
 refine Go1.ret1 Try.func154 rfl ?_
 exact ⟨true, rfl, hB.same, H⟩
theorem body86 : Body Try.prog 86 := ⟨Try.f86, Try.func86, rfl, by kernel_rfl⟩
theorem J0I {A : List Nat} {w0 : World} {nK : Option Addr} {sI : Nat} {s_ : List Int} (hA : ∀ b ∈ A, b < w0.heap.size) (iR : ISl (Rp.int .i64) A w0 nK sI s_) {K : List Int → Prop} (H : J0t s_ K) :
    CallsV Try.prog 86 #[.slice nK s_.length sI] w0 (fun v w' => ∃ (r0 : List Int) (zL : Nat) (tV : Option Addr) (tW : Nat) (xM : List Value), v = .slice tV zL tW ∧ Same w0 w' ∧ Owns w0.heap.size w' [.row 3 1 tV zL tW xM] A ∧ Els (Rp.int .i64) (bl [.row 3 1 tV zL tW xM] ++ A) w' xM r0 ∧ K r0) := by
 refine CallsV.of (l := [.slice nK s_.length sI]) Try.func86 rfl Try.ntmps86 rfl ?_
 have hO := Owns.start hA
 have hB := Fr.refl (bl []) w0
 unfold J0t at H
 refine zq (zr (za rfl (zn (zq (zq ?_)))))
 refine zr (zm rfl ?_)
 replace iR := iR.ch (Ch.start A w0)
 replace H := H nK.isNone (fun h => iR.nilD h)
 by_cases hz2 : nK.isNone = true
 ·replace H := ifp hz2 H
  refine zo (fun w => opB (op_nilSlice Try.underlying31 rfl rfl w) (hz2)) (zn (zt rfl rfl (zq (zr (za rfl ?_)))))
  refine zn ?_
  have m3 := Stp.nil (e := 3) (r := 1) hO
  replace hO := m3.own
  have hE5 := Els.nil (Rp.int .i64) (bl (.row 3 1 none 0 0 [] :: []) ++ A) w0
  refine Go1.ret1 Try.func86 rfl ?_
  replace hB := hB.trans m3.fr
  exact ⟨(([] : List Int)), 0, none, 0, ([]), rfl, hB.same, hO, hE5, H⟩
 ·replace H := ifn hz2 H
  refine zo (fun w => opB (op_nilSlice Try.underlying31 rfl rfl w) (Bool.eq_false_iff.2 hz2)) (zn (zf rfl rfl (zk (zq (zr ?_)))))
  have zz := J0k (r := Rp.int .i64) (n := 0) (parts := []) (vs := []) (xs := ([] : List Int)) rfl Try.underlying31 ti3 hO (by decide) (by kernel_rfl) (Els.nil _ _ _) rfl
  obtain ⟨w6, p7, zM, hE9, xq, tI⟩ := zz
  refine zg (tI rfl) ?_
  replace hO := zM.own
  refine zm rfl ?_
  obtain ⟨h13, H⟩ := H
  replace iR := iR.ch zM.ch
  have zz := oapp Try.underlying31 ti3 rfl 0 hO rfl hE9 iR rfl h13 (by decide)
  obtain ⟨w14, p15, c16, lr, gG, Fp, xN⟩ := zz
  refine zg (xN (by exact rfl) (by exact rfl)) ?_
  replace hO := gG.own
  refine za rfl (zn ?_)
  refine Go1.ret1 Try.func86 rfl ?_
  replace hB := (hB.trans zM.fr).trans gG.fr
  exact ⟨((([] : List Int)) ++ s_), (0 + s_.length), p15, c16, lr, rfl, hB.same, hO, Fp, H⟩
theorem body156 : Body Try.prog 156 := ⟨Try.f156, Try.func156, rfl, by kernel_rfl⟩
theorem walk_trans_Identity {A : List Nat} {w0 : World} {n : Int} (hA : ∀ b ∈ A, b < w0.heap.size) {K : List Int → Prop} (H : J1a n K) :
    CallsV Try.prog 156 #[.int .i64 n] w0 (fun v w' => ∃ (r0 : List Int) (tV : Option Addr) (tW : Nat), v = .slice tV r0.length tW ∧ Same w0 w' ∧ ISl (Rp.int .i64) A w' tV tW r0 ∧ K r0) := by
 refine CallsV.of (l := [.int .i64 n]) Try.func156 rfl Try.ntmps156 rfl ?_
 have hO := Owns.start hA
 have hB := Fr.refl (bl []) w0
 unfold J1a at H
 refine zq (zr (za rfl (zn (zq (zq ?_)))))
 refine zr (zm rfl ?_)
 by_cases h1 : n < (1 : Int)
 ·replace H := ifp h1 H
  refine zo (fun w => opB (J08 rfl rfl w) (decide_eq_true h1)) (zm rfl (zp (zp (zo (J05 rfl rfl rfl) (zn ?_)))))
  refine zt rfl rfl (zq (zr (za rfl (zn ?_))))
  refine Go1.ret1 Try.func156 rfl ?_
  exact ⟨([] : List Int), none, 0, rfl, hB.same, (ISl.null _ _ _), H⟩
 replace H := ifn h1 H
 refine zo (fun w => opB (J08 rfl rfl w) (decide_eq_false h1)) (zm rfl (zm rfl ?_))
 by_cases h2 : (32 : Int) < n
 ·replace H := ifp h2 H
  refine zo (fun w => opB (J0M rfl rfl w) (decide_eq_true h2)) (zo (J04 rfl rfl rfl) (zn (zt rfl rfl (zq (zr ?_)))))
  refine za rfl (zn ?_)
  refine Go1.ret1 Try.func156 rfl ?_
  exact ⟨([] : List Int), none, 0, rfl, hB.same, (ISl.null _ _ _), H⟩
 replace H := ifn h2 H
 refine zo (fun w => opB (J0M rfl rfl w) (decide_eq_false h2)) (zo (J04 rfl rfl rfl) (zn (zf rfl rfl (zk (zq ?_)))))
 refine zr (zm rfl ?_)
 obtain ⟨h10, H⟩ := H
 obtain ⟨h11, H⟩ := H
 have zz := omake (n := n) (r := Rp.int .i64) (d := (0 : Int)) Try.underlying31 ti3 (fun _ _ => rfl) rfl hO h10 h11 (by decide)
 obtain ⟨w3, p4, vs5, v8, hE7, hs8, Rx⟩ := zz
 refine zg (Rx rfl rfl) ?_
 replace hO := v8.own
 refine za rfl (zn (zq (zq (zr (zm rfl ?_)))))
 refine zo (J0y Try.underlying31 rfl (hE7.neq hO 0 rfl)) (zm rfl (zn (zb ?_)))
 replace hB := hB.trans v8.fr
 refine Go1.loopW (S := Nat × List Int) (fun s σ w => match s with | (k1_14, f1_15) => ∃ (xV : List Value), agrees σ [(3, .slice p4 n.toNat n.toNat), (14, .int .i64 ((List.replicate n.toNat ((0 : Int))).length : Int)), (15, .int .i64 (k1_14 : Int))] ∧ (fun Z0 => Owns w0.heap.size w Z0 A ∧ Els (Rp.int .i64) (bl Z0 ++ A) w xV f1_15 ∧ Fr (bl []) w0 (bl Z0) w) [.row 3 1 p4 n.toNat n.toNat xV]) H ⟨vs5, ⟨rfl, rfl, rfl, trivial⟩, hO, hE7, hB⟩ ?_
 intro X1
 refine prE fun k1_14 => fun f1_15 => ?_
 intro H hX1 σ w13
 refine exE fun xV => andE fun hag => andE fun hO => andE fun xr => fun hB => ?_
 dsimp only at H
 refine Go1.keep [(3, .slice p4 n.toNat n.toNat), (14, .int .i64 ((List.replicate n.toNat ((0 : Int))).length : Int)), (15, .int .i64 (k1_14 : Int))] hag ?_
 refine zq (zr ?_)
 by_cases h18 : (k1_14 : Int) < ((List.replicate n.toNat ((0 : Int))).length : Int)
 ·replace H := ifp h18 H
  refine zo (fun w => opB (J08 rfl rfl w) (decide_eq_true h18)) (zn (zq (zt rfl rfl (zk (zq ?_)))))
  refine zb (zq (zr (zm rfl (za rfl (zn ?_)))))
  refine zr (zm rfl (zm rfl (zm rfl ?_)))
  obtain ⟨h19, H⟩ := H
  obtain ⟨h20, H⟩ := H
  refine zo (J02 Try.underlying31 ti3 rfl rfl h19 (ltn (xr.neq hO 0 rfl) h20) (xr.psome hO 0 rfl h19 h20)) ?_
  have zz := ost (r := Rp.int .i64) rfl 0 hO rfl xr h19 h20 (v := .int .i64 (k1_14 : Int)) (u := (k1_14 : Int)) rfl rfl
  obtain ⟨w21, Ga, l9, cI, Ar⟩ := zz
  refine zg (Ar Try.underlying3 rfl ti3 (by exact rfl) (by exact rfl)) ?_
  replace hO := l9.own
  refine zn ?_
  refine Go1.inBlock ?_
  refine zr ?_
  obtain ⟨h26, H⟩ := H
  refine zo (J0c rfl rfl (wrap_i64 h26)) (zm rfl (zn ?_))
  replace hB := hB.trans l9.fr
  exact hX1 _ H _ _ ⟨Ga, ⟨rfl, rfl, rfl, trivial⟩, hO, cI, hB⟩
 replace H := ifn h18 H
 refine zo (fun w => opB (J08 rfl rfl w) (decide_eq_false h18)) (zn (zq (zf rfl rfl ?_)))
 refine Go1.exit rfl ?_
 refine zq (zr (zm rfl (za rfl (zn ?_))))
 have zz := freeze 0 hO rfl xr
 obtain ⟨hO1, Vx, Ry, Rz⟩ := zz
 replace hO := hO1; clear hO1
 refine Go1.ret1 Try.func156 rfl ?_
 replace hB := hB.trans (Owns.J09 _ _ 0)
 exact ⟨f1_15, p4, n.toNat, (congrArg (fun nn => Value.slice p4 nn n.toNat) Rz), hB.same, (Ry.ch (Ch.weak _ _ _)), H⟩
theorem body157 : Body Try.prog 157 := ⟨Try.f157, Try.func157, rfl, by kernel_rfl⟩
theorem J0n {A : List Nat} {w0 : World} {p_f : Option Addr} {c_f : Nat} {f : List Int} (hA : ∀ b ∈ A, b < w0.heap.size) (h_f : ISl (Rp.int .i64) A w0 p_f c_f f) {K : Str → Prop} (H : J0o f K) :
    CallsV Try.prog 157 #[.slice p_f f.length c_f] w0 (fun v w' => ∃ (r0 : Str), v = .string (gstr r0) ∧ Same w0 w' ∧ r0.length ≤ mx ∧ K r0) := by
 refine CallsV.of (l := [.slice p_f f.length c_f]) Try.func157 rfl Try.ntmps157 rfl ?_
 have hO := Owns.start hA
 have hB := Fr.refl (bl []) w0
 unfold J0o at H
 refine zq (zr (za rfl (zn (zq (zr ?_)))))
 refine zm rfl (zo (J0d Try.underlying31 rfl) ?_)
 replace h_f := h_f.ch (Ch.start A w0)
 replace H := H h_f.bd
 obtain ⟨h8, H⟩ := H
 obtain ⟨h9, H⟩ := H
 have zz := omake (n := (f.length : Int)) (r := Rp.int .u8) (d := (0 : Int)) Try.underlying126 ti5 (fun _ _ => rfl) rfl hO h8 h9 (by decide)
 obtain ⟨w1, p2, vs3, m3, hE5, hs6, C1⟩ := zz
 refine zg (C1 rfl rfl) ?_
 replace hO := m3.own
 refine za rfl (zn (zq (zq (zr (zm rfl ?_)))))
 refine zo (J0d Try.underlying31 rfl) (zm rfl (zn (zb ?_)))
 replace h_f := h_f.ch m3.ch
 replace hB := hB.trans m3.fr
 refine Go1.loopW (S := Nat × List Int) (fun s σ w => match s with | (k1_12, b1_13) => ∃ (pc : List Value), agrees σ [(3, .slice p2 f.length f.length), (9, .slice p_f f.length c_f), (10, .int .i64 (f.length : Int)), (11, .int .i64 (k1_12 : Int))] ∧ (fun Z0 => Owns w0.heap.size w Z0 A ∧ Els (Rp.int .u8) (bl Z0 ++ A) w pc b1_13 ∧ ISl (Rp.int .i64) (bl Z0 ++ A) w p_f c_f f ∧ Fr (bl []) w0 (bl Z0) w) [.row 5 1 p2 f.length f.length pc]) H ⟨vs3, ⟨rfl, rfl, rfl, rfl, trivial⟩, hO, hE5, h_f, hB⟩ ?_
 intro X1
 refine prE fun k1_12 => fun b1_13 => ?_
 intro H hX1 σ w11
 refine exE fun pc => andE fun hag => andE fun hO => andE fun ca => andE fun h_f => fun hB => ?_
 dsimp only at H
 refine Go1.keep [(3, .slice p2 f.length f.length), (9, .slice p_f f.length c_f), (10, .int .i64 (f.length : Int)), (11, .int .i64 (k1_12 : Int))] hag ?_
 refine zq (zr ?_)
 by_cases h16 : (k1_12 : Int) < (f.length : Int)
 ·replace H := ifp h16 H
  refine zo (fun w => opB (J08 rfl rfl w) (decide_eq_true h16)) (zn (zq (zt rfl rfl (zk (zq ?_)))))
  refine zb (zq (zr (zm rfl ?_)))
  obtain ⟨h17, H⟩ := H
  obtain ⟨h18, H⟩ := H
  refine zo (J02 Try.underlying31 ti3 rfl rfl h17 h18 (h_f.some_ h17 h18)) (zs (ldInt h_f h17 h18 Try.underlying3 rfl rfl) (za rfl (za rfl (zn (zr ?_)))))
  refine zm rfl (zm rfl (zm rfl (zo (op_conv Try.underlying3 Try.underlying5 rfl rfl) ?_)))
  obtain ⟨h19, H⟩ := H
  obtain ⟨h20, H⟩ := H
  refine zo (J02 Try.underlying126 ti5 rfl rfl h19 (ltn (ca.neq hO 0 rfl) h20) (ca.psome hO 0 rfl h19 h20)) ?_
  have zz := ost (r := Rp.int .u8) rfl 0 hO rfl ca h19 h20 (v := .int .u8 (IntKind.u8.wrap (ix f (k1_12 : Int)))) (u := (IntKind.u8.wrap (ix f (k1_12 : Int)))) rfl rfl
  obtain ⟨w21, Ga, l9, cI, Ar⟩ := zz
  refine zg (Ar Try.underlying5 rfl ti5 (by exact rfl) (by exact rfl)) ?_
  replace hO := l9.own
  refine zn ?_
  refine Go1.inBlock ?_
  refine zr ?_
  replace h_f := h_f.ch l9.ch
  refine zo (J0c rfl rfl (wrap_i64 (natbd h16 h_f.bd))) (zm rfl (zn ?_))
  replace hB := hB.trans l9.fr
  exact hX1 _ H _ _ ⟨Ga, ⟨rfl, rfl, rfl, rfl, trivial⟩, hO, cI, h_f, hB⟩
 replace H := ifn h16 H
 refine zo (fun w => opB (J08 rfl rfl w) (decide_eq_false h16)) (zn (zq (zf rfl rfl ?_)))
 refine Go1.exit rfl ?_
 refine zq (zr (zm rfl ?_))
 have hle26 := byt_le ca.bd
 refine zs (oldBytes 0 hO rfl ca Try.underlying126 Try.underlying5 Try.underlying9 rfl) (za rfl (zn ?_))
 refine Go1.ret1 Try.func157 rfl ?_
 exact ⟨byt b1_13, rfl, hB.same, hle26, H⟩
end Sg
