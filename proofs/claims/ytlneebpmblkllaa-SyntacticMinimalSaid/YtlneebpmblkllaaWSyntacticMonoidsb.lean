/- -/
import Derived.Test.YtlneebpmblkllaaTi
import Derived.Test.YtlneebpmblkllaaWSyntacticMonoids
import Derived.Test.YtlneebpmblkllaaAl
namespace Sg
open Go Go.RowKit Go.Proofs
set_option linter.unusedVariables false
set_option linter.unusedSimpArgs false
set_option maxRecDepth 100000
set_option maxHeartbeats 4000000
theorem body66 : Body Try.prog 66 := ⟨Try.f66, Try.func66, rfl, by kernel_rfl⟩
theorem walk_minimize_minimal {A : List Nat} {w0 : World} {bj : Option Addr} {bk : Nat} {bv : Option Addr} {bw : Nat} {a0 : DFA} (hA : ∀ b ∈ A, b < w0.heap.size) (aq : ISl (Rp.bool) A w0 bj bk a0.Final) (av : ISl (Rp.sl (Rp.int .i64)) A w0 bv bw a0.Next) {K : DFA → List Int → Prop} (H : minimize_minimal a0 K) :
    CallsV Try.prog 66 #[.agg #[.int .i64 a0.Letters, .int .i64 a0.Start, .slice bj a0.Final.length bk, .slice bv a0.Next.length bw]] w0 (fun v w' => ∃ (r0 : DFA), ∃ (r1 : List Int), ∃ (jo : Option Addr), ∃ (jp : Nat), ∃ (kq : Option Addr), ∃ (kr : Nat), ∃ (BM : Option Addr), ∃ (BN : Nat), v = .tuple #[.agg #[.int .i64 r0.Letters, .int .i64 r0.Start, .slice jo r0.Final.length jp, .slice kq r0.Next.length kr], .slice BM r1.length BN] ∧ Same w0 w' ∧ ISl (Rp.bool) A w' jo jp r0.Final ∧ ISl (Rp.sl (Rp.int .i64)) A w' kq kr r0.Next ∧ ISl (Rp.int .i64) A w' BM BN r1 ∧ K r0 r1) := by
 refine CallsV.of (l := [.agg #[.int .i64 a0.Letters, .int .i64 a0.Start, .slice bj a0.Final.length bk, .slice bv a0.Next.length bw]]) Try.func66 rfl Try.ntmps66 rfl ?_
 have hO := Owns.start hA
 have hB := Fr.refl (bl []) w0
 unfold minimize_minimal at H
 refine zq (zr ?_)
 have hobt := obox (t := 25) (v := .agg #[.int .i64 a0.Letters, .int .i64 a0.Start, .slice bj a0.Final.length bk, .slice bv a0.Next.length bw]) (cs := #[.int .i64 a0.Letters, .int .i64 a0.Start, .slice bj a0.Final.length bk, .slice bv a0.Next.length bw]) hO rfl
 obtain ⟨w1, B2, dG, hs4, lb⟩ := hobt
 refine zg (lb rfl) ?_
 replace hO := dG.own
 have hobt := oalloc (t := 25) (cs := #[.int .i64 (0 : Int), .int .i64 (0 : Int), .slice none 0 0, .slice none 0 0]) ti25 hO rfl
 obtain ⟨w7, B8, gr, xa, tn⟩ := hobt
 refine GoR.op tn rfl rfl ?_
 replace hO := gr.own
 refine za rfl (zn (zq (zr (zs (oblkAgg (vs := [.int .i64 a0.Letters, .int .i64 a0.Start, .slice bj a0.Final.length bk, .slice bv a0.Next.length bw]) (i := 0) 1 hO rfl rfl Try.underlying25 rfl ti25 rfl) ?_))))
 have Z1 := ((Ch.start A w0).trans dG.ch).trans gr.ch
 replace aq := aq.ch Z1
 replace av := av.ch Z1
 refine GoR.call (op_call body109 rfl (walk_dfa_Trim (d := a0) hO.lt aq av H)) rfl rfl ?_
 rintro v18 w15 ⟨r13, r14, du, dw, dE, dF, sc, sd, rfl, Fm, a8, bn, cP, H⟩
 have mM := Stp.same hO Fm
 replace hO := mM.own
 refine zm rfl (zo (op_extract rfl rfl) (zo (op_extract rfl rfl) ?_))
 have hobt := oalloc (t := 25) (cs := #[.int .i64 (0 : Int), .int .i64 (0 : Int), .slice none 0 0, .slice none 0 0]) ti25 hO rfl
 obtain ⟨w20, B21, mO, Fo, zO⟩ := hobt
 refine GoR.op zO rfl rfl ?_
 replace hO := mO.own
 have hobt := oblkStAgg (us := [.int .i64 r13.Letters, .int .i64 r13.Start, .slice du r13.Final.length dw, .slice dE r13.Next.length dF]) (o := 0) (cs' := #[.int .i64 r13.Letters, .int .i64 r13.Start, .slice du r13.Final.length dw, .slice dE r13.Next.length dF]) 0 hO rfl rfl (Nat.le_of_ble_eq_true rfl) rfl
 obtain ⟨w26, rp, L1⟩ := hobt
 refine zg (L1 ti25 (by exact rfl) (by exact rfl) rfl) ?_
 replace hO := rp.own
 refine za rfl (zn (zq (zr (zs (oblkAgg (vs := [.int .i64 r13.Letters, .int .i64 r13.Start, .slice du r13.Final.length dw, .slice dE r13.Next.length dF]) (i := 0) 0 hO rfl rfl Try.underlying25 rfl ti25 rfl) ?_))))
 have Z2 := mO.ch.trans rp.ch
 replace a8 := a8.ch Z2
 replace bn := bn.ch Z2
 refine GoR.call (op_call body110 rfl (walk_minimize_Classes (a0 := r13) hO.lt a8 bn H)) rfl rfl ?_
 rintro v33 w30 ⟨r29, mB, mC, rfl, Qz, cS, H⟩
 have po := Stp.same hO Qz
 replace hO := po.own
 refine za rfl (zn (zq (zr (zo (op_fieldAddr Try.underlying25 rfl ti3 rfl (by decide)) (zs (oblk (i := 0) 2 hO rfl rfl Try.underlying3 rfl rfl) ?_)))))
 refine zo (op_build Try.underlying25 ti25 (pl := [(0, 1), (1, 1), (2, 1), (3, 1)]) (vs := [(0, .int .i64 a0.Letters)]) (cs := #[.int .i64 a0.Letters, .int .i64 (0 : Int), .slice none 0 0, .slice none 0 0]) (by kernel_rfl) rfl (by kernel_rfl)) ?_
 have hobt := oalloc (t := 25) (cs := #[.int .i64 (0 : Int), .int .i64 (0 : Int), .slice none 0 0, .slice none 0 0]) ti25 hO rfl
 obtain ⟨w35, B36, gN, Uq, L5⟩ := hobt
 refine GoR.op L5 rfl rfl ?_
 replace hO := gN.own
 have hobt := oblkStAgg (us := [.int .i64 a0.Letters, .int .i64 (0 : Int), .slice none 0 0, .slice none 0 0]) (o := 0) (cs' := #[.int .i64 a0.Letters, .int .i64 (0 : Int), .slice none 0 0, .slice none 0 0]) 0 hO rfl rfl (Nat.le_of_ble_eq_true rfl) rfl
 obtain ⟨w41, pp, zL⟩ := hobt
 refine zg (zL ti25 (by exact rfl) (by exact rfl) rfl) ?_
 replace hO := pp.own
 refine zn (zq (zq ?_))
 refine Go1.cut [(1, .pointer (some ⟨B2, 0, none⟩)), (2, .pointer (some ⟨B8, 0, none⟩)), (4, .pointer (some ⟨B21, 0, none⟩)), (5, .slice sc r14.length sd), (6, .slice mB r29.length mC), (7, .pointer (some ⟨B36, 0, none⟩))] ⟨rfl, rfl, rfl, rfl, rfl, rfl, trivial⟩ ?_
 intro σ _
 refine zr (zm rfl (zo (op_len Try.underlying31 rfl) ?_))
 replace cS := (cS.ch gN.ch).ch pp.ch
 replace H := H cS.bd
 refine zm rfl (zn (zb ?_))
 have v8 := Stp.nil (e := 4) (r := 1) hO
 replace hO := v8.own
 have Fp := Els.nil (Rp.bool) (bl (.row 4 1 none 0 0 [] :: [.blk B36 (.cells #[.int .i64 a0.Letters, .int .i64 (0 : Int), .slice none 0 0, .slice none 0 0] 25 (0, 0)), .blk B21 (.cells #[.int .i64 r13.Letters, .int .i64 r13.Start, .slice du r13.Final.length dw, .slice dE r13.Next.length dF] 25 (0, 0)), .blk B8 (.cells #[.int .i64 (0 : Int), .int .i64 (0 : Int), .slice none 0 0, .slice none 0 0] 25 (0, 0)), .blk B2 (.cells #[.int .i64 a0.Letters, .int .i64 a0.Start, .slice bj a0.Final.length bk, .slice bv a0.Next.length bw] 25 (0, 0))]) ++ A) w41
 have iC := Stp.nil (e := 31) (r := 1) hO
 replace hO := iC.own
 have EO := Els.nil (Rp.sl (Rp.int .i64)) (bl (.row 31 1 none 0 0 [] :: [.row 4 1 none 0 0 [], .blk B36 (.cells #[.int .i64 a0.Letters, .int .i64 (0 : Int), .slice none 0 0, .slice none 0 0] 25 (0, 0)), .blk B21 (.cells #[.int .i64 r13.Letters, .int .i64 r13.Start, .slice du r13.Final.length dw, .slice dE r13.Next.length dF] 25 (0, 0)), .blk B8 (.cells #[.int .i64 (0 : Int), .int .i64 (0 : Int), .slice none 0 0, .slice none 0 0] 25 (0, 0)), .blk B2 (.cells #[.int .i64 a0.Letters, .int .i64 a0.Start, .slice bj a0.Final.length bk, .slice bv a0.Next.length bw] 25 (0, 0))]) ++ A) w41
 replace Fp := Fp.ch iC.ch
 replace cS := (cS.ch v8.ch).ch iC.ch
 have Z3 := (((po.ch.trans gN.ch).trans pp.ch).trans v8.ch).trans iC.ch
 replace a8 := a8.ch Z3
 replace bn := bn.ch Z3
 have Z4 := ((((Z2.trans po.ch).trans gN.ch).trans pp.ch).trans v8.ch).trans iC.ch
 replace cP := cP.ch Z4
 have Z5 := ((((((mM.ch.trans mO.ch).trans rp.ch).trans po.ch).trans gN.ch).trans pp.ch).trans v8.ch).trans iC.ch
 replace aq := aq.ch Z5
 replace av := av.ch Z5
 replace hB := (((((((((hB.trans dG.fr).trans gr.fr).trans mM.fr).trans mO.fr).trans rp.fr).trans po.fr).trans gN.fr).trans pp.fr).trans v8.fr).trans iC.fr
 refine Go1.loopW (S := Nat × List (List Int) × List Bool) (fun s σ w => match s with | (k1_51, d_52, d_58) => ∃ (n57 : Nat), ∃ (p55 : Option Addr), ∃ (c56 : Nat), ∃ (ks : List Value), ∃ (n63 : Nat), ∃ (p61 : Option Addr), ∃ (c62 : Nat), ∃ (kt : List Value), agrees σ [(1, .pointer (some ⟨B2, 0, none⟩)), (2, .pointer (some ⟨B8, 0, none⟩)), (4, .pointer (some ⟨B21, 0, none⟩)), (5, .slice sc r14.length sd), (6, .slice mB r29.length mC), (7, .pointer (some ⟨B36, 0, none⟩)), (28, .slice mB r29.length mC), (29, .int .i64 (r29.length : Int)), (30, .int .i64 (k1_51 : Int))] ∧ (fun Z0 => Owns w0.heap.size w Z0 A ∧ Els (Rp.sl (Rp.int .i64)) (bl Z0 ++ A) w ks d_52 ∧ Els (Rp.bool) (bl Z0 ++ A) w kt d_58 ∧ ISl (Rp.bool) (bl Z0 ++ A) w bj bk a0.Final ∧ ISl (Rp.sl (Rp.int .i64)) (bl Z0 ++ A) w bv bw a0.Next ∧ ISl (Rp.bool) (bl Z0 ++ A) w du dw r13.Final ∧ ISl (Rp.sl (Rp.int .i64)) (bl Z0 ++ A) w dE dF r13.Next ∧ ISl (Rp.int .i64) (bl Z0 ++ A) w sc sd r14 ∧ ISl (Rp.int .i64) (bl Z0 ++ A) w mB mC r29 ∧ Fr (bl []) w0 (bl Z0) w) [.row 31 1 p55 n57 c56 ks, .row 4 1 p61 n63 c62 kt, .blk B36 (.cells #[.int .i64 a0.Letters, .int .i64 (0 : Int), .slice p61 n63 c62, .slice p55 n57 c56] 25 (0, 0)), .blk B21 (.cells #[.int .i64 r13.Letters, .int .i64 r13.Start, .slice du r13.Final.length dw, .slice dE r13.Next.length dF] 25 (0, 0)), .blk B8 (.cells #[.int .i64 (0 : Int), .int .i64 (0 : Int), .slice none 0 0, .slice none 0 0] 25 (0, 0)), .blk B2 (.cells #[.int .i64 a0.Letters, .int .i64 a0.Start, .slice bj a0.Final.length bk, .slice bv a0.Next.length bw] 25 (0, 0))]) H ⟨0, none, 0, [], 0, none, 0, [], ⟨rfl, rfl, rfl, rfl, rfl, rfl, rfl, rfl, rfl, trivial⟩, hO, EO, Fp, aq, av, a8, bn, cP, cS, hB⟩ ?_
 intro X1
 refine prE fun k1_51 => prE fun d_52 => fun d_58 => ?_
 intro H hX1 σ w50
 refine exE fun n57 => exE fun p55 => exE fun c56 => exE fun ks => exE fun n63 => exE fun p61 => exE fun c62 => exE fun kt => andE fun hag => andE fun hO => andE fun jN => andE fun rN => andE fun aq => andE fun av => andE fun a8 => andE fun bn => andE fun cP => andE fun cS => fun hB => ?_
 dsimp only at H
 refine Go1.keep [(1, .pointer (some ⟨B2, 0, none⟩)), (2, .pointer (some ⟨B8, 0, none⟩)), (4, .pointer (some ⟨B21, 0, none⟩)), (5, .slice sc r14.length sd), (6, .slice mB r29.length mC), (7, .pointer (some ⟨B36, 0, none⟩)), (28, .slice mB r29.length mC), (29, .int .i64 (r29.length : Int)), (30, .int .i64 (k1_51 : Int))] hag ?_
 refine zq (zr ?_)
 by_cases h64 : (k1_51 : Int) < (r29.length : Int)
 ·replace H := ifp h64 H
  refine zo (fun w => opB (op_lss rfl rfl w) (decide_eq_true h64)) (zn (zq (zt rfl rfl (zk (zq ?_)))))
  refine zb (zq (zr (zm rfl ?_)))
  obtain ⟨h65, H⟩ := H
  obtain ⟨h66, H⟩ := H
  refine zo (op_index Try.underlying31 ti3 rfl rfl h65 h66 (cS.some_ h65 h66)) (zs (ldInt cS h65 h66 Try.underlying3 rfl rfl) (za rfl (za rfl (zn (zq ?_)))))
  refine zq (zr (zm rfl (zo (op_fieldAddr Try.underlying25 rfl ti22 rfl (by decide)) (zs (oblk (i := 2) 2 hO rfl rfl Try.underlying22 rfl rfl) (zo (op_lenN Try.underlying22 rfl (rN.neq hO 1 rfl)) ?_)))))
  by_cases h67 : (ix r29 (k1_51 : Int)) < (d_58.length : Int)
  ·replace H := ifp h67 H
   refine zo (fun w => opB (op_lss rfl rfl w) (decide_eq_true h67)) (zn (zt rfl rfl ?_))
   refine Go1.exit rfl ?_
   refine zr (zo (op_add rfl rfl (wrap_i64 (natbd h64 cS.bd))) (zm rfl (zn ?_)))
   exact hX1 _ H _ _ ⟨n57, p55, c56, ks, n63, p61, c62, kt, ⟨rfl, rfl, rfl, rfl, rfl, rfl, rfl, rfl, rfl, trivial⟩, hO, jN, rN, aq, av, a8, bn, cP, cS, hB⟩
  replace H := ifn h67 H
  refine zo (fun w => opB (op_lss rfl rfl w) (decide_eq_false h67)) (zn (zf rfl rfl (zk (zq (zr ?_)))))
  refine zo (op_fieldAddr Try.underlying25 rfl ti3 rfl (by decide)) (zs (oblk (i := 0) 5 hO rfl rfl Try.underlying3 rfl rfl) ?_)
  obtain ⟨h75, H⟩ := H
  obtain ⟨h76, H⟩ := H
  have hobt := omake (n := a0.Letters) (r := Rp.int .i64) (d := (0 : Int)) Try.underlying31 ti3 (fun _ _ => rfl) rfl hO h75 h76 (by decide)
  obtain ⟨w68, p69, QA, iG, QB, Ir, L6⟩ := hobt
  refine zg (L6 rfl rfl) ?_
  replace hO := iG.own
  refine za rfl (zn (zq (zq (zr (zo (op_fieldAddr Try.underlying25 rfl ti23 rfl (by decide)) ?_)))))
  refine zs (oblk (i := 3) 4 hO rfl rfl Try.underlying23 rfl rfl) (zm rfl ?_)
  obtain ⟨h78, H⟩ := H
  obtain ⟨h79, H⟩ := H
  replace bn := bn.ch iG.ch
  refine zo (op_index Try.underlying23 ti31 rfl rfl h78 h79 (bn.some_ h78 h79)) ?_
  have hobt := ldSl bn h78 h79
  obtain ⟨p80, c81, jt, QC⟩ := hobt
  refine zs (QC Try.underlying31 rfl rfl) (zo (op_len Try.underlying31 rfl) ?_)
  replace H := H jt.bd
  refine zm rfl (zn (zb ?_))
  replace jN := jN.ch iG.ch
  replace rN := rN.ch iG.ch
  replace aq := aq.ch iG.ch
  replace av := av.ch iG.ch
  replace a8 := a8.ch iG.ch
  replace cP := cP.ch iG.ch
  replace cS := cS.ch iG.ch
  replace hB := hB.trans iG.fr
  refine Go1.loopW (S := Nat × List Int) (fun s σ w => match s with | (k2_85, d_86) => ∃ (tw : List Value), agrees σ [(1, .pointer (some ⟨B2, 0, none⟩)), (2, .pointer (some ⟨B8, 0, none⟩)), (4, .pointer (some ⟨B21, 0, none⟩)), (5, .slice sc r14.length sd), (6, .slice mB r29.length mC), (7, .pointer (some ⟨B36, 0, none⟩)), (8, .int .i64 (k1_51 : Int)), (10, .slice p69 a0.Letters.toNat a0.Letters.toNat), (28, .slice mB r29.length mC), (29, .int .i64 (r29.length : Int)), (30, .int .i64 (k1_51 : Int)), (47, .slice p80 ((ix r13.Next (k1_51 : Int)).length) c81), (48, .int .i64 ((ix r13.Next (k1_51 : Int)).length : Int)), (49, .int .i64 (k2_85 : Int))] ∧ (fun Z0 => Owns w0.heap.size w Z0 A ∧ Els (Rp.int .i64) (bl Z0 ++ A) w tw d_86 ∧ Els (Rp.sl (Rp.int .i64)) (bl Z0 ++ A) w ks d_52 ∧ Els (Rp.bool) (bl Z0 ++ A) w kt d_58 ∧ ISl (Rp.bool) (bl Z0 ++ A) w bj bk a0.Final ∧ ISl (Rp.sl (Rp.int .i64)) (bl Z0 ++ A) w bv bw a0.Next ∧ ISl (Rp.bool) (bl Z0 ++ A) w du dw r13.Final ∧ ISl (Rp.sl (Rp.int .i64)) (bl Z0 ++ A) w dE dF r13.Next ∧ ISl (Rp.int .i64) (bl Z0 ++ A) w sc sd r14 ∧ ISl (Rp.int .i64) (bl Z0 ++ A) w mB mC r29 ∧ ISl (Rp.int .i64) (bl Z0 ++ A) w p80 c81 (ix r13.Next (k1_51 : Int)) ∧ Fr (bl []) w0 (bl Z0) w) [.row 3 1 p69 a0.Letters.toNat a0.Letters.toNat tw, .row 31 1 p55 n57 c56 ks, .row 4 1 p61 n63 c62 kt, .blk B36 (.cells #[.int .i64 a0.Letters, .int .i64 (0 : Int), .slice p61 n63 c62, .slice p55 n57 c56] 25 (0, 0)), .blk B21 (.cells #[.int .i64 r13.Letters, .int .i64 r13.Start, .slice du r13.Final.length dw, .slice dE r13.Next.length dF] 25 (0, 0)), .blk B8 (.cells #[.int .i64 (0 : Int), .int .i64 (0 : Int), .slice none 0 0, .slice none 0 0] 25 (0, 0)), .blk B2 (.cells #[.int .i64 a0.Letters, .int .i64 a0.Start, .slice bj a0.Final.length bk, .slice bv a0.Next.length bw] 25 (0, 0))]) H ⟨QA, ⟨rfl, rfl, rfl, rfl, rfl, rfl, rfl, rfl, rfl, rfl, rfl, rfl, rfl, rfl, trivial⟩, hO, QB, jN, rN, aq, av, a8, bn, cP, cS, jt, hB⟩ ?_
  intro X2
  refine prE fun k2_85 => fun d_86 => ?_
  intro H hX2 σ w84
  refine exE fun tw => andE fun hag => andE fun hO => andE fun tx => andE fun jN => andE fun rN => andE fun aq => andE fun av => andE fun a8 => andE fun bn => andE fun cP => andE fun cS => andE fun jt => fun hB => ?_
  dsimp only at H
  refine Go1.keep [(1, .pointer (some ⟨B2, 0, none⟩)), (2, .pointer (some ⟨B8, 0, none⟩)), (4, .pointer (some ⟨B21, 0, none⟩)), (5, .slice sc r14.length sd), (6, .slice mB r29.length mC), (7, .pointer (some ⟨B36, 0, none⟩)), (8, .int .i64 (k1_51 : Int)), (10, .slice p69 a0.Letters.toNat a0.Letters.toNat), (28, .slice mB r29.length mC), (29, .int .i64 (r29.length : Int)), (30, .int .i64 (k1_51 : Int)), (47, .slice p80 ((ix r13.Next (k1_51 : Int)).length) c81), (48, .int .i64 ((ix r13.Next (k1_51 : Int)).length : Int)), (49, .int .i64 (k2_85 : Int))] hag ?_
  refine zq (zr ?_)
  by_cases h89 : (k2_85 : Int) < ((ix r13.Next (k1_51 : Int)).length : Int)
  ·replace H := ifp h89 H
   refine zo (fun w => opB (op_lss rfl rfl w) (decide_eq_true h89)) (zn (zq (zt rfl rfl (zk (zq ?_)))))
   refine zb (zq (zr (zm rfl ?_)))
   obtain ⟨h90, H⟩ := H
   obtain ⟨h91, H⟩ := H
   refine zo (op_index Try.underlying31 ti3 rfl rfl h90 h91 (jt.some_ h90 h91)) (zs (ldInt jt h90 h91 Try.underlying3 rfl rfl) (za rfl (za rfl (zn (zr ?_)))))
   refine zm rfl (zm rfl (zm rfl (zm rfl ?_)))
   obtain ⟨h92, H⟩ := H
   obtain ⟨h93, H⟩ := H
   refine zo (op_index Try.underlying31 ti3 rfl rfl h92 h93 (cS.some_ h92 h93)) (zs (ldInt cS h92 h93 Try.underlying3 rfl rfl) ?_)
   obtain ⟨h94, H⟩ := H
   obtain ⟨h95, H⟩ := H
   refine zo (op_index Try.underlying31 ti3 rfl rfl h94 (ltn (tx.neq hO 0 rfl) h95) (tx.psome hO 0 rfl h94 h95)) ?_
   have hobt := ost (r := Rp.int .i64) rfl 0 hO rfl tx h94 h95 (v := .int .i64 (ix r29 (ix (ix r13.Next (k1_51 : Int)) (k2_85 : Int)))) (u := (ix r29 (ix (ix r13.Next (k1_51 : Int)) (k2_85 : Int)))) rfl rfl
   obtain ⟨w96, QD, kV, wB, Iu⟩ := hobt
   dsimp only [sS, sZ] at kV wB
   refine zg (Iu Try.underlying3 rfl ti3 (by exact rfl) (by exact rfl)) ?_
   replace hO := kV.own
   refine zn ?_
   refine Go1.inBlock ?_
   refine zr ?_
   replace jt := jt.ch kV.ch
   refine zo (op_add rfl rfl (wrap_i64 (natbd h89 jt.bd))) (zm rfl (zn ?_))
   replace jN := jN.ch kV.ch
   replace rN := rN.ch kV.ch
   replace aq := aq.ch kV.ch
   replace av := av.ch kV.ch
   replace a8 := a8.ch kV.ch
   replace bn := bn.ch kV.ch
   replace cP := cP.ch kV.ch
   replace cS := cS.ch kV.ch
   replace hB := hB.trans kV.fr
   exact hX2 _ H _ _ ⟨QD, ⟨rfl, rfl, rfl, rfl, rfl, rfl, rfl, rfl, rfl, rfl, rfl, rfl, rfl, rfl, trivial⟩, hO, wB, jN, rN, aq, av, a8, bn, cP, cS, jt, hB⟩
  replace H := ifn h89 H
  refine zo (fun w => opB (op_lss rfl rfl w) (decide_eq_false h89)) (zn (zq (zf rfl rfl ?_)))
  refine Go1.exit rfl ?_
  refine zq ?_
  refine Go1.drawS 4 [(0, .pure), (1, .stable), (2, .pure), (3, .stable), (4, .pure), (5, .pure), (6, .stable), (7, .loud), (8, .last), (9, .pure), (10, .last)] mixed (by kernel_rfl) ?_
  intro Ur L7
  have iV := Stp.same hO L7
  replace hO := iV.own
  refine GoQ.pure rfl (op_fieldAddr Try.underlying25 rfl ti22 rfl (by decide)) rfl rfl ?_
  refine GoQ.stable rfl (oblk (i := 2) 3 hO rfl rfl Try.underlying22 rfl rfl) rfl rfl ?_
  refine GoQ.pure rfl (op_fieldAddr Try.underlying25 rfl ti22 rfl (by decide)) rfl rfl ?_
  refine GoQ.stable rfl (oblk (i := 2) 4 hO rfl rfl Try.underlying22 rfl rfl) rfl rfl ?_
  refine GoQ.pure rfl (op_move rfl) rfl rfl ?_
  obtain ⟨xK, H⟩ := H
  obtain ⟨yW, H⟩ := H
  replace a8 := a8.ch iV.ch
  refine GoQ.pure rfl (op_index Try.underlying22 ti4 rfl rfl xK yW (a8.some_ xK yW)) rfl rfl ?_
  refine GoQ.stable rfl (ldBool a8 xK yW Try.underlying4 rfl rfl) rfl rfl ?_
  have hobt := obuild (r := Rp.bool) (n := 1) (parts := [(0, .bool (ix r13.Final (k1_51 : Int)))]) (vs := [.bool (ix r13.Final (k1_51 : Int))]) (xs := [ix r13.Final (k1_51 : Int)]) rfl Try.underlying22 ti4 hO (by decide) (by kernel_rfl) (Els.cons rfl rfl (Els.nil _ _ _) (by simp [mx])) rfl
  obtain ⟨Us, Ut, qd, L8, L9, Iv⟩ := hobt
  refine GoQ.loud rfl (Iv rfl) L9 rfl rfl ?_
  replace hO := qd.own
  have hobt := freeze 0 hO rfl L8
  obtain ⟨hO1, tz, ob, Ma⟩ := hobt
  dsimp only [eS, eZ] at hO1 tz ob
  replace hB := ((hB.trans iV.fr).trans qd.fr).trans (Owns.dropFr _ _ 0)
  dsimp only [eS, eZ] at hB
  replace hO := hO1; clear hO1
  obtain ⟨AC, H⟩ := H
  have Z6 := (iV.ch.trans qd.ch).trans tz
  replace rN := rN.ch Z6
  have hobt := oapp Try.underlying22 ti4 rfl 2 hO rfl rN ob Ma AC (by decide)
  obtain ⟨Uu, DL, DN, Mb, en, oc, Iw⟩ := hobt
  dsimp only [sS, sZ] at en oc
  refine GoQ.last rfl (Iw (by exact rfl) (by exact rfl)) rfl rfl ?_
  replace hO := en.own
  refine GoQ.pure rfl (op_fieldAddr Try.underlying25 rfl ti22 rfl (by decide)) rfl rfl ?_
  have hobt := oblkSt2 (v := .slice DL (n63 + 1) DN) (i := 2) (cs' := #[.int .i64 a0.Letters, .int .i64 (0 : Int), .slice DL (n63 + 1) DN, .slice p55 n57 c56]) 3 hO rfl rfl rfl rfl
  obtain ⟨Uv, mP, Cb⟩ := hobt
  dsimp only [sS, sZ] at mP
  refine GoQ.last rfl (Cb Try.underlying22 rfl ti22 (by exact rfl) (by exact rfl)) rfl rfl ?_
  replace hO := mP.own
  refine GoQ.nil ?_
  refine Go1.cut [(1, .pointer (some ⟨B2, 0, none⟩)), (2, .pointer (some ⟨B8, 0, none⟩)), (4, .pointer (some ⟨B21, 0, none⟩)), (5, .slice sc r14.length sd), (6, .slice mB r29.length mC), (7, .pointer (some ⟨B36, 0, none⟩)), (10, .slice p69 a0.Letters.toNat a0.Letters.toNat), (28, .slice mB r29.length mC), (29, .int .i64 (r29.length : Int)), (30, .int .i64 (k1_51 : Int))] ⟨rfl, rfl, rfl, rfl, rfl, rfl, rfl, rfl, rfl, rfl, trivial⟩ ?_
  intro σ _
  refine zr (zo (op_fieldAddr Try.underlying25 rfl ti23 rfl (by decide)) (zs (oblk (i := 3) 3 hO rfl rfl Try.underlying23 rfl rfl) (zm rfl ?_)))
  replace tx := ((tx.ch Z6).ch en.ch).ch mP.ch
  have hobt := freeze 0 hO rfl tx
  obtain ⟨hO1, tA, ud, Mc⟩ := hobt
  dsimp only [eS, eZ] at hO1 tA ud
  replace hB := ((hB.trans en.fr).trans mP.fr).trans (Owns.dropFr _ _ 0)
  dsimp only [eS, eZ] at hB
  replace hO := hO1; clear hO1
  have hobt := obuild (r := Rp.sl (Rp.int .i64)) (n := 1) (parts := [(0, .slice p69 a0.Letters.toNat a0.Letters.toNat)]) (vs := [.slice p69 a0.Letters.toNat a0.Letters.toNat]) (xs := [d_86]) rfl Try.underlying23 ti31 hO (by decide) (by kernel_rfl) (Els.cons rfl ⟨p69, a0.Letters.toNat, congrArg some (congrArg (fun nn => Value.slice p69 nn a0.Letters.toNat) Mc), ud⟩ (Els.nil _ _ _) (by simp [mx])) rfl
  obtain ⟨QE, ip, lh, Me, SP, Cd⟩ := hobt
  refine zg (Cd rfl) ?_
  replace hO := lh.own
  have hobt := freeze 0 hO rfl Me
  obtain ⟨hO1, sL, jq, Mf⟩ := hobt
  dsimp only [eS, eZ] at hO1 sL jq
  replace hB := (hB.trans lh.fr).trans (Owns.dropFr _ _ 0)
  dsimp only [eS, eZ] at hB
  replace hO := hO1; clear hO1
  obtain ⟨xd, H⟩ := H
  have Z7 := ((((Z6.trans en.ch).trans mP.ch).trans tA).trans lh.ch).trans sL
  replace jN := jN.ch Z7
  have hobt := oapp Try.underlying23 ti31 rfl 0 hO rfl jN jq Mf xd (by decide)
  obtain ⟨Uw, Fq, Fs, Mg, iu, Bq, Ix⟩ := hobt
  dsimp only [sS, sZ] at iu Bq
  refine zg (Ix (by exact rfl) (by exact rfl)) ?_
  replace hO := iu.own
  refine zo (op_fieldAddr Try.underlying25 rfl ti23 rfl (by decide)) ?_
  have hobt := oblkSt2 (v := .slice Fq (n57 + 1) Fs) (i := 3) (cs' := #[.int .i64 a0.Letters, .int .i64 (0 : Int), .slice DL (n63 + 1) DN, .slice Fq (n57 + 1) Fs]) 2 hO rfl rfl rfl rfl
  obtain ⟨QF, l7, Iy⟩ := hobt
  dsimp only [sS, sZ] at l7
  refine zg (Iy Try.underlying23 rfl ti23 (by exact rfl) (by exact rfl)) ?_
  replace hO := l7.own
  refine zn ?_
  refine Go1.inBlock ?_
  refine zr ?_
  replace cS := ((cS.ch Z7).ch iu.ch).ch l7.ch
  refine zo (op_add rfl rfl (wrap_i64 (natbd h64 cS.bd))) (zm rfl (zn ?_))
  replace Bq := Bq.ch l7.ch
  replace hB := (hB.trans iu.fr).trans l7.fr
  have Z8 := ((((mP.ch.trans tA).trans lh.ch).trans sL).trans iu.ch).trans l7.ch
  replace oc := oc.ch Z8
  have Z9 := (((((((qd.ch.trans tz).trans en.ch).trans mP.ch).trans tA).trans lh.ch).trans sL).trans iu.ch).trans l7.ch
  replace a8 := a8.ch Z9
  have Z10 := (Z7.trans iu.ch).trans l7.ch
  replace aq := aq.ch Z10
  replace av := av.ch Z10
  replace bn := bn.ch Z10
  replace cP := cP.ch Z10
  exact hX1 _ H _ _ ⟨n57 + 1, Fq, Fs, Mg, n63 + 1, DL, DN, Mb, ⟨rfl, rfl, rfl, rfl, rfl, rfl, rfl, rfl, rfl, trivial⟩, hO, Bq, oc, aq, av, a8, bn, cP, cS, hB⟩
 replace H := ifn h64 H
 refine zo (fun w => opB (op_lss rfl rfl w) (decide_eq_false h64)) (zn (zq (zf rfl rfl ?_)))
 refine Go1.exit rfl ?_
 refine zq (zr (zs (oblkAgg (vs := [.int .i64 a0.Letters, .int .i64 (0 : Int), .slice p61 n63 c62, .slice p55 n57 c56]) (i := 0) 2 hO rfl rfl Try.underlying25 rfl ti25 rfl) ?_))
 have hobt := freeze 1 hO rfl rN
 obtain ⟨hO1, wa, kW, Mh⟩ := hobt
 dsimp only [eS, eZ] at hO1 wa kW
 replace hB := hB.trans (Owns.dropFr _ _ 1)
 dsimp only [eS, eZ] at hB
 replace hO := hO1; clear hO1
 replace jN := jN.ch wa
 have hobt := freeze 0 hO rfl jN
 obtain ⟨hO1, wb, mD, Mi⟩ := hobt
 dsimp only [eS, eZ] at hO1 wb mD
 replace hB := hB.trans (Owns.dropFr _ _ 0)
 dsimp only [eS, eZ] at hB
 replace hO := hO1; clear hO1
 replace kW := kW.ch wb
 refine GoR.call (op_call body109 (show ([.agg #[.int .i64 a0.Letters, .int .i64 (0 : Int), .slice p61 n63 c62, .slice p55 n57 c56]] : List Value) = [.agg #[.int .i64 a0.Letters, .int .i64 (0 : Int), .slice p61 d_58.length c62, .slice p55 d_52.length c56]] from by rw [← Mh, ← Mi]) (walk_dfa_Trim (d := (⟨a0.Letters, (0 : Int), d_58, d_52⟩ : DFA)) hO.lt kW mD H)) rfl rfl ?_
 rintro Ux Uy ⟨r159, r160, eY, e8, fD, fE, xL, xM, rfl, Mj, dt, dA, fW, H⟩
 have sE := Stp.same hO Mj
 replace hO := sE.own
 refine zm rfl (zo (op_extract rfl rfl) (zo (op_extract rfl rfl) ?_))
 have hobt := oalloc (t := 25) (cs := #[.int .i64 (0 : Int), .int .i64 (0 : Int), .slice none 0 0, .slice none 0 0]) ti25 hO rfl
 obtain ⟨P5, B167, ov, Hv, Ce⟩ := hobt
 refine GoR.op Ce rfl rfl ?_
 replace hO := ov.own
 have hobt := oblkStAgg (us := [.int .i64 r159.Letters, .int .i64 r159.Start, .slice eY r159.Final.length e8, .slice fD r159.Next.length fE]) (o := 0) (cs' := #[.int .i64 r159.Letters, .int .i64 r159.Start, .slice eY r159.Final.length e8, .slice fD r159.Next.length fE]) 0 hO rfl rfl (Nat.le_of_ble_eq_true rfl) rfl
 obtain ⟨QG, mQ, Iz⟩ := hobt
 dsimp only [sS, sZ] at mQ
 refine zg (Iz ti25 (by exact rfl) (by exact rfl) rfl) ?_
 replace hO := mQ.own
 refine za rfl (zn (zq (zr (zm rfl (zo (op_len Try.underlying31 rfl) ?_)))))
 have Z11 := (((wa.trans wb).trans sE.ch).trans ov.ch).trans mQ.ch
 replace cP := cP.ch Z11
 replace H := H cP.bd
 obtain ⟨QH, H⟩ := H
 obtain ⟨QI, H⟩ := H
 have hobt := omake (n := (r14.length : Int)) (r := Rp.int .i64) (d := (0 : Int)) Try.underlying31 ti3 (fun _ _ => rfl) rfl hO QH QI (by decide)
 obtain ⟨Uz, tB, Mk, eC, tC, Hw, Cf⟩ := hobt
 refine zg (Cf rfl rfl) ?_
 replace hO := eC.own
 refine za rfl (zn (zq (zq ?_)))
 refine Go1.cut [(2, .pointer (some ⟨B8, 0, none⟩)), (5, .slice sc r14.length sd), (6, .slice mB r29.length mC), (13, .pointer (some ⟨B167, 0, none⟩)), (14, .slice xL r160.length xM), (15, .slice tB r14.length r14.length)] ⟨rfl, rfl, rfl, rfl, rfl, rfl, trivial⟩ ?_
 intro σ _
 refine zr (zm rfl (zo (op_len Try.underlying31 rfl) (zm rfl (zn (zb ?_)))))
 replace hO := hO.drop 2
 replace tC := tC.ch (Owns.dropCh _ _ 2)
 replace cP := (cP.ch eC.ch).ch (Owns.dropCh _ _ 2)
 have Z12 := ((ov.ch.trans mQ.ch).trans eC.ch).trans (Owns.dropCh _ _ 2)
 replace dt := dt.ch Z12
 replace dA := dA.ch Z12
 replace fW := fW.ch Z12
 have Z13 := (((sE.ch.trans ov.ch).trans mQ.ch).trans eC.ch).trans (Owns.dropCh _ _ 2)
 replace kW := kW.ch Z13
 replace mD := mD.ch Z13
 replace hB := ((((hB.trans sE.fr).trans ov.fr).trans mQ.fr).trans eC.fr).trans (Owns.dropFr _ _ 2)
 have Z14 := (Z11.trans eC.ch).trans (Owns.dropCh _ _ 2)
 replace aq := aq.ch Z14
 replace av := av.ch Z14
 replace a8 := a8.ch Z14
 replace bn := bn.ch Z14
 replace cS := cS.ch Z14
 dsimp only [eS, eZ] at hB hO aq av a8 bn cP cS kW mD dt dA fW tC
 replace hO := hO.drop 2
 replace aq := aq.ch (Owns.dropCh _ _ 2)
 replace av := av.ch (Owns.dropCh _ _ 2)
 replace a8 := a8.ch (Owns.dropCh _ _ 2)
 replace bn := bn.ch (Owns.dropCh _ _ 2)
 replace cP := cP.ch (Owns.dropCh _ _ 2)
 replace cS := cS.ch (Owns.dropCh _ _ 2)
 replace kW := kW.ch (Owns.dropCh _ _ 2)
 replace mD := mD.ch (Owns.dropCh _ _ 2)
 replace dt := dt.ch (Owns.dropCh _ _ 2)
 replace dA := dA.ch (Owns.dropCh _ _ 2)
 replace fW := fW.ch (Owns.dropCh _ _ 2)
 replace tC := tC.ch (Owns.dropCh _ _ 2)
 replace hB := hB.trans (Owns.dropFr _ _ 2)
 dsimp only [eS, eZ] at hB hO aq av a8 bn cP cS kW mD dt dA fW tC
 replace hO := hO.drop 3
 replace cP := cP.ch (Owns.dropCh _ _ 3)
 replace cS := cS.ch (Owns.dropCh _ _ 3)
 replace dt := dt.ch (Owns.dropCh _ _ 3)
 replace dA := dA.ch (Owns.dropCh _ _ 3)
 replace fW := fW.ch (Owns.dropCh _ _ 3)
 replace tC := tC.ch (Owns.dropCh _ _ 3)
 replace hB := hB.trans (Owns.dropFr _ _ 3)
 refine Go1.loopW (S := Nat × List Int) (fun s σ w => match s with | (k3_186, d_187) => ∃ (ue : List Value), agrees σ [(2, .pointer (some ⟨B8, 0, none⟩)), (6, .slice mB r29.length mC), (13, .pointer (some ⟨B167, 0, none⟩)), (14, .slice xL r160.length xM), (15, .slice tB r14.length r14.length), (87, .slice sc r14.length sd), (88, .int .i64 (r14.length : Int)), (89, .int .i64 (k3_186 : Int))] ∧ (fun Z0 => Owns w0.heap.size w Z0 A ∧ Els (Rp.int .i64) (bl Z0 ++ A) w ue d_187 ∧ ISl (Rp.int .i64) (bl Z0 ++ A) w sc sd r14 ∧ ISl (Rp.int .i64) (bl Z0 ++ A) w mB mC r29 ∧ ISl (Rp.bool) (bl Z0 ++ A) w eY e8 r159.Final ∧ ISl (Rp.sl (Rp.int .i64)) (bl Z0 ++ A) w fD fE r159.Next ∧ ISl (Rp.int .i64) (bl Z0 ++ A) w xL xM r160 ∧ Fr (bl []) w0 (bl Z0) w) [.row 3 1 tB r14.length r14.length ue, .blk B167 (.cells #[.int .i64 r159.Letters, .int .i64 r159.Start, .slice eY r159.Final.length e8, .slice fD r159.Next.length fE] 25 (0, 0)), .blk B8 (.cells #[.int .i64 (0 : Int), .int .i64 (0 : Int), .slice none 0 0, .slice none 0 0] 25 (0, 0))]) H ⟨Mk, ⟨rfl, rfl, rfl, rfl, rfl, rfl, rfl, rfl, trivial⟩, hO, tC, cP, cS, dt, dA, fW, hB⟩ ?_
 intro X3
 refine prE fun k3_186 => fun d_187 => ?_
 intro H hX3 σ UA
 refine exE fun ue => andE fun hag => andE fun hO => andE fun yc => andE fun cP => andE fun cS => andE fun dt => andE fun dA => andE fun fW => fun hB => ?_
 dsimp only at H
 refine Go1.keep [(2, .pointer (some ⟨B8, 0, none⟩)), (6, .slice mB r29.length mC), (13, .pointer (some ⟨B167, 0, none⟩)), (14, .slice xL r160.length xM), (15, .slice tB r14.length r14.length), (87, .slice sc r14.length sd), (88, .int .i64 (r14.length : Int)), (89, .int .i64 (k3_186 : Int))] hag ?_
 refine zq (zr ?_)
 by_cases xN : (k3_186 : Int) < (r14.length : Int)
 ·replace H := ifp xN H
  refine zo (fun w => opB (op_lss rfl rfl w) (decide_eq_true xN)) (zn (zq (zt rfl rfl (zk (zq ?_)))))
  refine zb (zq (zr (zm rfl ?_)))
  obtain ⟨Ft, H⟩ := H
  obtain ⟨Cg, H⟩ := H
  refine zo (op_index Try.underlying31 ti3 rfl rfl Ft Cg (cP.some_ Ft Cg)) (zs (ldInt cP Ft Cg Try.underlying3 rfl rfl) (za rfl (za rfl (zn (zq ?_)))))
  refine zr (zm rfl (zm rfl ?_))
  obtain ⟨Fu, H⟩ := H
  obtain ⟨Fv, H⟩ := H
  refine zo (op_index Try.underlying31 ti3 rfl rfl Fu (ltn (yc.neq hO 0 rfl) Fv) (yc.psome hO 0 rfl Fu Fv)) ?_
  have hobt := ost (r := Rp.int .i64) rfl 0 hO rfl yc Fu Fv (v := .int .i64 (-1 : Int)) (u := (-1 : Int)) rfl rfl
  obtain ⟨P8, DO, gG, tD, Ci⟩ := hobt
  refine zg (Ci Try.underlying3 rfl ti3 (by exact rfl) (by exact rfl)) ?_
  replace hO := gG.own
  refine zn (zq (zr (zm rfl ?_)))
  by_cases DP : (0 : Int) ≤ (ix r14 (k3_186 : Int))
  ·replace H := ifp DP H
   refine zo (fun w => opB (op_geq rfl rfl w) (decide_eq_true DP)) (zn (zt rfl rfl (zr (zm rfl (zm rfl ?_)))))
   refine zm rfl (zm rfl (zm rfl ?_))
   obtain ⟨Cj, H⟩ := H
   obtain ⟨Fw, H⟩ := H
   replace cS := cS.ch gG.ch
   refine zo (op_index Try.underlying31 ti3 rfl rfl Cj Fw (cS.some_ Cj Fw)) (zs (ldInt cS Cj Fw Try.underlying3 rfl rfl) ?_)
   obtain ⟨Fx, H⟩ := H
   obtain ⟨yX, H⟩ := H
   replace fW := fW.ch gG.ch
   refine zo (op_index Try.underlying31 ti3 rfl rfl Fx yX (fW.some_ Fx yX)) (zs (ldInt fW Fx yX Try.underlying3 rfl rfl) ?_)
   obtain ⟨xe, H⟩ := H
   obtain ⟨BR, H⟩ := H
   refine zo (op_index Try.underlying31 ti3 rfl rfl xe (ltn (tD.neq hO 0 rfl) BR) (tD.psome hO 0 rfl xe BR)) ?_
   have hobt := ost (r := Rp.int .i64) rfl 0 hO rfl tD xe BR (v := .int .i64 (ix r160 (ix r29 (ix r14 (k3_186 : Int))))) (u := (ix r160 (ix r29 (ix r14 (k3_186 : Int))))) rfl rfl
   obtain ⟨UB, Ml, vI, Mm, IA⟩ := hobt
   refine zg (IA Try.underlying3 rfl ti3 (by exact rfl) (by exact rfl)) ?_
   replace hO := vI.own
   refine zn ?_
   refine Go1.inBlock ?_
   refine Go1.cut [(2, .pointer (some ⟨B8, 0, none⟩)), (6, .slice mB r29.length mC), (13, .pointer (some ⟨B167, 0, none⟩)), (14, .slice xL r160.length xM), (15, .slice tB r14.length r14.length), (87, .slice sc r14.length sd), (88, .int .i64 (r14.length : Int)), (89, .int .i64 (k3_186 : Int))] ⟨rfl, rfl, rfl, rfl, rfl, rfl, rfl, rfl, trivial⟩ ?_
   intro σ _
   refine zr ?_
   replace cP := (cP.ch gG.ch).ch vI.ch
   refine zo (op_add rfl rfl (wrap_i64 (natbd xN cP.bd))) (zm rfl (zn ?_))
   replace cS := cS.ch vI.ch
   replace fW := fW.ch vI.ch
   have Z15 := gG.ch.trans vI.ch
   replace dt := dt.ch Z15
   replace dA := dA.ch Z15
   replace hB := (hB.trans gG.fr).trans vI.fr
   exact hX3 _ H _ _ ⟨Ml, ⟨rfl, rfl, rfl, rfl, rfl, rfl, rfl, rfl, trivial⟩, hO, Mm, cP, cS, dt, dA, fW, hB⟩
  replace H := ifn DP H
  refine zo (fun w => opB (op_geq rfl rfl w) (decide_eq_false DP)) (zn (zf rfl rfl (zk ?_)))
  refine Go1.inBlock ?_
  refine zr ?_
  replace cP := cP.ch gG.ch
  refine zo (op_add rfl rfl (wrap_i64 (natbd xN cP.bd))) (zm rfl (zn ?_))
  replace cS := cS.ch gG.ch
  replace dt := dt.ch gG.ch
  replace dA := dA.ch gG.ch
  replace fW := fW.ch gG.ch
  replace hB := hB.trans gG.fr
  exact hX3 _ H _ _ ⟨DO, ⟨rfl, rfl, rfl, rfl, rfl, rfl, rfl, rfl, trivial⟩, hO, tD, cP, cS, dt, dA, fW, hB⟩
 replace H := ifn xN H
 refine zo (fun w => opB (op_lss rfl rfl w) (decide_eq_false xN)) (zn (zq (zf rfl rfl ?_)))
 refine Go1.exit rfl ?_
 refine zq (zr (zs (oblkAgg (vs := [.int .i64 r159.Letters, .int .i64 r159.Start, .slice eY r159.Final.length e8, .slice fD r159.Next.length fE]) (i := 0) 1 hO rfl rfl Try.underlying25 rfl ti25 rfl) (zm rfl ?_)))
 have hobt := oblkStAgg (us := [.int .i64 r159.Letters, .int .i64 r159.Start, .slice eY r159.Final.length e8, .slice fD r159.Next.length fE]) (o := 0) (cs' := #[.int .i64 r159.Letters, .int .i64 r159.Start, .slice eY r159.Final.length e8, .slice fD r159.Next.length fE]) 2 hO rfl rfl (Nat.le_of_ble_eq_true rfl) rfl
 obtain ⟨UC, uB, IB⟩ := hobt
 refine zg (IB ti25 (by exact rfl) (by exact rfl) rfl) ?_
 replace hO := uB.own
 refine za rfl (zn ?_)
 replace yc := yc.ch uB.ch
 have hobt := freeze 0 hO rfl yc
 obtain ⟨hO1, zP, Mn, Mo⟩ := hobt
 replace hO := hO1; clear hO1
 refine Go1.retC2 Try.func66 rfl rfl (run_loadBlk (vs := [.int .i64 r159.Letters, .int .i64 r159.Start, .slice eY r159.Final.length e8, .slice fD r159.Next.length fE]) 1 hO rfl rfl Try.underlying25 rfl ti25) ?_
 have Z16 := uB.ch.trans zP
 replace dt := dt.ch Z16
 replace dA := dA.ch Z16
 replace hB := (hB.trans uB.fr).trans (Owns.dropFr _ _ 0)
 exact ⟨(⟨r159.Letters, r159.Start, r159.Final, r159.Next⟩ : DFA), d_187, eY, e8, fD, fE, tB, r14.length, (congrArg (fun l => Value.tuple (List.toArray l)) (cons_eq rfl (cons_eq (congrArg (fun nn => Value.slice tB nn r14.length) Mo) rfl))), hB.same, (dt.ch (Ch.weak _ _ _)), (dA.ch (Ch.weak _ _ _)), (Mn.ch (Ch.weak _ _ _)), H⟩
theorem body22 : Body Try.prog 22 := ⟨Try.f22, Try.func22, rfl, by kernel_rfl⟩
theorem walk_minimize_Minimal {A : List Nat} {w0 : World} {aU : Option Addr} {aV : Nat} {aX : Option Addr} {aY : Nat} {d : DFA} (hA : ∀ b ∈ A, b < w0.heap.size) (ah : ISl (Rp.bool) A w0 aU aV d.Final) (ak : ISl (Rp.sl (Rp.int .i64)) A w0 aX aY d.Next) {K : DFA → Prop} (H : minimize_Minimal d K) :
    CallsV Try.prog 22 #[.agg #[.int .i64 d.Letters, .int .i64 d.Start, .slice aU d.Final.length aV, .slice aX d.Next.length aY]] w0 (fun v w' => ∃ (r0 : DFA), ∃ (jo : Option Addr), ∃ (jp : Nat), ∃ (kq : Option Addr), ∃ (kr : Nat), v = .agg #[.int .i64 r0.Letters, .int .i64 r0.Start, .slice jo r0.Final.length jp, .slice kq r0.Next.length kr] ∧ Same w0 w' ∧ ISl (Rp.bool) A w' jo jp r0.Final ∧ ISl (Rp.sl (Rp.int .i64)) A w' kq kr r0.Next ∧ K r0) := by
 refine CallsV.of (l := [.agg #[.int .i64 d.Letters, .int .i64 d.Start, .slice aU d.Final.length aV, .slice aX d.Next.length aY]]) Try.func22 rfl Try.ntmps22 rfl ?_
 have hO := Owns.start hA
 have hB := Fr.refl (bl []) w0
 unfold minimize_Minimal at H
 refine zq (zr ?_)
 have hobt := obox (t := 25) (v := .agg #[.int .i64 d.Letters, .int .i64 d.Start, .slice aU d.Final.length aV, .slice aX d.Next.length aY]) (cs := #[.int .i64 d.Letters, .int .i64 d.Start, .slice aU d.Final.length aV, .slice aX d.Next.length aY]) hO rfl
 obtain ⟨w1, B2, dG, hs4, lb⟩ := hobt
 refine zg (lb rfl) ?_
 replace hO := dG.own
 have hobt := oalloc (t := 25) (cs := #[.int .i64 (0 : Int), .int .i64 (0 : Int), .slice none 0 0, .slice none 0 0]) ti25 hO rfl
 obtain ⟨w7, B8, gr, xa, tn⟩ := hobt
 refine GoR.op tn rfl rfl ?_
 replace hO := gr.own
 refine zn (zq (zq (zr (zs (oblkAgg (vs := [.int .i64 d.Letters, .int .i64 d.Start, .slice aU d.Final.length aV, .slice aX d.Next.length aY]) (i := 0) 1 hO rfl rfl Try.underlying25 rfl ti25 rfl) ?_))))
 have Z1 := ((Ch.start A w0).trans dG.ch).trans gr.ch
 replace ah := ah.ch Z1
 replace ak := ak.ch Z1
 refine GoR.call (op_call body61 rfl (walk_dfa_Validate (d := d) hO.lt ah ak H)) rfl rfl ?_
 rintro v17 w14 ⟨r13, rfl, yN, H⟩
 have ji := Stp.same hO yN
 replace hO := ji.own
 by_cases h19 : r13 = (0 : Int)
 ·replace H := ifp h19 H
  refine zo (fun w => opB (op_neq rfl rfl w) (ndT h19)) (zn (zf rfl rfl (zk (zq (zr ?_)))))
  refine zs (oblkAgg (vs := [.int .i64 d.Letters, .int .i64 d.Start, .slice aU d.Final.length aV, .slice aX d.Next.length aY]) (i := 0) 1 hO rfl rfl Try.underlying25 rfl ti25 rfl) ?_
  replace ah := ah.ch ji.ch
  replace ak := ak.ch ji.ch
  refine GoR.call (op_call body66 rfl (walk_minimize_minimal (a0 := d) hO.lt ah ak H)) rfl rfl ?_
  rintro v25 w22 ⟨r20, r21, nW, nX, pq, pr, SQ, SR, rfl, Fo, nY, pt, yd, H⟩
  have lR := Stp.same hO Fo
  replace hO := lR.own
  refine zm rfl (zo (op_extract rfl rfl) (zo (op_extract rfl rfl) ?_))
  have hobt := oalloc (t := 25) (cs := #[.int .i64 (0 : Int), .int .i64 (0 : Int), .slice none 0 0, .slice none 0 0]) ti25 hO rfl
  obtain ⟨w27, B28, sK, PX, Du⟩ := hobt
  refine GoR.op Du rfl rfl ?_
  replace hO := sK.own
  have hobt := oblkStAgg (us := [.int .i64 r20.Letters, .int .i64 r20.Start, .slice nW r20.Final.length nX, .slice pq r20.Next.length pr]) (o := 0) (cs' := #[.int .i64 r20.Letters, .int .i64 r20.Start, .slice nW r20.Final.length nX, .slice pq r20.Next.length pr]) 0 hO rfl rfl (Nat.le_of_ble_eq_true rfl) rfl
  obtain ⟨w33, po, Mp⟩ := hobt
  refine zg (Mp ti25 (by exact rfl) (by exact rfl) rfl) ?_
  replace hO := po.own
  refine za rfl (zn (zq (zr (zs (oblkAgg (vs := [.int .i64 r20.Letters, .int .i64 r20.Start, .slice nW r20.Final.length nX, .slice pq r20.Next.length pr]) (i := 0) 0 hO rfl rfl Try.underlying25 rfl ti25 rfl) ?_))))
  have hobt := oblkStAgg (us := [.int .i64 r20.Letters, .int .i64 r20.Start, .slice nW r20.Final.length nX, .slice pq r20.Next.length pr]) (o := 0) (cs' := #[.int .i64 r20.Letters, .int .i64 r20.Start, .slice nW r20.Final.length nX, .slice pq r20.Next.length pr]) 1 hO rfl rfl (Nat.le_of_ble_eq_true rfl) rfl
  obtain ⟨w36, gN, Dv⟩ := hobt
  refine zg (Dv ti25 (by exact rfl) (by exact rfl) rfl) ?_
  replace hO := gN.own
  refine zn ?_
  refine Go1.retC1 Try.func22 rfl rfl (run_loadBlk (vs := [.int .i64 r20.Letters, .int .i64 r20.Start, .slice nW r20.Final.length nX, .slice pq r20.Next.length pr]) 1 hO rfl rfl Try.underlying25 rfl ti25) ?_
  have Z2 := (sK.ch.trans po.ch).trans gN.ch
  replace nY := nY.ch Z2
  replace pt := pt.ch Z2
  replace hB := ((((((hB.trans dG.fr).trans gr.fr).trans ji.fr).trans lR.fr).trans sK.fr).trans po.fr).trans gN.fr
  exact ⟨(⟨r20.Letters, r20.Start, r20.Final, r20.Next⟩ : DFA), nW, nX, pq, pr, rfl, hB.same, (nY.ch (Ch.weak _ _ _)), (pt.ch (Ch.weak _ _ _)), H⟩
 replace H := ifn h19 H
 refine zo (fun w => opB (op_neq rfl rfl w) (ndF h19)) (zn (zt rfl rfl (zq (zr (zo (op_build Try.underlying25 ti25 (pl := [(0, 1), (1, 1), (2, 1), (3, 1)]) (vs := []) (cs := #[.int .i64 (0 : Int), .int .i64 (0 : Int), .slice none 0 0, .slice none 0 0]) (by kernel_rfl) rfl (by kernel_rfl)) ?_)))))
 have hobt := oblkStAgg (us := [.int .i64 (0 : Int), .int .i64 (0 : Int), .slice none 0 0, .slice none 0 0]) (o := 0) (cs' := #[.int .i64 (0 : Int), .int .i64 (0 : Int), .slice none 0 0, .slice none 0 0]) 0 hO rfl rfl (Nat.le_of_ble_eq_true rfl) rfl
 obtain ⟨w39, tj, Mq⟩ := hobt
 refine zg (Mq ti25 (by exact rfl) (by exact rfl) rfl) ?_
 replace hO := tj.own
 refine zn ?_
 refine Go1.retC1 Try.func22 rfl rfl (run_loadBlk (vs := [.int .i64 (0 : Int), .int .i64 (0 : Int), .slice none 0 0, .slice none 0 0]) 0 hO rfl rfl Try.underlying25 rfl ti25) ?_
 replace hB := (((hB.trans dG.fr).trans gr.fr).trans ji.fr).trans tj.fr
 exact ⟨(⟨(0 : Int), (0 : Int), ([] : List Bool), ([] : List (List Int))⟩ : DFA), none, 0, none, 0, rfl, hB.same, (ISl.null _ _ _), (ISl.null _ _ _), H⟩
theorem body154 : Body Try.prog 154 := ⟨Try.f154, Try.func154, rfl, by kernel_rfl⟩
theorem walk_trans_Valid {A : List Nat} {w0 : World} {p_f : Option Addr} {c_f : Nat} {f : List Int} (hA : ∀ b ∈ A, b < w0.heap.size) (h_f : ISl (Rp.int .i64) A w0 p_f c_f f) {K : Bool → Prop} (H : trans_Valid f K) :
    CallsV Try.prog 154 #[.slice p_f f.length c_f] w0 (fun v w' => ∃ (r0 : Bool), v = .bool r0 ∧ Same w0 w' ∧ K r0) := by
 refine CallsV.of (l := [.slice p_f f.length c_f]) Try.func154 rfl Try.ntmps154 rfl ?_
 have hO := Owns.start hA
 have hB := Fr.refl (bl []) w0
 unfold trans_Valid at H
 refine zq (zr (za rfl (zn (zq (zq ?_)))))
 refine zr (zm rfl (zo (op_len Try.underlying31 rfl) ?_))
 replace h_f := h_f.ch (Ch.start A w0)
 replace H := H h_f.bd
 by_cases h1 : (f.length : Int) < (1 : Int)
 ·replace H := ifp h1 H
  refine zo (fun w => opB (op_lss rfl rfl w) (decide_eq_true h1)) (zm rfl (zp (zp (zp (zo (op_pickT rfl rfl rfl) ?_)))))
  refine zn (zt rfl rfl (zq (zr (za rfl (zn ?_)))))
  refine Go1.ret1 Try.func154 rfl ?_
  exact ⟨false, rfl, hB.same, H⟩
 replace H := ifn h1 H
 refine zo (fun w => opB (op_lss rfl rfl w) (decide_eq_false h1)) (zm rfl (zm rfl (zo (op_len Try.underlying31 rfl) ?_)))
 by_cases h2 : (32 : Int) < (f.length : Int)
 ·replace H := ifp h2 H
  refine zo (fun w => opB (op_gtr rfl rfl w) (decide_eq_true h2)) (zo (op_pickF rfl rfl rfl) (zn (zt rfl rfl (zq (zr ?_)))))
  refine za rfl (zn ?_)
  refine Go1.ret1 Try.func154 rfl ?_
  exact ⟨false, rfl, hB.same, H⟩
 replace H := ifn h2 H
 refine zo (fun w => opB (op_gtr rfl rfl w) (decide_eq_false h2)) (zo (op_pickF rfl rfl rfl) (zn (zf rfl rfl (zk (zq ?_)))))
 refine zq (zr (zm rfl (zo (op_len Try.underlying31 rfl) (zm rfl (zn ?_)))))
 refine zb ?_
 refine Go1.loopW (S := Nat) (fun s σ w => agrees σ [(0, .slice p_f f.length c_f), (13, .slice p_f f.length c_f), (14, .int .i64 (f.length : Int)), (15, .int .i64 (s : Int))] ∧ Owns w0.heap.size w [] A ∧ ISl (Rp.int .i64) (bl [] ++ A) w p_f c_f f ∧ Fr (bl []) w0 (bl []) w) H ⟨⟨rfl, rfl, rfl, rfl, trivial⟩, hO, h_f, hB⟩ ?_
 intro X1 k1_4
 intro H hX1 σ w3
 refine andE fun hag => andE fun hO => andE fun h_f => fun hB => ?_
 refine Go1.keep [(0, .slice p_f f.length c_f), (13, .slice p_f f.length c_f), (14, .int .i64 (f.length : Int)), (15, .int .i64 (k1_4 : Int))] hag ?_
 refine zq (zr ?_)
 by_cases h5 : (k1_4 : Int) < (f.length : Int)
 ·replace H := ifp h5 H
  refine zo (fun w => opB (op_lss rfl rfl w) (decide_eq_true h5)) (zn (zq (zt rfl rfl (zk (zq ?_)))))
  refine zb (zq (zr ?_))
  obtain ⟨h6, H⟩ := H
  obtain ⟨h7, H⟩ := H
  refine zo (op_index Try.underlying31 ti3 rfl rfl h6 h7 (h_f.some_ h6 h7)) (zs (ldInt h_f h6 h7 Try.underlying3 rfl rfl) (za rfl (zn (zq (zr ?_)))))
  refine zm rfl ?_
  by_cases h8 : (ix f (k1_4 : Int)) < (0 : Int)
  ·replace H := ifp h8 H
   refine zo (fun w => opB (op_lss rfl rfl w) (decide_eq_true h8)) (zm rfl (zp (zp (zp (zp ?_)))))
   refine zo (op_pickT rfl rfl rfl) (zn (zt rfl rfl (zq (zr (za rfl ?_)))))
   refine zn ?_
   refine Go1.ret1 Try.func154 rfl ?_
   exact ⟨false, rfl, hB.same, H⟩
  replace H := ifn h8 H
  refine zo (fun w => opB (op_lss rfl rfl w) (decide_eq_false h8)) (zm rfl (zm rfl (zm rfl (zo (op_len Try.underlying31 rfl) ?_))))
  by_cases h9 : (f.length : Int) ≤ (ix f (k1_4 : Int))
  ·replace H := ifp h9 H
   refine zo (fun w => opB (op_geq rfl rfl w) (decide_eq_true h9)) (zo (op_pickF rfl rfl rfl) (zn (zt rfl rfl (zq ?_))))
   refine Go1.cut [] trivial ?_
   intro σ _
   refine zr (za rfl (zn ?_))
   refine Go1.ret1 Try.func154 rfl ?_
   exact ⟨false, rfl, hB.same, H⟩
  replace H := ifn h9 H
  refine zo (fun w => opB (op_geq rfl rfl w) (decide_eq_false h9)) (zo (op_pickF rfl rfl rfl) (zn (zf rfl rfl (zk ?_))))
  refine Go1.inBlock ?_
  refine zr (zo (op_add rfl rfl (wrap_i64 (natbd h5 h_f.bd))) (zm rfl (zn ?_)))
  exact hX1 _ H _ _ ⟨⟨rfl, rfl, rfl, rfl, trivial⟩, hO, h_f, hB⟩
 replace H := ifn h5 H
 refine zo (fun w => opB (op_lss rfl rfl w) (decide_eq_false h5)) (zn (zq (zf rfl rfl ?_)))
 refine Go1.exit rfl ?_
 refine zq (zr (za rfl (zn ?_)))
 refine Go1.ret1 Try.func154 rfl ?_
 exact ⟨true, rfl, hB.same, H⟩
theorem body86 : Body Try.prog 86 := ⟨Try.f86, Try.func86, rfl, by kernel_rfl⟩
theorem walk_slices_Clone_int {A : List Nat} {w0 : World} {sr : Option Addr} {tE : Nat} {s_ : List Int} (hA : ∀ b ∈ A, b < w0.heap.size) (ku : ISl (Rp.int .i64) A w0 sr tE s_) {K : List Int → Prop} (H : slices_Clone_int s_ K) :
    CallsV Try.prog 86 #[.slice sr s_.length tE] w0 (fun v w' => ∃ (r0 : List Int), ∃ (Fy : Nat), ∃ (u4 : Option Addr), ∃ (u5 : Nat), ∃ (DR : List Value), v = .slice u4 Fy u5 ∧ Same w0 w' ∧ Owns w0.heap.size w' [.row 3 1 u4 Fy u5 DR] A ∧ Els (Rp.int .i64) (bl [.row 3 1 u4 Fy u5 DR] ++ A) w' DR r0 ∧ K r0) := by
 refine CallsV.of (l := [.slice sr s_.length tE]) Try.func86 rfl Try.ntmps86 rfl ?_
 have hO := Owns.start hA
 have hB := Fr.refl (bl []) w0
 unfold slices_Clone_int at H
 refine zq (zr (za rfl (zn (zq (zq ?_)))))
 refine zr (zm rfl ?_)
 replace ku := ku.ch (Ch.start A w0)
 replace H := H sr.isNone (fun h => ku.nilD h)
 by_cases hz2 : sr.isNone = true
 ·replace H := ifp hz2 H
  refine zo (fun w => opB (op_nilSlice Try.underlying31 rfl rfl w) (hz2)) (zn (zt rfl rfl (zq (zr (za rfl ?_)))))
  refine zn ?_
  have pv := Stp.nil (e := 3) (r := 1) hO
  replace hO := pv.own
  have hE5 := Els.nil (Rp.int .i64) (bl (.row 3 1 none 0 0 [] :: []) ++ A) w0
  refine Go1.ret1 Try.func86 rfl ?_
  replace hB := hB.trans pv.fr
  exact ⟨(([] : List Int)), 0, none, 0, ([]), rfl, hB.same, hO, hE5, H⟩
 ·replace H := ifn hz2 H
  refine zo (fun w => opB (op_nilSlice Try.underlying31 rfl rfl w) (Bool.eq_false_iff.2 hz2)) (zn (zf rfl rfl (zk (zq (zr ?_)))))
  have hobt := obuild (r := Rp.int .i64) (n := 0) (parts := []) (vs := []) (xs := ([] : List Int)) rfl Try.underlying31 ti3 hO (by decide) (by kernel_rfl) (Els.nil _ _ _) rfl
  obtain ⟨w6, p7, Fz, hE9, xa, tn⟩ := hobt
  refine zg (tn rfl) ?_
  replace hO := Fz.own
  refine zm rfl ?_
  obtain ⟨h13, H⟩ := H
  replace ku := ku.ch Fz.ch
  have hobt := oapp Try.underlying31 ti3 rfl 0 hO rfl hE9 ku rfl h13 (by decide)
  obtain ⟨w14, p15, c16, ld, ji, QJ, zK⟩ := hobt
  refine zg (zK (by exact rfl) (by exact rfl)) ?_
  replace hO := ji.own
  refine za rfl (zn ?_)
  refine Go1.ret1 Try.func86 rfl ?_
  replace hB := (hB.trans Fz.fr).trans ji.fr
  exact ⟨((([] : List Int)) ++ s_), (0 + s_.length), p15, c16, ld, rfl, hB.same, hO, QJ, H⟩
theorem body156 : Body Try.prog 156 := ⟨Try.f156, Try.func156, rfl, by kernel_rfl⟩
theorem walk_trans_Identity {A : List Nat} {w0 : World} {n : Int} (hA : ∀ b ∈ A, b < w0.heap.size) {K : List Int → Prop} (H : trans_Identity n K) :
    CallsV Try.prog 156 #[.int .i64 n] w0 (fun v w' => ∃ (r0 : List Int), ∃ (u4 : Option Addr), ∃ (u5 : Nat), v = .slice u4 r0.length u5 ∧ Same w0 w' ∧ ISl (Rp.int .i64) A w' u4 u5 r0 ∧ K r0) := by
 refine CallsV.of (l := [.int .i64 n]) Try.func156 rfl Try.ntmps156 rfl ?_
 have hO := Owns.start hA
 have hB := Fr.refl (bl []) w0
 unfold trans_Identity at H
 refine zq (zr (za rfl (zn (zq (zq ?_)))))
 refine zr (zm rfl ?_)
 by_cases h1 : n < (1 : Int)
 ·replace H := ifp h1 H
  refine zo (fun w => opB (op_lss rfl rfl w) (decide_eq_true h1)) (zm rfl (zp (zp (zo (op_pickT rfl rfl rfl) (zn ?_)))))
  refine zt rfl rfl (zq (zr (za rfl (zn ?_))))
  refine Go1.ret1 Try.func156 rfl ?_
  exact ⟨([] : List Int), none, 0, rfl, hB.same, (ISl.null _ _ _), H⟩
 replace H := ifn h1 H
 refine zo (fun w => opB (op_lss rfl rfl w) (decide_eq_false h1)) (zm rfl (zm rfl ?_))
 by_cases h2 : (32 : Int) < n
 ·replace H := ifp h2 H
  refine zo (fun w => opB (op_gtr rfl rfl w) (decide_eq_true h2)) (zo (op_pickF rfl rfl rfl) (zn (zt rfl rfl (zq (zr ?_)))))
  refine za rfl (zn ?_)
  refine Go1.ret1 Try.func156 rfl ?_
  exact ⟨([] : List Int), none, 0, rfl, hB.same, (ISl.null _ _ _), H⟩
 replace H := ifn h2 H
 refine zo (fun w => opB (op_gtr rfl rfl w) (decide_eq_false h2)) (zo (op_pickF rfl rfl rfl) (zn (zf rfl rfl (zk (zq ?_)))))
 refine zr (zm rfl ?_)
 obtain ⟨h10, H⟩ := H
 obtain ⟨h11, H⟩ := H
 have hobt := omake (n := n) (r := Rp.int .i64) (d := (0 : Int)) Try.underlying31 ti3 (fun _ _ => rfl) rfl hO h10 h11 (by decide)
 obtain ⟨w3, p4, vs5, xm, hE7, hs8, QK⟩ := hobt
 refine zg (QK rfl rfl) ?_
 replace hO := xm.own
 refine za rfl (zn (zq (zq (zr (zm rfl ?_)))))
 refine zo (op_lenN Try.underlying31 rfl (hE7.neq hO 0 rfl)) (zm rfl (zn (zb ?_)))
 replace hB := hB.trans xm.fr
 refine Go1.loopW (S := Nat × List Int) (fun s σ w => match s with | (k1_14, f1_15) => ∃ (xi : List Value), agrees σ [(3, .slice p4 n.toNat n.toNat), (14, .int .i64 ((List.replicate n.toNat ((0 : Int))).length : Int)), (15, .int .i64 (k1_14 : Int))] ∧ (fun Z0 => Owns w0.heap.size w Z0 A ∧ Els (Rp.int .i64) (bl Z0 ++ A) w xi f1_15 ∧ Fr (bl []) w0 (bl Z0) w) [.row 3 1 p4 n.toNat n.toNat xi]) H ⟨vs5, ⟨rfl, rfl, rfl, trivial⟩, hO, hE7, hB⟩ ?_
 intro X1
 refine prE fun k1_14 => fun f1_15 => ?_
 intro H hX1 σ w13
 refine exE fun xi => andE fun hag => andE fun hO => andE fun wA => fun hB => ?_
 dsimp only at H
 refine Go1.keep [(3, .slice p4 n.toNat n.toNat), (14, .int .i64 ((List.replicate n.toNat ((0 : Int))).length : Int)), (15, .int .i64 (k1_14 : Int))] hag ?_
 refine zq (zr ?_)
 by_cases h18 : (k1_14 : Int) < ((List.replicate n.toNat ((0 : Int))).length : Int)
 ·replace H := ifp h18 H
  refine zo (fun w => opB (op_lss rfl rfl w) (decide_eq_true h18)) (zn (zq (zt rfl rfl (zk (zq ?_)))))
  refine zb (zq (zr (zm rfl (za rfl (zn ?_)))))
  refine zr (zm rfl (zm rfl (zm rfl ?_)))
  obtain ⟨h19, H⟩ := H
  obtain ⟨h20, H⟩ := H
  refine zo (op_index Try.underlying31 ti3 rfl rfl h19 (ltn (wA.neq hO 0 rfl) h20) (wA.psome hO 0 rfl h19 h20)) ?_
  have hobt := ost (r := Rp.int .i64) rfl 0 hO rfl wA h19 h20 (v := .int .i64 (k1_14 : Int)) (u := (k1_14 : Int)) rfl rfl
  obtain ⟨w21, FA, kS, cj, zG⟩ := hobt
  refine zg (zG Try.underlying3 rfl ti3 (by exact rfl) (by exact rfl)) ?_
  replace hO := kS.own
  refine zn ?_
  refine Go1.inBlock ?_
  refine zr ?_
  obtain ⟨h26, H⟩ := H
  refine zo (op_add rfl rfl (wrap_i64 h26)) (zm rfl (zn ?_))
  replace hB := hB.trans kS.fr
  exact hX1 _ H _ _ ⟨FA, ⟨rfl, rfl, rfl, trivial⟩, hO, cj, hB⟩
 replace H := ifn h18 H
 refine zo (fun w => opB (op_lss rfl rfl w) (decide_eq_false h18)) (zn (zq (zf rfl rfl ?_)))
 refine Go1.exit rfl ?_
 refine zq (zr (zm rfl (za rfl (zn ?_))))
 have hobt := freeze 0 hO rfl wA
 obtain ⟨hO1, UD, QL, QM⟩ := hobt
 replace hO := hO1; clear hO1
 refine Go1.ret1 Try.func156 rfl ?_
 replace hB := hB.trans (Owns.dropFr _ _ 0)
 exact ⟨f1_15, p4, n.toNat, (congrArg (fun nn => Value.slice p4 nn n.toNat) QM), hB.same, (QL.ch (Ch.weak _ _ _)), H⟩
theorem body157 : Body Try.prog 157 := ⟨Try.f157, Try.func157, rfl, by kernel_rfl⟩
theorem walk_enumerate_text {A : List Nat} {w0 : World} {p_f : Option Addr} {c_f : Nat} {f : List Int} (hA : ∀ b ∈ A, b < w0.heap.size) (h_f : ISl (Rp.int .i64) A w0 p_f c_f f) {K : Str → Prop} (H : enumerate_text f K) :
    CallsV Try.prog 157 #[.slice p_f f.length c_f] w0 (fun v w' => ∃ (r0 : Str), v = .string (gstr r0) ∧ Same w0 w' ∧ r0.length ≤ mx ∧ K r0) := by
 refine CallsV.of (l := [.slice p_f f.length c_f]) Try.func157 rfl Try.ntmps157 rfl ?_
 have hO := Owns.start hA
 have hB := Fr.refl (bl []) w0
 unfold enumerate_text at H
 refine zq (zr (za rfl (zn (zq (zr ?_)))))
 refine zm rfl (zo (op_len Try.underlying31 rfl) ?_)
 replace h_f := h_f.ch (Ch.start A w0)
 replace H := H h_f.bd
 obtain ⟨h8, H⟩ := H
 obtain ⟨h9, H⟩ := H
 have hobt := omake (n := (f.length : Int)) (r := Rp.int .u8) (d := (0 : Int)) Try.underlying126 ti5 (fun _ _ => rfl) rfl hO h8 h9 (by decide)
 obtain ⟨w1, p2, vs3, pv, hE5, hs6, Ck⟩ := hobt
 refine zg (Ck rfl rfl) ?_
 replace hO := pv.own
 refine za rfl (zn (zq (zq (zr (zm rfl ?_)))))
 refine zo (op_len Try.underlying31 rfl) (zm rfl (zn (zb ?_)))
 replace h_f := h_f.ch pv.ch
 replace hB := hB.trans pv.fr
 refine Go1.loopW (S := Nat × List Int) (fun s σ w => match s with | (k1_12, b1_13) => ∃ (n7 : List Value), agrees σ [(3, .slice p2 f.length f.length), (9, .slice p_f f.length c_f), (10, .int .i64 (f.length : Int)), (11, .int .i64 (k1_12 : Int))] ∧ (fun Z0 => Owns w0.heap.size w Z0 A ∧ Els (Rp.int .u8) (bl Z0 ++ A) w n7 b1_13 ∧ ISl (Rp.int .i64) (bl Z0 ++ A) w p_f c_f f ∧ Fr (bl []) w0 (bl Z0) w) [.row 5 1 p2 f.length f.length n7]) H ⟨vs3, ⟨rfl, rfl, rfl, rfl, trivial⟩, hO, hE5, h_f, hB⟩ ?_
 intro X1
 refine prE fun k1_12 => fun b1_13 => ?_
 intro H hX1 σ w11
 refine exE fun n7 => andE fun hag => andE fun hO => andE fun bM => andE fun h_f => fun hB => ?_
 dsimp only at H
 refine Go1.keep [(3, .slice p2 f.length f.length), (9, .slice p_f f.length c_f), (10, .int .i64 (f.length : Int)), (11, .int .i64 (k1_12 : Int))] hag ?_
 refine zq (zr ?_)
 by_cases h16 : (k1_12 : Int) < (f.length : Int)
 ·replace H := ifp h16 H
  refine zo (fun w => opB (op_lss rfl rfl w) (decide_eq_true h16)) (zn (zq (zt rfl rfl (zk (zq ?_)))))
  refine zb (zq (zr (zm rfl ?_)))
  obtain ⟨h17, H⟩ := H
  obtain ⟨h18, H⟩ := H
  refine zo (op_index Try.underlying31 ti3 rfl rfl h17 h18 (h_f.some_ h17 h18)) (zs (ldInt h_f h17 h18 Try.underlying3 rfl rfl) (za rfl (za rfl (zn (zr ?_)))))
  refine zm rfl (zm rfl (zm rfl (zo (op_conv Try.underlying3 Try.underlying5 rfl rfl) ?_)))
  obtain ⟨h19, H⟩ := H
  obtain ⟨h20, H⟩ := H
  refine zo (op_index Try.underlying126 ti5 rfl rfl h19 (ltn (bM.neq hO 0 rfl) h20) (bM.psome hO 0 rfl h19 h20)) ?_
  have hobt := ost (r := Rp.int .u8) rfl 0 hO rfl bM h19 h20 (v := .int .u8 (IntKind.u8.wrap (ix f (k1_12 : Int)))) (u := (IntKind.u8.wrap (ix f (k1_12 : Int)))) rfl rfl
  obtain ⟨w21, FA, kS, cj, zG⟩ := hobt
  refine zg (zG Try.underlying5 rfl ti5 (by exact rfl) (by exact rfl)) ?_
  replace hO := kS.own
  refine zn ?_
  refine Go1.inBlock ?_
  refine zr ?_
  replace h_f := h_f.ch kS.ch
  refine zo (op_add rfl rfl (wrap_i64 (natbd h16 h_f.bd))) (zm rfl (zn ?_))
  replace hB := hB.trans kS.fr
  exact hX1 _ H _ _ ⟨FA, ⟨rfl, rfl, rfl, rfl, trivial⟩, hO, cj, h_f, hB⟩
 replace H := ifn h16 H
 refine zo (fun w => opB (op_lss rfl rfl w) (decide_eq_false h16)) (zn (zq (zf rfl rfl ?_)))
 refine Go1.exit rfl ?_
 refine zq (zr (zm rfl ?_))
 have hle26 := byt_le bM.bd
 refine zs (oldBytes 0 hO rfl bM Try.underlying126 Try.underlying5 Try.underlying9 rfl) (za rfl (zn ?_))
 refine Go1.ret1 Try.func157 rfl ?_
 exact ⟨byt b1_13, rfl, hB.same, hle26, H⟩
end Sg
