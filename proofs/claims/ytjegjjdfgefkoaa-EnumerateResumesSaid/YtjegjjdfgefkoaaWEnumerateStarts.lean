/- The walks: each call keeps to its plain transformer. Printed by walkgen.py. -/
import Derived.Test.YtjegjjdfgefkoaaTi
import Derived.Test.YtjegjjdfgefkoaaWEnumerateBuilds
namespace Sg
open Go Go.RowKit Go.Proofs
set_option linter.unusedVariables false
set_option linter.unusedSimpArgs false
set_option maxRecDepth 100000
set_option maxHeartbeats 4000000
theorem body25 : Body Try.prog 25 := ⟨Try.f25, Try.func25, rfl, by kernel_rfl⟩
theorem walk_enumerate_Start {A : List Nat} {w0 : World} {kl : Option Addr} {km : Nat} {gens : List (List Int)} {monoid : Bool} (hA : ∀ b ∈ A, b < w0.heap.size) (cG : ISl (Rp.sl (Rp.int .i64)) A w0 kl km gens) {K : Enum → Int → Prop} (H : enumerate_Start gens monoid K) :
    CallsV Try.prog 25 #[.slice kl gens.length km, .bool monoid] w0 (fun v w' => ∃ (r0 : Enum), ∃ (r1 : Int), ∃ (rp : Option Addr), ∃ (rq : Nat), ∃ (qi : Option Addr), ∃ (qj : Nat), ∃ (o5 : Option Addr), ∃ (o6 : Nat), ∃ (rs : Option Addr), ∃ (ru : Nat), ∃ (qk : Option Addr), ∃ (ql : Nat), ∃ (qm : Option Addr), ∃ (qn : Nat), v = .tuple #[.agg #[.int .i64 r0.Points, .bool r0.Monoid, .slice rp r0.Gens.length rq, .slice qi r0.Elems.length qj, .slice o5 r0.Prefix.length o6, .slice rs r0.Last.length ru, .slice qk r0.Right.length ql, .slice qm r0.Rules.length qn, .int .i64 r0.Done], .int .i64 r1] ∧ Same w0 w' ∧ ISl (Rp.sl (Rp.int .i64)) A w' rp rq r0.Gens ∧ ISl (Rp.sl (Rp.int .i64)) A w' qi qj r0.Elems ∧ ISl (Rp.int .i64) A w' o5 o6 r0.Prefix ∧ ISl (Rp.int .i64) A w' rs ru r0.Last ∧ ISl (Rp.sl (Rp.int .i64)) A w' qk ql r0.Right ∧ ISl (rpRule) A w' qm qn r0.Rules ∧ K r0 r1) := by
 refine CallsV.of (l := [.slice kl gens.length km, .bool monoid]) Try.func25 rfl Try.ntmps25 rfl ?_
 have hO := Owns.start hA
 have hB := Fr.refl (bl []) w0
 unfold enumerate_Start at H
 replace cG := cG.ch (Ch.start A w0)
 refine Go1.seq ?_
 refine Go1.region ?_
 have hobt := oalloc (t := 29) (cs := #[.int .i64 (0 : Int), .bool false, .slice none 0 0, .slice none 0 0, .slice none 0 0, .slice none 0 0, .slice none 0 0, .slice none 0 0, .int .i64 (0 : Int)]) ti29 hO rfl
 obtain ⟨w1, B2, fE, hs4, wb⟩ := hobt
 refine GoR.op wb rfl rfl ?_
 replace hO := fE.own
 replace cG := cG.ch fE.ch
 replace hB := hB.trans fE.fr
 refine GoR.op ((op_assign rfl) _) rfl rfl ?_
 refine GoR.nil ?_
 refine Go1.seq ?_
 refine Go1.region ?_
 refine GoR.op ((op_move rfl) _) rfl rfl ?_
 refine GoR.op ((op_move rfl) _) rfl rfl ?_
 refine GoR.call (op_call body49 rfl (walk_enumerate_begin hO.lt cG H)) rfl rfl ?_
 intro v9 w10 hcase13
 refine Or.elim hcase13 ?_ ?_
 ·refine exE fun r8 => andE fun hv14 => andE fun wc => fun H => ?_
  subst hv14
  clear hcase13
  replace H := oElimN H
  have qJ := Stp.same hO wc
  replace hO := qJ.own
  replace cG := cG.ch qJ.ch
  replace hB := hB.trans qJ.fr
  refine GoR.op ((op_move rfl) _) rfl rfl ?_
  refine GoR.op ((op_extract rfl rfl) _) rfl rfl ?_
  refine GoR.op ((op_extract rfl rfl) _) rfl rfl ?_
  refine GoR.op ((op_assign rfl) _) rfl rfl ?_
  refine GoR.op ((op_assign rfl) _) rfl rfl ?_
  refine GoR.nil ?_
  refine Go1.seq ?_
  refine Go1.seq ?_
  refine Go1.region ?_
  refine GoR.op ((op_move rfl) _) rfl rfl ?_
  by_cases h16 : r8 = (0 : Int)
  ·replace H := ifp h16 H
   refine GoR.op ((fun w => opB (op_neq rfl rfl w) (ndT h16)) _) rfl rfl ?_
   refine GoR.nil ?_
   refine Go1.condF rfl rfl ?_
   refine Go1.skip ?_
   refine Go1.seq ?_
   refine Go1.region ?_
   refine GoR.op ((op_move rfl) _) rfl rfl ?_
   exact H.elim
  replace H := ifn h16 H
  refine GoR.op ((fun w => opB (op_neq rfl rfl w) (ndF h16)) _) rfl rfl ?_
  refine GoR.nil ?_
  refine Go1.condT rfl rfl ?_
  refine Go1.seq ?_
  refine Go1.region ?_
  refine GoR.op ((op_build Try.underlying29 ti29 (pl := [(0, 1), (1, 1), (2, 1), (3, 1), (4, 1), (5, 1), (6, 1), (7, 1), (8, 1)]) (vs := []) (cs := #[.int .i64 (0 : Int), .bool false, .slice none 0 0, .slice none 0 0, .slice none 0 0, .slice none 0 0, .slice none 0 0, .slice none 0 0, .int .i64 (0 : Int)]) (by kernel_rfl) rfl (by kernel_rfl)) _) rfl rfl ?_
  refine GoR.op ((op_move rfl) _) rfl rfl ?_
  have hobt := oblkStAgg (us := [.int .i64 (0 : Int), .bool false, .slice none 0 0, .slice none 0 0, .slice none 0 0, .slice none 0 0, .slice none 0 0, .slice none 0 0, .int .i64 (0 : Int)]) (o := 0) (cs' := #[.int .i64 (0 : Int), .bool false, .slice none 0 0, .slice none 0 0, .slice none 0 0, .slice none 0 0, .slice none 0 0, .slice none 0 0, .int .i64 (0 : Int)]) 0 hO rfl rfl (Nat.le_of_ble_eq_true rfl) rfl
  obtain ⟨w17, pX, Kh⟩ := hobt
  refine GoR.op (Kh ti29 (by exact rfl) (by exact rfl) rfl) rfl rfl ?_
  replace hO := pX.own
  replace cG := cG.ch pX.ch
  replace hB := hB.trans pX.fr
  refine GoR.op ((op_assign rfl) _) rfl rfl ?_
  refine GoR.nil ?_
  refine Go1.retC2 Try.func25 rfl rfl (run_loadBlk (vs := [.int .i64 (0 : Int), .bool false, .slice none 0 0, .slice none 0 0, .slice none 0 0, .slice none 0 0, .slice none 0 0, .slice none 0 0, .int .i64 (0 : Int)]) 0 hO rfl rfl Try.underlying29 rfl ti29) ?_
  exact ⟨(⟨(0 : Int), false, ([] : List (List Int)), ([] : List (List Int)), ([] : List Int), ([] : List Int), ([] : List (List Int)), ([] : List Rule), (0 : Int)⟩ : Enum), r8, none, 0, none, 0, none, 0, none, 0, none, 0, none, 0, rfl, hB.same, (ISl.null _ _ _), (ISl.null _ _ _), (ISl.null _ _ _), (ISl.null _ _ _), (ISl.null _ _ _), (ISl.null _ _ _), H⟩
 ·refine exE fun r7 => exE fun r8 => exE fun mG => exE fun nf => exE fun kb => exE fun kc => exE fun uT => exE fun mh => exE fun jI => exE fun jJ => exE fun uG => exE fun lx => exE fun iO => exE fun iP => exE fun uf => exE fun ng => exE fun kd => exE fun ke => exE fun uU => exE fun mj => exE fun jK => exE fun jL => exE fun uH => exE fun ml => exE fun jM => exE fun jN => exE fun uI => exE fun bO => exE fun xL => exE fun xM => exE fun xN => exE fun wM => exE fun wN => exE fun wO => exE fun wP => exE fun we => exE fun wQ => exE fun wR => exE fun wS => exE fun wg => andE fun hv20 => andE fun wc => andE fun hN12 => andE fun dO => andE fun cU => andE fun cu => andE fun cH => andE fun b8 => andE fun bN => andE fun cO => andE fun cR => andE fun cS => fun H => ?_
  subst hv20
  clear hcase13
  replace H := oElimS H
  have kG := Stp.more hO wc hN12
  dsimp only [List.cons_append, List.nil_append] at kG
  replace hO := kG.own
  replace cG := cG.ch kG.ch
  replace hB := hB.trans kG.fr
  replace dO := dO.ch (Ch.assoc _ _ _ _)
  dsimp only [List.cons_append, List.nil_append] at dO
  replace cU := cU.ch (Ch.assoc _ _ _ _)
  dsimp only [List.cons_append, List.nil_append] at cU
  replace cu := cu.ch (Ch.assoc _ _ _ _)
  dsimp only [List.cons_append, List.nil_append] at cu
  replace cH := cH.ch (Ch.assoc _ _ _ _)
  dsimp only [List.cons_append, List.nil_append] at cH
  replace b8 := b8.ch (Ch.assoc _ _ _ _)
  dsimp only [List.cons_append, List.nil_append] at b8
  replace bN := bN.ch (Ch.assoc _ _ _ _)
  dsimp only [List.cons_append, List.nil_append] at bN
  replace cO := cO.ch (Ch.assoc _ _ _ _)
  dsimp only [List.cons_append, List.nil_append] at cO
  replace cR := cR.ch (Ch.assoc _ _ _ _)
  dsimp only [List.cons_append, List.nil_append] at cR
  replace cS := cS.ch (Ch.assoc _ _ _ _)
  dsimp only [List.cons_append, List.nil_append] at cS
  refine GoR.op ((op_move rfl) _) rfl rfl ?_
  refine GoR.op ((op_extract rfl rfl) _) rfl rfl ?_
  refine GoR.op ((op_extract rfl rfl) _) rfl rfl ?_
  refine GoR.op ((op_assign rfl) _) rfl rfl ?_
  refine GoR.op ((op_assign rfl) _) rfl rfl ?_
  refine GoR.nil ?_
  refine Go1.seq ?_
  refine Go1.seq ?_
  refine Go1.cut [(4, .pointer (some ⟨B2, 0, none⟩)), (6, .pointer (some ⟨mG, 0, none⟩)), (7, .int .i64 r8)] ⟨rfl, rfl, rfl, trivial⟩ ?_
  intro σ _
  refine Go1.region ?_
  refine GoR.op ((op_move rfl) _) rfl rfl ?_
  by_cases h33 : r8 = (0 : Int)
  ·replace H := ifp h33 H
   refine GoR.op ((fun w => opB (op_neq rfl rfl w) (ndT h33)) _) rfl rfl ?_
   refine GoR.nil ?_
   refine Go1.condF rfl rfl ?_
   refine Go1.skip ?_
   refine Go1.seq ?_
   refine Go1.region ?_
   refine GoR.op ((op_move rfl) _) rfl rfl ?_
   refine GoR.op ((op_nilCheck rfl) _) rfl rfl ?_
   refine GoR.op ((op_fieldAddr Try.underlying72 rfl ti29 rfl (by decide)) _) rfl rfl ?_
   refine GoR.op ((oblkAgg (vs := [.int .i64 r7.Enum.Points, .bool r7.Enum.Monoid, .slice kb nf kc, .slice jI mh jJ, .slice iO lx iP, .slice kd ng ke, .slice jK mj jL, .slice jM ml jN, .int .i64 r7.Enum.Done]) (i := 0) 0 hO rfl rfl Try.underlying29 rfl ti29 rfl) _ (Same.refl _)) rfl rfl ?_
   have hobt := oblkStAgg (us := [.int .i64 r7.Enum.Points, .bool r7.Enum.Monoid, .slice kb nf kc, .slice jI mh jJ, .slice iO lx iP, .slice kd ng ke, .slice jK mj jL, .slice jM ml jN, .int .i64 r7.Enum.Done]) (o := 0) (cs' := #[.int .i64 r7.Enum.Points, .bool r7.Enum.Monoid, .slice kb nf kc, .slice jI mh jJ, .slice iO lx iP, .slice kd ng ke, .slice jK mj jL, .slice jM ml jN, .int .i64 r7.Enum.Done]) 11 hO rfl rfl (Nat.le_of_ble_eq_true rfl) rfl
   obtain ⟨w34, kA, Ki⟩ := hobt
   dsimp only [sS, sZ] at kA
   refine GoR.op (Ki ti29 (by exact rfl) (by exact rfl) rfl) rfl rfl ?_
   replace dO := dO.ch kA.ch
   replace cU := cU.ch kA.ch
   replace cu := cu.ch kA.ch
   replace cH := cH.ch kA.ch
   replace b8 := b8.ch kA.ch
   replace bN := bN.ch kA.ch
   replace cO := cO.ch kA.ch
   replace cR := cR.ch kA.ch
   replace cS := cS.ch kA.ch
   replace hO := kA.own
   replace cG := cG.ch kA.ch
   replace hB := hB.trans kA.fr
   refine GoR.op ((op_assign rfl) _) rfl rfl ?_
   refine GoR.nil ?_
   have hobt := freeze 1 hO rfl dO
   obtain ⟨hO1, xt, vI, L8⟩ := hobt
   dsimp only [eS, eZ] at hO1 xt vI
   replace cG := cG.ch xt
   replace cU := cU.ch xt
   replace cu := cu.ch xt
   replace cH := cH.ch xt
   replace b8 := b8.ch xt
   replace bN := bN.ch xt
   replace cO := cO.ch xt
   replace cR := cR.ch xt
   replace cS := cS.ch xt
   replace hB := hB.trans (Owns.dropFr _ _ 1)
   dsimp only [eS, eZ] at hB
   replace hO := hO1; clear hO1
   have hobt := freeze 1 hO rfl cU
   obtain ⟨hO1, xv, xw, L9⟩ := hobt
   dsimp only [eS, eZ] at hO1 xv xw
   replace cG := cG.ch xv
   replace vI := vI.ch xv
   replace cu := cu.ch xv
   replace cH := cH.ch xv
   replace b8 := b8.ch xv
   replace bN := bN.ch xv
   replace cO := cO.ch xv
   replace cR := cR.ch xv
   replace cS := cS.ch xv
   replace hB := hB.trans (Owns.dropFr _ _ 1)
   dsimp only [eS, eZ] at hB
   replace hO := hO1; clear hO1
   have hobt := freeze 1 hO rfl cu
   obtain ⟨hO1, xx, mB, Ma⟩ := hobt
   dsimp only [eS, eZ] at hO1 xx mB
   replace cG := cG.ch xx
   replace vI := vI.ch xx
   replace xw := xw.ch xx
   replace cH := cH.ch xx
   replace b8 := b8.ch xx
   replace bN := bN.ch xx
   replace cO := cO.ch xx
   replace cR := cR.ch xx
   replace cS := cS.ch xx
   replace hB := hB.trans (Owns.dropFr _ _ 1)
   dsimp only [eS, eZ] at hB
   replace hO := hO1; clear hO1
   have hobt := freeze 1 hO rfl cH
   obtain ⟨hO1, xz, Au, Mb⟩ := hobt
   dsimp only [eS, eZ] at hO1 xz Au
   replace cG := cG.ch xz
   replace vI := vI.ch xz
   replace xw := xw.ch xz
   replace mB := mB.ch xz
   replace b8 := b8.ch xz
   replace bN := bN.ch xz
   replace cO := cO.ch xz
   replace cR := cR.ch xz
   replace cS := cS.ch xz
   replace hB := hB.trans (Owns.dropFr _ _ 1)
   dsimp only [eS, eZ] at hB
   replace hO := hO1; clear hO1
   have hobt := freeze 1 hO rfl b8
   obtain ⟨hO1, xA, CW, Mc⟩ := hobt
   dsimp only [eS, eZ] at hO1 xA CW
   replace cG := cG.ch xA
   replace vI := vI.ch xA
   replace xw := xw.ch xA
   replace mB := mB.ch xA
   replace Au := Au.ch xA
   replace bN := bN.ch xA
   replace cO := cO.ch xA
   replace cR := cR.ch xA
   replace cS := cS.ch xA
   replace hB := hB.trans (Owns.dropFr _ _ 1)
   dsimp only [eS, eZ] at hB
   replace hO := hO1; clear hO1
   have hobt := freeze 1 hO rfl bN
   obtain ⟨hO1, xB, Gy, Me⟩ := hobt
   dsimp only [eS, eZ] at hO1 xB Gy
   replace cG := cG.ch xB
   replace vI := vI.ch xB
   replace xw := xw.ch xB
   replace mB := mB.ch xB
   replace Au := Au.ch xB
   replace CW := CW.ch xB
   replace cO := cO.ch xB
   replace cR := cR.ch xB
   replace cS := cS.ch xB
   replace hB := hB.trans (Owns.dropFr _ _ 1)
   dsimp only [eS, eZ] at hB
   replace hO := hO1; clear hO1
   refine Go1.retC2 Try.func25 rfl rfl (run_loadBlk (vs := [.int .i64 r7.Enum.Points, .bool r7.Enum.Monoid, .slice kb nf kc, .slice jI mh jJ, .slice iO lx iP, .slice kd ng ke, .slice jK mj jL, .slice jM ml jN, .int .i64 r7.Enum.Done]) 5 hO rfl rfl Try.underlying29 rfl ti29) ?_
   exact ⟨(⟨r7.Enum.Points, r7.Enum.Monoid, r7.Enum.Gens, r7.Enum.Elems, r7.Enum.Prefix, r7.Enum.Last, r7.Enum.Right, r7.Enum.Rules, r7.Enum.Done⟩ : Enum), (0 : Int), kb, kc, jI, jJ, iO, iP, kd, ke, jK, jL, jM, jN, (congrArg (fun l => Value.tuple (List.toArray l)) (cons_eq (congrArg (fun l => Value.agg (List.toArray l)) (cons_eq rfl (cons_eq rfl (cons_eq (congrArg (fun nn => Value.slice kb nn kc) L8) (cons_eq (congrArg (fun nn => Value.slice jI nn jJ) L9) (cons_eq (congrArg (fun nn => Value.slice iO nn iP) Ma) (cons_eq (congrArg (fun nn => Value.slice kd nn ke) Mb) (cons_eq (congrArg (fun nn => Value.slice jK nn jL) Mc) (cons_eq (congrArg (fun nn => Value.slice jM nn jN) Me) (cons_eq rfl rfl)))))))))) (cons_eq rfl rfl))), hB.same, (vI.ch (Ch.weak _ _ _)), (xw.ch (Ch.weak _ _ _)), (mB.ch (Ch.weak _ _ _)), (Au.ch (Ch.weak _ _ _)), (CW.ch (Ch.weak _ _ _)), (Gy.ch (Ch.weak _ _ _)), H⟩
  replace H := ifn h33 H
  refine GoR.op ((fun w => opB (op_neq rfl rfl w) (ndF h33)) _) rfl rfl ?_
  refine GoR.nil ?_
  refine Go1.condT rfl rfl ?_
  refine Go1.seq ?_
  refine Go1.region ?_
  refine GoR.op ((op_build Try.underlying29 ti29 (pl := [(0, 1), (1, 1), (2, 1), (3, 1), (4, 1), (5, 1), (6, 1), (7, 1), (8, 1)]) (vs := []) (cs := #[.int .i64 (0 : Int), .bool false, .slice none 0 0, .slice none 0 0, .slice none 0 0, .slice none 0 0, .slice none 0 0, .slice none 0 0, .int .i64 (0 : Int)]) (by kernel_rfl) rfl (by kernel_rfl)) _) rfl rfl ?_
  refine GoR.op ((op_move rfl) _) rfl rfl ?_
  have hobt := oblkStAgg (us := [.int .i64 (0 : Int), .bool false, .slice none 0 0, .slice none 0 0, .slice none 0 0, .slice none 0 0, .slice none 0 0, .slice none 0 0, .int .i64 (0 : Int)]) (o := 0) (cs' := #[.int .i64 (0 : Int), .bool false, .slice none 0 0, .slice none 0 0, .slice none 0 0, .slice none 0 0, .slice none 0 0, .slice none 0 0, .int .i64 (0 : Int)]) 11 hO rfl rfl (Nat.le_of_ble_eq_true rfl) rfl
  obtain ⟨w55, ub, Kj⟩ := hobt
  dsimp only [sS, sZ] at ub
  refine GoR.op (Kj ti29 (by exact rfl) (by exact rfl) rfl) rfl rfl ?_
  replace dO := dO.ch ub.ch
  replace cU := cU.ch ub.ch
  replace cu := cu.ch ub.ch
  replace cH := cH.ch ub.ch
  replace b8 := b8.ch ub.ch
  replace bN := bN.ch ub.ch
  replace cO := cO.ch ub.ch
  replace cR := cR.ch ub.ch
  replace cS := cS.ch ub.ch
  replace hO := ub.own
  replace cG := cG.ch ub.ch
  replace hB := hB.trans ub.fr
  refine GoR.op ((op_assign rfl) _) rfl rfl ?_
  refine GoR.nil ?_
  refine Go1.retC2 Try.func25 rfl rfl (run_loadBlk (vs := [.int .i64 (0 : Int), .bool false, .slice none 0 0, .slice none 0 0, .slice none 0 0, .slice none 0 0, .slice none 0 0, .slice none 0 0, .int .i64 (0 : Int)]) 11 hO rfl rfl Try.underlying29 rfl ti29) ?_
  exact ⟨(⟨(0 : Int), false, ([] : List (List Int)), ([] : List (List Int)), ([] : List Int), ([] : List Int), ([] : List (List Int)), ([] : List Rule), (0 : Int)⟩ : Enum), r8, none, 0, none, 0, none, 0, none, 0, none, 0, none, 0, rfl, hB.same, (ISl.null _ _ _), (ISl.null _ _ _), (ISl.null _ _ _), (ISl.null _ _ _), (ISl.null _ _ _), (ISl.null _ _ _), H⟩
end Sg
