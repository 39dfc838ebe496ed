/- The walks: each call keeps to its plain transformer. Printed by walkgen.py. -/
import Derived.Test.YtjegjjdfgefkoaaTi
import Derived.Test.YtjegjjdfgefkoaaWEnumerateBuildsb
import Derived.Test.YtjegjjdfgefkoaaWEnumerateBuildsc
import Derived.Test.YtjegjjdfgefkoaaWEnumerateCovers
import Derived.Test.YtjegjjdfgefkoaaAl
namespace Sg
open Go Go.RowKit Go.Proofs
set_option linter.unusedVariables false
set_option linter.unusedSimpArgs false
set_option maxRecDepth 100000
set_option maxHeartbeats 4000000
theorem body38 : Body Try.prog 38 := ⟨Try.f38, Try.func38, rfl, by kernel_rfl⟩
theorem walk_enumerate_Left {A : List Nat} {w0 : World} {aH : Option Addr} {aI : Nat} {bX : Option Addr} {bY : Nat} {bx : Option Addr} {bz : Nat} {cO : Option Addr} {cP : Nat} {b5 : Option Addr} {b6 : Nat} {b7 : Option Addr} {b8 : Nat} {a0 : Enum} (hA : ∀ b ∈ A, b < w0.heap.size) (aa : ISl (Rp.sl (Rp.int .i64)) A w0 aH aI a0.Gens) (ar : ISl (Rp.sl (Rp.int .i64)) A w0 bX bY a0.Elems) (ak : ISl (Rp.int .i64) A w0 bx bz a0.Prefix) (aB : ISl (Rp.int .i64) A w0 cO cP a0.Last) (au : ISl (Rp.sl (Rp.int .i64)) A w0 b5 b6 a0.Right) (ao : ISl (rpRule) A w0 b7 b8 a0.Rules) {K : List (List Int) → Prop} (H : enumerate_Left a0 K) :
    CallsV Try.prog 38 #[.agg #[.int .i64 a0.Points, .bool a0.Monoid, .slice aH a0.Gens.length aI, .slice bX a0.Elems.length bY, .slice bx a0.Prefix.length bz, .slice cO a0.Last.length cP, .slice b5 a0.Right.length b6, .slice b7 a0.Rules.length b8, .int .i64 a0.Done]] w0 (fun v w' => ∃ (r0 : List (List Int)), ∃ (nt : Option Addr), ∃ (nu : Nat), v = .slice nt r0.length nu ∧ Same w0 w' ∧ ISl (Rp.sl (Rp.int .i64)) A w' nt nu r0 ∧ K r0) := by
 refine CallsV.of (l := [.agg #[.int .i64 a0.Points, .bool a0.Monoid, .slice aH a0.Gens.length aI, .slice bX a0.Elems.length bY, .slice bx a0.Prefix.length bz, .slice cO a0.Last.length cP, .slice b5 a0.Right.length b6, .slice b7 a0.Rules.length b8, .int .i64 a0.Done]]) Try.func38 rfl Try.ntmps38 rfl ?_
 have hO := Owns.start hA
 have hB := Fr.refl (bl []) w0
 unfold enumerate_Left at H
 refine zq (zr ?_)
 have hobt := obox (t := 29) (v := .agg #[.int .i64 a0.Points, .bool a0.Monoid, .slice aH a0.Gens.length aI, .slice bX a0.Elems.length bY, .slice bx a0.Prefix.length bz, .slice cO a0.Last.length cP, .slice b5 a0.Right.length b6, .slice b7 a0.Rules.length b8, .int .i64 a0.Done]) (cs := #[.int .i64 a0.Points, .bool a0.Monoid, .slice aH a0.Gens.length aI, .slice bX a0.Elems.length bY, .slice bx a0.Prefix.length bz, .slice cO a0.Last.length cP, .slice b5 a0.Right.length b6, .slice b7 a0.Rules.length b8, .int .i64 a0.Done]) hO rfl
 obtain ⟨w1, B2, d7, hs4, qE⟩ := hobt
 refine zg (qE rfl) ?_
 replace hO := d7.own
 refine za rfl (zn (zq (zr (zs (oblkAgg (vs := [.int .i64 a0.Points, .bool a0.Monoid, .slice aH a0.Gens.length aI, .slice bX a0.Elems.length bY, .slice bx a0.Prefix.length bz, .slice cO a0.Last.length cP, .slice b5 a0.Right.length b6, .slice b7 a0.Rules.length b8, .int .i64 a0.Done]) (i := 0) 0 hO rfl rfl Try.underlying29 rfl ti29 rfl) ?_))))
 refine GoR.inl (vs := [.agg #[.int .i64 a0.Points, .bool a0.Monoid, .slice aH a0.Gens.length aI, .slice bX a0.Elems.length bY, .slice bx a0.Prefix.length bz, .slice cO a0.Last.length cP, .slice b5 a0.Right.length b6, .slice b7 a0.Rules.length b8, .int .i64 a0.Done]]) (caps := []) rfl rfl body57 Try.func57 rfl Try.ntmps57 rfl rfl rfl ?_
 intro RhR7 hR7
 refine zq (zr ?_)
 have hobt := obox (t := 29) (v := .agg #[.int .i64 a0.Points, .bool a0.Monoid, .slice aH a0.Gens.length aI, .slice bX a0.Elems.length bY, .slice bx a0.Prefix.length bz, .slice cO a0.Last.length cP, .slice b5 a0.Right.length b6, .slice b7 a0.Rules.length b8, .int .i64 a0.Done]) (cs := #[.int .i64 a0.Points, .bool a0.Monoid, .slice aH a0.Gens.length aI, .slice bX a0.Elems.length bY, .slice bx a0.Prefix.length bz, .slice cO a0.Last.length cP, .slice b5 a0.Right.length b6, .slice b7 a0.Rules.length b8, .int .i64 a0.Done]) hO rfl
 obtain ⟨w8, B9, wO, wy, Nu⟩ := hobt
 refine zg (Nu rfl) ?_
 replace hO := wO.own
 refine za rfl (za rfl (zn (zq (zr (zs (oblkAgg (vs := [.int .i64 a0.Points, .bool a0.Monoid, .slice aH a0.Gens.length aI, .slice bX a0.Elems.length bY, .slice bx a0.Prefix.length bz, .slice cO a0.Last.length cP, .slice b5 a0.Right.length b6, .slice b7 a0.Rules.length b8, .int .i64 a0.Done]) (i := 0) 0 hO rfl rfl Try.underlying29 rfl ti29 rfl) ?_)))))
 have Z1 := ((Ch.start A w0).trans d7.ch).trans wO.ch
 replace aa := aa.ch Z1
 replace ar := ar.ch Z1
 replace ak := ak.ch Z1
 replace aB := aB.ch Z1
 replace au := au.ch Z1
 replace ao := ao.ch Z1
 refine GoR.call (op_call body53 rfl (walk_enumerate_replay (e := a0) hO.lt aa ar ak aB au ao H)) rfl rfl ?_
 intro v16 w17 hcase20
 refine Or.elim hcase20 ?_ ?_
 ·refine exE fun r15 => andE fun hv21 => andE fun Dq => fun H => ?_
  subst hv21
  clear hcase20
  replace H := oElimN H
  have f0 := Stp.same hO Dq
  replace hO := f0.own
  refine zm rfl (zo (op_extract rfl rfl) (zo (op_extract rfl rfl) (za rfl (za rfl (zn ?_)))))
  refine zq ?_
  refine Go1.cut [(4, .pointer none), (5, .bool r15)] ⟨rfl, rfl, trivial⟩ ?_
  intro σ _
  refine zr (zm rfl (zm rfl (zm rfl ?_)))
  cases r15
  ·replace H := ifn Bool.false_ne_true H
   refine zp (zp (zo (op_pickF rfl rfl rfl) (za rfl (za rfl (zn ?_)))))
   refine Go1.ret2V Try.func57 rfl (show _ = .pointer none from rfl) (show _ = .bool false from rfl) ?_
   refine hR7 _ _ ?_
   refine zm rfl (zo (op_extract rfl rfl) (zo (op_extract rfl rfl) (za rfl (za rfl (zn ?_)))))
   refine zq (zq (zr (zm rfl (zo (op_not rfl) (zn ?_)))))
   refine zt rfl rfl (zq (zr (za rfl (zn ?_))))
   refine Go1.ret1 Try.func38 rfl ?_
   replace hB := ((hB.trans d7.fr).trans wO.fr).trans f0.fr
   exact ⟨([] : List (List Int)), none, 0, rfl, hB.same, (ISl.null _ _ _), H⟩
  replace H := ifp rfl H
  refine zm rfl ?_
  refine GoR.inl (vs := [.pointer none]) (caps := []) rfl rfl body50 Try.func50 rfl Try.ntmps50 rfl rfl rfl ?_
  intro RhR23 hR23
  refine zq ?_
  refine Go1.cut [(0, .pointer none)] ⟨rfl, trivial⟩ ?_
  intro σ _
  refine zr (za rfl (zn (zq ?_)))
  refine Go1.drawS 0 [(0, .pure), (1, .pure), (2, .pure), (3, .pure), (4, .stable), (5, .pure), (6, .pure), (7, .pure), (8, .pure), (9, .stable), (10, .pure), (11, .pure), (12, .pure)] mixed (by kernel_rfl) ?_
  intro w24 Eh
  have nk := Stp.same hO Eh
  replace hO := nk.own
  refine GoQ.pure rfl (op_move rfl) rfl rfl ?_
  exact H.elim
 ·refine exE fun r14 => exE fun r15 => exE fun jq => exE fun cz => exE fun cA => exE fun cB => exE fun fk => exE fun b9 => exE fun ca => exE fun cb => exE fun eI => exE fun bB => exE fun bC => exE fun bD => exE fun en => exE fun cC => exE fun cD => exE fun cE => exE fun fm => exE fun cd => exE fun ce => exE fun cf => exE fun eK => exE fun cg => exE fun ci => exE fun cj => exE fun eM => exE fun dx => exE fun dR => exE fun dS => exE fun dT => exE fun gr => exE fun dy => exE fun dz => exE fun dA => exE fun gc => exE fun cW => exE fun cX => exE fun cY => exE fun gf => andE fun hv27 => andE fun Dq => andE fun hN19 => andE fun ck => andE fun bA => andE fun bk => andE fun bF => andE fun bj => andE fun bS => andE fun dC => andE fun dh => andE fun cG => fun H => ?_
  subst hv27
  clear hcase20
  replace H := oElimS H
  have jP := Stp.more hO Dq hN19
  dsimp only [List.cons_append, List.nil_append] at jP
  replace hO := jP.own
  replace ck := ck.ch (Ch.assoc _ _ _ _)
  dsimp only [List.cons_append, List.nil_append] at ck
  replace bA := bA.ch (Ch.assoc _ _ _ _)
  dsimp only [List.cons_append, List.nil_append] at bA
  replace bk := bk.ch (Ch.assoc _ _ _ _)
  dsimp only [List.cons_append, List.nil_append] at bk
  replace bF := bF.ch (Ch.assoc _ _ _ _)
  dsimp only [List.cons_append, List.nil_append] at bF
  replace bj := bj.ch (Ch.assoc _ _ _ _)
  dsimp only [List.cons_append, List.nil_append] at bj
  replace bS := bS.ch (Ch.assoc _ _ _ _)
  dsimp only [List.cons_append, List.nil_append] at bS
  replace dC := dC.ch (Ch.assoc _ _ _ _)
  dsimp only [List.cons_append, List.nil_append] at dC
  replace dh := dh.ch (Ch.assoc _ _ _ _)
  dsimp only [List.cons_append, List.nil_append] at dh
  replace cG := cG.ch (Ch.assoc _ _ _ _)
  dsimp only [List.cons_append, List.nil_append] at cG
  refine zm rfl (zo (op_extract rfl rfl) (zo (op_extract rfl rfl) (za rfl (za rfl (zn ?_)))))
  refine zq (zr (zm rfl (zm rfl (zm rfl ?_))))
  cases r15
  ·replace H := ifn Bool.false_ne_true H
   refine zp (zp (zo (op_pickF rfl rfl rfl) (za rfl (za rfl (zn ?_)))))
   refine Go1.ret2V Try.func57 rfl (show _ = .pointer (some ⟨jq, 0, none⟩) from rfl) (show _ = .bool false from rfl) ?_
   refine hR7 _ _ ?_
   refine zm rfl (zo (op_extract rfl rfl) (zo (op_extract rfl rfl) (za rfl (za rfl (zn ?_)))))
   refine zq (zq ?_)
   refine Go1.cut [(3, .pointer (some ⟨jq, 0, none⟩)), (4, .bool false)] ⟨rfl, rfl, trivial⟩ ?_
   intro σ _
   refine zr (zm rfl (zo (op_not rfl) (zn (zt rfl rfl (zq ?_)))))
   refine zr (za rfl (zn ?_))
   refine Go1.ret1 Try.func38 rfl ?_
   replace hB := ((hB.trans d7.fr).trans wO.fr).trans jP.fr
   exact ⟨([] : List (List Int)), none, 0, rfl, hB.same, (ISl.null _ _ _), H⟩
  replace H := ifp rfl H
  refine zm rfl ?_
  refine GoR.inl (vs := [.pointer (some ⟨jq, 0, none⟩)]) (caps := []) rfl rfl body50 Try.func50 rfl Try.ntmps50 rfl rfl rfl ?_
  intro RhR40 hR40
  refine zq (zr (za rfl (zn (zq ?_))))
  refine Go1.drawS 0 [(0, .pure), (1, .pure), (2, .pure), (3, .pure), (4, .stable), (5, .pure), (6, .pure), (7, .pure), (8, .pure), (9, .stable), (10, .pure), (11, .pure), (12, .pure)] mixed (by kernel_rfl) ?_
  intro w41 Hw
  have gV := Stp.same hO Hw
  replace hO := gV.own
  refine GoQ.pure rfl (op_move rfl) rfl rfl ?_
  refine GoQ.pure rfl (op_nilCheck rfl) rfl rfl ?_
  refine GoQ.pure rfl (op_fieldAddr Try.underlying72 rfl ti29 rfl (by decide)) rfl rfl ?_
  refine GoQ.pure rfl (op_fieldAddr Try.underlying29 rfl ti3 rfl (by decide)) rfl rfl ?_
  refine GoQ.stable rfl (oblk (i := 8) 0 hO rfl rfl Try.underlying3 rfl rfl) rfl rfl ?_
  refine GoQ.pure rfl (op_move rfl) rfl rfl ?_
  refine GoQ.pure rfl (op_nilCheck rfl) rfl rfl ?_
  refine GoQ.pure rfl (op_fieldAddr Try.underlying72 rfl ti29 rfl (by decide)) rfl rfl ?_
  refine GoQ.pure rfl (op_fieldAddr Try.underlying29 rfl ti22 rfl (by decide)) rfl rfl ?_
  refine GoQ.stable rfl (oblk (i := 3) 0 hO rfl rfl Try.underlying22 rfl rfl) rfl rfl ?_
  replace bA := bA.ch gV.ch
  refine GoQ.pure rfl (op_lenN Try.underlying22 rfl (bA.neq hO 2 rfl)) rfl rfl ?_
  by_cases h44 : r14.Enum.Done = (r14.Enum.Elems.length : Int)
  ·replace H := ifp h44 H
   refine GoQ.pure rfl (fun w => opB (op_eql rfl rfl w) (decide_eq_true h44)) rfl rfl ?_
   refine GoQ.pure rfl (op_assign rfl) rfl rfl ?_
   refine GoQ.nil ?_
   refine Go1.ret1V Try.func50 rfl (show _ = .bool true from rfl) ?_
   refine hR40 _ _ ?_
   refine zo (op_pickT rfl rfl rfl) (za rfl (za rfl (zn ?_)))
   refine Go1.ret2V Try.func57 rfl (show _ = .pointer (some ⟨jq, 0, none⟩) from rfl) (show _ = .bool true from rfl) ?_
   refine hR7 _ _ ?_
   refine zm rfl (zo (op_extract rfl rfl) (zo (op_extract rfl rfl) (za rfl (za rfl (zn ?_)))))
   refine zq (zq ?_)
   refine Go1.cut [(3, .pointer (some ⟨jq, 0, none⟩)), (4, .bool true)] ⟨rfl, rfl, trivial⟩ ?_
   intro σ _
   refine zr (zm rfl (zo (op_not rfl) (zn (zf rfl rfl (zk ?_)))))
   refine zq (zr (zm rfl (zo (op_nilCheck rfl) (zo (op_fieldAddr Try.underlying72 rfl ti29 rfl (by decide)) (zo (op_fieldAddr Try.underlying29 rfl ti22 rfl (by decide)) ?_)))))
   refine zs (oblk (i := 3) 0 hO rfl rfl Try.underlying22 rfl rfl) (zo (op_lenN Try.underlying22 rfl (bA.neq hO 2 rfl)) ?_)
   obtain ⟨h52, H⟩ := H
   obtain ⟨h53, H⟩ := H
   have hobt := t2make (m := (r14.Enum.Elems.length : Int)) (e' := 3) (Fl.int .i64) Try.underlying22 ti26 hO h52 h53 (by decide)
   obtain ⟨w45, p46, sg, WI, Nv⟩ := hobt
   refine zg (Nv rfl rfl) ?_
   replace hO := sg.own
   refine za rfl (zn (zq (zq (zr (zm rfl ?_)))))
   refine zo (op_lenN Try.underlying22 rfl (t2neq 0 hO rfl)) (zm rfl (zn (zb ?_)))
   replace hO := hO.drop 12
   replace bA := (bA.ch sg.ch).ch (Owns.dropCh _ _ 12)
   have Z2 := (gV.ch.trans sg.ch).trans (Owns.dropCh _ _ 12)
   replace ck := ck.ch Z2
   replace bk := bk.ch Z2
   replace bF := bF.ch Z2
   replace bj := bj.ch Z2
   replace bS := bS.ch Z2
   replace dC := dC.ch Z2
   replace dh := dh.ch Z2
   replace cG := cG.ch Z2
   have Z3 := ((jP.ch.trans gV.ch).trans sg.ch).trans (Owns.dropCh _ _ 12)
   replace aa := aa.ch Z3
   replace ar := ar.ch Z3
   replace ak := ak.ch Z3
   replace aB := aB.ch Z3
   replace au := au.ch Z3
   replace ao := ao.ch Z3
   replace hB := (((((hB.trans d7.fr).trans wO.fr).trans jP.fr).trans gV.fr).trans sg.fr).trans (Owns.dropFr _ _ 12)
   dsimp only [eS, eZ] at hB hO aa ar ak aB au ao ck bA bk bF bj bS dC dh cG
   replace hO := hO.drop 12
   replace aa := aa.ch (Owns.dropCh _ _ 12)
   replace ar := ar.ch (Owns.dropCh _ _ 12)
   replace ak := ak.ch (Owns.dropCh _ _ 12)
   replace aB := aB.ch (Owns.dropCh _ _ 12)
   replace au := au.ch (Owns.dropCh _ _ 12)
   replace ao := ao.ch (Owns.dropCh _ _ 12)
   replace ck := ck.ch (Owns.dropCh _ _ 12)
   replace bA := bA.ch (Owns.dropCh _ _ 12)
   replace bk := bk.ch (Owns.dropCh _ _ 12)
   replace bF := bF.ch (Owns.dropCh _ _ 12)
   replace bj := bj.ch (Owns.dropCh _ _ 12)
   replace bS := bS.ch (Owns.dropCh _ _ 12)
   replace dC := dC.ch (Owns.dropCh _ _ 12)
   replace dh := dh.ch (Owns.dropCh _ _ 12)
   replace cG := cG.ch (Owns.dropCh _ _ 12)
   replace hB := hB.trans (Owns.dropFr _ _ 12)
   dsimp only [eS, eZ] at hB hO aa ar ak aB au ao ck bA bk bF bj bS dC dh cG
   refine Go1.loopW (S := Nat × List (List Int)) (fun s σ w => match s with | (k1_56, d_57) => ∃ (n60 : Nat), ∃ (p58 : Option Addr), ∃ (c59 : Nat), ∃ (pQ : Hd), agrees σ [(3, .pointer (some ⟨jq, 0, none⟩)), (5, .slice p58 n60 c59), (26, .int .i64 ((List.replicate r14.Enum.Elems.length ([] : List Int)).length : Int)), (27, .int .i64 (k1_56 : Int))] ∧ (fun Z0 => Owns w0.heap.size w Z0 A ∧ Els (Rp.sl (Rp.int .i64)) (bl Z0 ++ A) w fk r14.Enum.Gens ∧ Els (Rp.sl (Rp.int .i64)) (bl Z0 ++ A) w eI r14.Enum.Elems ∧ Els (Rp.int .i64) (bl Z0 ++ A) w en r14.Enum.Prefix ∧ Els (Rp.int .i64) (bl Z0 ++ A) w fm r14.Enum.Last ∧ Els (Rp.sl (Rp.int .i64)) (bl Z0 ++ A) w eK r14.Enum.Right ∧ Els (rpRule) (bl Z0 ++ A) w eM r14.Enum.Rules ∧ Els (Rp.str) (bl Z0 ++ A) w gr r14.words ∧ Els (Rp.int .i64) (bl Z0 ++ A) w gc r14.behind ∧ Els (Rp.int .i64) (bl Z0 ++ A) w gf r14.single ∧ Fr (bl []) w0 (bl Z0) w) [t2 (Fl.int .i64) 26 3 p58 n60 c59 pQ d_57, .blk jq (.cells #[.int .i64 r14.Enum.Points, .bool r14.Enum.Monoid, .slice cA cz cB, .slice ca b9 cb, .slice bC bB bD, .slice cD cC cE, .slice ce cd cf, .slice ci cg cj, .int .i64 r14.Enum.Done, .map (some dx), .slice dS dR dT, .slice dz dy dA, .slice cX cW cY] 72 (0, 0)), .row 26 1 cA cz cB fk, .row 26 1 ca b9 cb eI, .row 3 1 bC bB bD en, .row 3 1 cD cC cE fm, .row 26 1 ce cd cf eK, .row 39 2 ci cg cj eM, .row 9 1 dS dR dT gr, .row 3 1 dz dy dA gc, .row 3 1 cX cW cY gf, .any (mapE (fun a : List UInt8 => Value.string (gstr a)) (fun a : Int => Value.int .i64 a) dx r14.number)]) H ⟨r14.Enum.Elems.length, p46, r14.Enum.Elems.length, (fun _ => (none, 0)), ⟨rfl, rfl, rfl, rfl, trivial⟩, hO, ck, bA, bk, bF, bj, bS, dC, dh, cG, hB⟩ ?_
   intro X1
   refine prE fun k1_56 => fun d_57 => ?_
   intro H hX1 σ w55
   refine exE fun n60 => exE fun p58 => exE fun c59 => exE fun pQ => andE fun hag => andE fun hO => andE fun ck => andE fun bA => andE fun bk => andE fun bF => andE fun bj => andE fun bS => andE fun dC => andE fun dh => andE fun cG => fun hB => ?_
   dsimp only at H
   refine Go1.keep [(3, .pointer (some ⟨jq, 0, none⟩)), (5, .slice p58 n60 c59), (26, .int .i64 ((List.replicate r14.Enum.Elems.length ([] : List Int)).length : Int)), (27, .int .i64 (k1_56 : Int))] hag ?_
   refine zq (zr ?_)
   by_cases h62 : (k1_56 : Int) < ((List.replicate r14.Enum.Elems.length ([] : List Int)).length : Int)
   ·replace H := ifp h62 H
    refine zo (fun w => opB (op_lss rfl rfl w) (decide_eq_true h62)) (zn (zq (zt rfl rfl (zk (zq ?_)))))
    refine zb (zq (zr (zm rfl (za rfl (zn ?_)))))
    refine zq (zr (zm rfl (zm rfl (zm rfl (zo (op_nilCheck rfl) ?_)))))
    refine zo (op_fieldAddr Try.underlying72 rfl ti29 rfl (by decide)) (zo (op_fieldAddr Try.underlying29 rfl ti22 rfl (by decide)) (zs (oblk (i := 2) 1 hO rfl rfl Try.underlying22 rfl rfl) (zo (op_lenN Try.underlying22 rfl (ck.neq hO 2 rfl)) ?_)))
    obtain ⟨h70, H⟩ := H
    obtain ⟨h71, H⟩ := H
    have hobt := omake (n := (r14.Enum.Gens.length : Int)) (r := Rp.int .i64) (d := (0 : Int)) Try.underlying26 ti3 (fun _ _ => rfl) rfl hO h70 h71 (by decide)
    obtain ⟨w63, p64, WJ, xB, Fd, FS, Nw⟩ := hobt
    refine zg (Nw rfl rfl) ?_
    replace hO := xB.own
    obtain ⟨h73, H⟩ := H
    obtain ⟨h74, H⟩ := H
    refine zo (op_index Try.underlying22 ti26 rfl rfl h73 (ltn (t2neq 1 hO rfl) h74) (t2some 1 hO rfl h73 h74)) ?_
    have v7 := Stp.front 1 hO rfl
    dsimp only [eS, eZ] at v7
    replace hO := v7.own
    have v8 := Stp.front 1 hO rfl
    dsimp only [eS, eZ] at v8
    replace hO := v8.own
    replace Fd := (Fd.ch v7.ch).ch v8.ch
    have hobt := t2put (hf := (Fl.int .i64)) hO Fd h73 h74
    obtain ⟨w77, oV, Nx⟩ := hobt
    refine zg (Nx Try.underlying26 rfl ti26 (by exact rfl) (by exact rfl)) ?_
    replace hO := oV.own
    refine zn (zq (zr (zm rfl (zo (op_nilCheck rfl) (zo (op_fieldAddr Try.underlying72 rfl ti26 rfl (by decide)) ?_)))))
    refine zs (oblk (i := 12) 1 hO rfl rfl Try.underlying26 rfl rfl) ?_
    have Z4 := ((xB.ch.trans v7.ch).trans v8.ch).trans oV.ch
    replace cG := cG.ch Z4
    refine zo (op_lenN Try.underlying26 rfl (cG.neq hO 10 rfl)) (zm rfl (zn (zb ?_)))
    replace ck := ck.ch Z4
    replace bA := bA.ch Z4
    replace bk := bk.ch Z4
    replace bF := bF.ch Z4
    replace bj := bj.ch Z4
    replace bS := bS.ch Z4
    replace dC := dC.ch Z4
    replace dh := dh.ch Z4
    replace hB := (((hB.trans xB.fr).trans v7.fr).trans v8.fr).trans oV.fr
    refine Go1.loopW (S := Nat × List (List Int)) (fun s σ w => match s with | (k2_81, d_82) => agrees σ [(3, .pointer (some ⟨jq, 0, none⟩)), (5, .slice p58 n60 c59), (6, .int .i64 (k1_56 : Int)), (26, .int .i64 ((List.replicate r14.Enum.Elems.length ([] : List Int)).length : Int)), (27, .int .i64 (k1_56 : Int)), (43, .slice cX cW cY), (44, .int .i64 (r14.single.length : Int)), (45, .int .i64 (k2_81 : Int))] ∧ (fun Z0 => Owns w0.heap.size w Z0 A ∧ Els (Rp.sl (Rp.int .i64)) (bl Z0 ++ A) w fk r14.Enum.Gens ∧ Els (Rp.sl (Rp.int .i64)) (bl Z0 ++ A) w eI r14.Enum.Elems ∧ Els (Rp.int .i64) (bl Z0 ++ A) w en r14.Enum.Prefix ∧ Els (Rp.int .i64) (bl Z0 ++ A) w fm r14.Enum.Last ∧ Els (Rp.sl (Rp.int .i64)) (bl Z0 ++ A) w eK r14.Enum.Right ∧ Els (rpRule) (bl Z0 ++ A) w eM r14.Enum.Rules ∧ Els (Rp.str) (bl Z0 ++ A) w gr r14.words ∧ Els (Rp.int .i64) (bl Z0 ++ A) w gc r14.behind ∧ Els (Rp.int .i64) (bl Z0 ++ A) w gf r14.single ∧ Fr (bl []) w0 (bl Z0) w) [t2 (Fl.int .i64) 26 3 p58 n60 c59 (hup pQ (k1_56 : Int).toNat (p64, r14.Enum.Gens.length)) d_82, .blk jq (.cells #[.int .i64 r14.Enum.Points, .bool r14.Enum.Monoid, .slice cA cz cB, .slice ca b9 cb, .slice bC bB bD, .slice cD cC cE, .slice ce cd cf, .slice ci cg cj, .int .i64 r14.Enum.Done, .map (some dx), .slice dS dR dT, .slice dz dy dA, .slice cX cW cY] 72 (0, 0)), .row 26 1 cA cz cB fk, .row 26 1 ca b9 cb eI, .row 3 1 bC bB bD en, .row 3 1 cD cC cE fm, .row 26 1 ce cd cf eK, .row 39 2 ci cg cj eM, .row 9 1 dS dR dT gr, .row 3 1 dz dy dA gc, .row 3 1 cX cW cY gf, .any (mapE (fun a : List UInt8 => Value.string (gstr a)) (fun a : Int => Value.int .i64 a) dx r14.number)]) H ⟨⟨rfl, rfl, rfl, rfl, rfl, rfl, rfl, rfl, trivial⟩, hO, ck, bA, bk, bF, bj, bS, dC, dh, cG, hB⟩ ?_
    intro X2
    refine prE fun k2_81 => fun d_82 => ?_
    intro H hX2 σ w80
    refine andE fun hag => andE fun hO => andE fun ck => andE fun bA => andE fun bk => andE fun bF => andE fun bj => andE fun bS => andE fun dC => andE fun dh => andE fun cG => fun hB => ?_
    dsimp only at H
    refine Go1.keep [(3, .pointer (some ⟨jq, 0, none⟩)), (5, .slice p58 n60 c59), (6, .int .i64 (k1_56 : Int)), (26, .int .i64 ((List.replicate r14.Enum.Elems.length ([] : List Int)).length : Int)), (27, .int .i64 (k1_56 : Int)), (43, .slice cX cW cY), (44, .int .i64 (r14.single.length : Int)), (45, .int .i64 (k2_81 : Int))] hag ?_
    refine zq (zr ?_)
    by_cases h83 : (k2_81 : Int) < (r14.single.length : Int)
    ·replace H := ifp h83 H
     refine zo (fun w => opB (op_lss rfl rfl w) (decide_eq_true h83)) (zn (zq (zt rfl rfl (zk (zq ?_)))))
     refine zb (zq (zr (zm rfl ?_)))
     obtain ⟨h84, H⟩ := H
     obtain ⟨h85, H⟩ := H
     refine zo (op_index Try.underlying26 ti3 rfl rfl h84 (ltn (cG.neq hO 10 rfl) h85) (cG.psome hO 10 rfl h84 h85)) (zs (oldInt 10 hO rfl cG h84 h85 Try.underlying3 rfl rfl) (za rfl (za rfl (zn (zq ?_)))))
     refine Go1.drawS 0 [(0, .pure), (1, .pure), (2, .pure), (3, .pure), (4, .stable), (5, .pure), (6, .pure), (7, .stable), (8, .pure), (9, .pure), (10, .pure), (11, .pure), (12, .stable), (13, .pure), (14, .pure), (15, .stable), (16, .pure), (17, .pure)] mixed (by kernel_rfl) ?_
     intro w86 Hx
     have xC := Stp.same hO Hx
     replace hO := xC.own
     refine GoQ.pure rfl (op_move rfl) rfl rfl ?_
     refine GoQ.pure rfl (op_nilCheck rfl) rfl rfl ?_
     refine GoQ.pure rfl (op_fieldAddr Try.underlying72 rfl ti29 rfl (by decide)) rfl rfl ?_
     refine GoQ.pure rfl (op_fieldAddr Try.underlying29 rfl ti26 rfl (by decide)) rfl rfl ?_
     refine GoQ.stable rfl (oblk (i := 4) 1 hO rfl rfl Try.underlying26 rfl rfl) rfl rfl ?_
     refine GoQ.pure rfl (op_move rfl) rfl rfl ?_
     obtain ⟨h89, H⟩ := H
     obtain ⟨h90, H⟩ := H
     replace bk := bk.ch xC.ch
     refine GoQ.pure rfl (op_index Try.underlying26 ti3 rfl rfl h89 (ltn (bk.neq hO 4 rfl) h90) (bk.psome hO 4 rfl h89 h90)) rfl rfl ?_
     refine GoQ.stable rfl (oldInt 4 hO rfl bk h89 h90 Try.underlying3 rfl rfl) rfl rfl ?_
     refine GoQ.pure rfl (op_move rfl) rfl rfl ?_
     refine GoQ.pure rfl (op_nilCheck rfl) rfl rfl ?_
     refine GoQ.pure rfl (op_fieldAddr Try.underlying72 rfl ti29 rfl (by decide)) rfl rfl ?_
     refine GoQ.pure rfl (op_fieldAddr Try.underlying29 rfl ti26 rfl (by decide)) rfl rfl ?_
     refine GoQ.stable rfl (oblk (i := 5) 1 hO rfl rfl Try.underlying26 rfl rfl) rfl rfl ?_
     refine GoQ.pure rfl (op_move rfl) rfl rfl ?_
     obtain ⟨h91, H⟩ := H
     obtain ⟨h92, H⟩ := H
     replace bF := bF.ch xC.ch
     refine GoQ.pure rfl (op_index Try.underlying26 ti3 rfl rfl h91 (ltn (bF.neq hO 5 rfl) h92) (bF.psome hO 5 rfl h91 h92)) rfl rfl ?_
     refine GoQ.stable rfl (oldInt 5 hO rfl bF h91 h92 Try.underlying3 rfl rfl) rfl rfl ?_
     refine GoQ.pure rfl (op_assign rfl) rfl rfl ?_
     refine GoQ.pure rfl (op_assign rfl) rfl rfl ?_
     refine GoQ.nil ?_
     refine zb (zq ?_)
     refine Go1.cut [(3, .pointer (some ⟨jq, 0, none⟩)), (5, .slice p58 n60 c59), (6, .int .i64 (k1_56 : Int)), (7, .int .i64 (k2_81 : Int)), (8, .int .i64 (ix r14.single (k2_81 : Int))), (9, .int .i64 (ix r14.Enum.Prefix (k1_56 : Int))), (10, .int .i64 (ix r14.Enum.Last (k1_56 : Int))), (26, .int .i64 ((List.replicate r14.Enum.Elems.length ([] : List Int)).length : Int)), (27, .int .i64 (k1_56 : Int)), (43, .slice cX cW cY), (44, .int .i64 (r14.single.length : Int)), (45, .int .i64 (k2_81 : Int))] ⟨rfl, rfl, rfl, rfl, rfl, rfl, rfl, rfl, rfl, rfl, rfl, rfl, trivial⟩ ?_
     intro σ _
     refine zr (zm rfl ?_)
     by_cases h93 : (ix r14.Enum.Last (k1_56 : Int)) < (0 : Int)
     ·replace H := ifp h93 H
      refine zo (fun w => opB (op_lss rfl rfl w) (decide_eq_true h93)) (za rfl (zn (zt rfl rfl (zr (zm rfl ?_)))))
      refine zm rfl ?_
      obtain ⟨h94, H⟩ := H
      obtain ⟨h95, H⟩ := H
      refine zo (op_index Try.underlying22 ti26 rfl rfl h94 (ltn (t2neq 0 hO rfl) h95) (t2some 0 hO rfl h94 h95)) (zs (t2head 0 hO rfl h94 h95 Try.underlying26 rfl rfl) (zm rfl (zm rfl ?_)))
      obtain ⟨h96, H⟩ := H
      obtain ⟨h97, H⟩ := H
      refine zo (op_index Try.underlying26 ti3 rfl rfl h96 h97 (t2isome 0 hO rfl h94 h95 h96 h97)) ?_
      have hobt := t2st (r := Rp.int .i64) (hf := (Fl.int .i64)) rfl 0 hO rfl h94 h95 h96 h97 (v := .int .i64 (ix r14.single (k2_81 : Int))) (u := (ix r14.single (k2_81 : Int))) rfl rfl
      obtain ⟨w98, iL, JV⟩ := hobt
      dsimp only [sS, sZ] at iL
      refine zg (JV Try.underlying3 rfl ti3 (by exact rfl) (by exact rfl)) ?_
      replace hO := iL.own
      refine zn ?_
      refine Go1.inBlock ?_
      refine Go1.inBlock ?_
      refine zr ?_
      replace cG := (cG.ch xC.ch).ch iL.ch
      refine zo (op_add rfl rfl (wrap_i64 (natbd h83 cG.bd))) (zm rfl (zn ?_))
      replace bk := bk.ch iL.ch
      replace bF := bF.ch iL.ch
      have Z5 := xC.ch.trans iL.ch
      replace ck := ck.ch Z5
      replace bA := bA.ch Z5
      replace bj := bj.ch Z5
      replace bS := bS.ch Z5
      replace dC := dC.ch Z5
      replace dh := dh.ch Z5
      replace hB := (hB.trans xC.fr).trans iL.fr
      exact hX2 _ H _ _ ⟨⟨rfl, rfl, rfl, rfl, rfl, rfl, rfl, rfl, trivial⟩, hO, ck, bA, bk, bF, bj, bS, dC, dh, cG, hB⟩
     replace H := ifn h93 H
     refine zo (fun w => opB (op_lss rfl rfl w) (decide_eq_false h93)) (za rfl (zn (zf rfl rfl (zq (zr ?_)))))
     refine zm rfl ?_
     by_cases tW : (ix r14.Enum.Prefix (k1_56 : Int)) < (0 : Int)
     ·replace H := ifp tW H
      refine zo (fun w => opB (op_lss rfl rfl w) (decide_eq_true tW)) (za rfl (zn (zt rfl rfl ?_)))
      refine Go1.drawS 1 [(0, .pure), (1, .pure), (2, .pure), (3, .stable), (4, .pure), (5, .pure), (6, .pure), (7, .pure), (8, .pure), (9, .stable), (10, .pure), (11, .pure), (12, .stable), (13, .pure), (14, .pure), (15, .stable), (16, .pure), (17, .last)] mixed (by kernel_rfl) ?_
      intro Sm Ny
      have iC := Stp.same hO Ny
      replace hO := iC.own
      refine GoQ.pure rfl (op_move rfl) rfl rfl ?_
      refine GoQ.pure rfl (op_move rfl) rfl rfl ?_
      obtain ⟨vc, H⟩ := H
      obtain ⟨vd, H⟩ := H
      refine GoQ.pure rfl (op_index Try.underlying22 ti26 rfl rfl vc (ltn (t2neq 0 hO rfl) vd) (t2some 0 hO rfl vc vd)) rfl rfl ?_
      refine GoQ.stable rfl (t2head 0 hO rfl vc vd Try.underlying26 rfl rfl) rfl rfl ?_
      refine GoQ.pure rfl (op_move rfl) rfl rfl ?_
      refine GoQ.pure rfl (op_move rfl) rfl rfl ?_
      refine GoQ.pure rfl (op_nilCheck rfl) rfl rfl ?_
      refine GoQ.pure rfl (op_fieldAddr Try.underlying72 rfl ti29 rfl (by decide)) rfl rfl ?_
      refine GoQ.pure rfl (op_fieldAddr Try.underlying29 rfl ti22 rfl (by decide)) rfl rfl ?_
      refine GoQ.stable rfl (oblk (i := 6) 1 hO rfl rfl Try.underlying22 rfl rfl) rfl rfl ?_
      refine GoQ.pure rfl (op_move rfl) rfl rfl ?_
      obtain ⟨zW, H⟩ := H
      obtain ⟨zX, H⟩ := H
      replace bj := (bj.ch xC.ch).ch iC.ch
      refine GoQ.pure rfl (op_index Try.underlying22 ti26 rfl rfl zW (ltn (bj.neq hO 6 rfl) zX) (bj.psome hO 6 rfl zW zX)) rfl rfl ?_
      have hobt := oldSl 6 hO rfl bj zW zX
      obtain ⟨WK, WL, EH, FT⟩ := hobt
      refine GoQ.stable rfl (FT Try.underlying26 rfl rfl) rfl rfl ?_
      refine GoQ.pure rfl (op_move rfl) rfl rfl ?_
      obtain ⟨Hy, H⟩ := H
      obtain ⟨Hz, H⟩ := H
      refine GoQ.pure rfl (op_index Try.underlying26 ti3 rfl rfl Hy Hz (EH.some_ Hy Hz)) rfl rfl ?_
      refine GoQ.stable rfl (ldInt EH Hy Hz Try.underlying3 rfl rfl) rfl rfl ?_
      obtain ⟨AP, H⟩ := H
      obtain ⟨Cs, H⟩ := H
      refine GoQ.pure rfl (op_index Try.underlying26 ti3 rfl rfl AP Cs (t2isome 0 hO rfl vc vd AP Cs)) rfl rfl ?_
      have hobt := t2st (r := Rp.int .i64) (hf := (Fl.int .i64)) rfl 0 hO rfl vc vd AP Cs (v := .int .i64 (ix (ix r14.Enum.Right (ix r14.single (k2_81 : Int))) (ix r14.Enum.Last (k1_56 : Int)))) (u := (ix (ix r14.Enum.Right (ix r14.single (k2_81 : Int))) (ix r14.Enum.Last (k1_56 : Int)))) rfl rfl
      obtain ⟨Sn, kS, JW⟩ := hobt
      dsimp only [sS, sZ] at kS
      refine GoQ.last rfl (JW Try.underlying3 rfl ti3 (by exact rfl) (by exact rfl)) rfl rfl ?_
      replace hO := kS.own
      refine GoQ.nil ?_
      refine Go1.inBlock ?_
      refine Go1.inBlock ?_
      refine Go1.cut [(3, .pointer (some ⟨jq, 0, none⟩)), (5, .slice p58 n60 c59), (6, .int .i64 (k1_56 : Int)), (26, .int .i64 ((List.replicate r14.Enum.Elems.length ([] : List Int)).length : Int)), (27, .int .i64 (k1_56 : Int)), (43, .slice cX cW cY), (44, .int .i64 (r14.single.length : Int)), (45, .int .i64 (k2_81 : Int))] ⟨rfl, rfl, rfl, rfl, rfl, rfl, rfl, rfl, trivial⟩ ?_
      intro σ _
      refine zr ?_
      have Z6 := (xC.ch.trans iC.ch).trans kS.ch
      replace cG := cG.ch Z6
      refine zo (op_add rfl rfl (wrap_i64 (natbd h83 cG.bd))) (zm rfl (zn ?_))
      replace bj := bj.ch kS.ch
      have Z7 := iC.ch.trans kS.ch
      replace bk := bk.ch Z7
      replace bF := bF.ch Z7
      replace ck := ck.ch Z6
      replace bA := bA.ch Z6
      replace bS := bS.ch Z6
      replace dC := dC.ch Z6
      replace dh := dh.ch Z6
      replace hB := ((hB.trans xC.fr).trans iC.fr).trans kS.fr
      exact hX2 _ H _ _ ⟨⟨rfl, rfl, rfl, rfl, rfl, rfl, rfl, rfl, trivial⟩, hO, ck, bA, bk, bF, bj, bS, dC, dh, cG, hB⟩
     replace H := ifn tW H
     refine zo (fun w => opB (op_lss rfl rfl w) (decide_eq_false tW)) (za rfl (zn (zf rfl rfl ?_)))
     refine Go1.drawS 1 [(0, .pure), (1, .pure), (2, .pure), (3, .stable), (4, .pure), (5, .pure), (6, .pure), (7, .pure), (8, .pure), (9, .stable), (10, .pure), (11, .pure), (12, .pure), (13, .stable), (14, .pure), (15, .pure), (16, .stable), (17, .pure), (18, .stable), (19, .pure), (20, .pure), (21, .stable), (22, .pure), (23, .last)] mixed (by kernel_rfl) ?_
     intro WM Nz
     have vN := Stp.same hO Nz
     replace hO := vN.own
     refine GoQ.pure rfl (op_move rfl) rfl rfl ?_
     refine GoQ.pure rfl (op_move rfl) rfl rfl ?_
     obtain ⟨Br, H⟩ := H
     obtain ⟨Bs, H⟩ := H
     refine GoQ.pure rfl (op_index Try.underlying22 ti26 rfl rfl Br (ltn (t2neq 0 hO rfl) Bs) (t2some 0 hO rfl Br Bs)) rfl rfl ?_
     refine GoQ.stable rfl (t2head 0 hO rfl Br Bs Try.underlying26 rfl rfl) rfl rfl ?_
     refine GoQ.pure rfl (op_move rfl) rfl rfl ?_
     refine GoQ.pure rfl (op_move rfl) rfl rfl ?_
     refine GoQ.pure rfl (op_nilCheck rfl) rfl rfl ?_
     refine GoQ.pure rfl (op_fieldAddr Try.underlying72 rfl ti29 rfl (by decide)) rfl rfl ?_
     refine GoQ.pure rfl (op_fieldAddr Try.underlying29 rfl ti22 rfl (by decide)) rfl rfl ?_
     refine GoQ.stable rfl (oblk (i := 6) 1 hO rfl rfl Try.underlying22 rfl rfl) rfl rfl ?_
     refine GoQ.pure rfl (op_move rfl) rfl rfl ?_
     refine GoQ.pure rfl (op_move rfl) rfl rfl ?_
     obtain ⟨Bt, H⟩ := H
     obtain ⟨xD, H⟩ := H
     refine GoQ.pure rfl (op_index Try.underlying22 ti26 rfl rfl Bt (ltn (t2neq 0 hO rfl) xD) (t2some 0 hO rfl Bt xD)) rfl rfl ?_
     refine GoQ.stable rfl (t2head 0 hO rfl Bt xD Try.underlying26 rfl rfl) rfl rfl ?_
     refine GoQ.pure rfl (op_move rfl) rfl rfl ?_
     obtain ⟨Ct, H⟩ := H
     obtain ⟨HA, H⟩ := H
     refine GoQ.pure rfl (op_index Try.underlying26 ti3 rfl rfl Ct HA (t2isome 0 hO rfl Bt xD Ct HA)) rfl rfl ?_
     refine GoQ.stable rfl (t2Int 0 hO rfl Bt xD Ct HA Try.underlying3 rfl rfl) rfl rfl ?_
     obtain ⟨Dr, H⟩ := H
     obtain ⟨HB, H⟩ := H
     replace bj := (bj.ch xC.ch).ch vN.ch
     refine GoQ.pure rfl (op_index Try.underlying22 ti26 rfl rfl Dr (ltn (bj.neq hO 6 rfl) HB) (bj.psome hO 6 rfl Dr HB)) rfl rfl ?_
     have hobt := oldSl 6 hO rfl bj Dr HB
     obtain ⟨lR, lT, EI, FU⟩ := hobt
     refine GoQ.stable rfl (FU Try.underlying26 rfl rfl) rfl rfl ?_
     refine GoQ.pure rfl (op_move rfl) rfl rfl ?_
     obtain ⟨HC, H⟩ := H
     obtain ⟨Cu, H⟩ := H
     refine GoQ.pure rfl (op_index Try.underlying26 ti3 rfl rfl HC Cu (EI.some_ HC Cu)) rfl rfl ?_
     refine GoQ.stable rfl (ldInt EI HC Cu Try.underlying3 rfl rfl) rfl rfl ?_
     obtain ⟨HD, H⟩ := H
     obtain ⟨Fe, H⟩ := H
     refine GoQ.pure rfl (op_index Try.underlying26 ti3 rfl rfl HD Fe (t2isome 0 hO rfl Br Bs HD Fe)) rfl rfl ?_
     have hobt := t2st (r := Rp.int .i64) (hf := (Fl.int .i64)) rfl 0 hO rfl Br Bs HD Fe (v := .int .i64 (ix (ix r14.Enum.Right (ix (ix d_82 (ix r14.Enum.Prefix (k1_56 : Int))) (k2_81 : Int))) (ix r14.Enum.Last (k1_56 : Int)))) (u := (ix (ix r14.Enum.Right (ix (ix d_82 (ix r14.Enum.Prefix (k1_56 : Int))) (k2_81 : Int))) (ix r14.Enum.Last (k1_56 : Int)))) rfl rfl
     obtain ⟨JX, tk, JY⟩ := hobt
     dsimp only [sS, sZ] at tk
     refine GoQ.last rfl (JY Try.underlying3 rfl ti3 (by exact rfl) (by exact rfl)) rfl rfl ?_
     replace hO := tk.own
     refine GoQ.nil ?_
     refine Go1.inBlock ?_
     refine Go1.inBlock ?_
     refine Go1.cut [(3, .pointer (some ⟨jq, 0, none⟩)), (5, .slice p58 n60 c59), (6, .int .i64 (k1_56 : Int)), (26, .int .i64 ((List.replicate r14.Enum.Elems.length ([] : List Int)).length : Int)), (27, .int .i64 (k1_56 : Int)), (43, .slice cX cW cY), (44, .int .i64 (r14.single.length : Int)), (45, .int .i64 (k2_81 : Int))] ⟨rfl, rfl, rfl, rfl, rfl, rfl, rfl, rfl, trivial⟩ ?_
     intro σ _
     refine zr ?_
     have Z8 := (xC.ch.trans vN.ch).trans tk.ch
     replace cG := cG.ch Z8
     refine zo (op_add rfl rfl (wrap_i64 (natbd h83 cG.bd))) (zm rfl (zn ?_))
     replace bj := bj.ch tk.ch
     have Z9 := vN.ch.trans tk.ch
     replace bk := bk.ch Z9
     replace bF := bF.ch Z9
     replace ck := ck.ch Z8
     replace bA := bA.ch Z8
     replace bS := bS.ch Z8
     replace dC := dC.ch Z8
     replace dh := dh.ch Z8
     replace hB := ((hB.trans xC.fr).trans vN.fr).trans tk.fr
     exact hX2 _ H _ _ ⟨⟨rfl, rfl, rfl, rfl, rfl, rfl, rfl, rfl, trivial⟩, hO, ck, bA, bk, bF, bj, bS, dC, dh, cG, hB⟩
    replace H := ifn h83 H
    refine zo (fun w => opB (op_lss rfl rfl w) (decide_eq_false h83)) (zn (zq (zf rfl rfl ?_)))
    refine Go1.exit rfl ?_
    refine Go1.inBlock ?_
    refine zr ?_
    obtain ⟨Ff, H⟩ := H
    refine zo (op_add rfl rfl (wrap_i64 Ff)) (zm rfl (zn ?_))
    exact hX1 _ H _ _ ⟨n60, p58, c59, hup pQ (k1_56 : Int).toNat (p64, r14.Enum.Gens.length), ⟨rfl, rfl, rfl, rfl, trivial⟩, hO, ck, bA, bk, bF, bj, bS, dC, dh, cG, hB⟩
   replace H := ifn h62 H
   refine zo (fun w => opB (op_lss rfl rfl w) (decide_eq_false h62)) (zn (zq (zf rfl rfl ?_)))
   refine Go1.exit rfl ?_
   refine zq (zr (zm rfl (za rfl (zn ?_))))
   have hobt := t2freezeA 0 hO rfl
   obtain ⟨hO1, yn, Jc, FV⟩ := hobt
   dsimp only [eS, eZ] at hO1 yn Jc
   replace hB := hB.trans (Owns.dropFr _ _ 0)
   dsimp only [eS, eZ] at hB
   replace hO := hO1; clear hO1
   refine Go1.ret1 Try.func38 rfl ?_
   exact ⟨d_57, p58, c59, (congrArg (fun nn => Value.slice p58 nn c59) FV), hB.same, (Jc.ch (Ch.weak _ _ _)), H⟩
  replace H := ifn h44 H
  refine GoQ.pure rfl (fun w => opB (op_eql rfl rfl w) (decide_eq_false h44)) rfl rfl ?_
  refine GoQ.pure rfl (op_assign rfl) rfl rfl ?_
  refine GoQ.nil ?_
  refine Go1.ret1V Try.func50 rfl (show _ = .bool false from rfl) ?_
  refine hR40 _ _ ?_
  refine zo (op_pickT rfl rfl rfl) (za rfl (za rfl (zn ?_)))
  refine Go1.ret2V Try.func57 rfl (show _ = .pointer (some ⟨jq, 0, none⟩) from rfl) (show _ = .bool false from rfl) ?_
  refine hR7 _ _ ?_
  refine zm rfl (zo (op_extract rfl rfl) (zo (op_extract rfl rfl) (za rfl (za rfl (zn ?_)))))
  refine zq (zq (zr (zm rfl (zo (op_not rfl) (zn ?_)))))
  refine zt rfl rfl (zq (zr (za rfl (zn ?_))))
  refine Go1.ret1 Try.func38 rfl ?_
  replace hB := (((hB.trans d7.fr).trans wO.fr).trans jP.fr).trans gV.fr
  exact ⟨([] : List (List Int)), none, 0, rfl, hB.same, (ISl.null _ _ _), H⟩
end Sg
