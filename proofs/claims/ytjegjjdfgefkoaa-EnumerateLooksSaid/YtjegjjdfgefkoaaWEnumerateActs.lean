/- The walks: each call keeps to its plain transformer. Printed by walkgen.py. -/
import Derived.Test.YtjegjjdfgefkoaaTi
import Derived.Test.YtjegjjdfgefkoaaWEnumerateBuildsb
import Derived.Test.YtjegjjdfgefkoaaWEnumerateBuildsc
import Derived.Test.YtjegjjdfgefkoaaWEnumerateCovers
import Derived.Test.YtjegjjdfgefkoaaAl
namespace Sg
open Go Go.RowKit Go.Proofs
set_option linter.unusedVariables false
set_option linter.unusedSimpArgs false
set_option maxRecDepth 100000
set_option maxHeartbeats 4000000
theorem body36 : Body Try.prog 36 := ⟨Try.f36, Try.func36, rfl, by kernel_rfl⟩
theorem walk_enumerate_Product {A : List Nat} {w0 : World} {cd : Option Addr} {ce : Nat} {bG : Option Addr} {bH : Nat} {bq : Option Addr} {bt : Nat} {b7 : Option Addr} {b8 : Nat} {bI : Option Addr} {bK : Nat} {bM : Option Addr} {bN : Nat} {e : Enum} {i : Int} {j : Int} (hA : ∀ b ∈ A, b < w0.heap.size) (aR : ISl (Rp.sl (Rp.int .i64)) A w0 cd ce e.Gens) (aK : ISl (Rp.sl (Rp.int .i64)) A w0 bG bH e.Elems) (aC : ISl (Rp.int .i64) A w0 bq bt e.Prefix) (aS : ISl (Rp.int .i64) A w0 b7 b8 e.Last) (aL : ISl (Rp.sl (Rp.int .i64)) A w0 bI bK e.Right) (aM : ISl (rpRule) A w0 bM bN e.Rules) {K : Int → Prop} (H : enumerate_Product e i j K) :
    CallsV Try.prog 36 #[.agg #[.int .i64 e.Points, .bool e.Monoid, .slice cd e.Gens.length ce, .slice bG e.Elems.length bH, .slice bq e.Prefix.length bt, .slice b7 e.Last.length b8, .slice bI e.Right.length bK, .slice bM e.Rules.length bN, .int .i64 e.Done], .int .i64 i, .int .i64 j] w0 (fun v w' => ∃ (r0 : Int), v = .int .i64 r0 ∧ Same w0 w' ∧ K r0) := by
 refine CallsV.of (l := [.agg #[.int .i64 e.Points, .bool e.Monoid, .slice cd e.Gens.length ce, .slice bG e.Elems.length bH, .slice bq e.Prefix.length bt, .slice b7 e.Last.length b8, .slice bI e.Right.length bK, .slice bM e.Rules.length bN, .int .i64 e.Done], .int .i64 i, .int .i64 j]) Try.func36 rfl Try.ntmps36 rfl ?_
 have hO := Owns.start hA
 have hB := Fr.refl (bl []) w0
 unfold enumerate_Product at H
 refine zq (zr ?_)
 have hobt := obox (t := 29) (v := .agg #[.int .i64 e.Points, .bool e.Monoid, .slice cd e.Gens.length ce, .slice bG e.Elems.length bH, .slice bq e.Prefix.length bt, .slice b7 e.Last.length b8, .slice bI e.Right.length bK, .slice bM e.Rules.length bN, .int .i64 e.Done]) (cs := #[.int .i64 e.Points, .bool e.Monoid, .slice cd e.Gens.length ce, .slice bG e.Elems.length bH, .slice bq e.Prefix.length bt, .slice b7 e.Last.length b8, .slice bI e.Right.length bK, .slice bM e.Rules.length bN, .int .i64 e.Done]) hO rfl
 obtain ⟨w1, B2, dI, hs4, qb⟩ := hobt
 refine zg (qb rfl) ?_
 replace hO := dI.own
 refine za rfl (zn (zq (zr (zs (oblkAgg (vs := [.int .i64 e.Points, .bool e.Monoid, .slice cd e.Gens.length ce, .slice bG e.Elems.length bH, .slice bq e.Prefix.length bt, .slice b7 e.Last.length b8, .slice bI e.Right.length bK, .slice bM e.Rules.length bN, .int .i64 e.Done]) (i := 0) 0 hO rfl rfl Try.underlying29 rfl ti29 rfl) ?_))))
 refine GoR.inl (vs := [.agg #[.int .i64 e.Points, .bool e.Monoid, .slice cd e.Gens.length ce, .slice bG e.Elems.length bH, .slice bq e.Prefix.length bt, .slice b7 e.Last.length b8, .slice bI e.Right.length bK, .slice bM e.Rules.length bN, .int .i64 e.Done]]) (caps := []) rfl rfl body57 Try.func57 rfl Try.ntmps57 rfl rfl rfl ?_
 intro RhR7 hR7
 refine zq (zr ?_)
 have hobt := obox (t := 29) (v := .agg #[.int .i64 e.Points, .bool e.Monoid, .slice cd e.Gens.length ce, .slice bG e.Elems.length bH, .slice bq e.Prefix.length bt, .slice b7 e.Last.length b8, .slice bI e.Right.length bK, .slice bM e.Rules.length bN, .int .i64 e.Done]) (cs := #[.int .i64 e.Points, .bool e.Monoid, .slice cd e.Gens.length ce, .slice bG e.Elems.length bH, .slice bq e.Prefix.length bt, .slice b7 e.Last.length b8, .slice bI e.Right.length bK, .slice bM e.Rules.length bN, .int .i64 e.Done]) hO rfl
 obtain ⟨w8, B9, o5, vL, Ge⟩ := hobt
 refine zg (Ge rfl) ?_
 replace hO := o5.own
 refine za rfl (za rfl (zn (zq (zr (zs (oblkAgg (vs := [.int .i64 e.Points, .bool e.Monoid, .slice cd e.Gens.length ce, .slice bG e.Elems.length bH, .slice bq e.Prefix.length bt, .slice b7 e.Last.length b8, .slice bI e.Right.length bK, .slice bM e.Rules.length bN, .int .i64 e.Done]) (i := 0) 0 hO rfl rfl Try.underlying29 rfl ti29 rfl) ?_)))))
 have Z1 := ((Ch.start A w0).trans dI.ch).trans o5.ch
 replace aR := aR.ch Z1
 replace aK := aK.ch Z1
 replace aC := aC.ch Z1
 replace aS := aS.ch Z1
 replace aL := aL.ch Z1
 replace aM := aM.ch Z1
 refine GoR.call (op_call body53 rfl (walk_enumerate_replay (e := e) hO.lt aR aK aC aS aL aM H)) rfl rfl ?_
 intro v16 w17 hcase20
 refine Or.elim hcase20 ?_ ?_
 ·refine exE fun r15 => andE fun hv21 => andE fun z8 => fun H => ?_
  subst hv21
  clear hcase20
  replace H := oElimN H
  have eK := Stp.same hO z8
  replace hO := eK.own
  refine zm rfl (zo (op_extract rfl rfl) (zo (op_extract rfl rfl) (za rfl (za rfl (zn ?_)))))
  refine zq (zr (zm rfl (zm rfl (zm rfl ?_))))
  cases r15
  ·replace H := ifn Bool.false_ne_true H
   refine zp (zp (zo (op_pickF rfl rfl rfl) (za rfl (za rfl (zn ?_)))))
   refine Go1.ret2V Try.func57 rfl (show _ = .pointer none from rfl) (show _ = .bool false from rfl) ?_
   refine hR7 _ _ ?_
   refine zm rfl (zo (op_extract rfl rfl) (zo (op_extract rfl rfl) (za rfl (za rfl (zn ?_)))))
   refine zq (zq ?_)
   refine Go1.cut [(1, .int .i64 i), (2, .int .i64 j), (7, .pointer none), (8, .bool false)] ⟨rfl, rfl, rfl, rfl, trivial⟩ ?_
   intro σ _
   refine zr (zm rfl (zo (op_not rfl) (zm rfl (zp (zp ?_)))))
   refine zp (zp (zo (op_pickT rfl rfl rfl) (zm rfl (zp (zp ?_)))))
   refine zp (zp (zp (zp (zp (zp ?_)))))
   refine zp (zp (zo (op_pickT rfl rfl rfl) (zn (zt rfl rfl (zq ?_)))))
   refine Go1.cut [] trivial ?_
   intro σ _
   refine zr (za rfl (zn ?_))
   refine Go1.ret1 Try.func36 rfl ?_
   replace hB := ((hB.trans dI.fr).trans o5.fr).trans eK.fr
   exact ⟨(-1 : Int), rfl, hB.same, H⟩
  replace H := ifp rfl H
  refine zm rfl ?_
  refine GoR.inl (vs := [.pointer none]) (caps := []) rfl rfl body50 Try.func50 rfl Try.ntmps50 rfl rfl rfl ?_
  intro RhR23 hR23
  refine zq (zr (za rfl (zn (zq ?_))))
  refine Go1.drawS 0 [(0, .pure), (1, .pure), (2, .pure), (3, .pure), (4, .stable), (5, .pure), (6, .pure), (7, .pure), (8, .pure), (9, .stable), (10, .pure), (11, .pure), (12, .pure)] mixed (by kernel_rfl) ?_
  intro w24 CM
  have jA := Stp.same hO CM
  replace hO := jA.own
  refine GoQ.pure rfl (op_move rfl) rfl rfl ?_
  exact H.elim
 ·refine exE fun r14 => exE fun r15 => exE fun bW => exE fun am => exE fun ao => exE fun ap => exE fun aV => exE fun ad => exE fun ae => exE fun af => exE fun aO => exE fun aa => exE fun ab => exE fun ac => exE fun aN => exE fun aq => exE fun ar => exE fun au => exE fun aW => exE fun ag => exE fun ah => exE fun ai => exE fun aP => exE fun aj => exE fun ak => exE fun al => exE fun aQ => exE fun av => exE fun aE => exE fun aF => exE fun aG => exE fun bi => exE fun aw => exE fun ax => exE fun ay => exE fun bc => exE fun az => exE fun aA => exE fun aB => exE fun bf => andE fun hv27 => andE fun z8 => andE fun hN19 => andE fun a8 => andE fun aU => andE fun aT => andE fun a9 => andE fun aI => andE fun aX => andE fun bg => andE fun bh => andE fun a7 => fun H => ?_
  subst hv27
  clear hcase20
  replace H := oElimS H
  have gY := Stp.more hO z8 hN19
  dsimp only [List.cons_append, List.nil_append] at gY
  replace hO := gY.own
  replace a8 := a8.ch (Ch.assoc _ _ _ _)
  dsimp only [List.cons_append, List.nil_append] at a8
  replace aU := aU.ch (Ch.assoc _ _ _ _)
  dsimp only [List.cons_append, List.nil_append] at aU
  replace aT := aT.ch (Ch.assoc _ _ _ _)
  dsimp only [List.cons_append, List.nil_append] at aT
  replace a9 := a9.ch (Ch.assoc _ _ _ _)
  dsimp only [List.cons_append, List.nil_append] at a9
  replace aI := aI.ch (Ch.assoc _ _ _ _)
  dsimp only [List.cons_append, List.nil_append] at aI
  replace aX := aX.ch (Ch.assoc _ _ _ _)
  dsimp only [List.cons_append, List.nil_append] at aX
  replace bg := bg.ch (Ch.assoc _ _ _ _)
  dsimp only [List.cons_append, List.nil_append] at bg
  replace bh := bh.ch (Ch.assoc _ _ _ _)
  dsimp only [List.cons_append, List.nil_append] at bh
  replace a7 := a7.ch (Ch.assoc _ _ _ _)
  dsimp only [List.cons_append, List.nil_append] at a7
  refine zm rfl (zo (op_extract rfl rfl) (zo (op_extract rfl rfl) (za rfl (za rfl (zn ?_)))))
  refine zq (zr (zm rfl (zm rfl (zm rfl ?_))))
  cases r15
  ·replace H := ifn Bool.false_ne_true H
   refine zp (zp (zo (op_pickF rfl rfl rfl) (za rfl (za rfl (zn ?_)))))
   refine Go1.ret2V Try.func57 rfl (show _ = .pointer (some ⟨bW, 0, none⟩) from rfl) (show _ = .bool false from rfl) ?_
   refine hR7 _ _ ?_
   refine zm rfl (zo (op_extract rfl rfl) (zo (op_extract rfl rfl) (za rfl (za rfl (zn ?_)))))
   refine zq (zq ?_)
   refine Go1.cut [(1, .int .i64 i), (2, .int .i64 j), (7, .pointer (some ⟨bW, 0, none⟩)), (8, .bool false)] ⟨rfl, rfl, rfl, rfl, trivial⟩ ?_
   intro σ _
   refine zr (zm rfl (zo (op_not rfl) (zm rfl (zp (zp ?_)))))
   refine zp (zp (zo (op_pickT rfl rfl rfl) (zm rfl (zp (zp ?_)))))
   refine zp (zp (zp (zp (zp (zp ?_)))))
   refine zp (zp (zo (op_pickT rfl rfl rfl) (zn (zt rfl rfl (zq ?_)))))
   refine Go1.cut [] trivial ?_
   intro σ _
   refine zr (za rfl (zn ?_))
   refine Go1.ret1 Try.func36 rfl ?_
   replace hB := ((hB.trans dI.fr).trans o5.fr).trans gY.fr
   exact ⟨(-1 : Int), rfl, hB.same, H⟩
  replace H := ifp rfl H
  refine zm rfl ?_
  refine GoR.inl (vs := [.pointer (some ⟨bW, 0, none⟩)]) (caps := []) rfl rfl body50 Try.func50 rfl Try.ntmps50 rfl rfl rfl ?_
  intro RhR40 hR40
  refine zq (zr (za rfl (zn (zq ?_))))
  refine Go1.drawS 0 [(0, .pure), (1, .pure), (2, .pure), (3, .pure), (4, .stable), (5, .pure), (6, .pure), (7, .pure), (8, .pure), (9, .stable), (10, .pure), (11, .pure), (12, .pure)] mixed (by kernel_rfl) ?_
  intro w41 H5
  have eY := Stp.same hO H5
  replace hO := eY.own
  refine GoQ.pure rfl (op_move rfl) rfl rfl ?_
  refine GoQ.pure rfl (op_nilCheck rfl) rfl rfl ?_
  refine GoQ.pure rfl (op_fieldAddr Try.underlying72 rfl ti29 rfl (by decide)) rfl rfl ?_
  refine GoQ.pure rfl (op_fieldAddr Try.underlying29 rfl ti3 rfl (by decide)) rfl rfl ?_
  refine GoQ.stable rfl (oblk (i := 8) 0 hO rfl rfl Try.underlying3 rfl rfl) rfl rfl ?_
  refine GoQ.pure rfl (op_move rfl) rfl rfl ?_
  refine GoQ.pure rfl (op_nilCheck rfl) rfl rfl ?_
  refine GoQ.pure rfl (op_fieldAddr Try.underlying72 rfl ti29 rfl (by decide)) rfl rfl ?_
  refine GoQ.pure rfl (op_fieldAddr Try.underlying29 rfl ti22 rfl (by decide)) rfl rfl ?_
  refine GoQ.stable rfl (oblk (i := 3) 0 hO rfl rfl Try.underlying22 rfl rfl) rfl rfl ?_
  replace aU := aU.ch eY.ch
  refine GoQ.pure rfl (op_lenN Try.underlying22 rfl (aU.neq hO 2 rfl)) rfl rfl ?_
  by_cases h44 : r14.Enum.Done = (r14.Enum.Elems.length : Int)
  ·replace H := ifp h44 H
   refine GoQ.pure rfl (fun w => opB (op_eql rfl rfl w) (decide_eq_true h44)) rfl rfl ?_
   refine GoQ.pure rfl (op_assign rfl) rfl rfl ?_
   refine GoQ.nil ?_
   refine Go1.ret1V Try.func50 rfl (show _ = .bool true from rfl) ?_
   refine hR40 _ _ ?_
   refine zo (op_pickT rfl rfl rfl) (za rfl (za rfl (zn ?_)))
   refine Go1.ret2V Try.func57 rfl (show _ = .pointer (some ⟨bW, 0, none⟩) from rfl) (show _ = .bool true from rfl) ?_
   refine hR7 _ _ ?_
   refine zm rfl (zo (op_extract rfl rfl) (zo (op_extract rfl rfl) (za rfl (za rfl (zn ?_)))))
   refine zq (zq ?_)
   refine Go1.cut [(1, .int .i64 i), (2, .int .i64 j), (7, .pointer (some ⟨bW, 0, none⟩)), (8, .bool true)] ⟨rfl, rfl, rfl, rfl, trivial⟩ ?_
   intro σ _
   refine zr (zm rfl (zo (op_not rfl) (zm rfl (zm rfl (zm rfl ?_)))))
   by_cases h45 : j < i
   ·replace H := ifp h45 H
    refine zo (op_minT rfl rfl h45) ?_
    by_cases h46 : j < (0 : Int)
    ·replace H := ifp h46 H
     refine zo (fun w => opB (op_lss rfl rfl w) (decide_eq_true h46)) (zo (op_pickF rfl rfl rfl) (zm rfl (zp (zp (zp ?_)))))
     refine zp (zp (zp (zp (zp (zp ?_)))))
     refine zp (zo (op_pickT rfl rfl rfl) (zn (zt rfl rfl (zq ?_))))
     refine Go1.cut [] trivial ?_
     intro σ _
     refine zr (za rfl (zn ?_))
     refine Go1.ret1 Try.func36 rfl ?_
     replace hB := (((hB.trans dI.fr).trans o5.fr).trans gY.fr).trans eY.fr
     exact ⟨(-1 : Int), rfl, hB.same, H⟩
    replace H := ifn h46 H
    refine zo (fun w => opB (op_lss rfl rfl w) (decide_eq_false h46)) (zo (op_pickF rfl rfl rfl) (zm rfl (zm rfl (zm rfl ?_))))
    by_cases h47 : i < j
    ·replace H := ifp h47 H
     refine zo (op_maxT rfl rfl h47) (zm rfl (zo (op_nilCheck rfl) (zo (op_fieldAddr Try.underlying72 rfl ti29 rfl (by decide)) (zo (op_fieldAddr Try.underlying29 rfl ti22 rfl (by decide)) (zs (oblk (i := 3) 0 hO rfl rfl Try.underlying22 rfl rfl) ?_)))))
     refine zo (op_lenN Try.underlying22 rfl (aU.neq hO 2 rfl)) ?_
     by_cases h48 : (r14.Enum.Elems.length : Int) ≤ j
     ·replace H := ifp h48 H
      refine zo (fun w => opB (op_geq rfl rfl w) (decide_eq_true h48)) (zo (op_pickF rfl rfl rfl) (zn (zt rfl rfl (zq (zr ?_)))))
      refine za rfl (zn ?_)
      refine Go1.ret1 Try.func36 rfl ?_
      replace hB := (((hB.trans dI.fr).trans o5.fr).trans gY.fr).trans eY.fr
      exact ⟨(-1 : Int), rfl, hB.same, H⟩
     replace H := ifn h48 H
     refine zo (fun w => opB (op_geq rfl rfl w) (decide_eq_false h48)) (zo (op_pickF rfl rfl rfl) (zn (zf rfl rfl (zk (zq ?_)))))
     refine zr (zm rfl (zm rfl (zm rfl (zo (op_nilCheck rfl) (zo (op_fieldAddr Try.underlying72 rfl ti70 rfl (by decide)) ?_)))))
     refine zs (oblk (i := 10) 0 hO rfl rfl Try.underlying70 rfl rfl) (zm rfl ?_)
     obtain ⟨h49, H⟩ := H
     obtain ⟨h50, H⟩ := H
     replace bg := bg.ch eY.ch
     refine zo (op_index Try.underlying70 ti9 rfl rfl h49 (ltn (bg.neq hO 7 rfl) h50) (bg.psome hO 7 rfl h49 h50)) (zs (oldStr 7 hO rfl bg h49 h50 Try.underlying9 rfl rfl) ?_)
     have hle51 := Els.str_le bg h49 h50
     refine GoR.inl (vs := [.pointer (some ⟨bW, 0, none⟩), .int .i64 i, .string (gstr (ix r14.words j))]) (caps := []) rfl rfl body59 Try.func59 rfl Try.ntmps59 rfl rfl rfl ?_
     intro RhR52 hR52
     refine zq ?_
     refine Go1.cut [(0, .pointer (some ⟨bW, 0, none⟩)), (1, .int .i64 i), (2, .string (gstr (ix r14.words j)))] ⟨rfl, rfl, rfl, trivial⟩ ?_
     intro σ _
     refine zr (za rfl (zn (zq (zq (zr ?_)))))
     refine zm rfl ?_
     by_cases h53 : i = (-1 : Int)
     ·replace H := ifp h53 H
      refine zo (fun w => opB (op_eql rfl rfl w) (decide_eq_true h53)) (zm rfl (zm rfl ?_))
      by_cases h54 : (ix r14.words j) = (([] : Str))
      ·replace H := ifp h54 H
       refine zo (fun w => opB (op_eqlS rfl rfl w) (decide_eq_true h54)) (zo (op_pickT rfl rfl rfl) (zn (zt rfl rfl (zq (zr ?_)))))
       refine za rfl (zn ?_)
       refine Go1.ret1V Try.func59 rfl (show _ = .int .i64 (0 : Int) from rfl) ?_
       refine hR52 _ _ ?_
       refine za rfl (zn ?_)
       refine Go1.ret1 Try.func36 rfl ?_
       replace hB := (((hB.trans dI.fr).trans o5.fr).trans gY.fr).trans eY.fr
       exact ⟨(0 : Int), rfl, hB.same, H⟩
      replace H := ifn h54 H
      refine zo (fun w => opB (op_eqlS rfl rfl w) (decide_eq_false h54)) (zo (op_pickT rfl rfl rfl) (zn (zf rfl rfl (zk (zq ?_)))))
      refine zq (zr (zm rfl (zo (op_lenS Try.underlying9 rfl) ?_)))
      replace H := H hle51
      refine zm rfl (zn (zb ?_))
      replace hO := hO.drop 11
      replace aU := aU.ch (Owns.dropCh _ _ 11)
      replace bg := bg.ch (Owns.dropCh _ _ 11)
      have Z2 := eY.ch.trans (Owns.dropCh _ _ 11)
      replace a8 := a8.ch Z2
      replace aT := aT.ch Z2
      replace a9 := a9.ch Z2
      replace aI := aI.ch Z2
      replace aX := aX.ch Z2
      replace bh := bh.ch Z2
      replace a7 := a7.ch Z2
      have Z3 := (gY.ch.trans eY.ch).trans (Owns.dropCh _ _ 11)
      replace aR := aR.ch Z3
      replace aK := aK.ch Z3
      replace aC := aC.ch Z3
      replace aS := aS.ch Z3
      replace aL := aL.ch Z3
      replace aM := aM.ch Z3
      replace hB := ((((hB.trans dI.fr).trans o5.fr).trans gY.fr).trans eY.fr).trans (Owns.dropFr _ _ 11)
      dsimp only [eS, eZ] at hB hO aR aK aC aS aL aM a8 aU aT a9 aI aX bg bh a7
      replace hO := hO.drop 11
      replace aR := aR.ch (Owns.dropCh _ _ 11)
      replace aK := aK.ch (Owns.dropCh _ _ 11)
      replace aC := aC.ch (Owns.dropCh _ _ 11)
      replace aS := aS.ch (Owns.dropCh _ _ 11)
      replace aL := aL.ch (Owns.dropCh _ _ 11)
      replace aM := aM.ch (Owns.dropCh _ _ 11)
      replace a8 := a8.ch (Owns.dropCh _ _ 11)
      replace aU := aU.ch (Owns.dropCh _ _ 11)
      replace aT := aT.ch (Owns.dropCh _ _ 11)
      replace a9 := a9.ch (Owns.dropCh _ _ 11)
      replace aI := aI.ch (Owns.dropCh _ _ 11)
      replace aX := aX.ch (Owns.dropCh _ _ 11)
      replace bg := bg.ch (Owns.dropCh _ _ 11)
      replace bh := bh.ch (Owns.dropCh _ _ 11)
      replace a7 := a7.ch (Owns.dropCh _ _ 11)
      replace hB := hB.trans (Owns.dropFr _ _ 11)
      dsimp only [eS, eZ] at hB hO aR aK aC aS aL aM a8 aU aT a9 aI aX bg bh a7
      refine Go1.loopW (S := Int × Nat) (fun s σ w => match s with | (i1_56, k1_57) => agrees σ [(0, .pointer (some ⟨bW, 0, none⟩)), (1, .int .i64 i1_56), (2, .string (gstr (ix r14.words j))), (15, .int .i64 ((ix r14.words j).length : Int)), (16, .int .i64 (k1_57 : Int))] ∧ (fun Z0 => Owns w0.heap.size w Z0 A ∧ Els (Rp.sl (Rp.int .i64)) (bl Z0 ++ A) w aV r14.Enum.Gens ∧ Els (Rp.sl (Rp.int .i64)) (bl Z0 ++ A) w aO r14.Enum.Elems ∧ Els (Rp.int .i64) (bl Z0 ++ A) w aN r14.Enum.Prefix ∧ Els (Rp.int .i64) (bl Z0 ++ A) w aW r14.Enum.Last ∧ Els (Rp.sl (Rp.int .i64)) (bl Z0 ++ A) w aP r14.Enum.Right ∧ Els (rpRule) (bl Z0 ++ A) w aQ r14.Enum.Rules ∧ Els (Rp.str) (bl Z0 ++ A) w bi r14.words ∧ Els (Rp.int .i64) (bl Z0 ++ A) w bc r14.behind ∧ Els (Rp.int .i64) (bl Z0 ++ A) w bf r14.single ∧ Fr (bl []) w0 (bl Z0) w) [.blk bW (.cells #[.int .i64 r14.Enum.Points, .bool r14.Enum.Monoid, .slice ao am ap, .slice ae ad af, .slice ab aa ac, .slice ar aq au, .slice ah ag ai, .slice ak aj al, .int .i64 r14.Enum.Done, .map (some av), .slice aF aE aG, .slice ax aw ay, .slice aA az aB] 72 (0, 0)), .row 26 1 ao am ap aV, .row 26 1 ae ad af aO, .row 3 1 ab aa ac aN, .row 3 1 ar aq au aW, .row 26 1 ah ag ai aP, .row 39 2 ak aj al aQ, .row 9 1 aF aE aG bi, .row 3 1 ax aw ay bc, .row 3 1 aA az aB bf, .any (mapE (fun a : List UInt8 => Value.string (gstr a)) (fun a : Int => Value.int .i64 a) av r14.number)]) H ⟨⟨rfl, rfl, rfl, rfl, rfl, trivial⟩, hO, a8, aU, aT, a9, aI, aX, bg, bh, a7, hB⟩ ?_
      intro X1
      refine prE fun i1_56 => fun k1_57 => ?_
      intro H hX1 σ w55
      refine andE fun hag => andE fun hO => andE fun a8 => andE fun aU => andE fun aT => andE fun a9 => andE fun aI => andE fun aX => andE fun bg => andE fun bh => andE fun a7 => fun hB => ?_
      dsimp only at H
      refine Go1.keep [(0, .pointer (some ⟨bW, 0, none⟩)), (1, .int .i64 i1_56), (2, .string (gstr (ix r14.words j))), (15, .int .i64 ((ix r14.words j).length : Int)), (16, .int .i64 (k1_57 : Int))] hag ?_
      refine zq (zr ?_)
      by_cases h58 : (k1_57 : Int) < ((ix r14.words j).length : Int)
      ·replace H := ifp h58 H
       refine zo (fun w => opB (op_lss rfl rfl w) (decide_eq_true h58)) (zn (zq (zt rfl rfl (zk (zq ?_)))))
       refine zb (zq (zr (zm rfl (za rfl (zn ?_)))))
       refine zr (zm rfl (zm rfl (zm rfl (zm rfl ?_))))
       obtain ⟨h59, H⟩ := H
       obtain ⟨h60, H⟩ := H
       refine zo (op_indexS Try.underlying9 rfl rfl h59 h60) (zo (op_sub rfl rfl rfl) (zo (op_conv Try.underlying5 Try.underlying3 rfl rfl) ?_))
       refine GoR.inl (vs := [.pointer (some ⟨bW, 0, none⟩), .int .i64 i1_56, .int .i64 (IntKind.i64.wrap (IntKind.u8.wrap (((ix (ix r14.words j) (k1_57 : Int)).toNat : Int) - (97 : Int))))]) (caps := []) rfl rfl body66 Try.func66 rfl Try.ntmps66 rfl rfl rfl ?_
       intro RhR61 hR61
       refine zq (zr (za rfl (zn (zq (zq ?_)))))
       refine zr (zm rfl ?_)
       by_cases h62 : i1_56 = (-1 : Int)
       ·replace H := ifp h62 H
        refine zo (fun w => opB (op_eql rfl rfl w) (decide_eq_true h62)) (zn (zt rfl rfl (zq (zr (zm rfl ?_)))))
        refine zo (op_nilCheck rfl) (zo (op_fieldAddr Try.underlying72 rfl ti26 rfl (by decide)) (zs (oblk (i := 12) 0 hO rfl rfl Try.underlying26 rfl rfl) (zm rfl ?_)))
        obtain ⟨h63, H⟩ := H
        obtain ⟨h64, H⟩ := H
        refine zo (op_index Try.underlying26 ti3 rfl rfl h63 (ltn (a7.neq hO 9 rfl) h64) (a7.psome hO 9 rfl h63 h64)) (zs (oldInt 9 hO rfl a7 h63 h64 Try.underlying3 rfl rfl) (za rfl (zn ?_)))
        refine Go1.ret1V Try.func66 rfl (show _ = .int .i64 (ix r14.single (IntKind.i64.wrap (IntKind.u8.wrap (((ix (ix r14.words j) (k1_57 : Int)).toNat : Int) - (97 : Int))))) from rfl) ?_
        refine hR61 _ _ ?_
        refine za rfl (zn ?_)
        refine Go1.inBlock ?_
        refine Go1.cut [(0, .pointer (some ⟨bW, 0, none⟩)), (1, .int .i64 (ix r14.single (IntKind.i64.wrap (IntKind.u8.wrap (((ix (ix r14.words j) (k1_57 : Int)).toNat : Int) - (97 : Int)))))), (2, .string (gstr (ix r14.words j))), (15, .int .i64 ((ix r14.words j).length : Int)), (16, .int .i64 (k1_57 : Int))] ⟨rfl, rfl, rfl, rfl, rfl, trivial⟩ ?_
        intro σ _
        refine zr (zo (op_add rfl rfl (wrap_i64 (natbd h58 hle51))) (zm rfl (zn ?_)))
        exact hX1 _ H _ _ ⟨⟨rfl, rfl, rfl, rfl, rfl, trivial⟩, hO, a8, aU, aT, a9, aI, aX, bg, bh, a7, hB⟩
       replace H := ifn h62 H
       refine zo (fun w => opB (op_eql rfl rfl w) (decide_eq_false h62)) (zn (zf rfl rfl (zk (zq (zr ?_)))))
       refine zm rfl (zo (op_nilCheck rfl) (zo (op_fieldAddr Try.underlying72 rfl ti29 rfl (by decide)) (zo (op_fieldAddr Try.underlying29 rfl ti22 rfl (by decide)) (zs (oblk (i := 6) 0 hO rfl rfl Try.underlying22 rfl rfl) (zm rfl ?_)))))
       obtain ⟨h65, H⟩ := H
       obtain ⟨h66, H⟩ := H
       refine zo (op_index Try.underlying22 ti26 rfl rfl h65 (ltn (aI.neq hO 5 rfl) h66) (aI.psome hO 5 rfl h65 h66)) ?_
       have hobt := oldSl 5 hO rfl aI h65 h66
       obtain ⟨p67, c68, Fz, H6⟩ := hobt
       refine zs (H6 Try.underlying26 rfl rfl) (zm rfl ?_)
       obtain ⟨h71, H⟩ := H
       obtain ⟨h72, H⟩ := H
       refine zo (op_index Try.underlying26 ti3 rfl rfl h71 h72 (Fz.some_ h71 h72)) (zs (ldInt Fz h71 h72 Try.underlying3 rfl rfl) (za rfl (zn ?_)))
       refine Go1.ret1V Try.func66 rfl (show _ = .int .i64 (ix (ix r14.Enum.Right i1_56) (IntKind.i64.wrap (IntKind.u8.wrap (((ix (ix r14.words j) (k1_57 : Int)).toNat : Int) - (97 : Int))))) from rfl) ?_
       refine hR61 _ _ ?_
       refine za rfl (zn ?_)
       refine Go1.inBlock ?_
       refine zr (zo (op_add rfl rfl (wrap_i64 (natbd h58 hle51))) (zm rfl (zn ?_)))
       exact hX1 _ H _ _ ⟨⟨rfl, rfl, rfl, rfl, rfl, trivial⟩, hO, a8, aU, aT, a9, aI, aX, bg, bh, a7, hB⟩
      replace H := ifn h58 H
      refine zo (fun w => opB (op_lss rfl rfl w) (decide_eq_false h58)) (zn (zq (zf rfl rfl ?_)))
      refine Go1.exit rfl ?_
      refine zq (zr (zm rfl (za rfl (zn ?_))))
      refine Go1.ret1V Try.func59 rfl (show _ = .int .i64 i1_56 from rfl) ?_
      refine hR52 _ _ ?_
      refine za rfl (zn ?_)
      refine Go1.ret1 Try.func36 rfl ?_
      exact ⟨i1_56, rfl, hB.same, H⟩
     replace H := ifn h53 H
     refine zo (fun w => opB (op_eql rfl rfl w) (decide_eq_false h53)) (zm rfl (zp (zp (zo (op_pickF rfl rfl rfl) (zn ?_)))))
     refine zf rfl rfl (zk (zq (zq ?_)))
     refine Go1.cut [(0, .pointer (some ⟨bW, 0, none⟩)), (1, .int .i64 i), (2, .string (gstr (ix r14.words j)))] ⟨rfl, rfl, rfl, trivial⟩ ?_
     intro σ _
     refine zr (zm rfl (zo (op_lenS Try.underlying9 rfl) ?_))
     replace H := H hle51
     refine zm rfl (zn (zb ?_))
     replace hO := hO.drop 11
     replace aU := aU.ch (Owns.dropCh _ _ 11)
     replace bg := bg.ch (Owns.dropCh _ _ 11)
     have Z4 := eY.ch.trans (Owns.dropCh _ _ 11)
     replace a8 := a8.ch Z4
     replace aT := aT.ch Z4
     replace a9 := a9.ch Z4
     replace aI := aI.ch Z4
     replace aX := aX.ch Z4
     replace bh := bh.ch Z4
     replace a7 := a7.ch Z4
     have Z5 := (gY.ch.trans eY.ch).trans (Owns.dropCh _ _ 11)
     replace aR := aR.ch Z5
     replace aK := aK.ch Z5
     replace aC := aC.ch Z5
     replace aS := aS.ch Z5
     replace aL := aL.ch Z5
     replace aM := aM.ch Z5
     replace hB := ((((hB.trans dI.fr).trans o5.fr).trans gY.fr).trans eY.fr).trans (Owns.dropFr _ _ 11)
     dsimp only [eS, eZ] at hB hO aR aK aC aS aL aM a8 aU aT a9 aI aX bg bh a7
     replace hO := hO.drop 11
     replace aR := aR.ch (Owns.dropCh _ _ 11)
     replace aK := aK.ch (Owns.dropCh _ _ 11)
     replace aC := aC.ch (Owns.dropCh _ _ 11)
     replace aS := aS.ch (Owns.dropCh _ _ 11)
     replace aL := aL.ch (Owns.dropCh _ _ 11)
     replace aM := aM.ch (Owns.dropCh _ _ 11)
     replace a8 := a8.ch (Owns.dropCh _ _ 11)
     replace aU := aU.ch (Owns.dropCh _ _ 11)
     replace aT := aT.ch (Owns.dropCh _ _ 11)
     replace a9 := a9.ch (Owns.dropCh _ _ 11)
     replace aI := aI.ch (Owns.dropCh _ _ 11)
     replace aX := aX.ch (Owns.dropCh _ _ 11)
     replace bg := bg.ch (Owns.dropCh _ _ 11)
     replace bh := bh.ch (Owns.dropCh _ _ 11)
     replace a7 := a7.ch (Owns.dropCh _ _ 11)
     replace hB := hB.trans (Owns.dropFr _ _ 11)
     dsimp only [eS, eZ] at hB hO aR aK aC aS aL aM a8 aU aT a9 aI aX bg bh a7
     refine Go1.loopW (S := Int × Nat) (fun s σ w => match s with | (i2_74, k2_75) => agrees σ [(0, .pointer (some ⟨bW, 0, none⟩)), (1, .int .i64 i2_74), (2, .string (gstr (ix r14.words j))), (15, .int .i64 ((ix r14.words j).length : Int)), (16, .int .i64 (k2_75 : Int))] ∧ (fun Z0 => Owns w0.heap.size w Z0 A ∧ Els (Rp.sl (Rp.int .i64)) (bl Z0 ++ A) w aV r14.Enum.Gens ∧ Els (Rp.sl (Rp.int .i64)) (bl Z0 ++ A) w aO r14.Enum.Elems ∧ Els (Rp.int .i64) (bl Z0 ++ A) w aN r14.Enum.Prefix ∧ Els (Rp.int .i64) (bl Z0 ++ A) w aW r14.Enum.Last ∧ Els (Rp.sl (Rp.int .i64)) (bl Z0 ++ A) w aP r14.Enum.Right ∧ Els (rpRule) (bl Z0 ++ A) w aQ r14.Enum.Rules ∧ Els (Rp.str) (bl Z0 ++ A) w bi r14.words ∧ Els (Rp.int .i64) (bl Z0 ++ A) w bc r14.behind ∧ Els (Rp.int .i64) (bl Z0 ++ A) w bf r14.single ∧ Fr (bl []) w0 (bl Z0) w) [.blk bW (.cells #[.int .i64 r14.Enum.Points, .bool r14.Enum.Monoid, .slice ao am ap, .slice ae ad af, .slice ab aa ac, .slice ar aq au, .slice ah ag ai, .slice ak aj al, .int .i64 r14.Enum.Done, .map (some av), .slice aF aE aG, .slice ax aw ay, .slice aA az aB] 72 (0, 0)), .row 26 1 ao am ap aV, .row 26 1 ae ad af aO, .row 3 1 ab aa ac aN, .row 3 1 ar aq au aW, .row 26 1 ah ag ai aP, .row 39 2 ak aj al aQ, .row 9 1 aF aE aG bi, .row 3 1 ax aw ay bc, .row 3 1 aA az aB bf, .any (mapE (fun a : List UInt8 => Value.string (gstr a)) (fun a : Int => Value.int .i64 a) av r14.number)]) H ⟨⟨rfl, rfl, rfl, rfl, rfl, trivial⟩, hO, a8, aU, aT, a9, aI, aX, bg, bh, a7, hB⟩ ?_
     intro X2
     refine prE fun i2_74 => fun k2_75 => ?_
     intro H hX2 σ w73
     refine andE fun hag => andE fun hO => andE fun a8 => andE fun aU => andE fun aT => andE fun a9 => andE fun aI => andE fun aX => andE fun bg => andE fun bh => andE fun a7 => fun hB => ?_
     dsimp only at H
     refine Go1.keep [(0, .pointer (some ⟨bW, 0, none⟩)), (1, .int .i64 i2_74), (2, .string (gstr (ix r14.words j))), (15, .int .i64 ((ix r14.words j).length : Int)), (16, .int .i64 (k2_75 : Int))] hag ?_
     refine zq (zr ?_)
     by_cases h76 : (k2_75 : Int) < ((ix r14.words j).length : Int)
     ·replace H := ifp h76 H
      refine zo (fun w => opB (op_lss rfl rfl w) (decide_eq_true h76)) (zn (zq (zt rfl rfl (zk (zq ?_)))))
      refine zb (zq (zr (zm rfl (za rfl (zn ?_)))))
      refine zr (zm rfl (zm rfl (zm rfl (zm rfl ?_))))
      obtain ⟨h77, H⟩ := H
      obtain ⟨h78, H⟩ := H
      refine zo (op_indexS Try.underlying9 rfl rfl h77 h78) (zo (op_sub rfl rfl rfl) (zo (op_conv Try.underlying5 Try.underlying3 rfl rfl) ?_))
      refine GoR.inl (vs := [.pointer (some ⟨bW, 0, none⟩), .int .i64 i2_74, .int .i64 (IntKind.i64.wrap (IntKind.u8.wrap (((ix (ix r14.words j) (k2_75 : Int)).toNat : Int) - (97 : Int))))]) (caps := []) rfl rfl body66 Try.func66 rfl Try.ntmps66 rfl rfl rfl ?_
      intro RhR79 hR79
      refine zq (zr (za rfl (zn (zq (zq ?_)))))
      refine zr (zm rfl ?_)
      by_cases h80 : i2_74 = (-1 : Int)
      ·replace H := ifp h80 H
       refine zo (fun w => opB (op_eql rfl rfl w) (decide_eq_true h80)) (zn (zt rfl rfl (zq (zr (zm rfl ?_)))))
       refine zo (op_nilCheck rfl) (zo (op_fieldAddr Try.underlying72 rfl ti26 rfl (by decide)) (zs (oblk (i := 12) 0 hO rfl rfl Try.underlying26 rfl rfl) (zm rfl ?_)))
       obtain ⟨h81, H⟩ := H
       obtain ⟨h82, H⟩ := H
       refine zo (op_index Try.underlying26 ti3 rfl rfl h81 (ltn (a7.neq hO 9 rfl) h82) (a7.psome hO 9 rfl h81 h82)) (zs (oldInt 9 hO rfl a7 h81 h82 Try.underlying3 rfl rfl) (za rfl (zn ?_)))
       refine Go1.ret1V Try.func66 rfl (show _ = .int .i64 (ix r14.single (IntKind.i64.wrap (IntKind.u8.wrap (((ix (ix r14.words j) (k2_75 : Int)).toNat : Int) - (97 : Int))))) from rfl) ?_
       refine hR79 _ _ ?_
       refine za rfl (zn ?_)
       refine Go1.inBlock ?_
       refine Go1.cut [(0, .pointer (some ⟨bW, 0, none⟩)), (1, .int .i64 (ix r14.single (IntKind.i64.wrap (IntKind.u8.wrap (((ix (ix r14.words j) (k2_75 : Int)).toNat : Int) - (97 : Int)))))), (2, .string (gstr (ix r14.words j))), (15, .int .i64 ((ix r14.words j).length : Int)), (16, .int .i64 (k2_75 : Int))] ⟨rfl, rfl, rfl, rfl, rfl, trivial⟩ ?_
       intro σ _
       refine zr (zo (op_add rfl rfl (wrap_i64 (natbd h76 hle51))) (zm rfl (zn ?_)))
       exact hX2 _ H _ _ ⟨⟨rfl, rfl, rfl, rfl, rfl, trivial⟩, hO, a8, aU, aT, a9, aI, aX, bg, bh, a7, hB⟩
      replace H := ifn h80 H
      refine zo (fun w => opB (op_eql rfl rfl w) (decide_eq_false h80)) (zn (zf rfl rfl (zk (zq (zr ?_)))))
      refine zm rfl (zo (op_nilCheck rfl) (zo (op_fieldAddr Try.underlying72 rfl ti29 rfl (by decide)) (zo (op_fieldAddr Try.underlying29 rfl ti22 rfl (by decide)) (zs (oblk (i := 6) 0 hO rfl rfl Try.underlying22 rfl rfl) (zm rfl ?_)))))
      obtain ⟨h83, H⟩ := H
      obtain ⟨h84, H⟩ := H
      refine zo (op_index Try.underlying22 ti26 rfl rfl h83 (ltn (aI.neq hO 5 rfl) h84) (aI.psome hO 5 rfl h83 h84)) ?_
      have hobt := oldSl 5 hO rfl aI h83 h84
      obtain ⟨p85, c86, KJ, TE⟩ := hobt
      refine zs (TE Try.underlying26 rfl rfl) (zm rfl ?_)
      obtain ⟨h89, H⟩ := H
      obtain ⟨h90, H⟩ := H
      refine zo (op_index Try.underlying26 ti3 rfl rfl h89 h90 (KJ.some_ h89 h90)) (zs (ldInt KJ h89 h90 Try.underlying3 rfl rfl) (za rfl (zn ?_)))
      refine Go1.ret1V Try.func66 rfl (show _ = .int .i64 (ix (ix r14.Enum.Right i2_74) (IntKind.i64.wrap (IntKind.u8.wrap (((ix (ix r14.words j) (k2_75 : Int)).toNat : Int) - (97 : Int))))) from rfl) ?_
      refine hR79 _ _ ?_
      refine za rfl (zn ?_)
      refine Go1.inBlock ?_
      refine zr (zo (op_add rfl rfl (wrap_i64 (natbd h76 hle51))) (zm rfl (zn ?_)))
      exact hX2 _ H _ _ ⟨⟨rfl, rfl, rfl, rfl, rfl, trivial⟩, hO, a8, aU, aT, a9, aI, aX, bg, bh, a7, hB⟩
     replace H := ifn h76 H
     refine zo (fun w => opB (op_lss rfl rfl w) (decide_eq_false h76)) (zn (zq (zf rfl rfl ?_)))
     refine Go1.exit rfl ?_
     refine zq (zr (zm rfl (za rfl (zn ?_))))
     refine Go1.ret1V Try.func59 rfl (show _ = .int .i64 i2_74 from rfl) ?_
     refine hR52 _ _ ?_
     refine za rfl (zn ?_)
     refine Go1.ret1 Try.func36 rfl ?_
     exact ⟨i2_74, rfl, hB.same, H⟩
    replace H := ifn h47 H
    refine zo (op_maxF rfl rfl h47) (zm rfl (zo (op_nilCheck rfl) (zo (op_fieldAddr Try.underlying72 rfl ti29 rfl (by decide)) (zo (op_fieldAddr Try.underlying29 rfl ti22 rfl (by decide)) (zs (oblk (i := 3) 0 hO rfl rfl Try.underlying22 rfl rfl) ?_)))))
    refine zo (op_lenN Try.underlying22 rfl (aU.neq hO 2 rfl)) ?_
    by_cases h91 : (r14.Enum.Elems.length : Int) ≤ i
    ·replace H := ifp h91 H
     refine zo (fun w => opB (op_geq rfl rfl w) (decide_eq_true h91)) (zo (op_pickF rfl rfl rfl) (zn (zt rfl rfl (zq ?_))))
     refine Go1.cut [] trivial ?_
     intro σ _
     refine zr (za rfl (zn ?_))
     refine Go1.ret1 Try.func36 rfl ?_
     replace hB := (((hB.trans dI.fr).trans o5.fr).trans gY.fr).trans eY.fr
     exact ⟨(-1 : Int), rfl, hB.same, H⟩
    replace H := ifn h91 H
    refine zo (fun w => opB (op_geq rfl rfl w) (decide_eq_false h91)) (zo (op_pickF rfl rfl rfl) (zn (zf rfl rfl (zk (zq ?_)))))
    refine zr (zm rfl (zm rfl (zm rfl (zo (op_nilCheck rfl) (zo (op_fieldAddr Try.underlying72 rfl ti70 rfl (by decide)) ?_)))))
    refine zs (oblk (i := 10) 0 hO rfl rfl Try.underlying70 rfl rfl) (zm rfl ?_)
    obtain ⟨h92, H⟩ := H
    obtain ⟨h93, H⟩ := H
    replace bg := bg.ch eY.ch
    refine zo (op_index Try.underlying70 ti9 rfl rfl h92 (ltn (bg.neq hO 7 rfl) h93) (bg.psome hO 7 rfl h92 h93)) (zs (oldStr 7 hO rfl bg h92 h93 Try.underlying9 rfl rfl) ?_)
    have hle94 := Els.str_le bg h92 h93
    refine GoR.inl (vs := [.pointer (some ⟨bW, 0, none⟩), .int .i64 i, .string (gstr (ix r14.words j))]) (caps := []) rfl rfl body59 Try.func59 rfl Try.ntmps59 rfl rfl rfl ?_
    intro RhR95 hR95
    refine zq (zr (za rfl (zn (zq (zq ?_)))))
    refine zr (zm rfl ?_)
    by_cases h96 : i = (-1 : Int)
    ·replace H := ifp h96 H
     refine zo (fun w => opB (op_eql rfl rfl w) (decide_eq_true h96)) (zm rfl (zm rfl ?_))
     by_cases h97 : (ix r14.words j) = (([] : Str))
     ·replace H := ifp h97 H
      refine zo (fun w => opB (op_eqlS rfl rfl w) (decide_eq_true h97)) (zo (op_pickT rfl rfl rfl) (zn (zt rfl rfl (zq ?_))))
      refine Go1.cut [] trivial ?_
      intro σ _
      refine zr (za rfl (zn ?_))
      refine Go1.ret1V Try.func59 rfl (show _ = .int .i64 (0 : Int) from rfl) ?_
      refine hR95 _ _ ?_
      refine za rfl (zn ?_)
      refine Go1.ret1 Try.func36 rfl ?_
      replace hB := (((hB.trans dI.fr).trans o5.fr).trans gY.fr).trans eY.fr
      exact ⟨(0 : Int), rfl, hB.same, H⟩
     replace H := ifn h97 H
     refine zo (fun w => opB (op_eqlS rfl rfl w) (decide_eq_false h97)) (zo (op_pickT rfl rfl rfl) (zn (zf rfl rfl (zk (zq ?_)))))
     refine zq (zr (zm rfl (zo (op_lenS Try.underlying9 rfl) ?_)))
     replace H := H hle94
     refine zm rfl (zn (zb ?_))
     replace hO := hO.drop 11
     replace aU := aU.ch (Owns.dropCh _ _ 11)
     replace bg := bg.ch (Owns.dropCh _ _ 11)
     have Z6 := eY.ch.trans (Owns.dropCh _ _ 11)
     replace a8 := a8.ch Z6
     replace aT := aT.ch Z6
     replace a9 := a9.ch Z6
     replace aI := aI.ch Z6
     replace aX := aX.ch Z6
     replace bh := bh.ch Z6
     replace a7 := a7.ch Z6
     have Z7 := (gY.ch.trans eY.ch).trans (Owns.dropCh _ _ 11)
     replace aR := aR.ch Z7
     replace aK := aK.ch Z7
     replace aC := aC.ch Z7
     replace aS := aS.ch Z7
     replace aL := aL.ch Z7
     replace aM := aM.ch Z7
     replace hB := ((((hB.trans dI.fr).trans o5.fr).trans gY.fr).trans eY.fr).trans (Owns.dropFr _ _ 11)
     dsimp only [eS, eZ] at hB hO aR aK aC aS aL aM a8 aU aT a9 aI aX bg bh a7
     replace hO := hO.drop 11
     replace aR := aR.ch (Owns.dropCh _ _ 11)
     replace aK := aK.ch (Owns.dropCh _ _ 11)
     replace aC := aC.ch (Owns.dropCh _ _ 11)
     replace aS := aS.ch (Owns.dropCh _ _ 11)
     replace aL := aL.ch (Owns.dropCh _ _ 11)
     replace aM := aM.ch (Owns.dropCh _ _ 11)
     replace a8 := a8.ch (Owns.dropCh _ _ 11)
     replace aU := aU.ch (Owns.dropCh _ _ 11)
     replace aT := aT.ch (Owns.dropCh _ _ 11)
     replace a9 := a9.ch (Owns.dropCh _ _ 11)
     replace aI := aI.ch (Owns.dropCh _ _ 11)
     replace aX := aX.ch (Owns.dropCh _ _ 11)
     replace bg := bg.ch (Owns.dropCh _ _ 11)
     replace bh := bh.ch (Owns.dropCh _ _ 11)
     replace a7 := a7.ch (Owns.dropCh _ _ 11)
     replace hB := hB.trans (Owns.dropFr _ _ 11)
     dsimp only [eS, eZ] at hB hO aR aK aC aS aL aM a8 aU aT a9 aI aX bg bh a7
     refine Go1.loopW (S := Int × Nat) (fun s σ w => match s with | (i3_99, k3_100) => agrees σ [(0, .pointer (some ⟨bW, 0, none⟩)), (1, .int .i64 i3_99), (2, .string (gstr (ix r14.words j))), (15, .int .i64 ((ix r14.words j).length : Int)), (16, .int .i64 (k3_100 : Int))] ∧ (fun Z0 => Owns w0.heap.size w Z0 A ∧ Els (Rp.sl (Rp.int .i64)) (bl Z0 ++ A) w aV r14.Enum.Gens ∧ Els (Rp.sl (Rp.int .i64)) (bl Z0 ++ A) w aO r14.Enum.Elems ∧ Els (Rp.int .i64) (bl Z0 ++ A) w aN r14.Enum.Prefix ∧ Els (Rp.int .i64) (bl Z0 ++ A) w aW r14.Enum.Last ∧ Els (Rp.sl (Rp.int .i64)) (bl Z0 ++ A) w aP r14.Enum.Right ∧ Els (rpRule) (bl Z0 ++ A) w aQ r14.Enum.Rules ∧ Els (Rp.str) (bl Z0 ++ A) w bi r14.words ∧ Els (Rp.int .i64) (bl Z0 ++ A) w bc r14.behind ∧ Els (Rp.int .i64) (bl Z0 ++ A) w bf r14.single ∧ Fr (bl []) w0 (bl Z0) w) [.blk bW (.cells #[.int .i64 r14.Enum.Points, .bool r14.Enum.Monoid, .slice ao am ap, .slice ae ad af, .slice ab aa ac, .slice ar aq au, .slice ah ag ai, .slice ak aj al, .int .i64 r14.Enum.Done, .map (some av), .slice aF aE aG, .slice ax aw ay, .slice aA az aB] 72 (0, 0)), .row 26 1 ao am ap aV, .row 26 1 ae ad af aO, .row 3 1 ab aa ac aN, .row 3 1 ar aq au aW, .row 26 1 ah ag ai aP, .row 39 2 ak aj al aQ, .row 9 1 aF aE aG bi, .row 3 1 ax aw ay bc, .row 3 1 aA az aB bf, .any (mapE (fun a : List UInt8 => Value.string (gstr a)) (fun a : Int => Value.int .i64 a) av r14.number)]) H ⟨⟨rfl, rfl, rfl, rfl, rfl, trivial⟩, hO, a8, aU, aT, a9, aI, aX, bg, bh, a7, hB⟩ ?_
     intro X3
     refine prE fun i3_99 => fun k3_100 => ?_
     intro H hX3 σ w98
     refine andE fun hag => andE fun hO => andE fun a8 => andE fun aU => andE fun aT => andE fun a9 => andE fun aI => andE fun aX => andE fun bg => andE fun bh => andE fun a7 => fun hB => ?_
     dsimp only at H
     refine Go1.keep [(0, .pointer (some ⟨bW, 0, none⟩)), (1, .int .i64 i3_99), (2, .string (gstr (ix r14.words j))), (15, .int .i64 ((ix r14.words j).length : Int)), (16, .int .i64 (k3_100 : Int))] hag ?_
     refine zq (zr ?_)
     by_cases t0 : (k3_100 : Int) < ((ix r14.words j).length : Int)
     ·replace H := ifp t0 H
      refine zo (fun w => opB (op_lss rfl rfl w) (decide_eq_true t0)) (zn (zq (zt rfl rfl (zk (zq ?_)))))
      refine zb (zq (zr (zm rfl (za rfl (zn ?_)))))
      refine zr (zm rfl (zm rfl (zm rfl (zm rfl ?_))))
      obtain ⟨xD, H⟩ := H
      obtain ⟨AX, H⟩ := H
      refine zo (op_indexS Try.underlying9 rfl rfl xD AX) (zo (op_sub rfl rfl rfl) (zo (op_conv Try.underlying5 Try.underlying3 rfl rfl) ?_))
      refine GoR.inl (vs := [.pointer (some ⟨bW, 0, none⟩), .int .i64 i3_99, .int .i64 (IntKind.i64.wrap (IntKind.u8.wrap (((ix (ix r14.words j) (k3_100 : Int)).toNat : Int) - (97 : Int))))]) (caps := []) rfl rfl body66 Try.func66 rfl Try.ntmps66 rfl rfl rfl ?_
      intro RhR104 hR104
      refine zq (zr (za rfl (zn (zq (zq ?_)))))
      refine zr (zm rfl ?_)
      by_cases vM : i3_99 = (-1 : Int)
      ·replace H := ifp vM H
       refine zo (fun w => opB (op_eql rfl rfl w) (decide_eq_true vM)) (zn (zt rfl rfl (zq (zr (zm rfl ?_)))))
       refine zo (op_nilCheck rfl) (zo (op_fieldAddr Try.underlying72 rfl ti26 rfl (by decide)) (zs (oblk (i := 12) 0 hO rfl rfl Try.underlying26 rfl rfl) (zm rfl ?_)))
       obtain ⟨wv, H⟩ := H
       obtain ⟨z9, H⟩ := H
       refine zo (op_index Try.underlying26 ti3 rfl rfl wv (ltn (a7.neq hO 9 rfl) z9) (a7.psome hO 9 rfl wv z9)) (zs (oldInt 9 hO rfl a7 wv z9 Try.underlying3 rfl rfl) (za rfl (zn ?_)))
       refine Go1.ret1V Try.func66 rfl (show _ = .int .i64 (ix r14.single (IntKind.i64.wrap (IntKind.u8.wrap (((ix (ix r14.words j) (k3_100 : Int)).toNat : Int) - (97 : Int))))) from rfl) ?_
       refine hR104 _ _ ?_
       refine za rfl (zn ?_)
       refine Go1.inBlock ?_
       refine Go1.cut [(0, .pointer (some ⟨bW, 0, none⟩)), (1, .int .i64 (ix r14.single (IntKind.i64.wrap (IntKind.u8.wrap (((ix (ix r14.words j) (k3_100 : Int)).toNat : Int) - (97 : Int)))))), (2, .string (gstr (ix r14.words j))), (15, .int .i64 ((ix r14.words j).length : Int)), (16, .int .i64 (k3_100 : Int))] ⟨rfl, rfl, rfl, rfl, rfl, trivial⟩ ?_
       intro σ _
       refine zr (zo (op_add rfl rfl (wrap_i64 (natbd t0 hle94))) (zm rfl (zn ?_)))
       exact hX3 _ H _ _ ⟨⟨rfl, rfl, rfl, rfl, rfl, trivial⟩, hO, a8, aU, aT, a9, aI, aX, bg, bh, a7, hB⟩
      replace H := ifn vM H
      refine zo (fun w => opB (op_eql rfl rfl w) (decide_eq_false vM)) (zn (zf rfl rfl (zk (zq (zr ?_)))))
      refine zm rfl (zo (op_nilCheck rfl) (zo (op_fieldAddr Try.underlying72 rfl ti29 rfl (by decide)) (zo (op_fieldAddr Try.underlying29 rfl ti22 rfl (by decide)) (zs (oblk (i := 6) 0 hO rfl rfl Try.underlying22 rfl rfl) (zm rfl ?_)))))
      obtain ⟨DL, H⟩ := H
      obtain ⟨zG, H⟩ := H
      refine zo (op_index Try.underlying22 ti26 rfl rfl DL (ltn (aI.neq hO 5 rfl) zG) (aI.psome hO 5 rfl DL zG)) ?_
      have hobt := oldSl 5 hO rfl aI DL zG
      obtain ⟨XX, XY, xG, Oc⟩ := hobt
      refine zs (Oc Try.underlying26 rfl rfl) (zm rfl ?_)
      obtain ⟨H7, H⟩ := H
      obtain ⟨yp, H⟩ := H
      refine zo (op_index Try.underlying26 ti3 rfl rfl H7 yp (xG.some_ H7 yp)) (zs (ldInt xG H7 yp Try.underlying3 rfl rfl) (za rfl (zn ?_)))
      refine Go1.ret1V Try.func66 rfl (show _ = .int .i64 (ix (ix r14.Enum.Right i3_99) (IntKind.i64.wrap (IntKind.u8.wrap (((ix (ix r14.words j) (k3_100 : Int)).toNat : Int) - (97 : Int))))) from rfl) ?_
      refine hR104 _ _ ?_
      refine za rfl (zn ?_)
      refine Go1.inBlock ?_
      refine zr (zo (op_add rfl rfl (wrap_i64 (natbd t0 hle94))) (zm rfl (zn ?_)))
      exact hX3 _ H _ _ ⟨⟨rfl, rfl, rfl, rfl, rfl, trivial⟩, hO, a8, aU, aT, a9, aI, aX, bg, bh, a7, hB⟩
     replace H := ifn t0 H
     refine zo (fun w => opB (op_lss rfl rfl w) (decide_eq_false t0)) (zn (zq (zf rfl rfl ?_)))
     refine Go1.exit rfl ?_
     refine zq (zr (zm rfl (za rfl (zn ?_))))
     refine Go1.ret1V Try.func59 rfl (show _ = .int .i64 i3_99 from rfl) ?_
     refine hR95 _ _ ?_
     refine za rfl (zn ?_)
     refine Go1.ret1 Try.func36 rfl ?_
     exact ⟨i3_99, rfl, hB.same, H⟩
    replace H := ifn h96 H
    refine zo (fun w => opB (op_eql rfl rfl w) (decide_eq_false h96)) (zm rfl (zp (zp (zo (op_pickF rfl rfl rfl) (zn ?_)))))
    refine zf rfl rfl (zk (zq (zq ?_)))
    refine Go1.cut [(0, .pointer (some ⟨bW, 0, none⟩)), (1, .int .i64 i), (2, .string (gstr (ix r14.words j)))] ⟨rfl, rfl, rfl, trivial⟩ ?_
    intro σ _
    refine zr (zm rfl (zo (op_lenS Try.underlying9 rfl) ?_))
    replace H := H hle94
    refine zm rfl (zn (zb ?_))
    replace hO := hO.drop 11
    replace aU := aU.ch (Owns.dropCh _ _ 11)
    replace bg := bg.ch (Owns.dropCh _ _ 11)
    have Z8 := eY.ch.trans (Owns.dropCh _ _ 11)
    replace a8 := a8.ch Z8
    replace aT := aT.ch Z8
    replace a9 := a9.ch Z8
    replace aI := aI.ch Z8
    replace aX := aX.ch Z8
    replace bh := bh.ch Z8
    replace a7 := a7.ch Z8
    have Z9 := (gY.ch.trans eY.ch).trans (Owns.dropCh _ _ 11)
    replace aR := aR.ch Z9
    replace aK := aK.ch Z9
    replace aC := aC.ch Z9
    replace aS := aS.ch Z9
    replace aL := aL.ch Z9
    replace aM := aM.ch Z9
    replace hB := ((((hB.trans dI.fr).trans o5.fr).trans gY.fr).trans eY.fr).trans (Owns.dropFr _ _ 11)
    dsimp only [eS, eZ] at hB hO aR aK aC aS aL aM a8 aU aT a9 aI aX bg bh a7
    replace hO := hO.drop 11
    replace aR := aR.ch (Owns.dropCh _ _ 11)
    replace aK := aK.ch (Owns.dropCh _ _ 11)
    replace aC := aC.ch (Owns.dropCh _ _ 11)
    replace aS := aS.ch (Owns.dropCh _ _ 11)
    replace aL := aL.ch (Owns.dropCh _ _ 11)
    replace aM := aM.ch (Owns.dropCh _ _ 11)
    replace a8 := a8.ch (Owns.dropCh _ _ 11)
    replace aU := aU.ch (Owns.dropCh _ _ 11)
    replace aT := aT.ch (Owns.dropCh _ _ 11)
    replace a9 := a9.ch (Owns.dropCh _ _ 11)
    replace aI := aI.ch (Owns.dropCh _ _ 11)
    replace aX := aX.ch (Owns.dropCh _ _ 11)
    replace bg := bg.ch (Owns.dropCh _ _ 11)
    replace bh := bh.ch (Owns.dropCh _ _ 11)
    replace a7 := a7.ch (Owns.dropCh _ _ 11)
    replace hB := hB.trans (Owns.dropFr _ _ 11)
    dsimp only [eS, eZ] at hB hO aR aK aC aS aL aM a8 aU aT a9 aI aX bg bh a7
    refine Go1.loopW (S := Int × Nat) (fun s σ w => match s with | (i4_117, k4_118) => agrees σ [(0, .pointer (some ⟨bW, 0, none⟩)), (1, .int .i64 i4_117), (2, .string (gstr (ix r14.words j))), (15, .int .i64 ((ix r14.words j).length : Int)), (16, .int .i64 (k4_118 : Int))] ∧ (fun Z0 => Owns w0.heap.size w Z0 A ∧ Els (Rp.sl (Rp.int .i64)) (bl Z0 ++ A) w aV r14.Enum.Gens ∧ Els (Rp.sl (Rp.int .i64)) (bl Z0 ++ A) w aO r14.Enum.Elems ∧ Els (Rp.int .i64) (bl Z0 ++ A) w aN r14.Enum.Prefix ∧ Els (Rp.int .i64) (bl Z0 ++ A) w aW r14.Enum.Last ∧ Els (Rp.sl (Rp.int .i64)) (bl Z0 ++ A) w aP r14.Enum.Right ∧ Els (rpRule) (bl Z0 ++ A) w aQ r14.Enum.Rules ∧ Els (Rp.str) (bl Z0 ++ A) w bi r14.words ∧ Els (Rp.int .i64) (bl Z0 ++ A) w bc r14.behind ∧ Els (Rp.int .i64) (bl Z0 ++ A) w bf r14.single ∧ Fr (bl []) w0 (bl Z0) w) [.blk bW (.cells #[.int .i64 r14.Enum.Points, .bool r14.Enum.Monoid, .slice ao am ap, .slice ae ad af, .slice ab aa ac, .slice ar aq au, .slice ah ag ai, .slice ak aj al, .int .i64 r14.Enum.Done, .map (some av), .slice aF aE aG, .slice ax aw ay, .slice aA az aB] 72 (0, 0)), .row 26 1 ao am ap aV, .row 26 1 ae ad af aO, .row 3 1 ab aa ac aN, .row 3 1 ar aq au aW, .row 26 1 ah ag ai aP, .row 39 2 ak aj al aQ, .row 9 1 aF aE aG bi, .row 3 1 ax aw ay bc, .row 3 1 aA az aB bf, .any (mapE (fun a : List UInt8 => Value.string (gstr a)) (fun a : Int => Value.int .i64 a) av r14.number)]) H ⟨⟨rfl, rfl, rfl, rfl, rfl, trivial⟩, hO, a8, aU, aT, a9, aI, aX, bg, bh, a7, hB⟩ ?_
    intro X4
    refine prE fun i4_117 => fun k4_118 => ?_
    intro H hX4 σ TF
    refine andE fun hag => andE fun hO => andE fun a8 => andE fun aU => andE fun aT => andE fun a9 => andE fun aI => andE fun aX => andE fun bg => andE fun bh => andE fun a7 => fun hB => ?_
    dsimp only at H
    refine Go1.keep [(0, .pointer (some ⟨bW, 0, none⟩)), (1, .int .i64 i4_117), (2, .string (gstr (ix r14.words j))), (15, .int .i64 ((ix r14.words j).length : Int)), (16, .int .i64 (k4_118 : Int))] hag ?_
    refine zq (zr ?_)
    by_cases ED : (k4_118 : Int) < ((ix r14.words j).length : Int)
    ·replace H := ifp ED H
     refine zo (fun w => opB (op_lss rfl rfl w) (decide_eq_true ED)) (zn (zq (zt rfl rfl (zk (zq ?_)))))
     refine zb (zq (zr (zm rfl (za rfl (zn ?_)))))
     refine zr (zm rfl (zm rfl (zm rfl (zm rfl ?_))))
     obtain ⟨TG, H⟩ := H
     obtain ⟨EE, H⟩ := H
     refine zo (op_indexS Try.underlying9 rfl rfl TG EE) (zo (op_sub rfl rfl rfl) (zo (op_conv Try.underlying5 Try.underlying3 rfl rfl) ?_))
     refine GoR.inl (vs := [.pointer (some ⟨bW, 0, none⟩), .int .i64 i4_117, .int .i64 (IntKind.i64.wrap (IntKind.u8.wrap (((ix (ix r14.words j) (k4_118 : Int)).toNat : Int) - (97 : Int))))]) (caps := []) rfl rfl body66 Try.func66 rfl Try.ntmps66 rfl rfl rfl ?_
     intro RhR122 hR122
     refine zq (zr (za rfl (zn (zq (zq ?_)))))
     refine zr (zm rfl ?_)
     by_cases Gf : i4_117 = (-1 : Int)
     ·replace H := ifp Gf H
      refine zo (fun w => opB (op_eql rfl rfl w) (decide_eq_true Gf)) (zn (zt rfl rfl (zq (zr (zm rfl ?_)))))
      refine zo (op_nilCheck rfl) (zo (op_fieldAddr Try.underlying72 rfl ti26 rfl (by decide)) (zs (oblk (i := 12) 0 hO rfl rfl Try.underlying26 rfl rfl) (zm rfl ?_)))
      obtain ⟨H8, H⟩ := H
      obtain ⟨H9, H⟩ := H
      refine zo (op_index Try.underlying26 ti3 rfl rfl H8 (ltn (a7.neq hO 9 rfl) H9) (a7.psome hO 9 rfl H8 H9)) (zs (oldInt 9 hO rfl a7 H8 H9 Try.underlying3 rfl rfl) (za rfl (zn ?_)))
      refine Go1.ret1V Try.func66 rfl (show _ = .int .i64 (ix r14.single (IntKind.i64.wrap (IntKind.u8.wrap (((ix (ix r14.words j) (k4_118 : Int)).toNat : Int) - (97 : Int))))) from rfl) ?_
      refine hR122 _ _ ?_
      refine za rfl (zn ?_)
      refine Go1.inBlock ?_
      refine Go1.cut [(0, .pointer (some ⟨bW, 0, none⟩)), (1, .int .i64 (ix r14.single (IntKind.i64.wrap (IntKind.u8.wrap (((ix (ix r14.words j) (k4_118 : Int)).toNat : Int) - (97 : Int)))))), (2, .string (gstr (ix r14.words j))), (15, .int .i64 ((ix r14.words j).length : Int)), (16, .int .i64 (k4_118 : Int))] ⟨rfl, rfl, rfl, rfl, rfl, trivial⟩ ?_
      intro σ _
      refine zr (zo (op_add rfl rfl (wrap_i64 (natbd ED hle94))) (zm rfl (zn ?_)))
      exact hX4 _ H _ _ ⟨⟨rfl, rfl, rfl, rfl, rfl, trivial⟩, hO, a8, aU, aT, a9, aI, aX, bg, bh, a7, hB⟩
     replace H := ifn Gf H
     refine zo (fun w => opB (op_eql rfl rfl w) (decide_eq_false Gf)) (zn (zf rfl rfl (zk (zq (zr ?_)))))
     refine zm rfl (zo (op_nilCheck rfl) (zo (op_fieldAddr Try.underlying72 rfl ti29 rfl (by decide)) (zo (op_fieldAddr Try.underlying29 rfl ti22 rfl (by decide)) (zs (oblk (i := 6) 0 hO rfl rfl Try.underlying22 rfl rfl) (zm rfl ?_)))))
     obtain ⟨CO, H⟩ := H
     obtain ⟨CP, H⟩ := H
     refine zo (op_index Try.underlying22 ti26 rfl rfl CO (ltn (aI.neq hO 5 rfl) CP) (aI.psome hO 5 rfl CO CP)) ?_
     have hobt := oldSl 5 hO rfl aI CO CP
     obtain ⟨X0, X9, JY, Gg⟩ := hobt
     refine zs (Gg Try.underlying26 rfl rfl) (zm rfl ?_)
     obtain ⟨DM, H⟩ := H
     obtain ⟨DN, H⟩ := H
     refine zo (op_index Try.underlying26 ti3 rfl rfl DM DN (JY.some_ DM DN)) (zs (ldInt JY DM DN Try.underlying3 rfl rfl) (za rfl (zn ?_)))
     refine Go1.ret1V Try.func66 rfl (show _ = .int .i64 (ix (ix r14.Enum.Right i4_117) (IntKind.i64.wrap (IntKind.u8.wrap (((ix (ix r14.words j) (k4_118 : Int)).toNat : Int) - (97 : Int))))) from rfl) ?_
     refine hR122 _ _ ?_
     refine za rfl (zn ?_)
     refine Go1.inBlock ?_
     refine zr (zo (op_add rfl rfl (wrap_i64 (natbd ED hle94))) (zm rfl (zn ?_)))
     exact hX4 _ H _ _ ⟨⟨rfl, rfl, rfl, rfl, rfl, trivial⟩, hO, a8, aU, aT, a9, aI, aX, bg, bh, a7, hB⟩
    replace H := ifn ED H
    refine zo (fun w => opB (op_lss rfl rfl w) (decide_eq_false ED)) (zn (zq (zf rfl rfl ?_)))
    refine Go1.exit rfl ?_
    refine zq (zr (zm rfl (za rfl (zn ?_))))
    refine Go1.ret1V Try.func59 rfl (show _ = .int .i64 i4_117 from rfl) ?_
    refine hR95 _ _ ?_
    refine za rfl (zn ?_)
    refine Go1.ret1 Try.func36 rfl ?_
    exact ⟨i4_117, rfl, hB.same, H⟩
   replace H := ifn h45 H
   refine zo (op_minF rfl rfl h45) ?_
   by_cases Gh : i < (0 : Int)
   ·replace H := ifp Gh H
    refine zo (fun w => opB (op_lss rfl rfl w) (decide_eq_true Gh)) (zo (op_pickF rfl rfl rfl) (zm rfl (zp (zp (zp ?_)))))
    refine zp (zp (zp (zp (zp (zp ?_)))))
    refine zp (zo (op_pickT rfl rfl rfl) (zn (zt rfl rfl (zq ?_))))
    refine Go1.cut [] trivial ?_
    intro σ _
    refine zr (za rfl (zn ?_))
    refine Go1.ret1 Try.func36 rfl ?_
    replace hB := (((hB.trans dI.fr).trans o5.fr).trans gY.fr).trans eY.fr
    exact ⟨(-1 : Int), rfl, hB.same, H⟩
   replace H := ifn Gh H
   refine zo (fun w => opB (op_lss rfl rfl w) (decide_eq_false Gh)) (zo (op_pickF rfl rfl rfl) (zm rfl (zm rfl (zm rfl ?_))))
   by_cases Gi : i < j
   ·replace H := ifp Gi H
    refine zo (op_maxT rfl rfl Gi) (zm rfl (zo (op_nilCheck rfl) (zo (op_fieldAddr Try.underlying72 rfl ti29 rfl (by decide)) (zo (op_fieldAddr Try.underlying29 rfl ti22 rfl (by decide)) (zs (oblk (i := 3) 0 hO rfl rfl Try.underlying22 rfl rfl) ?_)))))
    refine zo (op_lenN Try.underlying22 rfl (aU.neq hO 2 rfl)) ?_
    by_cases BD : (r14.Enum.Elems.length : Int) ≤ j
    ·replace H := ifp BD H
     refine zo (fun w => opB (op_geq rfl rfl w) (decide_eq_true BD)) (zo (op_pickF rfl rfl rfl) (zn (zt rfl rfl (zq (zr ?_)))))
     refine za rfl (zn ?_)
     refine Go1.ret1 Try.func36 rfl ?_
     replace hB := (((hB.trans dI.fr).trans o5.fr).trans gY.fr).trans eY.fr
     exact ⟨(-1 : Int), rfl, hB.same, H⟩
    replace H := ifn BD H
    refine zo (fun w => opB (op_geq rfl rfl w) (decide_eq_false BD)) (zo (op_pickF rfl rfl rfl) (zn (zf rfl rfl (zk (zq ?_)))))
    refine zr (zm rfl (zm rfl (zm rfl (zo (op_nilCheck rfl) (zo (op_fieldAddr Try.underlying72 rfl ti70 rfl (by decide)) ?_)))))
    refine zs (oblk (i := 10) 0 hO rfl rfl Try.underlying70 rfl rfl) (zm rfl ?_)
    obtain ⟨Gj, H⟩ := H
    obtain ⟨CQ, H⟩ := H
    replace bg := bg.ch eY.ch
    refine zo (op_index Try.underlying70 ti9 rfl rfl Gj (ltn (bg.neq hO 7 rfl) CQ) (bg.psome hO 7 rfl Gj CQ)) (zs (oldStr 7 hO rfl bg Gj CQ Try.underlying9 rfl rfl) ?_)
    have hle139 := Els.str_le bg Gj CQ
    refine GoR.inl (vs := [.pointer (some ⟨bW, 0, none⟩), .int .i64 i, .string (gstr (ix r14.words j))]) (caps := []) rfl rfl body59 Try.func59 rfl Try.ntmps59 rfl rfl rfl ?_
    intro RhR140 hR140
    refine zq ?_
    refine Go1.cut [(0, .pointer (some ⟨bW, 0, none⟩)), (1, .int .i64 i), (2, .string (gstr (ix r14.words j)))] ⟨rfl, rfl, rfl, trivial⟩ ?_
    intro σ _
    refine zr (za rfl (zn (zq (zq (zr ?_)))))
    refine zm rfl ?_
    by_cases CR : i = (-1 : Int)
    ·replace H := ifp CR H
     refine zo (fun w => opB (op_eql rfl rfl w) (decide_eq_true CR)) (zm rfl (zm rfl ?_))
     by_cases CT : (ix r14.words j) = (([] : Str))
     ·replace H := ifp CT H
      refine zo (fun w => opB (op_eqlS rfl rfl w) (decide_eq_true CT)) (zo (op_pickT rfl rfl rfl) (zn (zt rfl rfl (zq (zr ?_)))))
      refine za rfl (zn ?_)
      refine Go1.ret1V Try.func59 rfl (show _ = .int .i64 (0 : Int) from rfl) ?_
      refine hR140 _ _ ?_
      refine za rfl (zn ?_)
      refine Go1.ret1 Try.func36 rfl ?_
      replace hB := (((hB.trans dI.fr).trans o5.fr).trans gY.fr).trans eY.fr
      exact ⟨(0 : Int), rfl, hB.same, H⟩
     replace H := ifn CT H
     refine zo (fun w => opB (op_eqlS rfl rfl w) (decide_eq_false CT)) (zo (op_pickT rfl rfl rfl) (zn (zf rfl rfl (zk (zq ?_)))))
     refine zq (zr (zm rfl (zo (op_lenS Try.underlying9 rfl) ?_)))
     replace H := H hle139
     refine zm rfl (zn (zb ?_))
     replace hO := hO.drop 11
     replace aU := aU.ch (Owns.dropCh _ _ 11)
     replace bg := bg.ch (Owns.dropCh _ _ 11)
     have Z10 := eY.ch.trans (Owns.dropCh _ _ 11)
     replace a8 := a8.ch Z10
     replace aT := aT.ch Z10
     replace a9 := a9.ch Z10
     replace aI := aI.ch Z10
     replace aX := aX.ch Z10
     replace bh := bh.ch Z10
     replace a7 := a7.ch Z10
     have Z11 := (gY.ch.trans eY.ch).trans (Owns.dropCh _ _ 11)
     replace aR := aR.ch Z11
     replace aK := aK.ch Z11
     replace aC := aC.ch Z11
     replace aS := aS.ch Z11
     replace aL := aL.ch Z11
     replace aM := aM.ch Z11
     replace hB := ((((hB.trans dI.fr).trans o5.fr).trans gY.fr).trans eY.fr).trans (Owns.dropFr _ _ 11)
     dsimp only [eS, eZ] at hB hO aR aK aC aS aL aM a8 aU aT a9 aI aX bg bh a7
     replace hO := hO.drop 11
     replace aR := aR.ch (Owns.dropCh _ _ 11)
     replace aK := aK.ch (Owns.dropCh _ _ 11)
     replace aC := aC.ch (Owns.dropCh _ _ 11)
     replace aS := aS.ch (Owns.dropCh _ _ 11)
     replace aL := aL.ch (Owns.dropCh _ _ 11)
     replace aM := aM.ch (Owns.dropCh _ _ 11)
     replace a8 := a8.ch (Owns.dropCh _ _ 11)
     replace aU := aU.ch (Owns.dropCh _ _ 11)
     replace aT := aT.ch (Owns.dropCh _ _ 11)
     replace a9 := a9.ch (Owns.dropCh _ _ 11)
     replace aI := aI.ch (Owns.dropCh _ _ 11)
     replace aX := aX.ch (Owns.dropCh _ _ 11)
     replace bg := bg.ch (Owns.dropCh _ _ 11)
     replace bh := bh.ch (Owns.dropCh _ _ 11)
     replace a7 := a7.ch (Owns.dropCh _ _ 11)
     replace hB := hB.trans (Owns.dropFr _ _ 11)
     dsimp only [eS, eZ] at hB hO aR aK aC aS aL aM a8 aU aT a9 aI aX bg bh a7
     refine Go1.loopW (S := Int × Nat) (fun s σ w => match s with | (i5_144, k5_145) => agrees σ [(0, .pointer (some ⟨bW, 0, none⟩)), (1, .int .i64 i5_144), (2, .string (gstr (ix r14.words j))), (15, .int .i64 ((ix r14.words j).length : Int)), (16, .int .i64 (k5_145 : Int))] ∧ (fun Z0 => Owns w0.heap.size w Z0 A ∧ Els (Rp.sl (Rp.int .i64)) (bl Z0 ++ A) w aV r14.Enum.Gens ∧ Els (Rp.sl (Rp.int .i64)) (bl Z0 ++ A) w aO r14.Enum.Elems ∧ Els (Rp.int .i64) (bl Z0 ++ A) w aN r14.Enum.Prefix ∧ Els (Rp.int .i64) (bl Z0 ++ A) w aW r14.Enum.Last ∧ Els (Rp.sl (Rp.int .i64)) (bl Z0 ++ A) w aP r14.Enum.Right ∧ Els (rpRule) (bl Z0 ++ A) w aQ r14.Enum.Rules ∧ Els (Rp.str) (bl Z0 ++ A) w bi r14.words ∧ Els (Rp.int .i64) (bl Z0 ++ A) w bc r14.behind ∧ Els (Rp.int .i64) (bl Z0 ++ A) w bf r14.single ∧ Fr (bl []) w0 (bl Z0) w) [.blk bW (.cells #[.int .i64 r14.Enum.Points, .bool r14.Enum.Monoid, .slice ao am ap, .slice ae ad af, .slice ab aa ac, .slice ar aq au, .slice ah ag ai, .slice ak aj al, .int .i64 r14.Enum.Done, .map (some av), .slice aF aE aG, .slice ax aw ay, .slice aA az aB] 72 (0, 0)), .row 26 1 ao am ap aV, .row 26 1 ae ad af aO, .row 3 1 ab aa ac aN, .row 3 1 ar aq au aW, .row 26 1 ah ag ai aP, .row 39 2 ak aj al aQ, .row 9 1 aF aE aG bi, .row 3 1 ax aw ay bc, .row 3 1 aA az aB bf, .any (mapE (fun a : List UInt8 => Value.string (gstr a)) (fun a : Int => Value.int .i64 a) av r14.number)]) H ⟨⟨rfl, rfl, rfl, rfl, rfl, trivial⟩, hO, a8, aU, aT, a9, aI, aX, bg, bh, a7, hB⟩ ?_
     intro X5
     refine prE fun i5_144 => fun k5_145 => ?_
     intro H hX5 σ TH
     refine andE fun hag => andE fun hO => andE fun a8 => andE fun aU => andE fun aT => andE fun a9 => andE fun aI => andE fun aX => andE fun bg => andE fun bh => andE fun a7 => fun hB => ?_
     dsimp only at H
     refine Go1.keep [(0, .pointer (some ⟨bW, 0, none⟩)), (1, .int .i64 i5_144), (2, .string (gstr (ix r14.words j))), (15, .int .i64 ((ix r14.words j).length : Int)), (16, .int .i64 (k5_145 : Int))] hag ?_
     refine zq (zr ?_)
     by_cases EF : (k5_145 : Int) < ((ix r14.words j).length : Int)
     ·replace H := ifp EF H
      refine zo (fun w => opB (op_lss rfl rfl w) (decide_eq_true EF)) (zn (zq (zt rfl rfl (zk (zq ?_)))))
      refine zb (zq (zr (zm rfl (za rfl (zn ?_)))))
      refine zr (zm rfl (zm rfl (zm rfl (zm rfl ?_))))
      obtain ⟨TI, H⟩ := H
      obtain ⟨FA, H⟩ := H
      refine zo (op_indexS Try.underlying9 rfl rfl TI FA) (zo (op_sub rfl rfl rfl) (zo (op_conv Try.underlying5 Try.underlying3 rfl rfl) ?_))
      refine GoR.inl (vs := [.pointer (some ⟨bW, 0, none⟩), .int .i64 i5_144, .int .i64 (IntKind.i64.wrap (IntKind.u8.wrap (((ix (ix r14.words j) (k5_145 : Int)).toNat : Int) - (97 : Int))))]) (caps := []) rfl rfl body66 Try.func66 rfl Try.ntmps66 rfl rfl rfl ?_
      intro RhR149 hR149
      refine zq (zr (za rfl (zn (zq (zq ?_)))))
      refine zr (zm rfl ?_)
      by_cases Gk : i5_144 = (-1 : Int)
      ·replace H := ifp Gk H
       refine zo (fun w => opB (op_eql rfl rfl w) (decide_eq_true Gk)) (zn (zt rfl rfl (zq (zr (zm rfl ?_)))))
       refine zo (op_nilCheck rfl) (zo (op_fieldAddr Try.underlying72 rfl ti26 rfl (by decide)) (zs (oblk (i := 12) 0 hO rfl rfl Try.underlying26 rfl rfl) (zm rfl ?_)))
       obtain ⟨Ia, H⟩ := H
       obtain ⟨Ib, H⟩ := H
       refine zo (op_index Try.underlying26 ti3 rfl rfl Ia (ltn (a7.neq hO 9 rfl) Ib) (a7.psome hO 9 rfl Ia Ib)) (zs (oldInt 9 hO rfl a7 Ia Ib Try.underlying3 rfl rfl) (za rfl (zn ?_)))
       refine Go1.ret1V Try.func66 rfl (show _ = .int .i64 (ix r14.single (IntKind.i64.wrap (IntKind.u8.wrap (((ix (ix r14.words j) (k5_145 : Int)).toNat : Int) - (97 : Int))))) from rfl) ?_
       refine hR149 _ _ ?_
       refine za rfl (zn ?_)
       refine Go1.inBlock ?_
       refine Go1.cut [(0, .pointer (some ⟨bW, 0, none⟩)), (1, .int .i64 (ix r14.single (IntKind.i64.wrap (IntKind.u8.wrap (((ix (ix r14.words j) (k5_145 : Int)).toNat : Int) - (97 : Int)))))), (2, .string (gstr (ix r14.words j))), (15, .int .i64 ((ix r14.words j).length : Int)), (16, .int .i64 (k5_145 : Int))] ⟨rfl, rfl, rfl, rfl, rfl, trivial⟩ ?_
       intro σ _
       refine zr (zo (op_add rfl rfl (wrap_i64 (natbd EF hle139))) (zm rfl (zn ?_)))
       exact hX5 _ H _ _ ⟨⟨rfl, rfl, rfl, rfl, rfl, trivial⟩, hO, a8, aU, aT, a9, aI, aX, bg, bh, a7, hB⟩
      replace H := ifn Gk H
      refine zo (fun w => opB (op_eql rfl rfl w) (decide_eq_false Gk)) (zn (zf rfl rfl (zk (zq (zr ?_)))))
      refine zm rfl (zo (op_nilCheck rfl) (zo (op_fieldAddr Try.underlying72 rfl ti29 rfl (by decide)) (zo (op_fieldAddr Try.underlying29 rfl ti22 rfl (by decide)) (zs (oblk (i := 6) 0 hO rfl rfl Try.underlying22 rfl rfl) (zm rfl ?_)))))
      obtain ⟨Ic, H⟩ := H
      obtain ⟨AY, H⟩ := H
      refine zo (op_index Try.underlying22 ti26 rfl rfl Ic (ltn (aI.neq hO 5 rfl) AY) (aI.psome hO 5 rfl Ic AY)) ?_
      have hobt := oldSl 5 hO rfl aI Ic AY
      obtain ⟨Ya, Yb, J0, Od⟩ := hobt
      refine zs (Od Try.underlying26 rfl rfl) (zm rfl ?_)
      obtain ⟨Id, H⟩ := H
      obtain ⟨Ie, H⟩ := H
      refine zo (op_index Try.underlying26 ti3 rfl rfl Id Ie (J0.some_ Id Ie)) (zs (ldInt J0 Id Ie Try.underlying3 rfl rfl) (za rfl (zn ?_)))
      refine Go1.ret1V Try.func66 rfl (show _ = .int .i64 (ix (ix r14.Enum.Right i5_144) (IntKind.i64.wrap (IntKind.u8.wrap (((ix (ix r14.words j) (k5_145 : Int)).toNat : Int) - (97 : Int))))) from rfl) ?_
      refine hR149 _ _ ?_
      refine za rfl (zn ?_)
      refine Go1.inBlock ?_
      refine zr (zo (op_add rfl rfl (wrap_i64 (natbd EF hle139))) (zm rfl (zn ?_)))
      exact hX5 _ H _ _ ⟨⟨rfl, rfl, rfl, rfl, rfl, trivial⟩, hO, a8, aU, aT, a9, aI, aX, bg, bh, a7, hB⟩
     replace H := ifn EF H
     refine zo (fun w => opB (op_lss rfl rfl w) (decide_eq_false EF)) (zn (zq (zf rfl rfl ?_)))
     refine Go1.exit rfl ?_
     refine zq (zr (zm rfl (za rfl (zn ?_))))
     refine Go1.ret1V Try.func59 rfl (show _ = .int .i64 i5_144 from rfl) ?_
     refine hR140 _ _ ?_
     refine za rfl (zn ?_)
     refine Go1.ret1 Try.func36 rfl ?_
     exact ⟨i5_144, rfl, hB.same, H⟩
    replace H := ifn CR H
    refine zo (fun w => opB (op_eql rfl rfl w) (decide_eq_false CR)) (zm rfl (zp (zp (zo (op_pickF rfl rfl rfl) (zn ?_)))))
    refine zf rfl rfl (zk (zq (zq ?_)))
    refine Go1.cut [(0, .pointer (some ⟨bW, 0, none⟩)), (1, .int .i64 i), (2, .string (gstr (ix r14.words j)))] ⟨rfl, rfl, rfl, trivial⟩ ?_
    intro σ _
    refine zr (zm rfl (zo (op_lenS Try.underlying9 rfl) ?_))
    replace H := H hle139
    refine zm rfl (zn (zb ?_))
    replace hO := hO.drop 11
    replace aU := aU.ch (Owns.dropCh _ _ 11)
    replace bg := bg.ch (Owns.dropCh _ _ 11)
    have Z12 := eY.ch.trans (Owns.dropCh _ _ 11)
    replace a8 := a8.ch Z12
    replace aT := aT.ch Z12
    replace a9 := a9.ch Z12
    replace aI := aI.ch Z12
    replace aX := aX.ch Z12
    replace bh := bh.ch Z12
    replace a7 := a7.ch Z12
    have Z13 := (gY.ch.trans eY.ch).trans (Owns.dropCh _ _ 11)
    replace aR := aR.ch Z13
    replace aK := aK.ch Z13
    replace aC := aC.ch Z13
    replace aS := aS.ch Z13
    replace aL := aL.ch Z13
    replace aM := aM.ch Z13
    replace hB := ((((hB.trans dI.fr).trans o5.fr).trans gY.fr).trans eY.fr).trans (Owns.dropFr _ _ 11)
    dsimp only [eS, eZ] at hB hO aR aK aC aS aL aM a8 aU aT a9 aI aX bg bh a7
    replace hO := hO.drop 11
    replace aR := aR.ch (Owns.dropCh _ _ 11)
    replace aK := aK.ch (Owns.dropCh _ _ 11)
    replace aC := aC.ch (Owns.dropCh _ _ 11)
    replace aS := aS.ch (Owns.dropCh _ _ 11)
    replace aL := aL.ch (Owns.dropCh _ _ 11)
    replace aM := aM.ch (Owns.dropCh _ _ 11)
    replace a8 := a8.ch (Owns.dropCh _ _ 11)
    replace aU := aU.ch (Owns.dropCh _ _ 11)
    replace aT := aT.ch (Owns.dropCh _ _ 11)
    replace a9 := a9.ch (Owns.dropCh _ _ 11)
    replace aI := aI.ch (Owns.dropCh _ _ 11)
    replace aX := aX.ch (Owns.dropCh _ _ 11)
    replace bg := bg.ch (Owns.dropCh _ _ 11)
    replace bh := bh.ch (Owns.dropCh _ _ 11)
    replace a7 := a7.ch (Owns.dropCh _ _ 11)
    replace hB := hB.trans (Owns.dropFr _ _ 11)
    dsimp only [eS, eZ] at hB hO aR aK aC aS aL aM a8 aU aT a9 aI aX bg bh a7
    refine Go1.loopW (S := Int × Nat) (fun s σ w => match s with | (i6_162, k6_163) => agrees σ [(0, .pointer (some ⟨bW, 0, none⟩)), (1, .int .i64 i6_162), (2, .string (gstr (ix r14.words j))), (15, .int .i64 ((ix r14.words j).length : Int)), (16, .int .i64 (k6_163 : Int))] ∧ (fun Z0 => Owns w0.heap.size w Z0 A ∧ Els (Rp.sl (Rp.int .i64)) (bl Z0 ++ A) w aV r14.Enum.Gens ∧ Els (Rp.sl (Rp.int .i64)) (bl Z0 ++ A) w aO r14.Enum.Elems ∧ Els (Rp.int .i64) (bl Z0 ++ A) w aN r14.Enum.Prefix ∧ Els (Rp.int .i64) (bl Z0 ++ A) w aW r14.Enum.Last ∧ Els (Rp.sl (Rp.int .i64)) (bl Z0 ++ A) w aP r14.Enum.Right ∧ Els (rpRule) (bl Z0 ++ A) w aQ r14.Enum.Rules ∧ Els (Rp.str) (bl Z0 ++ A) w bi r14.words ∧ Els (Rp.int .i64) (bl Z0 ++ A) w bc r14.behind ∧ Els (Rp.int .i64) (bl Z0 ++ A) w bf r14.single ∧ Fr (bl []) w0 (bl Z0) w) [.blk bW (.cells #[.int .i64 r14.Enum.Points, .bool r14.Enum.Monoid, .slice ao am ap, .slice ae ad af, .slice ab aa ac, .slice ar aq au, .slice ah ag ai, .slice ak aj al, .int .i64 r14.Enum.Done, .map (some av), .slice aF aE aG, .slice ax aw ay, .slice aA az aB] 72 (0, 0)), .row 26 1 ao am ap aV, .row 26 1 ae ad af aO, .row 3 1 ab aa ac aN, .row 3 1 ar aq au aW, .row 26 1 ah ag ai aP, .row 39 2 ak aj al aQ, .row 9 1 aF aE aG bi, .row 3 1 ax aw ay bc, .row 3 1 aA az aB bf, .any (mapE (fun a : List UInt8 => Value.string (gstr a)) (fun a : Int => Value.int .i64 a) av r14.number)]) H ⟨⟨rfl, rfl, rfl, rfl, rfl, trivial⟩, hO, a8, aU, aT, a9, aI, aX, bg, bh, a7, hB⟩ ?_
    intro X6
    refine prE fun i6_162 => fun k6_163 => ?_
    intro H hX6 σ Yc
    refine andE fun hag => andE fun hO => andE fun a8 => andE fun aU => andE fun aT => andE fun a9 => andE fun aI => andE fun aX => andE fun bg => andE fun bh => andE fun a7 => fun hB => ?_
    dsimp only at H
    refine Go1.keep [(0, .pointer (some ⟨bW, 0, none⟩)), (1, .int .i64 i6_162), (2, .string (gstr (ix r14.words j))), (15, .int .i64 ((ix r14.words j).length : Int)), (16, .int .i64 (k6_163 : Int))] hag ?_
    refine zq (zr ?_)
    by_cases EG : (k6_163 : Int) < ((ix r14.words j).length : Int)
    ·replace H := ifp EG H
     refine zo (fun w => opB (op_lss rfl rfl w) (decide_eq_true EG)) (zn (zq (zt rfl rfl (zk (zq ?_)))))
     refine zb (zq (zr (zm rfl (za rfl (zn ?_)))))
     refine zr (zm rfl (zm rfl (zm rfl (zm rfl ?_))))
     obtain ⟨TJ, H⟩ := H
     obtain ⟨TK, H⟩ := H
     refine zo (op_indexS Try.underlying9 rfl rfl TJ TK) (zo (op_sub rfl rfl rfl) (zo (op_conv Try.underlying5 Try.underlying3 rfl rfl) ?_))
     refine GoR.inl (vs := [.pointer (some ⟨bW, 0, none⟩), .int .i64 i6_162, .int .i64 (IntKind.i64.wrap (IntKind.u8.wrap (((ix (ix r14.words j) (k6_163 : Int)).toNat : Int) - (97 : Int))))]) (caps := []) rfl rfl body66 Try.func66 rfl Try.ntmps66 rfl rfl rfl ?_
     intro RhR167 hR167
     refine zq (zr (za rfl (zn (zq (zq ?_)))))
     refine zr (zm rfl ?_)
     by_cases CU : i6_162 = (-1 : Int)
     ·replace H := ifp CU H
      refine zo (fun w => opB (op_eql rfl rfl w) (decide_eq_true CU)) (zn (zt rfl rfl (zq (zr (zm rfl ?_)))))
      refine zo (op_nilCheck rfl) (zo (op_fieldAddr Try.underlying72 rfl ti26 rfl (by decide)) (zs (oblk (i := 12) 0 hO rfl rfl Try.underlying26 rfl rfl) (zm rfl ?_)))
      obtain ⟨zH, H⟩ := H
      obtain ⟨DO, H⟩ := H
      refine zo (op_index Try.underlying26 ti3 rfl rfl zH (ltn (a7.neq hO 9 rfl) DO) (a7.psome hO 9 rfl zH DO)) (zs (oldInt 9 hO rfl a7 zH DO Try.underlying3 rfl rfl) (za rfl (zn ?_)))
      refine Go1.ret1V Try.func66 rfl (show _ = .int .i64 (ix r14.single (IntKind.i64.wrap (IntKind.u8.wrap (((ix (ix r14.words j) (k6_163 : Int)).toNat : Int) - (97 : Int))))) from rfl) ?_
      refine hR167 _ _ ?_
      refine za rfl (zn ?_)
      refine Go1.inBlock ?_
      refine Go1.cut [(0, .pointer (some ⟨bW, 0, none⟩)), (1, .int .i64 (ix r14.single (IntKind.i64.wrap (IntKind.u8.wrap (((ix (ix r14.words j) (k6_163 : Int)).toNat : Int) - (97 : Int)))))), (2, .string (gstr (ix r14.words j))), (15, .int .i64 ((ix r14.words j).length : Int)), (16, .int .i64 (k6_163 : Int))] ⟨rfl, rfl, rfl, rfl, rfl, trivial⟩ ?_
      intro σ _
      refine zr (zo (op_add rfl rfl (wrap_i64 (natbd EG hle139))) (zm rfl (zn ?_)))
      exact hX6 _ H _ _ ⟨⟨rfl, rfl, rfl, rfl, rfl, trivial⟩, hO, a8, aU, aT, a9, aI, aX, bg, bh, a7, hB⟩
     replace H := ifn CU H
     refine zo (fun w => opB (op_eql rfl rfl w) (decide_eq_false CU)) (zn (zf rfl rfl (zk (zq (zr ?_)))))
     refine zm rfl (zo (op_nilCheck rfl) (zo (op_fieldAddr Try.underlying72 rfl ti29 rfl (by decide)) (zo (op_fieldAddr Try.underlying29 rfl ti22 rfl (by decide)) (zs (oblk (i := 6) 0 hO rfl rfl Try.underlying22 rfl rfl) (zm rfl ?_)))))
     obtain ⟨DP, H⟩ := H
     obtain ⟨CV, H⟩ := H
     refine zo (op_index Try.underlying22 ti26 rfl rfl DP (ltn (aI.neq hO 5 rfl) CV) (aI.psome hO 5 rfl DP CV)) ?_
     have hobt := oldSl 5 hO rfl aI DP CV
     obtain ⟨xH, xI, J1, Oe⟩ := hobt
     refine zs (Oe Try.underlying26 rfl rfl) (zm rfl ?_)
     obtain ⟨xJ, H⟩ := H
     obtain ⟨CW, H⟩ := H
     refine zo (op_index Try.underlying26 ti3 rfl rfl xJ CW (J1.some_ xJ CW)) (zs (ldInt J1 xJ CW Try.underlying3 rfl rfl) (za rfl (zn ?_)))
     refine Go1.ret1V Try.func66 rfl (show _ = .int .i64 (ix (ix r14.Enum.Right i6_162) (IntKind.i64.wrap (IntKind.u8.wrap (((ix (ix r14.words j) (k6_163 : Int)).toNat : Int) - (97 : Int))))) from rfl) ?_
     refine hR167 _ _ ?_
     refine za rfl (zn ?_)
     refine Go1.inBlock ?_
     refine zr (zo (op_add rfl rfl (wrap_i64 (natbd EG hle139))) (zm rfl (zn ?_)))
     exact hX6 _ H _ _ ⟨⟨rfl, rfl, rfl, rfl, rfl, trivial⟩, hO, a8, aU, aT, a9, aI, aX, bg, bh, a7, hB⟩
    replace H := ifn EG H
    refine zo (fun w => opB (op_lss rfl rfl w) (decide_eq_false EG)) (zn (zq (zf rfl rfl ?_)))
    refine Go1.exit rfl ?_
    refine zq (zr (zm rfl (za rfl (zn ?_))))
    refine Go1.ret1V Try.func59 rfl (show _ = .int .i64 i6_162 from rfl) ?_
    refine hR140 _ _ ?_
    refine za rfl (zn ?_)
    refine Go1.ret1 Try.func36 rfl ?_
    exact ⟨i6_162, rfl, hB.same, H⟩
   replace H := ifn Gi H
   refine zo (op_maxF rfl rfl Gi) (zm rfl (zo (op_nilCheck rfl) (zo (op_fieldAddr Try.underlying72 rfl ti29 rfl (by decide)) (zo (op_fieldAddr Try.underlying29 rfl ti22 rfl (by decide)) (zs (oblk (i := 3) 0 hO rfl rfl Try.underlying22 rfl rfl) ?_)))))
   refine zo (op_lenN Try.underlying22 rfl (aU.neq hO 2 rfl)) ?_
   by_cases BE : (r14.Enum.Elems.length : Int) ≤ i
   ·replace H := ifp BE H
    refine zo (fun w => opB (op_geq rfl rfl w) (decide_eq_true BE)) (zo (op_pickF rfl rfl rfl) (zn (zt rfl rfl (zq ?_))))
    refine Go1.cut [] trivial ?_
    intro σ _
    refine zr (za rfl (zn ?_))
    refine Go1.ret1 Try.func36 rfl ?_
    replace hB := (((hB.trans dI.fr).trans o5.fr).trans gY.fr).trans eY.fr
    exact ⟨(-1 : Int), rfl, hB.same, H⟩
   replace H := ifn BE H
   refine zo (fun w => opB (op_geq rfl rfl w) (decide_eq_false BE)) (zo (op_pickF rfl rfl rfl) (zn (zf rfl rfl (zk (zq ?_)))))
   refine zr (zm rfl (zm rfl (zm rfl (zo (op_nilCheck rfl) (zo (op_fieldAddr Try.underlying72 rfl ti70 rfl (by decide)) ?_)))))
   refine zs (oblk (i := 10) 0 hO rfl rfl Try.underlying70 rfl rfl) (zm rfl ?_)
   obtain ⟨BG, H⟩ := H
   obtain ⟨Gl, H⟩ := H
   replace bg := bg.ch eY.ch
   refine zo (op_index Try.underlying70 ti9 rfl rfl BG (ltn (bg.neq hO 7 rfl) Gl) (bg.psome hO 7 rfl BG Gl)) (zs (oldStr 7 hO rfl bg BG Gl Try.underlying9 rfl rfl) ?_)
   have hle182 := Els.str_le bg BG Gl
   refine GoR.inl (vs := [.pointer (some ⟨bW, 0, none⟩), .int .i64 i, .string (gstr (ix r14.words j))]) (caps := []) rfl rfl body59 Try.func59 rfl Try.ntmps59 rfl rfl rfl ?_
   intro RhR183 hR183
   refine zq (zr (za rfl (zn (zq (zq ?_)))))
   refine zr (zm rfl ?_)
   by_cases Gm : i = (-1 : Int)
   ·replace H := ifp Gm H
    refine zo (fun w => opB (op_eql rfl rfl w) (decide_eq_true Gm)) (zm rfl (zm rfl ?_))
    by_cases Gn : (ix r14.words j) = (([] : Str))
    ·replace H := ifp Gn H
     refine zo (fun w => opB (op_eqlS rfl rfl w) (decide_eq_true Gn)) (zo (op_pickT rfl rfl rfl) (zn (zt rfl rfl (zq ?_))))
     refine Go1.cut [] trivial ?_
     intro σ _
     refine zr (za rfl (zn ?_))
     refine Go1.ret1V Try.func59 rfl (show _ = .int .i64 (0 : Int) from rfl) ?_
     refine hR183 _ _ ?_
     refine za rfl (zn ?_)
     refine Go1.ret1 Try.func36 rfl ?_
     replace hB := (((hB.trans dI.fr).trans o5.fr).trans gY.fr).trans eY.fr
     exact ⟨(0 : Int), rfl, hB.same, H⟩
    replace H := ifn Gn H
    refine zo (fun w => opB (op_eqlS rfl rfl w) (decide_eq_false Gn)) (zo (op_pickT rfl rfl rfl) (zn (zf rfl rfl (zk (zq ?_)))))
    refine zq (zr (zm rfl (zo (op_lenS Try.underlying9 rfl) ?_)))
    replace H := H hle182
    refine zm rfl (zn (zb ?_))
    replace hO := hO.drop 11
    replace aU := aU.ch (Owns.dropCh _ _ 11)
    replace bg := bg.ch (Owns.dropCh _ _ 11)
    have Z14 := eY.ch.trans (Owns.dropCh _ _ 11)
    replace a8 := a8.ch Z14
    replace aT := aT.ch Z14
    replace a9 := a9.ch Z14
    replace aI := aI.ch Z14
    replace aX := aX.ch Z14
    replace bh := bh.ch Z14
    replace a7 := a7.ch Z14
    have Z15 := (gY.ch.trans eY.ch).trans (Owns.dropCh _ _ 11)
    replace aR := aR.ch Z15
    replace aK := aK.ch Z15
    replace aC := aC.ch Z15
    replace aS := aS.ch Z15
    replace aL := aL.ch Z15
    replace aM := aM.ch Z15
    replace hB := ((((hB.trans dI.fr).trans o5.fr).trans gY.fr).trans eY.fr).trans (Owns.dropFr _ _ 11)
    dsimp only [eS, eZ] at hB hO aR aK aC aS aL aM a8 aU aT a9 aI aX bg bh a7
    replace hO := hO.drop 11
    replace aR := aR.ch (Owns.dropCh _ _ 11)
    replace aK := aK.ch (Owns.dropCh _ _ 11)
    replace aC := aC.ch (Owns.dropCh _ _ 11)
    replace aS := aS.ch (Owns.dropCh _ _ 11)
    replace aL := aL.ch (Owns.dropCh _ _ 11)
    replace aM := aM.ch (Owns.dropCh _ _ 11)
    replace a8 := a8.ch (Owns.dropCh _ _ 11)
    replace aU := aU.ch (Owns.dropCh _ _ 11)
    replace aT := aT.ch (Owns.dropCh _ _ 11)
    replace a9 := a9.ch (Owns.dropCh _ _ 11)
    replace aI := aI.ch (Owns.dropCh _ _ 11)
    replace aX := aX.ch (Owns.dropCh _ _ 11)
    replace bg := bg.ch (Owns.dropCh _ _ 11)
    replace bh := bh.ch (Owns.dropCh _ _ 11)
    replace a7 := a7.ch (Owns.dropCh _ _ 11)
    replace hB := hB.trans (Owns.dropFr _ _ 11)
    dsimp only [eS, eZ] at hB hO aR aK aC aS aL aM a8 aU aT a9 aI aX bg bh a7
    refine Go1.loopW (S := Int × Nat) (fun s σ w => match s with | (i7_187, k7_188) => agrees σ [(0, .pointer (some ⟨bW, 0, none⟩)), (1, .int .i64 i7_187), (2, .string (gstr (ix r14.words j))), (15, .int .i64 ((ix r14.words j).length : Int)), (16, .int .i64 (k7_188 : Int))] ∧ (fun Z0 => Owns w0.heap.size w Z0 A ∧ Els (Rp.sl (Rp.int .i64)) (bl Z0 ++ A) w aV r14.Enum.Gens ∧ Els (Rp.sl (Rp.int .i64)) (bl Z0 ++ A) w aO r14.Enum.Elems ∧ Els (Rp.int .i64) (bl Z0 ++ A) w aN r14.Enum.Prefix ∧ Els (Rp.int .i64) (bl Z0 ++ A) w aW r14.Enum.Last ∧ Els (Rp.sl (Rp.int .i64)) (bl Z0 ++ A) w aP r14.Enum.Right ∧ Els (rpRule) (bl Z0 ++ A) w aQ r14.Enum.Rules ∧ Els (Rp.str) (bl Z0 ++ A) w bi r14.words ∧ Els (Rp.int .i64) (bl Z0 ++ A) w bc r14.behind ∧ Els (Rp.int .i64) (bl Z0 ++ A) w bf r14.single ∧ Fr (bl []) w0 (bl Z0) w) [.blk bW (.cells #[.int .i64 r14.Enum.Points, .bool r14.Enum.Monoid, .slice ao am ap, .slice ae ad af, .slice ab aa ac, .slice ar aq au, .slice ah ag ai, .slice ak aj al, .int .i64 r14.Enum.Done, .map (some av), .slice aF aE aG, .slice ax aw ay, .slice aA az aB] 72 (0, 0)), .row 26 1 ao am ap aV, .row 26 1 ae ad af aO, .row 3 1 ab aa ac aN, .row 3 1 ar aq au aW, .row 26 1 ah ag ai aP, .row 39 2 ak aj al aQ, .row 9 1 aF aE aG bi, .row 3 1 ax aw ay bc, .row 3 1 aA az aB bf, .any (mapE (fun a : List UInt8 => Value.string (gstr a)) (fun a : Int => Value.int .i64 a) av r14.number)]) H ⟨⟨rfl, rfl, rfl, rfl, rfl, trivial⟩, hO, a8, aU, aT, a9, aI, aX, bg, bh, a7, hB⟩ ?_
    intro X7
    refine prE fun i7_187 => fun k7_188 => ?_
    intro H hX7 σ Yd
    refine andE fun hag => andE fun hO => andE fun a8 => andE fun aU => andE fun aT => andE fun a9 => andE fun aI => andE fun aX => andE fun bg => andE fun bh => andE fun a7 => fun hB => ?_
    dsimp only at H
    refine Go1.keep [(0, .pointer (some ⟨bW, 0, none⟩)), (1, .int .i64 i7_187), (2, .string (gstr (ix r14.words j))), (15, .int .i64 ((ix r14.words j).length : Int)), (16, .int .i64 (k7_188 : Int))] hag ?_
    refine zq (zr ?_)
    by_cases Aa : (k7_188 : Int) < ((ix r14.words j).length : Int)
    ·replace H := ifp Aa H
     refine zo (fun w => opB (op_lss rfl rfl w) (decide_eq_true Aa)) (zn (zq (zt rfl rfl (zk (zq ?_)))))
     refine zb (zq (zr (zm rfl (za rfl (zn ?_)))))
     refine zr (zm rfl (zm rfl (zm rfl (zm rfl ?_))))
     obtain ⟨Ig, H⟩ := H
     obtain ⟨TL, H⟩ := H
     refine zo (op_indexS Try.underlying9 rfl rfl Ig TL) (zo (op_sub rfl rfl rfl) (zo (op_conv Try.underlying5 Try.underlying3 rfl rfl) ?_))
     refine GoR.inl (vs := [.pointer (some ⟨bW, 0, none⟩), .int .i64 i7_187, .int .i64 (IntKind.i64.wrap (IntKind.u8.wrap (((ix (ix r14.words j) (k7_188 : Int)).toNat : Int) - (97 : Int))))]) (caps := []) rfl rfl body66 Try.func66 rfl Try.ntmps66 rfl rfl rfl ?_
     intro RhR192 hR192
     refine zq (zr (za rfl (zn (zq (zq ?_)))))
     refine zr (zm rfl ?_)
     by_cases Gp : i7_187 = (-1 : Int)
     ·replace H := ifp Gp H
      refine zo (fun w => opB (op_eql rfl rfl w) (decide_eq_true Gp)) (zn (zt rfl rfl (zq (zr (zm rfl ?_)))))
      refine zo (op_nilCheck rfl) (zo (op_fieldAddr Try.underlying72 rfl ti26 rfl (by decide)) (zs (oblk (i := 12) 0 hO rfl rfl Try.underlying26 rfl rfl) (zm rfl ?_)))
      obtain ⟨FB, H⟩ := H
      obtain ⟨Ih, H⟩ := H
      refine zo (op_index Try.underlying26 ti3 rfl rfl FB (ltn (a7.neq hO 9 rfl) Ih) (a7.psome hO 9 rfl FB Ih)) (zs (oldInt 9 hO rfl a7 FB Ih Try.underlying3 rfl rfl) (za rfl (zn ?_)))
      refine Go1.ret1V Try.func66 rfl (show _ = .int .i64 (ix r14.single (IntKind.i64.wrap (IntKind.u8.wrap (((ix (ix r14.words j) (k7_188 : Int)).toNat : Int) - (97 : Int))))) from rfl) ?_
      refine hR192 _ _ ?_
      refine za rfl (zn ?_)
      refine Go1.inBlock ?_
      refine Go1.cut [(0, .pointer (some ⟨bW, 0, none⟩)), (1, .int .i64 (ix r14.single (IntKind.i64.wrap (IntKind.u8.wrap (((ix (ix r14.words j) (k7_188 : Int)).toNat : Int) - (97 : Int)))))), (2, .string (gstr (ix r14.words j))), (15, .int .i64 ((ix r14.words j).length : Int)), (16, .int .i64 (k7_188 : Int))] ⟨rfl, rfl, rfl, rfl, rfl, trivial⟩ ?_
      intro σ _
      refine zr (zo (op_add rfl rfl (wrap_i64 (natbd Aa hle182))) (zm rfl (zn ?_)))
      exact hX7 _ H _ _ ⟨⟨rfl, rfl, rfl, rfl, rfl, trivial⟩, hO, a8, aU, aT, a9, aI, aX, bg, bh, a7, hB⟩
     replace H := ifn Gp H
     refine zo (fun w => opB (op_eql rfl rfl w) (decide_eq_false Gp)) (zn (zf rfl rfl (zk (zq (zr ?_)))))
     refine zm rfl (zo (op_nilCheck rfl) (zo (op_fieldAddr Try.underlying72 rfl ti29 rfl (by decide)) (zo (op_fieldAddr Try.underlying29 rfl ti22 rfl (by decide)) (zs (oblk (i := 6) 0 hO rfl rfl Try.underlying22 rfl rfl) (zm rfl ?_)))))
     obtain ⟨Ii, H⟩ := H
     obtain ⟨Ij, H⟩ := H
     refine zo (op_index Try.underlying22 ti26 rfl rfl Ii (ltn (aI.neq hO 5 rfl) Ij) (aI.psome hO 5 rfl Ii Ij)) ?_
     have hobt := oldSl 5 hO rfl aI Ii Ij
     obtain ⟨Ye, Yf, J2, Og⟩ := hobt
     refine zs (Og Try.underlying26 rfl rfl) (zm rfl ?_)
     obtain ⟨Ik, H⟩ := H
     obtain ⟨Il, H⟩ := H
     refine zo (op_index Try.underlying26 ti3 rfl rfl Ik Il (J2.some_ Ik Il)) (zs (ldInt J2 Ik Il Try.underlying3 rfl rfl) (za rfl (zn ?_)))
     refine Go1.ret1V Try.func66 rfl (show _ = .int .i64 (ix (ix r14.Enum.Right i7_187) (IntKind.i64.wrap (IntKind.u8.wrap (((ix (ix r14.words j) (k7_188 : Int)).toNat : Int) - (97 : Int))))) from rfl) ?_
     refine hR192 _ _ ?_
     refine za rfl (zn ?_)
     refine Go1.inBlock ?_
     refine zr (zo (op_add rfl rfl (wrap_i64 (natbd Aa hle182))) (zm rfl (zn ?_)))
     exact hX7 _ H _ _ ⟨⟨rfl, rfl, rfl, rfl, rfl, trivial⟩, hO, a8, aU, aT, a9, aI, aX, bg, bh, a7, hB⟩
    replace H := ifn Aa H
    refine zo (fun w => opB (op_lss rfl rfl w) (decide_eq_false Aa)) (zn (zq (zf rfl rfl ?_)))
    refine Go1.exit rfl ?_
    refine zq (zr (zm rfl (za rfl (zn ?_))))
    refine Go1.ret1V Try.func59 rfl (show _ = .int .i64 i7_187 from rfl) ?_
    refine hR183 _ _ ?_
    refine za rfl (zn ?_)
    refine Go1.ret1 Try.func36 rfl ?_
    exact ⟨i7_187, rfl, hB.same, H⟩
   replace H := ifn Gm H
   refine zo (fun w => opB (op_eql rfl rfl w) (decide_eq_false Gm)) (zm rfl (zp (zp (zo (op_pickF rfl rfl rfl) (zn ?_)))))
   refine zf rfl rfl (zk (zq (zq ?_)))
   refine Go1.cut [(0, .pointer (some ⟨bW, 0, none⟩)), (1, .int .i64 i), (2, .string (gstr (ix r14.words j)))] ⟨rfl, rfl, rfl, trivial⟩ ?_
   intro σ _
   refine zr (zm rfl (zo (op_lenS Try.underlying9 rfl) ?_))
   replace H := H hle182
   refine zm rfl (zn (zb ?_))
   replace hO := hO.drop 11
   replace aU := aU.ch (Owns.dropCh _ _ 11)
   replace bg := bg.ch (Owns.dropCh _ _ 11)
   have Z16 := eY.ch.trans (Owns.dropCh _ _ 11)
   replace a8 := a8.ch Z16
   replace aT := aT.ch Z16
   replace a9 := a9.ch Z16
   replace aI := aI.ch Z16
   replace aX := aX.ch Z16
   replace bh := bh.ch Z16
   replace a7 := a7.ch Z16
   have Z17 := (gY.ch.trans eY.ch).trans (Owns.dropCh _ _ 11)
   replace aR := aR.ch Z17
   replace aK := aK.ch Z17
   replace aC := aC.ch Z17
   replace aS := aS.ch Z17
   replace aL := aL.ch Z17
   replace aM := aM.ch Z17
   replace hB := ((((hB.trans dI.fr).trans o5.fr).trans gY.fr).trans eY.fr).trans (Owns.dropFr _ _ 11)
   dsimp only [eS, eZ] at hB hO aR aK aC aS aL aM a8 aU aT a9 aI aX bg bh a7
   replace hO := hO.drop 11
   replace aR := aR.ch (Owns.dropCh _ _ 11)
   replace aK := aK.ch (Owns.dropCh _ _ 11)
   replace aC := aC.ch (Owns.dropCh _ _ 11)
   replace aS := aS.ch (Owns.dropCh _ _ 11)
   replace aL := aL.ch (Owns.dropCh _ _ 11)
   replace aM := aM.ch (Owns.dropCh _ _ 11)
   replace a8 := a8.ch (Owns.dropCh _ _ 11)
   replace aU := aU.ch (Owns.dropCh _ _ 11)
   replace aT := aT.ch (Owns.dropCh _ _ 11)
   replace a9 := a9.ch (Owns.dropCh _ _ 11)
   replace aI := aI.ch (Owns.dropCh _ _ 11)
   replace aX := aX.ch (Owns.dropCh _ _ 11)
   replace bg := bg.ch (Owns.dropCh _ _ 11)
   replace bh := bh.ch (Owns.dropCh _ _ 11)
   replace a7 := a7.ch (Owns.dropCh _ _ 11)
   replace hB := hB.trans (Owns.dropFr _ _ 11)
   dsimp only [eS, eZ] at hB hO aR aK aC aS aL aM a8 aU aT a9 aI aX bg bh a7
   refine Go1.loopW (S := Int × Nat) (fun s σ w => match s with | (i8_205, k8_206) => agrees σ [(0, .pointer (some ⟨bW, 0, none⟩)), (1, .int .i64 i8_205), (2, .string (gstr (ix r14.words j))), (15, .int .i64 ((ix r14.words j).length : Int)), (16, .int .i64 (k8_206 : Int))] ∧ (fun Z0 => Owns w0.heap.size w Z0 A ∧ Els (Rp.sl (Rp.int .i64)) (bl Z0 ++ A) w aV r14.Enum.Gens ∧ Els (Rp.sl (Rp.int .i64)) (bl Z0 ++ A) w aO r14.Enum.Elems ∧ Els (Rp.int .i64) (bl Z0 ++ A) w aN r14.Enum.Prefix ∧ Els (Rp.int .i64) (bl Z0 ++ A) w aW r14.Enum.Last ∧ Els (Rp.sl (Rp.int .i64)) (bl Z0 ++ A) w aP r14.Enum.Right ∧ Els (rpRule) (bl Z0 ++ A) w aQ r14.Enum.Rules ∧ Els (Rp.str) (bl Z0 ++ A) w bi r14.words ∧ Els (Rp.int .i64) (bl Z0 ++ A) w bc r14.behind ∧ Els (Rp.int .i64) (bl Z0 ++ A) w bf r14.single ∧ Fr (bl []) w0 (bl Z0) w) [.blk bW (.cells #[.int .i64 r14.Enum.Points, .bool r14.Enum.Monoid, .slice ao am ap, .slice ae ad af, .slice ab aa ac, .slice ar aq au, .slice ah ag ai, .slice ak aj al, .int .i64 r14.Enum.Done, .map (some av), .slice aF aE aG, .slice ax aw ay, .slice aA az aB] 72 (0, 0)), .row 26 1 ao am ap aV, .row 26 1 ae ad af aO, .row 3 1 ab aa ac aN, .row 3 1 ar aq au aW, .row 26 1 ah ag ai aP, .row 39 2 ak aj al aQ, .row 9 1 aF aE aG bi, .row 3 1 ax aw ay bc, .row 3 1 aA az aB bf, .any (mapE (fun a : List UInt8 => Value.string (gstr a)) (fun a : Int => Value.int .i64 a) av r14.number)]) H ⟨⟨rfl, rfl, rfl, rfl, rfl, trivial⟩, hO, a8, aU, aT, a9, aI, aX, bg, bh, a7, hB⟩ ?_
   intro X8
   refine prE fun i8_205 => fun k8_206 => ?_
   intro H hX8 σ Im
   refine andE fun hag => andE fun hO => andE fun a8 => andE fun aU => andE fun aT => andE fun a9 => andE fun aI => andE fun aX => andE fun bg => andE fun bh => andE fun a7 => fun hB => ?_
   dsimp only at H
   refine Go1.keep [(0, .pointer (some ⟨bW, 0, none⟩)), (1, .int .i64 i8_205), (2, .string (gstr (ix r14.words j))), (15, .int .i64 ((ix r14.words j).length : Int)), (16, .int .i64 (k8_206 : Int))] hag ?_
   refine zq (zr ?_)
   by_cases EH : (k8_206 : Int) < ((ix r14.words j).length : Int)
   ·replace H := ifp EH H
    refine zo (fun w => opB (op_lss rfl rfl w) (decide_eq_true EH)) (zn (zq (zt rfl rfl (zk (zq ?_)))))
    refine zb (zq (zr (zm rfl (za rfl (zn ?_)))))
    refine zr (zm rfl (zm rfl (zm rfl (zm rfl ?_))))
    obtain ⟨TM, H⟩ := H
    obtain ⟨Io, H⟩ := H
    refine zo (op_indexS Try.underlying9 rfl rfl TM Io) (zo (op_sub rfl rfl rfl) (zo (op_conv Try.underlying5 Try.underlying3 rfl rfl) ?_))
    refine GoR.inl (vs := [.pointer (some ⟨bW, 0, none⟩), .int .i64 i8_205, .int .i64 (IntKind.i64.wrap (IntKind.u8.wrap (((ix (ix r14.words j) (k8_206 : Int)).toNat : Int) - (97 : Int))))]) (caps := []) rfl rfl body66 Try.func66 rfl Try.ntmps66 rfl rfl rfl ?_
    intro RhR210 hR210
    refine zq (zr (za rfl (zn (zq (zq ?_)))))
    refine zr (zm rfl ?_)
    by_cases yq : i8_205 = (-1 : Int)
    ·replace H := ifp yq H
     refine zo (fun w => opB (op_eql rfl rfl w) (decide_eq_true yq)) (zn (zt rfl rfl (zq (zr (zm rfl ?_)))))
     refine zo (op_nilCheck rfl) (zo (op_fieldAddr Try.underlying72 rfl ti26 rfl (by decide)) (zs (oblk (i := 12) 0 hO rfl rfl Try.underlying26 rfl rfl) (zm rfl ?_)))
     obtain ⟨BH, H⟩ := H
     obtain ⟨Ip, H⟩ := H
     refine zo (op_index Try.underlying26 ti3 rfl rfl BH (ltn (a7.neq hO 9 rfl) Ip) (a7.psome hO 9 rfl BH Ip)) (zs (oldInt 9 hO rfl a7 BH Ip Try.underlying3 rfl rfl) (za rfl (zn ?_)))
     refine Go1.ret1V Try.func66 rfl (show _ = .int .i64 (ix r14.single (IntKind.i64.wrap (IntKind.u8.wrap (((ix (ix r14.words j) (k8_206 : Int)).toNat : Int) - (97 : Int))))) from rfl) ?_
     refine hR210 _ _ ?_
     refine za rfl (zn ?_)
     refine Go1.inBlock ?_
     refine Go1.cut [(0, .pointer (some ⟨bW, 0, none⟩)), (1, .int .i64 (ix r14.single (IntKind.i64.wrap (IntKind.u8.wrap (((ix (ix r14.words j) (k8_206 : Int)).toNat : Int) - (97 : Int)))))), (2, .string (gstr (ix r14.words j))), (15, .int .i64 ((ix r14.words j).length : Int)), (16, .int .i64 (k8_206 : Int))] ⟨rfl, rfl, rfl, rfl, rfl, trivial⟩ ?_
     intro σ _
     refine zr (zo (op_add rfl rfl (wrap_i64 (natbd EH hle182))) (zm rfl (zn ?_)))
     exact hX8 _ H _ _ ⟨⟨rfl, rfl, rfl, rfl, rfl, trivial⟩, hO, a8, aU, aT, a9, aI, aX, bg, bh, a7, hB⟩
    replace H := ifn yq H
    refine zo (fun w => opB (op_eql rfl rfl w) (decide_eq_false yq)) (zn (zf rfl rfl (zk (zq (zr ?_)))))
    refine zm rfl (zo (op_nilCheck rfl) (zo (op_fieldAddr Try.underlying72 rfl ti29 rfl (by decide)) (zo (op_fieldAddr Try.underlying29 rfl ti22 rfl (by decide)) (zs (oblk (i := 6) 0 hO rfl rfl Try.underlying22 rfl rfl) (zm rfl ?_)))))
    obtain ⟨Iq, H⟩ := H
    obtain ⟨Ir, H⟩ := H
    refine zo (op_index Try.underlying22 ti26 rfl rfl Iq (ltn (aI.neq hO 5 rfl) Ir) (aI.psome hO 5 rfl Iq Ir)) ?_
    have hobt := oldSl 5 hO rfl aI Iq Ir
    obtain ⟨Yg, Yh, J3, Oh⟩ := hobt
    refine zs (Oh Try.underlying26 rfl rfl) (zm rfl ?_)
    obtain ⟨Iu, H⟩ := H
    obtain ⟨Iv, H⟩ := H
    refine zo (op_index Try.underlying26 ti3 rfl rfl Iu Iv (J3.some_ Iu Iv)) (zs (ldInt J3 Iu Iv Try.underlying3 rfl rfl) (za rfl (zn ?_)))
    refine Go1.ret1V Try.func66 rfl (show _ = .int .i64 (ix (ix r14.Enum.Right i8_205) (IntKind.i64.wrap (IntKind.u8.wrap (((ix (ix r14.words j) (k8_206 : Int)).toNat : Int) - (97 : Int))))) from rfl) ?_
    refine hR210 _ _ ?_
    refine za rfl (zn ?_)
    refine Go1.inBlock ?_
    refine zr (zo (op_add rfl rfl (wrap_i64 (natbd EH hle182))) (zm rfl (zn ?_)))
    exact hX8 _ H _ _ ⟨⟨rfl, rfl, rfl, rfl, rfl, trivial⟩, hO, a8, aU, aT, a9, aI, aX, bg, bh, a7, hB⟩
   replace H := ifn EH H
   refine zo (fun w => opB (op_lss rfl rfl w) (decide_eq_false EH)) (zn (zq (zf rfl rfl ?_)))
   refine Go1.exit rfl ?_
   refine zq (zr (zm rfl (za rfl (zn ?_))))
   refine Go1.ret1V Try.func59 rfl (show _ = .int .i64 i8_205 from rfl) ?_
   refine hR183 _ _ ?_
   refine za rfl (zn ?_)
   refine Go1.ret1 Try.func36 rfl ?_
   exact ⟨i8_205, rfl, hB.same, H⟩
  replace H := ifn h44 H
  refine GoQ.pure rfl (fun w => opB (op_eql rfl rfl w) (decide_eq_false h44)) rfl rfl ?_
  refine GoQ.pure rfl (op_assign rfl) rfl rfl ?_
  refine GoQ.nil ?_
  refine Go1.ret1V Try.func50 rfl (show _ = .bool false from rfl) ?_
  refine hR40 _ _ ?_
  refine zo (op_pickT rfl rfl rfl) (za rfl (za rfl (zn ?_)))
  refine Go1.ret2V Try.func57 rfl (show _ = .pointer (some ⟨bW, 0, none⟩) from rfl) (show _ = .bool false from rfl) ?_
  refine hR7 _ _ ?_
  refine zm rfl (zo (op_extract rfl rfl) (zo (op_extract rfl rfl) (za rfl (za rfl (zn ?_)))))
  refine zq (zq ?_)
  refine Go1.cut [(1, .int .i64 i), (2, .int .i64 j), (7, .pointer (some ⟨bW, 0, none⟩)), (8, .bool false)] ⟨rfl, rfl, rfl, rfl, trivial⟩ ?_
  intro σ _
  refine zr (zm rfl (zo (op_not rfl) (zm rfl (zp (zp ?_)))))
  refine zp (zp (zo (op_pickT rfl rfl rfl) (zm rfl (zp (zp ?_)))))
  refine zp (zp (zp (zp (zp (zp ?_)))))
  refine zp (zp (zo (op_pickT rfl rfl rfl) (zn (zt rfl rfl (zq ?_)))))
  refine Go1.cut [] trivial ?_
  intro σ _
  refine zr (za rfl (zn ?_))
  refine Go1.ret1 Try.func36 rfl ?_
  replace hB := (((hB.trans dI.fr).trans o5.fr).trans gY.fr).trans eY.fr
  exact ⟨(-1 : Int), rfl, hB.same, H⟩
end Sg
