/- The walks: each call keeps to its plain transformer. Printed by walkgen.py. -/
import Derived.Test.YtjegjjdfgefkoaaTi
import Derived.Test.YtjegjjdfgefkoaaWEnumerateBuilds
import Derived.Test.YtjegjjdfgefkoaaWEnumerateBuildsb
import Derived.Test.YtjegjjdfgefkoaaAl
namespace Sg
open Go Go.RowKit Go.Proofs
set_option linter.unusedVariables false
set_option linter.unusedSimpArgs false
set_option maxRecDepth 100000
set_option maxHeartbeats 4000000
theorem body68 : Body Try.prog 68 := ⟨Try.f68, Try.func68, rfl, by kernel_rfl⟩
theorem body53 : Body Try.prog 53 := ⟨Try.f53, Try.func53, rfl, by kernel_rfl⟩
theorem walk_enumerate_replay {A : List Nat} {w0 : World} {bE : Option Addr} {bF : Nat} {a9 : Option Addr} {ba : Nat} {aS : Option Addr} {aT : Nat} {bx : Option Addr} {bz : Nat} {bc : Option Addr} {bf : Nat} {bg : Option Addr} {bh : Nat} {e : Enum} (hA : ∀ b ∈ A, b < w0.heap.size) (aN : ISl (Rp.sl (Rp.int .i64)) A w0 bE bF e.Gens) (aD : ISl (Rp.sl (Rp.int .i64)) A w0 a9 ba e.Elems) (ak : ISl (Rp.int .i64) A w0 aS aT e.Prefix) (aM : ISl (Rp.int .i64) A w0 bx bz e.Last) (aE : ISl (Rp.sl (Rp.int .i64)) A w0 bc bf e.Right) (aF : ISl (rpRule) A w0 bg bh e.Rules) {K : Option run → Bool → Prop} (H : enumerate_replay e K) :
    CallsV Try.prog 53 #[.agg #[.int .i64 e.Points, .bool e.Monoid, .slice bE e.Gens.length bF, .slice a9 e.Elems.length ba, .slice aS e.Prefix.length aT, .slice bx e.Last.length bz, .slice bc e.Right.length bf, .slice bg e.Rules.length bh, .int .i64 e.Done]] w0 (fun v w' => (∃ (r1 : Bool), v = .tuple #[.pointer none, .bool r1] ∧ Same w0 w' ∧ K none r1) ∨ (∃ (q : run), ∃ (r1 : Bool), ∃ (b_q : Nat), ∃ (aG : Nat), ∃ (aH : Option Addr), ∃ (aI : Nat), ∃ (bK : List Value), ∃ (au : Nat), ∃ (av : Option Addr), ∃ (aw : Nat), ∃ (bA : List Value), ∃ (al : Nat), ∃ (am : Option Addr), ∃ (ao : Nat), ∃ (bn : List Value), ∃ (aJ : Nat), ∃ (aK : Option Addr), ∃ (aL : Nat), ∃ (bM : List Value), ∃ (ax : Nat), ∃ (ay : Option Addr), ∃ (az : Nat), ∃ (bB : List Value), ∃ (aA : Nat), ∃ (aB : Option Addr), ∃ (aC : Nat), ∃ (bC : List Value), ∃ (cq : Nat), ∃ (bp : Nat), ∃ (bq : Option Addr), ∃ (bt : Nat), ∃ (cT : List Value), ∃ (aU : Nat), ∃ (aV : Option Addr), ∃ (aW : Nat), ∃ (cA : List Value), ∃ (aX : Nat), ∃ (aY : Option Addr), ∃ (a7 : Nat), ∃ (cB : List Value), v = .tuple #[.pointer (some ⟨b_q, 0, none⟩), .bool r1] ∧ Same w0 w' ∧ (fun Z0 => Owns w0.heap.size w' Z0 A ∧ Els (Rp.sl (Rp.int .i64)) (bl Z0 ++ A) w' bK q.Enum.Gens ∧ Els (Rp.sl (Rp.int .i64)) (bl Z0 ++ A) w' bA q.Enum.Elems ∧ Els (Rp.int .i64) (bl Z0 ++ A) w' bn q.Enum.Prefix ∧ Els (Rp.int .i64) (bl Z0 ++ A) w' bM q.Enum.Last ∧ Els (Rp.sl (Rp.int .i64)) (bl Z0 ++ A) w' bB q.Enum.Right ∧ Els (rpRule) (bl Z0 ++ A) w' bC q.Enum.Rules ∧ Els (Rp.str) (bl Z0 ++ A) w' cT q.words ∧ Els (Rp.int .i64) (bl Z0 ++ A) w' cA q.behind ∧ Els (Rp.int .i64) (bl Z0 ++ A) w' cB q.single ∧ K (some q) r1) [.blk b_q (.cells #[.int .i64 q.Enum.Points, .bool q.Enum.Monoid, .slice aH aG aI, .slice av au aw, .slice am al ao, .slice aK aJ aL, .slice ay ax az, .slice aB aA aC, .int .i64 q.Enum.Done, .map (some cq), .slice bq bp bt, .slice aV aU aW, .slice aY aX a7] 72 (0, 0)), .row 26 1 aH aG aI bK, .row 26 1 av au aw bA, .row 3 1 am al ao bn, .row 3 1 aK aJ aL bM, .row 26 1 ay ax az bB, .row 39 2 aB aA aC bC, .row 9 1 bq bp bt cT, .row 3 1 aV aU aW cA, .row 3 1 aY aX a7 cB, .any (mapE (fun a : List UInt8 => Value.string (gstr a)) (fun a : Int => Value.int .i64 a) cq q.number)])) := by
 refine CallsV.of (l := [.agg #[.int .i64 e.Points, .bool e.Monoid, .slice bE e.Gens.length bF, .slice a9 e.Elems.length ba, .slice aS e.Prefix.length aT, .slice bx e.Last.length bz, .slice bc e.Right.length bf, .slice bg e.Rules.length bh, .int .i64 e.Done]]) Try.func53 rfl Try.ntmps53 rfl ?_
 have hO := Owns.start hA
 have hB := Fr.refl (bl []) w0
 unfold enumerate_replay at H
 refine zq (zr ?_)
 have hobt := obox (t := 29) (v := .agg #[.int .i64 e.Points, .bool e.Monoid, .slice bE e.Gens.length bF, .slice a9 e.Elems.length ba, .slice aS e.Prefix.length aT, .slice bx e.Last.length bz, .slice bc e.Right.length bf, .slice bg e.Rules.length bh, .int .i64 e.Done]) (cs := #[.int .i64 e.Points, .bool e.Monoid, .slice bE e.Gens.length bF, .slice a9 e.Elems.length ba, .slice aS e.Prefix.length aT, .slice bx e.Last.length bz, .slice bc e.Right.length bf, .slice bg e.Rules.length bh, .int .i64 e.Done]) hO rfl
 obtain ⟨w1, B2, et, hs4, sQ⟩ := hobt
 refine zg (sQ rfl) ?_
 replace hO := et.own
 refine za rfl (za rfl (zn (zq (zr (zo (op_fieldAddr Try.underlying29 rfl ti22 rfl (by decide)) ?_)))))
 refine zs (oblk (i := 2) 0 hO rfl rfl Try.underlying22 rfl rfl) (zo (op_fieldAddr Try.underlying29 rfl ti4 rfl (by decide)) (zs (oblk (i := 1) 0 hO rfl rfl Try.underlying4 rfl rfl) ?_))
 replace aN := (aN.ch (Ch.start A w0)).ch et.ch
 refine GoR.call (op_call body49 rfl (walk_enumerate_begin hO.lt aN H)) rfl rfl ?_
 intro v9 w10 hcase13
 refine Or.elim hcase13 ?_ ?_
 ·refine exE fun r8 => andE fun hv14 => andE fun rq => fun H => ?_
  subst hv14
  clear hcase13
  replace H := oElimN H
  have eI := Stp.same hO rq
  replace hO := eI.own
  refine zm rfl (zo (op_extract rfl rfl) (zo (op_extract rfl rfl) (za rfl (za rfl (zn ?_)))))
  refine zq (zq (zr (zm rfl ?_)))
  by_cases h16 : r8 = (0 : Int)
  ·replace H := ifp h16 H
   refine zo (fun w => opB (op_neq rfl rfl w) (ndT h16)) (zn (zf rfl rfl (zk (zq (zb ?_)))))
   replace aN := aN.ch eI.ch
   replace hB := (hB.trans et.fr).trans eI.fr
   have Z1 := ((Ch.start A w0).trans et.ch).trans eI.ch
   replace aD := aD.ch Z1
   replace ak := ak.ch Z1
   replace aM := aM.ch Z1
   replace aE := aE.ch Z1
   replace aF := aF.ch Z1
   refine Go1.loopW (S := Unit) (fun s σ w => agrees σ [(1, .pointer (some ⟨B2, 0, none⟩)), (4, .pointer none)] ∧ (fun Z0 => Owns w0.heap.size w Z0 A ∧ ISl (Rp.sl (Rp.int .i64)) (bl Z0 ++ A) w bE bF e.Gens ∧ ISl (Rp.sl (Rp.int .i64)) (bl Z0 ++ A) w a9 ba e.Elems ∧ ISl (Rp.int .i64) (bl Z0 ++ A) w aS aT e.Prefix ∧ ISl (Rp.int .i64) (bl Z0 ++ A) w bx bz e.Last ∧ ISl (Rp.sl (Rp.int .i64)) (bl Z0 ++ A) w bc bf e.Right ∧ ISl (rpRule) (bl Z0 ++ A) w bg bh e.Rules ∧ Fr (bl []) w0 (bl Z0) w) [.blk B2 (.cells #[.int .i64 e.Points, .bool e.Monoid, .slice bE e.Gens.length bF, .slice a9 e.Elems.length ba, .slice aS e.Prefix.length aT, .slice bx e.Last.length bz, .slice bc e.Right.length bf, .slice bg e.Rules.length bh, .int .i64 e.Done] 29 (0, 0))]) H ⟨⟨rfl, rfl, trivial⟩, hO, aN, aD, ak, aM, aE, aF, hB⟩ ?_
   intro X1 _
   intro H hX1 σ w17
   refine andE fun hag => andE fun hO => andE fun aN => andE fun aD => andE fun ak => andE fun aM => andE fun aE => andE fun aF => fun hB => ?_
   refine Go1.keep [(1, .pointer (some ⟨B2, 0, none⟩)), (4, .pointer none)] hag ?_
   refine zq (zq ?_)
   refine Go1.drawS 0 [(0, .pure), (1, .pure), (2, .pure), (3, .pure), (4, .stable), (5, .pure), (6, .stable), (7, .pure)] mixed (by kernel_rfl) ?_
   intro w18 xF
   have rV := Stp.same hO xF
   replace hO := rV.own
   refine GoQ.pure rfl (op_move rfl) rfl rfl ?_
   exact H.elim
  replace H := ifn h16 H
  refine zo (fun w => opB (op_neq rfl rfl w) (ndF h16)) (zn (zt rfl rfl (zq (zr (za rfl ?_)))))
  refine za rfl (zn ?_)
  refine Go1.ret2 Try.func53 rfl ?_
  replace hB := (hB.trans et.fr).trans eI.fr
  exact Or.inl ⟨false, rfl, hB.same, H⟩
 ·refine exE fun r7 => exE fun r8 => exE fun dT => exE fun iN => exE fun gs => exE fun gt => exE fun nG => exE fun ib => exE fun fG => exE fun fH => exE fun m5 => exE fun gJ => exE fun fh => exE fun fk => exE fun ml => exE fun iO => exE fun gu => exE fun gv => exE fun nH => exE fun ic => exE fun fI => exE fun fJ => exE fun m6 => exE fun ie => exE fun fK => exE fun fL => exE fun m7 => exE fun af => exE fun sA => exE fun sB => exE fun sC => exE fun rE => exE fun rF => exE fun rG => exE fun rH => exE fun qT => exE fun rI => exE fun rJ => exE fun rK => exE fun qU => andE fun hv21 => andE fun rq => andE fun hN12 => andE fun cS => andE fun cg => andE fun bT => andE fun bY => andE fun bG => andE fun bw => andE fun ci => andE fun cj => andE fun ck => fun H => ?_
  subst hv21
  clear hcase13
  replace H := oElimS H
  have eK := Stp.more hO rq hN12
  dsimp only [List.cons_append, List.nil_append] at eK
  replace hO := eK.own
  replace cS := cS.ch (Ch.assoc _ _ _ _)
  dsimp only [List.cons_append, List.nil_append] at cS
  replace cg := cg.ch (Ch.assoc _ _ _ _)
  dsimp only [List.cons_append, List.nil_append] at cg
  replace bT := bT.ch (Ch.assoc _ _ _ _)
  dsimp only [List.cons_append, List.nil_append] at bT
  replace bY := bY.ch (Ch.assoc _ _ _ _)
  dsimp only [List.cons_append, List.nil_append] at bY
  replace bG := bG.ch (Ch.assoc _ _ _ _)
  dsimp only [List.cons_append, List.nil_append] at bG
  replace bw := bw.ch (Ch.assoc _ _ _ _)
  dsimp only [List.cons_append, List.nil_append] at bw
  replace ci := ci.ch (Ch.assoc _ _ _ _)
  dsimp only [List.cons_append, List.nil_append] at ci
  replace cj := cj.ch (Ch.assoc _ _ _ _)
  dsimp only [List.cons_append, List.nil_append] at cj
  replace ck := ck.ch (Ch.assoc _ _ _ _)
  dsimp only [List.cons_append, List.nil_append] at ck
  refine zm rfl (zo (op_extract rfl rfl) (zo (op_extract rfl rfl) (za rfl (za rfl (zn ?_)))))
  refine zq (zq (zr (zm rfl ?_)))
  by_cases h34 : r8 = (0 : Int)
  ·replace H := ifp h34 H
   refine zo (fun w => opB (op_neq rfl rfl w) (ndT h34)) (zn (zf rfl rfl (zk (zq (zb ?_)))))
   replace aN := aN.ch eK.ch
   replace hB := (hB.trans et.fr).trans eK.fr
   have Z2 := ((Ch.start A w0).trans et.ch).trans eK.ch
   replace aD := aD.ch Z2
   replace ak := ak.ch Z2
   replace aM := aM.ch Z2
   replace aE := aE.ch Z2
   replace aF := aF.ch Z2
   refine Go1.loopW (S := Int × Bool × Int × List (List Int) × List (List Int) × List Int × List Int × List (List Int) × List Rule × List Str × List Int × List Int × (List (Str × Int))) (fun s σ w => match s with | (k2_36, b2_37, k2_38, d_39, d_45, d_51, d_57, d_63, d_69, d_75, d_81, d_87, m2_93) => ∃ (n44 : Nat), ∃ (p42 : Option Addr), ∃ (c43 : Nat), ∃ (jw : List Value), ∃ (n50 : Nat), ∃ (p48 : Option Addr), ∃ (c49 : Nat), ∃ (jx : List Value), ∃ (n56 : Nat), ∃ (p54 : Option Addr), ∃ (c55 : Nat), ∃ (jy : List Value), ∃ (n62 : Nat), ∃ (p60 : Option Addr), ∃ (c61 : Nat), ∃ (jz : List Value), ∃ (n68 : Nat), ∃ (p66 : Option Addr), ∃ (c67 : Nat), ∃ (jA : List Value), ∃ (n74 : Nat), ∃ (p72 : Option Addr), ∃ (c73 : Nat), ∃ (jB : List Value), ∃ (n80 : Nat), ∃ (p78 : Option Addr), ∃ (c79 : Nat), ∃ (jC : List Value), ∃ (n86 : Nat), ∃ (p84 : Option Addr), ∃ (c85 : Nat), ∃ (eQ : List Value), ∃ (n92 : Nat), ∃ (p90 : Option Addr), ∃ (c91 : Nat), ∃ (eU : List Value), agrees σ [(1, .pointer (some ⟨B2, 0, none⟩)), (4, .pointer (some ⟨dT, 0, none⟩))] ∧ (fun Z0 => Owns w0.heap.size w Z0 A ∧ Els (Rp.sl (Rp.int .i64)) (bl Z0 ++ A) w jw d_39 ∧ Els (Rp.sl (Rp.int .i64)) (bl Z0 ++ A) w jx d_45 ∧ Els (Rp.int .i64) (bl Z0 ++ A) w jy d_51 ∧ Els (Rp.int .i64) (bl Z0 ++ A) w jz d_57 ∧ Els (Rp.sl (Rp.int .i64)) (bl Z0 ++ A) w jA d_63 ∧ Els (rpRule) (bl Z0 ++ A) w jB d_69 ∧ Els (Rp.str) (bl Z0 ++ A) w jC d_75 ∧ Els (Rp.int .i64) (bl Z0 ++ A) w eQ d_81 ∧ Els (Rp.int .i64) (bl Z0 ++ A) w eU d_87 ∧ ISl (Rp.sl (Rp.int .i64)) (bl Z0 ++ A) w bE bF e.Gens ∧ ISl (Rp.sl (Rp.int .i64)) (bl Z0 ++ A) w a9 ba e.Elems ∧ ISl (Rp.int .i64) (bl Z0 ++ A) w aS aT e.Prefix ∧ ISl (Rp.int .i64) (bl Z0 ++ A) w bx bz e.Last ∧ ISl (Rp.sl (Rp.int .i64)) (bl Z0 ++ A) w bc bf e.Right ∧ ISl (rpRule) (bl Z0 ++ A) w bg bh e.Rules ∧ Fr (bl []) w0 (bl Z0) w) [.blk dT (.cells #[.int .i64 k2_36, .bool b2_37, .slice p42 n44 c43, .slice p48 n50 c49, .slice p54 n56 c55, .slice p60 n62 c61, .slice p66 n68 c67, .slice p72 n74 c73, .int .i64 k2_38, .map (some af), .slice p78 n80 c79, .slice p84 n86 c85, .slice p90 n92 c91] 72 (0, 0)), .row 26 1 p42 n44 c43 jw, .row 26 1 p48 n50 c49 jx, .row 3 1 p54 n56 c55 jy, .row 3 1 p60 n62 c61 jz, .row 26 1 p66 n68 c67 jA, .row 39 2 p72 n74 c73 jB, .row 9 1 p78 n80 c79 jC, .row 3 1 p84 n86 c85 eQ, .row 3 1 p90 n92 c91 eU, .any (mapE (fun a : List UInt8 => Value.string (gstr a)) (fun a : Int => Value.int .i64 a) af m2_93), .blk B2 (.cells #[.int .i64 e.Points, .bool e.Monoid, .slice bE e.Gens.length bF, .slice a9 e.Elems.length ba, .slice aS e.Prefix.length aT, .slice bx e.Last.length bz, .slice bc e.Right.length bf, .slice bg e.Rules.length bh, .int .i64 e.Done] 29 (0, 0))]) H ⟨iN, gs, gt, nG, ib, fG, fH, m5, gJ, fh, fk, ml, iO, gu, gv, nH, ic, fI, fJ, m6, ie, fK, fL, m7, sA, sB, sC, rE, rF, rG, rH, qT, rI, rJ, rK, qU, ⟨rfl, rfl, trivial⟩, hO, cS, cg, bT, bY, bG, bw, ci, cj, ck, aN, aD, ak, aM, aE, aF, hB⟩ ?_
   intro X2
   refine prE fun k2_36 => prE fun b2_37 => prE fun k2_38 => prE fun d_39 => prE fun d_45 => prE fun d_51 => prE fun d_57 => prE fun d_63 => prE fun d_69 => prE fun d_75 => prE fun d_81 => prE fun d_87 => fun m2_93 => ?_
   intro H hX2 σ w35
   refine exE fun n44 => exE fun p42 => exE fun c43 => exE fun jw => exE fun n50 => exE fun p48 => exE fun c49 => exE fun jx => exE fun n56 => exE fun p54 => exE fun c55 => exE fun jy => exE fun n62 => exE fun p60 => exE fun c61 => exE fun jz => exE fun n68 => exE fun p66 => exE fun c67 => exE fun jA => exE fun n74 => exE fun p72 => exE fun c73 => exE fun jB => exE fun n80 => exE fun p78 => exE fun c79 => exE fun jC => exE fun n86 => exE fun p84 => exE fun c85 => exE fun eQ => exE fun n92 => exE fun p90 => exE fun c91 => exE fun eU => andE fun hag => andE fun hO => andE fun dQ => andE fun dH => andE fun dM => andE fun dN => andE fun dO => andE fun dP => andE fun dR => andE fun bk => andE fun bD => andE fun aN => andE fun aD => andE fun ak => andE fun aM => andE fun aE => andE fun aF => fun hB => ?_
   dsimp only at H
   refine Go1.keep [(1, .pointer (some ⟨B2, 0, none⟩)), (4, .pointer (some ⟨dT, 0, none⟩))] hag ?_
   refine zq (zq ?_)
   refine Go1.drawS 0 [(0, .pure), (1, .pure), (2, .pure), (3, .pure), (4, .stable), (5, .pure), (6, .stable), (7, .pure)] mixed (by kernel_rfl) ?_
   intro w94 KF
   have nI := Stp.same hO KF
   replace hO := nI.own
   refine GoQ.pure rfl (op_move rfl) rfl rfl ?_
   refine GoQ.pure rfl (op_nilCheck rfl) rfl rfl ?_
   refine GoQ.pure rfl (op_fieldAddr Try.underlying72 rfl ti29 rfl (by decide)) rfl rfl ?_
   refine GoQ.pure rfl (op_fieldAddr Try.underlying29 rfl ti3 rfl (by decide)) rfl rfl ?_
   refine GoQ.stable rfl (oblk (i := 8) 0 hO rfl rfl Try.underlying3 rfl rfl) rfl rfl ?_
   refine GoQ.pure rfl (op_fieldAddr Try.underlying29 rfl ti3 rfl (by decide)) rfl rfl ?_
   refine GoQ.stable rfl (oblk (i := 8) 11 hO rfl rfl Try.underlying3 rfl rfl) rfl rfl ?_
   by_cases h97 : k2_38 < e.Done
   ·replace H := ifp h97 H
    refine GoQ.pure rfl (fun w => opB (op_lss rfl rfl w) (decide_eq_true h97)) rfl rfl ?_
    refine GoQ.nil ?_
    refine zt rfl rfl (zk (zb (zq (zr (zm rfl ?_)))))
    refine GoR.inl (vs := [.pointer (some ⟨dT, 0, none⟩)]) (caps := []) rfl rfl body50 Try.func50 rfl Try.ntmps50 rfl rfl rfl ?_
    intro RhR98 hR98
    refine zq (zr (za rfl (zn (zq ?_))))
    refine Go1.drawS 0 [(0, .pure), (1, .pure), (2, .pure), (3, .pure), (4, .stable), (5, .pure), (6, .pure), (7, .pure), (8, .pure), (9, .stable), (10, .pure), (11, .pure), (12, .pure)] mixed (by kernel_rfl) ?_
    intro w99 zI
    have en := Stp.same hO zI
    replace hO := en.own
    refine GoQ.pure rfl (op_move rfl) rfl rfl ?_
    refine GoQ.pure rfl (op_nilCheck rfl) rfl rfl ?_
    refine GoQ.pure rfl (op_fieldAddr Try.underlying72 rfl ti29 rfl (by decide)) rfl rfl ?_
    refine GoQ.pure rfl (op_fieldAddr Try.underlying29 rfl ti3 rfl (by decide)) rfl rfl ?_
    refine GoQ.stable rfl (oblk (i := 8) 0 hO rfl rfl Try.underlying3 rfl rfl) rfl rfl ?_
    refine GoQ.pure rfl (op_move rfl) rfl rfl ?_
    refine GoQ.pure rfl (op_nilCheck rfl) rfl rfl ?_
    refine GoQ.pure rfl (op_fieldAddr Try.underlying72 rfl ti29 rfl (by decide)) rfl rfl ?_
    refine GoQ.pure rfl (op_fieldAddr Try.underlying29 rfl ti22 rfl (by decide)) rfl rfl ?_
    refine GoQ.stable rfl (oblk (i := 3) 0 hO rfl rfl Try.underlying22 rfl rfl) rfl rfl ?_
    replace dH := (dH.ch nI.ch).ch en.ch
    refine GoQ.pure rfl (op_lenN Try.underlying22 rfl (dH.neq hO 2 rfl)) rfl rfl ?_
    by_cases vk : k2_38 = (d_45.length : Int)
    ·replace H := ifp vk H
     refine GoQ.pure rfl (fun w => opB (op_eql rfl rfl w) (decide_eq_true vk)) rfl rfl ?_
     refine GoQ.pure rfl (op_assign rfl) rfl rfl ?_
     refine GoQ.nil ?_
     refine Go1.ret1V Try.func50 rfl (show _ = .bool true from rfl) ?_
     refine hR98 _ _ ?_
     refine zm rfl (zp (zp (zp (zo (op_pickT rfl rfl rfl) (zn ?_)))))
     refine zt rfl rfl (zq ?_)
     refine Go1.cut [] trivial ?_
     intro σ _
     refine zr (za rfl (za rfl (zn ?_)))
     refine Go1.ret2 Try.func53 rfl ?_
     replace hB := (hB.trans nI.fr).trans en.fr
     exact Or.inl ⟨false, rfl, hB.same, H⟩
    replace H := ifn vk H
    refine GoQ.pure rfl (fun w => opB (op_eql rfl rfl w) (decide_eq_false vk)) rfl rfl ?_
    refine GoQ.pure rfl (op_assign rfl) rfl rfl ?_
    refine GoQ.nil ?_
    refine Go1.ret1V Try.func50 rfl (show _ = .bool false from rfl) ?_
    refine hR98 _ _ ?_
    refine zm rfl (zm rfl ?_)
    have BI : Owns w0.heap.size w99 ([.blk dT (.cells #[.int .i64 k2_36, .bool b2_37, .slice p42 n44 c43, .slice p48 n50 c49, .slice p54 n56 c55, .slice p60 n62 c61, .slice p66 n68 c67, .slice p72 n74 c73, .int .i64 k2_38, .map (some af), .slice p78 n80 c79, .slice p84 n86 c85, .slice p90 n92 c91] 72 (0, 0)), .row 26 1 p42 n44 c43 jw, .row 26 1 p48 n50 c49 jx, .row 3 1 p54 n56 c55 jy, .row 3 1 p60 n62 c61 jz, .row 26 1 p66 n68 c67 jA, .row 39 2 p72 n74 c73 jB, .row 9 1 p78 n80 c79 jC, .row 3 1 p84 n86 c85 eQ, .row 3 1 p90 n92 c91 eU, .any (mapE (fun a : List UInt8 => Value.string (gstr a)) (fun a : Int => Value.int .i64 a) af m2_93)] ++ [.blk B2 (.cells #[.int .i64 e.Points, .bool e.Monoid, .slice bE e.Gens.length bF, .slice a9 e.Elems.length ba, .slice aS e.Prefix.length aT, .slice bx e.Last.length bz, .slice bc e.Right.length bf, .slice bg e.Rules.length bh, .int .i64 e.Done] 29 (0, 0))]) A := hO
    have HB := Owns.split BI
    have hca105 : Ch (bl [.blk dT (.cells #[.int .i64 k2_36, .bool b2_37, .slice p42 n44 c43, .slice p48 n50 c49, .slice p54 n56 c55, .slice p60 n62 c61, .slice p66 n68 c67, .slice p72 n74 c73, .int .i64 k2_38, .map (some af), .slice p78 n80 c79, .slice p84 n86 c85, .slice p90 n92 c91] 72 (0, 0)), .row 26 1 p42 n44 c43 jw, .row 26 1 p48 n50 c49 jx, .row 3 1 p54 n56 c55 jy, .row 3 1 p60 n62 c61 jz, .row 26 1 p66 n68 c67 jA, .row 39 2 p72 n74 c73 jB, .row 9 1 p78 n80 c79 jC, .row 3 1 p84 n86 c85 eQ, .row 3 1 p90 n92 c91 eU, .any (mapE (fun a : List UInt8 => Value.string (gstr a)) (fun a : Int => Value.int .i64 a) af m2_93), .blk B2 (.cells #[.int .i64 e.Points, .bool e.Monoid, .slice bE e.Gens.length bF, .slice a9 e.Elems.length ba, .slice aS e.Prefix.length aT, .slice bx e.Last.length bz, .slice bc e.Right.length bf, .slice bg e.Rules.length bh, .int .i64 e.Done] 29 (0, 0))] ++ A) w99 (bl [.blk dT (.cells #[.int .i64 k2_36, .bool b2_37, .slice p42 n44 c43, .slice p48 n50 c49, .slice p54 n56 c55, .slice p60 n62 c61, .slice p66 n68 c67, .slice p72 n74 c73, .int .i64 k2_38, .map (some af), .slice p78 n80 c79, .slice p84 n86 c85, .slice p90 n92 c91] 72 (0, 0)), .row 26 1 p42 n44 c43 jw, .row 26 1 p48 n50 c49 jx, .row 3 1 p54 n56 c55 jy, .row 3 1 p60 n62 c61 jz, .row 26 1 p66 n68 c67 jA, .row 39 2 p72 n74 c73 jB, .row 9 1 p78 n80 c79 jC, .row 3 1 p84 n86 c85 eQ, .row 3 1 p90 n92 c91 eU, .any (mapE (fun a : List UInt8 => Value.string (gstr a)) (fun a : Int => Value.int .i64 a) af m2_93)] ++ (bl [.blk B2 (.cells #[.int .i64 e.Points, .bool e.Monoid, .slice bE e.Gens.length bF, .slice a9 e.Elems.length ba, .slice aS e.Prefix.length aT, .slice bx e.Last.length bz, .slice bc e.Right.length bf, .slice bg e.Rules.length bh, .int .i64 e.Done] 29 (0, 0))] ++ A)) w99 := Ch.assoc' [.blk dT (.cells #[.int .i64 k2_36, .bool b2_37, .slice p42 n44 c43, .slice p48 n50 c49, .slice p54 n56 c55, .slice p60 n62 c61, .slice p66 n68 c67, .slice p72 n74 c73, .int .i64 k2_38, .map (some af), .slice p78 n80 c79, .slice p84 n86 c85, .slice p90 n92 c91] 72 (0, 0)), .row 26 1 p42 n44 c43 jw, .row 26 1 p48 n50 c49 jx, .row 3 1 p54 n56 c55 jy, .row 3 1 p60 n62 c61 jz, .row 26 1 p66 n68 c67 jA, .row 39 2 p72 n74 c73 jB, .row 9 1 p78 n80 c79 jC, .row 3 1 p84 n86 c85 eQ, .row 3 1 p90 n92 c91 eU, .any (mapE (fun a : List UInt8 => Value.string (gstr a)) (fun a : Int => Value.int .i64 a) af m2_93)] [.blk B2 (.cells #[.int .i64 e.Points, .bool e.Monoid, .slice bE e.Gens.length bF, .slice a9 e.Elems.length ba, .slice aS e.Prefix.length aT, .slice bx e.Last.length bz, .slice bc e.Right.length bf, .slice bg e.Rules.length bh, .int .i64 e.Done] 29 (0, 0))] A w99
    have Z3 := nI.ch.trans en.ch
    replace dQ := dQ.ch Z3
    replace dM := dM.ch Z3
    replace dN := dN.ch Z3
    replace dO := dO.ch Z3
    replace dP := dP.ch Z3
    replace dR := dR.ch Z3
    replace bk := bk.ch Z3
    replace bD := bD.ch Z3
    refine GoR.call (op_call body51 rfl (walk_enumerate_run_process (a0 := (⟨(⟨k2_36, b2_37, d_39, d_45, d_51, d_57, d_63, d_69, k2_38⟩ : Enum), m2_93, d_75, d_81, d_87⟩ : run)) HB (dQ.ch hca105) (dH.ch hca105) (dM.ch hca105) (dN.ch hca105) (dO.ch hca105) (dP.ch hca105) (dR.ch hca105) (bk.ch hca105) (bD.ch hca105) H)) rfl rfl ?_
    intro O1 zM
    refine exE fun r106 => exE fun q107 => exE fun gQ => exE fun gR => exE fun gS => exE fun mr => exE fun gi => exE fun gj => exE fun gk => exE fun lB => exE fun fP => exE fun fQ => exE fun fR => exE fun kO => exE fun gT => exE fun gU => exE fun gV => exE fun ms => exE fun gl => exE fun gm => exE fun gn => exE fun lC => exE fun gp => exE fun gq => exE fun gr => exE fun lD => exE fun kg => exE fun kh => exE fun ki => exE fun qj => exE fun jh => exE fun ji => exE fun jj => exE fun oI => exE fun jk => exE fun jl => exE fun jm => exE fun oJ => andE fun hv113 => andE fun hN110 => andE fun rs => andE fun qX => andE fun qs => andE fun ru => andE fun qY => andE fun q8 => andE fun tP => andE fun sR => andE fun sT => andE fun hF111 => fun H => ?_
    subst hv113
    have tA : Stp w0.heap.size A w99 [.blk dT (.cells #[.int .i64 k2_36, .bool b2_37, .slice p42 n44 c43, .slice p48 n50 c49, .slice p54 n56 c55, .slice p60 n62 c61, .slice p66 n68 c67, .slice p72 n74 c73, .int .i64 k2_38, .map (some af), .slice p78 n80 c79, .slice p84 n86 c85, .slice p90 n92 c91] 72 (0, 0)), .row 26 1 p42 n44 c43 jw, .row 26 1 p48 n50 c49 jx, .row 3 1 p54 n56 c55 jy, .row 3 1 p60 n62 c61 jz, .row 26 1 p66 n68 c67 jA, .row 39 2 p72 n74 c73 jB, .row 9 1 p78 n80 c79 jC, .row 3 1 p84 n86 c85 eQ, .row 3 1 p90 n92 c91 eU, .any (mapE (fun a : List UInt8 => Value.string (gstr a)) (fun a : Int => Value.int .i64 a) af m2_93), .blk B2 (.cells #[.int .i64 e.Points, .bool e.Monoid, .slice bE e.Gens.length bF, .slice a9 e.Elems.length ba, .slice aS e.Prefix.length aT, .slice bx e.Last.length bz, .slice bc e.Right.length bf, .slice bg e.Rules.length bh, .int .i64 e.Done] 29 (0, 0))] zM [.blk dT (.cells #[.int .i64 q107.Enum.Points, .bool q107.Enum.Monoid, .slice gR gQ gS, .slice gj gi gk, .slice fQ fP fR, .slice gU gT gV, .slice gm gl gn, .slice gq gp gr, .int .i64 q107.Enum.Done, .map (some af), .slice kh kg ki, .slice ji jh jj, .slice jl jk jm] 72 (0, 0)), .row 26 1 gR gQ gS mr, .row 26 1 gj gi gk lB, .row 3 1 fQ fP fR kO, .row 3 1 gU gT gV ms, .row 26 1 gm gl gn lC, .row 39 2 gq gp gr lD, .row 9 1 kh kg ki qj, .row 3 1 ji jh jj oI, .row 3 1 jl jk jm oJ, .any (mapE (fun a : List UInt8 => Value.string (gstr a)) (fun a : Int => Value.int .i64 a) af q107.number), .blk B2 (.cells #[.int .i64 e.Points, .bool e.Monoid, .slice bE e.Gens.length bF, .slice a9 e.Elems.length ba, .slice aS e.Prefix.length aT, .slice bx e.Last.length bz, .slice bc e.Right.length bf, .slice bg e.Rules.length bh, .int .i64 e.Done] 29 (0, 0))] := Stp.join BI hN110 hF111
    replace hO := tA.own
    have hca114 : Ch (bl [.blk dT (.cells #[.int .i64 q107.Enum.Points, .bool q107.Enum.Monoid, .slice gR gQ gS, .slice gj gi gk, .slice fQ fP fR, .slice gU gT gV, .slice gm gl gn, .slice gq gp gr, .int .i64 q107.Enum.Done, .map (some af), .slice kh kg ki, .slice ji jh jj, .slice jl jk jm] 72 (0, 0)), .row 26 1 gR gQ gS mr, .row 26 1 gj gi gk lB, .row 3 1 fQ fP fR kO, .row 3 1 gU gT gV ms, .row 26 1 gm gl gn lC, .row 39 2 gq gp gr lD, .row 9 1 kh kg ki qj, .row 3 1 ji jh jj oI, .row 3 1 jl jk jm oJ, .any (mapE (fun a : List UInt8 => Value.string (gstr a)) (fun a : Int => Value.int .i64 a) af q107.number)] ++ (bl [.blk B2 (.cells #[.int .i64 e.Points, .bool e.Monoid, .slice bE e.Gens.length bF, .slice a9 e.Elems.length ba, .slice aS e.Prefix.length aT, .slice bx e.Last.length bz, .slice bc e.Right.length bf, .slice bg e.Rules.length bh, .int .i64 e.Done] 29 (0, 0))] ++ A)) zM (bl [.blk dT (.cells #[.int .i64 q107.Enum.Points, .bool q107.Enum.Monoid, .slice gR gQ gS, .slice gj gi gk, .slice fQ fP fR, .slice gU gT gV, .slice gm gl gn, .slice gq gp gr, .int .i64 q107.Enum.Done, .map (some af), .slice kh kg ki, .slice ji jh jj, .slice jl jk jm] 72 (0, 0)), .row 26 1 gR gQ gS mr, .row 26 1 gj gi gk lB, .row 3 1 fQ fP fR kO, .row 3 1 gU gT gV ms, .row 26 1 gm gl gn lC, .row 39 2 gq gp gr lD, .row 9 1 kh kg ki qj, .row 3 1 ji jh jj oI, .row 3 1 jl jk jm oJ, .any (mapE (fun a : List UInt8 => Value.string (gstr a)) (fun a : Int => Value.int .i64 a) af q107.number), .blk B2 (.cells #[.int .i64 e.Points, .bool e.Monoid, .slice bE e.Gens.length bF, .slice a9 e.Elems.length ba, .slice aS e.Prefix.length aT, .slice bx e.Last.length bz, .slice bc e.Right.length bf, .slice bg e.Rules.length bh, .int .i64 e.Done] 29 (0, 0))] ++ A) zM := Ch.assoc [.blk dT (.cells #[.int .i64 q107.Enum.Points, .bool q107.Enum.Monoid, .slice gR gQ gS, .slice gj gi gk, .slice fQ fP fR, .slice gU gT gV, .slice gm gl gn, .slice gq gp gr, .int .i64 q107.Enum.Done, .map (some af), .slice kh kg ki, .slice ji jh jj, .slice jl jk jm] 72 (0, 0)), .row 26 1 gR gQ gS mr, .row 26 1 gj gi gk lB, .row 3 1 fQ fP fR kO, .row 3 1 gU gT gV ms, .row 26 1 gm gl gn lC, .row 39 2 gq gp gr lD, .row 9 1 kh kg ki qj, .row 3 1 ji jh jj oI, .row 3 1 jl jk jm oJ, .any (mapE (fun a : List UInt8 => Value.string (gstr a)) (fun a : Int => Value.int .i64 a) af q107.number)] [.blk B2 (.cells #[.int .i64 e.Points, .bool e.Monoid, .slice bE e.Gens.length bF, .slice a9 e.Elems.length ba, .slice aS e.Prefix.length aT, .slice bx e.Last.length bz, .slice bc e.Right.length bf, .slice bg e.Rules.length bh, .int .i64 e.Done] 29 (0, 0))] A zM
    by_cases zN : r106 = (0 : Int)
    ·replace H := ifp zN H
     refine zo (fun w => opB (op_neq rfl rfl w) (ndT zN)) (zo (op_pickF rfl rfl rfl) (zn (zf rfl rfl (zk ?_))))
     refine Go1.inBlock ?_
     replace rs := rs.ch hca114
     replace qX := qX.ch hca114
     replace qs := qs.ch hca114
     replace ru := ru.ch hca114
     replace qY := qY.ch hca114
     replace q8 := q8.ch hca114
     replace tP := tP.ch hca114
     replace sR := sR.ch hca114
     replace sT := sT.ch hca114
     have Z4 := Z3.trans tA.ch
     replace aN := aN.ch Z4
     replace aD := aD.ch Z4
     replace ak := ak.ch Z4
     replace aM := aM.ch Z4
     replace aE := aE.ch Z4
     replace aF := aF.ch Z4
     replace hB := ((hB.trans nI.fr).trans en.fr).trans tA.fr
     exact hX2 _ H _ _ ⟨gQ, gR, gS, mr, gi, gj, gk, lB, fP, fQ, fR, kO, gT, gU, gV, ms, gl, gm, gn, lC, gp, gq, gr, lD, kg, kh, ki, qj, jh, ji, jj, oI, jk, jl, jm, oJ, ⟨rfl, rfl, trivial⟩, hO, rs, qX, qs, ru, qY, q8, tP, sR, sT, aN, aD, ak, aM, aE, aF, hB⟩
    replace H := ifn zN H
    refine zo (fun w => opB (op_neq rfl rfl w) (ndF zN)) (zo (op_pickF rfl rfl rfl) (zn (zt rfl rfl (zq (zr ?_)))))
    refine za rfl (za rfl (zn ?_))
    refine Go1.ret2 Try.func53 rfl ?_
    replace hB := ((hB.trans nI.fr).trans en.fr).trans tA.fr
    exact Or.inl ⟨false, rfl, hB.same, H⟩
   replace H := ifn h97 H
   refine GoQ.pure rfl (fun w => opB (op_lss rfl rfl w) (decide_eq_false h97)) rfl rfl ?_
   refine GoQ.nil ?_
   refine zf rfl rfl ?_
   refine Go1.exit rfl ?_
   refine zq (zr (zm rfl (zm rfl (zs (oblkAgg (vs := [.int .i64 e.Points, .bool e.Monoid, .slice bE e.Gens.length bF, .slice a9 e.Elems.length ba, .slice aS e.Prefix.length aT, .slice bx e.Last.length bz, .slice bc e.Right.length bf, .slice bg e.Rules.length bh, .int .i64 e.Done]) (i := 0) 11 hO rfl rfl Try.underlying29 rfl ti29 rfl) ?_))))
   refine GoR.inl (vs := [.pointer (some ⟨dT, 0, none⟩), .agg #[.int .i64 e.Points, .bool e.Monoid, .slice bE e.Gens.length bF, .slice a9 e.Elems.length ba, .slice aS e.Prefix.length aT, .slice bx e.Last.length bz, .slice bc e.Right.length bf, .slice bg e.Rules.length bh, .int .i64 e.Done]]) (caps := []) rfl rfl body68 Try.func68 rfl Try.ntmps68 rfl rfl rfl ?_
   intro RhR116 hR116
   refine zq (zr ?_)
   have hobt := obox (t := 29) (v := .agg #[.int .i64 e.Points, .bool e.Monoid, .slice bE e.Gens.length bF, .slice a9 e.Elems.length ba, .slice aS e.Prefix.length aT, .slice bx e.Last.length bz, .slice bc e.Right.length bf, .slice bg e.Rules.length bh, .int .i64 e.Done]) (cs := #[.int .i64 e.Points, .bool e.Monoid, .slice bE e.Gens.length bF, .slice a9 e.Elems.length ba, .slice aS e.Prefix.length aT, .slice bx e.Last.length bz, .slice bc e.Right.length bf, .slice bg e.Rules.length bh, .int .i64 e.Done]) hO rfl
   obtain ⟨O2, B118, lE, Mh, Eb⟩ := hobt
   refine zg (Eb rfl) ?_
   replace hO := lE.own
   refine za rfl (zn (zq ?_))
   refine Go1.drawS 0 [(0, .pure), (1, .pure), (2, .pure), (3, .pure), (4, .stable), (5, .pure), (6, .stable), (7, .pure), (8, .pure), (9, .pure), (10, .pure), (11, .pure), (12, .pure), (13, .stable), (14, .pure), (15, .stable), (16, .pure), (17, .pure), (18, .pure), (19, .pure), (20, .pure), (21, .pure), (22, .pure), (23, .stable), (24, .pure), (25, .stable), (26, .loud), (27, .pure), (28, .pure), (29, .pure), (30, .pure), (31, .pure), (32, .pure), (33, .stable), (34, .pure), (35, .stable), (36, .loud), (37, .pure), (38, .pure), (39, .pure), (40, .pure), (41, .pure), (42, .pure), (43, .stable), (44, .pure), (45, .stable), (46, .loud), (47, .pure), (48, .pure), (49, .pure), (50, .pure), (51, .pure), (52, .pure), (53, .stable), (54, .pure), (55, .stable), (56, .loud), (57, .pure), (58, .pure), (59, .pure), (60, .pure), (61, .pure), (62, .pure), (63, .stable), (64, .pure), (65, .stable), (66, .loud), (67, .pure), (68, .pure)] mixed (by kernel_rfl) ?_
   intro O3 HC
   have lF := Stp.same hO HC
   replace hO := lF.own
   refine GoQ.pure rfl (op_move rfl) rfl rfl ?_
   refine GoQ.pure rfl (op_nilCheck rfl) rfl rfl ?_
   refine GoQ.pure rfl (op_fieldAddr Try.underlying72 rfl ti29 rfl (by decide)) rfl rfl ?_
   refine GoQ.pure rfl (op_fieldAddr Try.underlying29 rfl ti3 rfl (by decide)) rfl rfl ?_
   refine GoQ.stable rfl (oblk (i := 0) 1 hO rfl rfl Try.underlying3 rfl rfl) rfl rfl ?_
   refine GoQ.pure rfl (op_fieldAddr Try.underlying29 rfl ti3 rfl (by decide)) rfl rfl ?_
   refine GoQ.stable rfl (oblk (i := 0) 0 hO rfl rfl Try.underlying3 rfl rfl) rfl rfl ?_
   by_cases zO : k2_36 = e.Points
   ·replace H := ifp zO H
    refine GoQ.pure rfl (fun w => opB (op_eql rfl rfl w) (decide_eq_true zO)) rfl rfl ?_
    refine GoQ.pure rfl (op_move rfl) rfl rfl ?_
    refine GoQ.pure rfl (op_move rfl) rfl rfl ?_
    refine GoQ.pure rfl (op_nilCheck rfl) rfl rfl ?_
    refine GoQ.pure rfl (op_fieldAddr Try.underlying72 rfl ti29 rfl (by decide)) rfl rfl ?_
    refine GoQ.pure rfl (op_fieldAddr Try.underlying29 rfl ti3 rfl (by decide)) rfl rfl ?_
    refine GoQ.stable rfl (oblk (i := 8) 1 hO rfl rfl Try.underlying3 rfl rfl) rfl rfl ?_
    refine GoQ.pure rfl (op_fieldAddr Try.underlying29 rfl ti3 rfl (by decide)) rfl rfl ?_
    refine GoQ.stable rfl (oblk (i := 8) 0 hO rfl rfl Try.underlying3 rfl rfl) rfl rfl ?_
    by_cases zP : k2_38 = e.Done
    ·replace H := ifp zP H
     refine GoQ.pure rfl (fun w => opB (op_eql rfl rfl w) (decide_eq_true zP)) rfl rfl ?_
     refine GoQ.pure rfl (op_pickT rfl rfl rfl) rfl rfl ?_
     refine GoQ.pure rfl (op_move rfl) rfl rfl ?_
     refine GoQ.pure rfl (op_move rfl) rfl rfl ?_
     refine GoQ.pure rfl (op_nilCheck rfl) rfl rfl ?_
     refine GoQ.pure rfl (op_fieldAddr Try.underlying72 rfl ti29 rfl (by decide)) rfl rfl ?_
     refine GoQ.pure rfl (op_fieldAddr Try.underlying29 rfl ti22 rfl (by decide)) rfl rfl ?_
     refine GoQ.stable rfl (oblk (i := 3) 1 hO rfl rfl Try.underlying22 rfl rfl) rfl rfl ?_
     refine GoQ.pure rfl (op_fieldAddr Try.underlying29 rfl ti22 rfl (by decide)) rfl rfl ?_
     refine GoQ.stable rfl (oblk (i := 3) 0 hO rfl rfl Try.underlying22 rfl rfl) rfl rfl ?_
     have Z5 := (nI.ch.trans lE.ch).trans lF.ch
     replace dH := dH.ch Z5
     have hobt := rowlend 3 hO rfl dH
     obtain ⟨HD, HE⟩ := hobt
     have hOc130 := hO.drop 3
     replace aD := aD.ch Z5
     refine GoQ.call rfl (op_call body69 (show ([.slice p48 n50 c49, .slice a9 e.Elems.length ba, .func (.func 70) #[] #[]] : List Value) = [.slice p48 d_45.length c49, .slice a9 e.Elems.length ba, .func (.func 70) #[] #[]] from by rw [← HE]) (walk_slices_EqualFunc_int hOc130.lt HD (aD.ch (Owns.dropCh _ _ 3)) H)) (fun v w hr => by obtain ⟨_, _, hs, _⟩ := hr; assumption) rfl rfl ?_
     rintro O4 O5 ⟨r131, rfl, HF, H⟩
     have lG := Stp.same hO HF
     replace hO := lG.own
     refine GoQ.pure rfl (op_pickT rfl rfl rfl) rfl rfl ?_
     refine GoQ.pure rfl (op_move rfl) rfl rfl ?_
     cases r131
     ·replace H := ifn Bool.false_ne_true H
      refine GoQ.pass rfl rfl rfl ?_
      refine GoQ.pass rfl rfl rfl ?_
      refine GoQ.pass rfl rfl rfl ?_
      refine GoQ.pass rfl rfl rfl ?_
      refine GoQ.pass rfl rfl rfl ?_
      refine GoQ.pass rfl rfl rfl ?_
      refine GoQ.pass rfl rfl rfl ?_
      refine GoQ.pass rfl rfl rfl ?_
      refine GoQ.pure rfl (op_pickF rfl rfl rfl) rfl rfl ?_
      refine GoQ.pure rfl (op_move rfl) rfl rfl ?_
      refine GoQ.pass rfl rfl rfl ?_
      refine GoQ.pass rfl rfl rfl ?_
      refine GoQ.pass rfl rfl rfl ?_
      refine GoQ.pass rfl rfl rfl ?_
      refine GoQ.pass rfl rfl rfl ?_
      refine GoQ.pass rfl rfl rfl ?_
      refine GoQ.pass rfl rfl rfl ?_
      refine GoQ.pass rfl rfl rfl ?_
      refine GoQ.pure rfl (op_pickF rfl rfl rfl) rfl rfl ?_
      refine GoQ.pure rfl (op_move rfl) rfl rfl ?_
      refine GoQ.pass rfl rfl rfl ?_
      refine GoQ.pass rfl rfl rfl ?_
      refine GoQ.pass rfl rfl rfl ?_
      refine GoQ.pass rfl rfl rfl ?_
      refine GoQ.pass rfl rfl rfl ?_
      refine GoQ.pass rfl rfl rfl ?_
      refine GoQ.pass rfl rfl rfl ?_
      refine GoQ.pass rfl rfl rfl ?_
      refine GoQ.pure rfl (op_pickF rfl rfl rfl) rfl rfl ?_
      refine GoQ.pure rfl (op_move rfl) rfl rfl ?_
      refine GoQ.pass rfl rfl rfl ?_
      refine GoQ.pass rfl rfl rfl ?_
      refine GoQ.pass rfl rfl rfl ?_
      refine GoQ.pass rfl rfl rfl ?_
      refine GoQ.pass rfl rfl rfl ?_
      refine GoQ.pass rfl rfl rfl ?_
      refine GoQ.pass rfl rfl rfl ?_
      refine GoQ.pass rfl rfl rfl ?_
      refine GoQ.pure rfl (op_pickF rfl rfl rfl) rfl rfl ?_
      refine GoQ.pure rfl (op_assign rfl) rfl rfl ?_
      refine GoQ.nil ?_
      refine Go1.ret1V Try.func68 rfl (show _ = .bool false from rfl) ?_
      refine hR116 _ _ ?_
      refine za rfl (za rfl (zn ?_))
      replace hO := hO.drop 0
      have Z6 := lG.ch.trans (Owns.dropCh _ _ 0)
      replace dH := dH.ch Z6
      replace aD := aD.ch Z6
      have Z7 := (Z5.trans lG.ch).trans (Owns.dropCh _ _ 0)
      replace dQ := dQ.ch Z7
      replace dM := dM.ch Z7
      replace dN := dN.ch Z7
      replace dO := dO.ch Z7
      replace dP := dP.ch Z7
      replace dR := dR.ch Z7
      replace bk := bk.ch Z7
      replace bD := bD.ch Z7
      replace aN := aN.ch Z7
      replace ak := ak.ch Z7
      replace aM := aM.ch Z7
      replace aE := aE.ch Z7
      replace aF := aF.ch Z7
      replace hB := ((((hB.trans nI.fr).trans lE.fr).trans lF.fr).trans lG.fr).trans (Owns.dropFr _ _ 0)
      dsimp only [eS, eZ] at hB hO aN aD ak aM aE aF dQ dH dM dN dO dP dR bk bD
      replace hO := hO.drop 11
      replace aN := aN.ch (Owns.dropCh _ _ 11)
      replace aD := aD.ch (Owns.dropCh _ _ 11)
      replace ak := ak.ch (Owns.dropCh _ _ 11)
      replace aM := aM.ch (Owns.dropCh _ _ 11)
      replace aE := aE.ch (Owns.dropCh _ _ 11)
      replace aF := aF.ch (Owns.dropCh _ _ 11)
      replace dQ := dQ.ch (Owns.dropCh _ _ 11)
      replace dH := dH.ch (Owns.dropCh _ _ 11)
      replace dM := dM.ch (Owns.dropCh _ _ 11)
      replace dN := dN.ch (Owns.dropCh _ _ 11)
      replace dO := dO.ch (Owns.dropCh _ _ 11)
      replace dP := dP.ch (Owns.dropCh _ _ 11)
      replace dR := dR.ch (Owns.dropCh _ _ 11)
      replace bk := bk.ch (Owns.dropCh _ _ 11)
      replace bD := bD.ch (Owns.dropCh _ _ 11)
      replace hB := hB.trans (Owns.dropFr _ _ 11)
      dsimp only [eS, eZ] at hB hO aN aD ak aM aE aF dQ dH dM dN dO dP dR bk bD
      refine Go1.ret2 Try.func53 rfl ?_
      exact Or.inr ⟨(⟨(⟨k2_36, b2_37, d_39, d_45, d_51, d_57, d_63, d_69, k2_38⟩ : Enum), m2_93, d_75, d_81, d_87⟩ : run), false, dT, n44, p42, c43, jw, n50, p48, c49, jx, n56, p54, c55, jy, n62, p60, c61, jz, n68, p66, c67, jA, n74, p72, c73, jB, af, n80, p78, c79, jC, n86, p84, c85, eQ, n92, p90, c91, eU, rfl, hB.same, hO, dQ, dH, dM, dN, dO, dP, dR, bk, bD, H⟩
     replace H := ifp rfl H
     refine GoQ.pure rfl (op_move rfl) rfl rfl ?_
     refine GoQ.pure rfl (op_nilCheck rfl) rfl rfl ?_
     refine GoQ.pure rfl (op_fieldAddr Try.underlying72 rfl ti29 rfl (by decide)) rfl rfl ?_
     refine GoQ.pure rfl (op_fieldAddr Try.underlying29 rfl ti26 rfl (by decide)) rfl rfl ?_
     refine GoQ.stable rfl (oblk (i := 4) 1 hO rfl rfl Try.underlying26 rfl rfl) rfl rfl ?_
     refine GoQ.pure rfl (op_fieldAddr Try.underlying29 rfl ti26 rfl (by decide)) rfl rfl ?_
     refine GoQ.stable rfl (oblk (i := 4) 0 hO rfl rfl Try.underlying26 rfl rfl) rfl rfl ?_
     replace dM := (dM.ch Z5).ch lG.ch
     have hobt := rowlend 4 hO rfl dM
     obtain ⟨zQ, zR⟩ := hobt
     have hOc139 := hO.drop 4
     replace ak := (ak.ch Z5).ch lG.ch
     refine GoQ.call rfl (op_call body70 (show ([.slice p54 n56 c55, .slice aS e.Prefix.length aT] : List Value) = [.slice p54 d_51.length c55, .slice aS e.Prefix.length aT] from by rw [← zR]) (walk_slices_Equal_int hOc139.lt zQ (ak.ch (Owns.dropCh _ _ 4)) H)) (fun v w hr => by obtain ⟨_, _, hs, _⟩ := hr; assumption) rfl rfl ?_
     rintro O6 O7 ⟨r140, rfl, HG, H⟩
     have eH := Stp.same hO HG
     replace hO := eH.own
     refine GoQ.pure rfl (op_pickT rfl rfl rfl) rfl rfl ?_
     refine GoQ.pure rfl (op_move rfl) rfl rfl ?_
     cases r140
     ·replace H := ifn Bool.false_ne_true H
      refine GoQ.pass rfl rfl rfl ?_
      refine GoQ.pass rfl rfl rfl ?_
      refine GoQ.pass rfl rfl rfl ?_
      refine GoQ.pass rfl rfl rfl ?_
      refine GoQ.pass rfl rfl rfl ?_
      refine GoQ.pass rfl rfl rfl ?_
      refine GoQ.pass rfl rfl rfl ?_
      refine GoQ.pass rfl rfl rfl ?_
      refine GoQ.pure rfl (op_pickF rfl rfl rfl) rfl rfl ?_
      refine GoQ.pure rfl (op_move rfl) rfl rfl ?_
      refine GoQ.pass rfl rfl rfl ?_
      refine GoQ.pass rfl rfl rfl ?_
      refine GoQ.pass rfl rfl rfl ?_
      refine GoQ.pass rfl rfl rfl ?_
      refine GoQ.pass rfl rfl rfl ?_
      refine GoQ.pass rfl rfl rfl ?_
      refine GoQ.pass rfl rfl rfl ?_
      refine GoQ.pass rfl rfl rfl ?_
      refine GoQ.pure rfl (op_pickF rfl rfl rfl) rfl rfl ?_
      refine GoQ.pure rfl (op_move rfl) rfl rfl ?_
      refine GoQ.pass rfl rfl rfl ?_
      refine GoQ.pass rfl rfl rfl ?_
      refine GoQ.pass rfl rfl rfl ?_
      refine GoQ.pass rfl rfl rfl ?_
      refine GoQ.pass rfl rfl rfl ?_
      refine GoQ.pass rfl rfl rfl ?_
      refine GoQ.pass rfl rfl rfl ?_
      refine GoQ.pass rfl rfl rfl ?_
      refine GoQ.pure rfl (op_pickF rfl rfl rfl) rfl rfl ?_
      refine GoQ.pure rfl (op_assign rfl) rfl rfl ?_
      refine GoQ.nil ?_
      refine Go1.ret1V Try.func68 rfl (show _ = .bool false from rfl) ?_
      refine hR116 _ _ ?_
      refine za rfl (za rfl (zn ?_))
      replace hO := hO.drop 0
      have Z8 := eH.ch.trans (Owns.dropCh _ _ 0)
      replace dM := dM.ch Z8
      replace ak := ak.ch Z8
      have Z9 := (lG.ch.trans eH.ch).trans (Owns.dropCh _ _ 0)
      replace dH := dH.ch Z9
      replace aD := aD.ch Z9
      have Z10 := ((Z5.trans lG.ch).trans eH.ch).trans (Owns.dropCh _ _ 0)
      replace dQ := dQ.ch Z10
      replace dN := dN.ch Z10
      replace dO := dO.ch Z10
      replace dP := dP.ch Z10
      replace dR := dR.ch Z10
      replace bk := bk.ch Z10
      replace bD := bD.ch Z10
      replace aN := aN.ch Z10
      replace aM := aM.ch Z10
      replace aE := aE.ch Z10
      replace aF := aF.ch Z10
      replace hB := (((((hB.trans nI.fr).trans lE.fr).trans lF.fr).trans lG.fr).trans eH.fr).trans (Owns.dropFr _ _ 0)
      dsimp only [eS, eZ] at hB hO aN aD ak aM aE aF dQ dH dM dN dO dP dR bk bD
      replace hO := hO.drop 11
      replace aN := aN.ch (Owns.dropCh _ _ 11)
      replace aD := aD.ch (Owns.dropCh _ _ 11)
      replace ak := ak.ch (Owns.dropCh _ _ 11)
      replace aM := aM.ch (Owns.dropCh _ _ 11)
      replace aE := aE.ch (Owns.dropCh _ _ 11)
      replace aF := aF.ch (Owns.dropCh _ _ 11)
      replace dQ := dQ.ch (Owns.dropCh _ _ 11)
      replace dH := dH.ch (Owns.dropCh _ _ 11)
      replace dM := dM.ch (Owns.dropCh _ _ 11)
      replace dN := dN.ch (Owns.dropCh _ _ 11)
      replace dO := dO.ch (Owns.dropCh _ _ 11)
      replace dP := dP.ch (Owns.dropCh _ _ 11)
      replace dR := dR.ch (Owns.dropCh _ _ 11)
      replace bk := bk.ch (Owns.dropCh _ _ 11)
      replace bD := bD.ch (Owns.dropCh _ _ 11)
      replace hB := hB.trans (Owns.dropFr _ _ 11)
      dsimp only [eS, eZ] at hB hO aN aD ak aM aE aF dQ dH dM dN dO dP dR bk bD
      refine Go1.ret2 Try.func53 rfl ?_
      exact Or.inr ⟨(⟨(⟨k2_36, b2_37, d_39, d_45, d_51, d_57, d_63, d_69, k2_38⟩ : Enum), m2_93, d_75, d_81, d_87⟩ : run), false, dT, n44, p42, c43, jw, n50, p48, c49, jx, n56, p54, c55, jy, n62, p60, c61, jz, n68, p66, c67, jA, n74, p72, c73, jB, af, n80, p78, c79, jC, n86, p84, c85, eQ, n92, p90, c91, eU, rfl, hB.same, hO, dQ, dH, dM, dN, dO, dP, dR, bk, bD, H⟩
     replace H := ifp rfl H
     refine GoQ.pure rfl (op_move rfl) rfl rfl ?_
     refine GoQ.pure rfl (op_nilCheck rfl) rfl rfl ?_
     refine GoQ.pure rfl (op_fieldAddr Try.underlying72 rfl ti29 rfl (by decide)) rfl rfl ?_
     refine GoQ.pure rfl (op_fieldAddr Try.underlying29 rfl ti26 rfl (by decide)) rfl rfl ?_
     refine GoQ.stable rfl (oblk (i := 5) 1 hO rfl rfl Try.underlying26 rfl rfl) rfl rfl ?_
     refine GoQ.pure rfl (op_fieldAddr Try.underlying29 rfl ti26 rfl (by decide)) rfl rfl ?_
     refine GoQ.stable rfl (oblk (i := 5) 0 hO rfl rfl Try.underlying26 rfl rfl) rfl rfl ?_
     replace dN := ((dN.ch Z5).ch lG.ch).ch eH.ch
     have hobt := rowlend 5 hO rfl dN
     obtain ⟨HH, HI⟩ := hobt
     have hOc148 := hO.drop 5
     replace aM := ((aM.ch Z5).ch lG.ch).ch eH.ch
     refine GoQ.call rfl (op_call body70 (show ([.slice p60 n62 c61, .slice bx e.Last.length bz] : List Value) = [.slice p60 d_57.length c61, .slice bx e.Last.length bz] from by rw [← HI]) (walk_slices_Equal_int hOc148.lt HH (aM.ch (Owns.dropCh _ _ 5)) H)) (fun v w hr => by obtain ⟨_, _, hs, _⟩ := hr; assumption) rfl rfl ?_
     rintro O8 Kf ⟨r149, rfl, HJ, H⟩
     have gI := Stp.same hO HJ
     replace hO := gI.own
     refine GoQ.pure rfl (op_pickT rfl rfl rfl) rfl rfl ?_
     refine GoQ.pure rfl (op_move rfl) rfl rfl ?_
     cases r149
     ·replace H := ifn Bool.false_ne_true H
      refine GoQ.pass rfl rfl rfl ?_
      refine GoQ.pass rfl rfl rfl ?_
      refine GoQ.pass rfl rfl rfl ?_
      refine GoQ.pass rfl rfl rfl ?_
      refine GoQ.pass rfl rfl rfl ?_
      refine GoQ.pass rfl rfl rfl ?_
      refine GoQ.pass rfl rfl rfl ?_
      refine GoQ.pass rfl rfl rfl ?_
      refine GoQ.pure rfl (op_pickF rfl rfl rfl) rfl rfl ?_
      refine GoQ.pure rfl (op_move rfl) rfl rfl ?_
      refine GoQ.pass rfl rfl rfl ?_
      refine GoQ.pass rfl rfl rfl ?_
      refine GoQ.pass rfl rfl rfl ?_
      refine GoQ.pass rfl rfl rfl ?_
      refine GoQ.pass rfl rfl rfl ?_
      refine GoQ.pass rfl rfl rfl ?_
      refine GoQ.pass rfl rfl rfl ?_
      refine GoQ.pass rfl rfl rfl ?_
      refine GoQ.pure rfl (op_pickF rfl rfl rfl) rfl rfl ?_
      refine GoQ.pure rfl (op_assign rfl) rfl rfl ?_
      refine GoQ.nil ?_
      refine Go1.ret1V Try.func68 rfl (show _ = .bool false from rfl) ?_
      refine hR116 _ _ ?_
      refine za rfl (za rfl (zn ?_))
      replace hO := hO.drop 0
      have Z11 := gI.ch.trans (Owns.dropCh _ _ 0)
      replace dN := dN.ch Z11
      replace aM := aM.ch Z11
      have Z12 := (eH.ch.trans gI.ch).trans (Owns.dropCh _ _ 0)
      replace dM := dM.ch Z12
      replace ak := ak.ch Z12
      have Z13 := ((lG.ch.trans eH.ch).trans gI.ch).trans (Owns.dropCh _ _ 0)
      replace dH := dH.ch Z13
      replace aD := aD.ch Z13
      have Z14 := (((Z5.trans lG.ch).trans eH.ch).trans gI.ch).trans (Owns.dropCh _ _ 0)
      replace dQ := dQ.ch Z14
      replace dO := dO.ch Z14
      replace dP := dP.ch Z14
      replace dR := dR.ch Z14
      replace bk := bk.ch Z14
      replace bD := bD.ch Z14
      replace aN := aN.ch Z14
      replace aE := aE.ch Z14
      replace aF := aF.ch Z14
      replace hB := ((((((hB.trans nI.fr).trans lE.fr).trans lF.fr).trans lG.fr).trans eH.fr).trans gI.fr).trans (Owns.dropFr _ _ 0)
      dsimp only [eS, eZ] at hB hO aN aD ak aM aE aF dQ dH dM dN dO dP dR bk bD
      replace hO := hO.drop 11
      replace aN := aN.ch (Owns.dropCh _ _ 11)
      replace aD := aD.ch (Owns.dropCh _ _ 11)
      replace ak := ak.ch (Owns.dropCh _ _ 11)
      replace aM := aM.ch (Owns.dropCh _ _ 11)
      replace aE := aE.ch (Owns.dropCh _ _ 11)
      replace aF := aF.ch (Owns.dropCh _ _ 11)
      replace dQ := dQ.ch (Owns.dropCh _ _ 11)
      replace dH := dH.ch (Owns.dropCh _ _ 11)
      replace dM := dM.ch (Owns.dropCh _ _ 11)
      replace dN := dN.ch (Owns.dropCh _ _ 11)
      replace dO := dO.ch (Owns.dropCh _ _ 11)
      replace dP := dP.ch (Owns.dropCh _ _ 11)
      replace dR := dR.ch (Owns.dropCh _ _ 11)
      replace bk := bk.ch (Owns.dropCh _ _ 11)
      replace bD := bD.ch (Owns.dropCh _ _ 11)
      replace hB := hB.trans (Owns.dropFr _ _ 11)
      dsimp only [eS, eZ] at hB hO aN aD ak aM aE aF dQ dH dM dN dO dP dR bk bD
      refine Go1.ret2 Try.func53 rfl ?_
      exact Or.inr ⟨(⟨(⟨k2_36, b2_37, d_39, d_45, d_51, d_57, d_63, d_69, k2_38⟩ : Enum), m2_93, d_75, d_81, d_87⟩ : run), false, dT, n44, p42, c43, jw, n50, p48, c49, jx, n56, p54, c55, jy, n62, p60, c61, jz, n68, p66, c67, jA, n74, p72, c73, jB, af, n80, p78, c79, jC, n86, p84, c85, eQ, n92, p90, c91, eU, rfl, hB.same, hO, dQ, dH, dM, dN, dO, dP, dR, bk, bD, H⟩
     replace H := ifp rfl H
     refine GoQ.pure rfl (op_move rfl) rfl rfl ?_
     refine GoQ.pure rfl (op_nilCheck rfl) rfl rfl ?_
     refine GoQ.pure rfl (op_fieldAddr Try.underlying72 rfl ti29 rfl (by decide)) rfl rfl ?_
     refine GoQ.pure rfl (op_fieldAddr Try.underlying29 rfl ti22 rfl (by decide)) rfl rfl ?_
     refine GoQ.stable rfl (oblk (i := 6) 1 hO rfl rfl Try.underlying22 rfl rfl) rfl rfl ?_
     refine GoQ.pure rfl (op_fieldAddr Try.underlying29 rfl ti22 rfl (by decide)) rfl rfl ?_
     refine GoQ.stable rfl (oblk (i := 6) 0 hO rfl rfl Try.underlying22 rfl rfl) rfl rfl ?_
     have Z15 := ((Z5.trans lG.ch).trans eH.ch).trans gI.ch
     replace dO := dO.ch Z15
     have hobt := rowlend 6 hO rfl dO
     obtain ⟨HK, HL⟩ := hobt
     have hOc157 := hO.drop 6
     replace aE := aE.ch Z15
     refine GoQ.call rfl (op_call body69 (show ([.slice p66 n68 c67, .slice bc e.Right.length bf, .func (.func 70) #[] #[]] : List Value) = [.slice p66 d_63.length c67, .slice bc e.Right.length bf, .func (.func 70) #[] #[]] from by rw [← HL]) (walk_slices_EqualFunc_int hOc157.lt HK (aE.ch (Owns.dropCh _ _ 6)) H)) (fun v w hr => by obtain ⟨_, _, hs, _⟩ := hr; assumption) rfl rfl ?_
     rintro O9 Pa ⟨r158, rfl, HM, H⟩
     have lH := Stp.same hO HM
     replace hO := lH.own
     refine GoQ.pure rfl (op_pickT rfl rfl rfl) rfl rfl ?_
     refine GoQ.pure rfl (op_move rfl) rfl rfl ?_
     cases r158
     ·replace H := ifn Bool.false_ne_true H
      refine GoQ.pass rfl rfl rfl ?_
      refine GoQ.pass rfl rfl rfl ?_
      refine GoQ.pass rfl rfl rfl ?_
      refine GoQ.pass rfl rfl rfl ?_
      refine GoQ.pass rfl rfl rfl ?_
      refine GoQ.pass rfl rfl rfl ?_
      refine GoQ.pass rfl rfl rfl ?_
      refine GoQ.pass rfl rfl rfl ?_
      refine GoQ.pure rfl (op_pickF rfl rfl rfl) rfl rfl ?_
      refine GoQ.pure rfl (op_assign rfl) rfl rfl ?_
      refine GoQ.nil ?_
      refine Go1.ret1V Try.func68 rfl (show _ = .bool false from rfl) ?_
      refine hR116 _ _ ?_
      refine za rfl (za rfl (zn ?_))
      replace hO := hO.drop 0
      have Z16 := lH.ch.trans (Owns.dropCh _ _ 0)
      replace dO := dO.ch Z16
      replace aE := aE.ch Z16
      have Z17 := (gI.ch.trans lH.ch).trans (Owns.dropCh _ _ 0)
      replace dN := dN.ch Z17
      replace aM := aM.ch Z17
      have Z18 := ((eH.ch.trans gI.ch).trans lH.ch).trans (Owns.dropCh _ _ 0)
      replace dM := dM.ch Z18
      replace ak := ak.ch Z18
      have Z19 := (((lG.ch.trans eH.ch).trans gI.ch).trans lH.ch).trans (Owns.dropCh _ _ 0)
      replace dH := dH.ch Z19
      replace aD := aD.ch Z19
      have Z20 := (Z15.trans lH.ch).trans (Owns.dropCh _ _ 0)
      replace dQ := dQ.ch Z20
      replace dP := dP.ch Z20
      replace dR := dR.ch Z20
      replace bk := bk.ch Z20
      replace bD := bD.ch Z20
      replace aN := aN.ch Z20
      replace aF := aF.ch Z20
      replace hB := (((((((hB.trans nI.fr).trans lE.fr).trans lF.fr).trans lG.fr).trans eH.fr).trans gI.fr).trans lH.fr).trans (Owns.dropFr _ _ 0)
      dsimp only [eS, eZ] at hB hO aN aD ak aM aE aF dQ dH dM dN dO dP dR bk bD
      replace hO := hO.drop 11
      replace aN := aN.ch (Owns.dropCh _ _ 11)
      replace aD := aD.ch (Owns.dropCh _ _ 11)
      replace ak := ak.ch (Owns.dropCh _ _ 11)
      replace aM := aM.ch (Owns.dropCh _ _ 11)
      replace aE := aE.ch (Owns.dropCh _ _ 11)
      replace aF := aF.ch (Owns.dropCh _ _ 11)
      replace dQ := dQ.ch (Owns.dropCh _ _ 11)
      replace dH := dH.ch (Owns.dropCh _ _ 11)
      replace dM := dM.ch (Owns.dropCh _ _ 11)
      replace dN := dN.ch (Owns.dropCh _ _ 11)
      replace dO := dO.ch (Owns.dropCh _ _ 11)
      replace dP := dP.ch (Owns.dropCh _ _ 11)
      replace dR := dR.ch (Owns.dropCh _ _ 11)
      replace bk := bk.ch (Owns.dropCh _ _ 11)
      replace bD := bD.ch (Owns.dropCh _ _ 11)
      replace hB := hB.trans (Owns.dropFr _ _ 11)
      dsimp only [eS, eZ] at hB hO aN aD ak aM aE aF dQ dH dM dN dO dP dR bk bD
      refine Go1.ret2 Try.func53 rfl ?_
      exact Or.inr ⟨(⟨(⟨k2_36, b2_37, d_39, d_45, d_51, d_57, d_63, d_69, k2_38⟩ : Enum), m2_93, d_75, d_81, d_87⟩ : run), false, dT, n44, p42, c43, jw, n50, p48, c49, jx, n56, p54, c55, jy, n62, p60, c61, jz, n68, p66, c67, jA, n74, p72, c73, jB, af, n80, p78, c79, jC, n86, p84, c85, eQ, n92, p90, c91, eU, rfl, hB.same, hO, dQ, dH, dM, dN, dO, dP, dR, bk, bD, H⟩
     replace H := ifp rfl H
     refine GoQ.pure rfl (op_move rfl) rfl rfl ?_
     refine GoQ.pure rfl (op_nilCheck rfl) rfl rfl ?_
     refine GoQ.pure rfl (op_fieldAddr Try.underlying72 rfl ti29 rfl (by decide)) rfl rfl ?_
     refine GoQ.pure rfl (op_fieldAddr Try.underlying29 rfl ti27 rfl (by decide)) rfl rfl ?_
     refine GoQ.stable rfl (oblk (i := 7) 1 hO rfl rfl Try.underlying27 rfl rfl) rfl rfl ?_
     refine GoQ.pure rfl (op_fieldAddr Try.underlying29 rfl ti27 rfl (by decide)) rfl rfl ?_
     refine GoQ.stable rfl (oblk (i := 7) 0 hO rfl rfl Try.underlying27 rfl rfl) rfl rfl ?_
     replace dP := (dP.ch Z15).ch lH.ch
     have hobt := rowlend 7 hO rfl dP
     obtain ⟨HN, HO⟩ := hobt
     have hOc166 := hO.drop 7
     replace aF := (aF.ch Z15).ch lH.ch
     refine GoQ.call rfl (op_call body71 (show ([.slice p72 n74 c73, .slice bg e.Rules.length bh] : List Value) = [.slice p72 d_69.length c73, .slice bg e.Rules.length bh] from by rw [← HO]) (walk_slices_Equal_api_Rule hOc166.lt HN (aF.ch (Owns.dropCh _ _ 7)) H)) (fun v w hr => by obtain ⟨_, _, hs, _⟩ := hr; assumption) rfl rfl ?_
     rintro Js Jt ⟨r167, rfl, yG, H⟩
     have d5 := Stp.same hO yG
     replace hO := d5.own
     refine GoQ.pure rfl (op_pickT rfl rfl rfl) rfl rfl ?_
     refine GoQ.pure rfl (op_assign rfl) rfl rfl ?_
     refine GoQ.nil ?_
     refine Go1.ret1V Try.func68 rfl (show _ = .bool r167 from rfl) ?_
     refine hR116 _ _ ?_
     refine za rfl (za rfl (zn ?_))
     replace hO := hO.drop 0
     have Z21 := d5.ch.trans (Owns.dropCh _ _ 0)
     replace dP := dP.ch Z21
     replace aF := aF.ch Z21
     have Z22 := (lH.ch.trans d5.ch).trans (Owns.dropCh _ _ 0)
     replace dO := dO.ch Z22
     replace aE := aE.ch Z22
     have Z23 := ((gI.ch.trans lH.ch).trans d5.ch).trans (Owns.dropCh _ _ 0)
     replace dN := dN.ch Z23
     replace aM := aM.ch Z23
     have Z24 := (((eH.ch.trans gI.ch).trans lH.ch).trans d5.ch).trans (Owns.dropCh _ _ 0)
     replace dM := dM.ch Z24
     replace ak := ak.ch Z24
     have Z25 := ((((lG.ch.trans eH.ch).trans gI.ch).trans lH.ch).trans d5.ch).trans (Owns.dropCh _ _ 0)
     replace dH := dH.ch Z25
     replace aD := aD.ch Z25
     have Z26 := ((Z15.trans lH.ch).trans d5.ch).trans (Owns.dropCh _ _ 0)
     replace dQ := dQ.ch Z26
     replace dR := dR.ch Z26
     replace bk := bk.ch Z26
     replace bD := bD.ch Z26
     replace aN := aN.ch Z26
     replace hB := ((((((((hB.trans nI.fr).trans lE.fr).trans lF.fr).trans lG.fr).trans eH.fr).trans gI.fr).trans lH.fr).trans d5.fr).trans (Owns.dropFr _ _ 0)
     dsimp only [eS, eZ] at hB hO aN aD ak aM aE aF dQ dH dM dN dO dP dR bk bD
     replace hO := hO.drop 11
     replace aN := aN.ch (Owns.dropCh _ _ 11)
     replace aD := aD.ch (Owns.dropCh _ _ 11)
     replace ak := ak.ch (Owns.dropCh _ _ 11)
     replace aM := aM.ch (Owns.dropCh _ _ 11)
     replace aE := aE.ch (Owns.dropCh _ _ 11)
     replace aF := aF.ch (Owns.dropCh _ _ 11)
     replace dQ := dQ.ch (Owns.dropCh _ _ 11)
     replace dH := dH.ch (Owns.dropCh _ _ 11)
     replace dM := dM.ch (Owns.dropCh _ _ 11)
     replace dN := dN.ch (Owns.dropCh _ _ 11)
     replace dO := dO.ch (Owns.dropCh _ _ 11)
     replace dP := dP.ch (Owns.dropCh _ _ 11)
     replace dR := dR.ch (Owns.dropCh _ _ 11)
     replace bk := bk.ch (Owns.dropCh _ _ 11)
     replace bD := bD.ch (Owns.dropCh _ _ 11)
     replace hB := hB.trans (Owns.dropFr _ _ 11)
     dsimp only [eS, eZ] at hB hO aN aD ak aM aE aF dQ dH dM dN dO dP dR bk bD
     refine Go1.ret2 Try.func53 rfl ?_
     exact Or.inr ⟨(⟨(⟨k2_36, b2_37, d_39, d_45, d_51, d_57, d_63, d_69, k2_38⟩ : Enum), m2_93, d_75, d_81, d_87⟩ : run), r167, dT, n44, p42, c43, jw, n50, p48, c49, jx, n56, p54, c55, jy, n62, p60, c61, jz, n68, p66, c67, jA, n74, p72, c73, jB, af, n80, p78, c79, jC, n86, p84, c85, eQ, n92, p90, c91, eU, rfl, hB.same, hO, dQ, dH, dM, dN, dO, dP, dR, bk, bD, H⟩
    replace H := ifn zP H
    refine GoQ.pure rfl (fun w => opB (op_eql rfl rfl w) (decide_eq_false zP)) rfl rfl ?_
    refine GoQ.pure rfl (op_pickT rfl rfl rfl) rfl rfl ?_
    refine GoQ.pure rfl (op_move rfl) rfl rfl ?_
    refine GoQ.pass rfl rfl rfl ?_
    refine GoQ.pass rfl rfl rfl ?_
    refine GoQ.pass rfl rfl rfl ?_
    refine GoQ.pass rfl rfl rfl ?_
    refine GoQ.pass rfl rfl rfl ?_
    refine GoQ.pass rfl rfl rfl ?_
    refine GoQ.pass rfl rfl rfl ?_
    refine GoQ.pass rfl rfl rfl ?_
    refine GoQ.pure rfl (op_pickF rfl rfl rfl) rfl rfl ?_
    refine GoQ.pure rfl (op_move rfl) rfl rfl ?_
    refine GoQ.pass rfl rfl rfl ?_
    refine GoQ.pass rfl rfl rfl ?_
    refine GoQ.pass rfl rfl rfl ?_
    refine GoQ.pass rfl rfl rfl ?_
    refine GoQ.pass rfl rfl rfl ?_
    refine GoQ.pass rfl rfl rfl ?_
    refine GoQ.pass rfl rfl rfl ?_
    refine GoQ.pass rfl rfl rfl ?_
    refine GoQ.pure rfl (op_pickF rfl rfl rfl) rfl rfl ?_
    refine GoQ.pure rfl (op_move rfl) rfl rfl ?_
    refine GoQ.pass rfl rfl rfl ?_
    refine GoQ.pass rfl rfl rfl ?_
    refine GoQ.pass rfl rfl rfl ?_
    refine GoQ.pass rfl rfl rfl ?_
    refine GoQ.pass rfl rfl rfl ?_
    refine GoQ.pass rfl rfl rfl ?_
    refine GoQ.pass rfl rfl rfl ?_
    refine GoQ.pass rfl rfl rfl ?_
    refine GoQ.pure rfl (op_pickF rfl rfl rfl) rfl rfl ?_
    refine GoQ.pure rfl (op_move rfl) rfl rfl ?_
    refine GoQ.pass rfl rfl rfl ?_
    refine GoQ.pass rfl rfl rfl ?_
    refine GoQ.pass rfl rfl rfl ?_
    refine GoQ.pass rfl rfl rfl ?_
    refine GoQ.pass rfl rfl rfl ?_
    refine GoQ.pass rfl rfl rfl ?_
    refine GoQ.pass rfl rfl rfl ?_
    refine GoQ.pass rfl rfl rfl ?_
    refine GoQ.pure rfl (op_pickF rfl rfl rfl) rfl rfl ?_
    refine GoQ.pure rfl (op_move rfl) rfl rfl ?_
    refine GoQ.pass rfl rfl rfl ?_
    refine GoQ.pass rfl rfl rfl ?_
    refine GoQ.pass rfl rfl rfl ?_
    refine GoQ.pass rfl rfl rfl ?_
    refine GoQ.pass rfl rfl rfl ?_
    refine GoQ.pass rfl rfl rfl ?_
    refine GoQ.pass rfl rfl rfl ?_
    refine GoQ.pass rfl rfl rfl ?_
    refine GoQ.pure rfl (op_pickF rfl rfl rfl) rfl rfl ?_
    refine GoQ.pure rfl (op_assign rfl) rfl rfl ?_
    refine GoQ.nil ?_
    refine Go1.ret1V Try.func68 rfl (show _ = .bool false from rfl) ?_
    refine hR116 _ _ ?_
    refine za rfl (za rfl (zn ?_))
    replace hO := hO.drop 0
    have Z27 := ((nI.ch.trans lE.ch).trans lF.ch).trans (Owns.dropCh _ _ 0)
    replace dQ := dQ.ch Z27
    replace dH := dH.ch Z27
    replace dM := dM.ch Z27
    replace dN := dN.ch Z27
    replace dO := dO.ch Z27
    replace dP := dP.ch Z27
    replace dR := dR.ch Z27
    replace bk := bk.ch Z27
    replace bD := bD.ch Z27
    replace aN := aN.ch Z27
    replace aD := aD.ch Z27
    replace ak := ak.ch Z27
    replace aM := aM.ch Z27
    replace aE := aE.ch Z27
    replace aF := aF.ch Z27
    replace hB := (((hB.trans nI.fr).trans lE.fr).trans lF.fr).trans (Owns.dropFr _ _ 0)
    dsimp only [eS, eZ] at hB hO aN aD ak aM aE aF dQ dH dM dN dO dP dR bk bD
    replace hO := hO.drop 11
    replace aN := aN.ch (Owns.dropCh _ _ 11)
    replace aD := aD.ch (Owns.dropCh _ _ 11)
    replace ak := ak.ch (Owns.dropCh _ _ 11)
    replace aM := aM.ch (Owns.dropCh _ _ 11)
    replace aE := aE.ch (Owns.dropCh _ _ 11)
    replace aF := aF.ch (Owns.dropCh _ _ 11)
    replace dQ := dQ.ch (Owns.dropCh _ _ 11)
    replace dH := dH.ch (Owns.dropCh _ _ 11)
    replace dM := dM.ch (Owns.dropCh _ _ 11)
    replace dN := dN.ch (Owns.dropCh _ _ 11)
    replace dO := dO.ch (Owns.dropCh _ _ 11)
    replace dP := dP.ch (Owns.dropCh _ _ 11)
    replace dR := dR.ch (Owns.dropCh _ _ 11)
    replace bk := bk.ch (Owns.dropCh _ _ 11)
    replace bD := bD.ch (Owns.dropCh _ _ 11)
    replace hB := hB.trans (Owns.dropFr _ _ 11)
    dsimp only [eS, eZ] at hB hO aN aD ak aM aE aF dQ dH dM dN dO dP dR bk bD
    refine Go1.ret2 Try.func53 rfl ?_
    exact Or.inr ⟨(⟨(⟨k2_36, b2_37, d_39, d_45, d_51, d_57, d_63, d_69, k2_38⟩ : Enum), m2_93, d_75, d_81, d_87⟩ : run), false, dT, n44, p42, c43, jw, n50, p48, c49, jx, n56, p54, c55, jy, n62, p60, c61, jz, n68, p66, c67, jA, n74, p72, c73, jB, af, n80, p78, c79, jC, n86, p84, c85, eQ, n92, p90, c91, eU, rfl, hB.same, hO, dQ, dH, dM, dN, dO, dP, dR, bk, bD, H⟩
   replace H := ifn zO H
   refine GoQ.pure rfl (fun w => opB (op_eql rfl rfl w) (decide_eq_false zO)) rfl rfl ?_
   refine GoQ.pure rfl (op_move rfl) rfl rfl ?_
   refine GoQ.pass rfl rfl rfl ?_
   refine GoQ.pass rfl rfl rfl ?_
   refine GoQ.pass rfl rfl rfl ?_
   refine GoQ.pass rfl rfl rfl ?_
   refine GoQ.pass rfl rfl rfl ?_
   refine GoQ.pass rfl rfl rfl ?_
   refine GoQ.pass rfl rfl rfl ?_
   refine GoQ.pass rfl rfl rfl ?_
   refine GoQ.pure rfl (op_pickF rfl rfl rfl) rfl rfl ?_
   refine GoQ.pure rfl (op_move rfl) rfl rfl ?_
   refine GoQ.pass rfl rfl rfl ?_
   refine GoQ.pass rfl rfl rfl ?_
   refine GoQ.pass rfl rfl rfl ?_
   refine GoQ.pass rfl rfl rfl ?_
   refine GoQ.pass rfl rfl rfl ?_
   refine GoQ.pass rfl rfl rfl ?_
   refine GoQ.pass rfl rfl rfl ?_
   refine GoQ.pass rfl rfl rfl ?_
   refine GoQ.pure rfl (op_pickF rfl rfl rfl) rfl rfl ?_
   refine GoQ.pure rfl (op_move rfl) rfl rfl ?_
   refine GoQ.pass rfl rfl rfl ?_
   refine GoQ.pass rfl rfl rfl ?_
   refine GoQ.pass rfl rfl rfl ?_
   refine GoQ.pass rfl rfl rfl ?_
   refine GoQ.pass rfl rfl rfl ?_
   refine GoQ.pass rfl rfl rfl ?_
   refine GoQ.pass rfl rfl rfl ?_
   refine GoQ.pass rfl rfl rfl ?_
   refine GoQ.pure rfl (op_pickF rfl rfl rfl) rfl rfl ?_
   refine GoQ.pure rfl (op_move rfl) rfl rfl ?_
   refine GoQ.pass rfl rfl rfl ?_
   refine GoQ.pass rfl rfl rfl ?_
   refine GoQ.pass rfl rfl rfl ?_
   refine GoQ.pass rfl rfl rfl ?_
   refine GoQ.pass rfl rfl rfl ?_
   refine GoQ.pass rfl rfl rfl ?_
   refine GoQ.pass rfl rfl rfl ?_
   refine GoQ.pass rfl rfl rfl ?_
   refine GoQ.pure rfl (op_pickF rfl rfl rfl) rfl rfl ?_
   refine GoQ.pure rfl (op_move rfl) rfl rfl ?_
   refine GoQ.pass rfl rfl rfl ?_
   refine GoQ.pass rfl rfl rfl ?_
   refine GoQ.pass rfl rfl rfl ?_
   refine GoQ.pass rfl rfl rfl ?_
   refine GoQ.pass rfl rfl rfl ?_
   refine GoQ.pass rfl rfl rfl ?_
   refine GoQ.pass rfl rfl rfl ?_
   refine GoQ.pass rfl rfl rfl ?_
   refine GoQ.pure rfl (op_pickF rfl rfl rfl) rfl rfl ?_
   refine GoQ.pure rfl (op_move rfl) rfl rfl ?_
   refine GoQ.pass rfl rfl rfl ?_
   refine GoQ.pass rfl rfl rfl ?_
   refine GoQ.pass rfl rfl rfl ?_
   refine GoQ.pass rfl rfl rfl ?_
   refine GoQ.pass rfl rfl rfl ?_
   refine GoQ.pass rfl rfl rfl ?_
   refine GoQ.pass rfl rfl rfl ?_
   refine GoQ.pass rfl rfl rfl ?_
   refine GoQ.pure rfl (op_pickF rfl rfl rfl) rfl rfl ?_
   refine GoQ.pure rfl (op_assign rfl) rfl rfl ?_
   refine GoQ.nil ?_
   refine Go1.ret1V Try.func68 rfl (show _ = .bool false from rfl) ?_
   refine hR116 _ _ ?_
   refine za rfl (za rfl (zn ?_))
   replace hO := hO.drop 0
   have Z28 := ((nI.ch.trans lE.ch).trans lF.ch).trans (Owns.dropCh _ _ 0)
   replace dQ := dQ.ch Z28
   replace dH := dH.ch Z28
   replace dM := dM.ch Z28
   replace dN := dN.ch Z28
   replace dO := dO.ch Z28
   replace dP := dP.ch Z28
   replace dR := dR.ch Z28
   replace bk := bk.ch Z28
   replace bD := bD.ch Z28
   replace aN := aN.ch Z28
   replace aD := aD.ch Z28
   replace ak := ak.ch Z28
   replace aM := aM.ch Z28
   replace aE := aE.ch Z28
   replace aF := aF.ch Z28
   replace hB := (((hB.trans nI.fr).trans lE.fr).trans lF.fr).trans (Owns.dropFr _ _ 0)
   dsimp only [eS, eZ] at hB hO aN aD ak aM aE aF dQ dH dM dN dO dP dR bk bD
   replace hO := hO.drop 11
   replace aN := aN.ch (Owns.dropCh _ _ 11)
   replace aD := aD.ch (Owns.dropCh _ _ 11)
   replace ak := ak.ch (Owns.dropCh _ _ 11)
   replace aM := aM.ch (Owns.dropCh _ _ 11)
   replace aE := aE.ch (Owns.dropCh _ _ 11)
   replace aF := aF.ch (Owns.dropCh _ _ 11)
   replace dQ := dQ.ch (Owns.dropCh _ _ 11)
   replace dH := dH.ch (Owns.dropCh _ _ 11)
   replace dM := dM.ch (Owns.dropCh _ _ 11)
   replace dN := dN.ch (Owns.dropCh _ _ 11)
   replace dO := dO.ch (Owns.dropCh _ _ 11)
   replace dP := dP.ch (Owns.dropCh _ _ 11)
   replace dR := dR.ch (Owns.dropCh _ _ 11)
   replace bk := bk.ch (Owns.dropCh _ _ 11)
   replace bD := bD.ch (Owns.dropCh _ _ 11)
   replace hB := hB.trans (Owns.dropFr _ _ 11)
   dsimp only [eS, eZ] at hB hO aN aD ak aM aE aF dQ dH dM dN dO dP dR bk bD
   refine Go1.ret2 Try.func53 rfl ?_
   exact Or.inr ⟨(⟨(⟨k2_36, b2_37, d_39, d_45, d_51, d_57, d_63, d_69, k2_38⟩ : Enum), m2_93, d_75, d_81, d_87⟩ : run), false, dT, n44, p42, c43, jw, n50, p48, c49, jx, n56, p54, c55, jy, n62, p60, c61, jz, n68, p66, c67, jA, n74, p72, c73, jB, af, n80, p78, c79, jC, n86, p84, c85, eQ, n92, p90, c91, eU, rfl, hB.same, hO, dQ, dH, dM, dN, dO, dP, dR, bk, bD, H⟩
  replace H := ifn h34 H
  refine zo (fun w => opB (op_neq rfl rfl w) (ndF h34)) (zn (zt rfl rfl (zq ?_)))
  refine Go1.cut [] trivial ?_
  intro σ _
  refine zr (za rfl (za rfl (zn ?_)))
  refine Go1.ret2 Try.func53 rfl ?_
  replace hB := (hB.trans et.fr).trans eK.fr
  exact Or.inl ⟨false, rfl, hB.same, H⟩
theorem body29 : Body Try.prog 29 := ⟨Try.f29, Try.func29, rfl, by kernel_rfl⟩
theorem walk_enumerate_Word {A : List Nat} {w0 : World} {bE : Option Addr} {bF : Nat} {a9 : Option Addr} {ba : Nat} {aS : Option Addr} {aT : Nat} {bx : Option Addr} {bz : Nat} {bc : Option Addr} {bf : Nat} {bg : Option Addr} {bh : Nat} {e : Enum} {i : Int} (hA : ∀ b ∈ A, b < w0.heap.size) (aN : ISl (Rp.sl (Rp.int .i64)) A w0 bE bF e.Gens) (aD : ISl (Rp.sl (Rp.int .i64)) A w0 a9 ba e.Elems) (ak : ISl (Rp.int .i64) A w0 aS aT e.Prefix) (aM : ISl (Rp.int .i64) A w0 bx bz e.Last) (aE : ISl (Rp.sl (Rp.int .i64)) A w0 bc bf e.Right) (aF : ISl (rpRule) A w0 bg bh e.Rules) {K : Str → Prop} (H : enumerate_Word e i K) :
    CallsV Try.prog 29 #[.agg #[.int .i64 e.Points, .bool e.Monoid, .slice bE e.Gens.length bF, .slice a9 e.Elems.length ba, .slice aS e.Prefix.length aT, .slice bx e.Last.length bz, .slice bc e.Right.length bf, .slice bg e.Rules.length bh, .int .i64 e.Done], .int .i64 i] w0 (fun v w' => ∃ (r0 : Str), v = .string (gstr r0) ∧ Same w0 w' ∧ r0.length ≤ mx ∧ K r0) := by
 refine CallsV.of (l := [.agg #[.int .i64 e.Points, .bool e.Monoid, .slice bE e.Gens.length bF, .slice a9 e.Elems.length ba, .slice aS e.Prefix.length aT, .slice bx e.Last.length bz, .slice bc e.Right.length bf, .slice bg e.Rules.length bh, .int .i64 e.Done], .int .i64 i]) Try.func29 rfl Try.ntmps29 rfl ?_
 have hO := Owns.start hA
 have hB := Fr.refl (bl []) w0
 unfold enumerate_Word at H
 refine zq (zr ?_)
 have hobt := obox (t := 29) (v := .agg #[.int .i64 e.Points, .bool e.Monoid, .slice bE e.Gens.length bF, .slice a9 e.Elems.length ba, .slice aS e.Prefix.length aT, .slice bx e.Last.length bz, .slice bc e.Right.length bf, .slice bg e.Rules.length bh, .int .i64 e.Done]) (cs := #[.int .i64 e.Points, .bool e.Monoid, .slice bE e.Gens.length bF, .slice a9 e.Elems.length ba, .slice aS e.Prefix.length aT, .slice bx e.Last.length bz, .slice bc e.Right.length bf, .slice bg e.Rules.length bh, .int .i64 e.Done]) hO rfl
 obtain ⟨w1, B2, et, hs4, sQ⟩ := hobt
 refine zg (sQ rfl) ?_
 replace hO := et.own
 refine za rfl (zn (zq (zr (zs (oblkAgg (vs := [.int .i64 e.Points, .bool e.Monoid, .slice bE e.Gens.length bF, .slice a9 e.Elems.length ba, .slice aS e.Prefix.length aT, .slice bx e.Last.length bz, .slice bc e.Right.length bf, .slice bg e.Rules.length bh, .int .i64 e.Done]) (i := 0) 0 hO rfl rfl Try.underlying29 rfl ti29 rfl) ?_))))
 have Z1 := (Ch.start A w0).trans et.ch
 replace aN := aN.ch Z1
 replace aD := aD.ch Z1
 replace ak := ak.ch Z1
 replace aM := aM.ch Z1
 replace aE := aE.ch Z1
 replace aF := aF.ch Z1
 refine GoR.call (op_call body53 rfl (walk_enumerate_replay (e := e) hO.lt aN aD ak aM aE aF H)) rfl rfl ?_
 intro v9 w10 hcase13
 refine Or.elim hcase13 ?_ ?_
 ·refine exE fun r8 => andE fun hv14 => andE fun rq => fun H => ?_
  subst hv14
  clear hcase13
  replace H := oElimN H
  have eI := Stp.same hO rq
  replace hO := eI.own
  refine zm rfl (zo (op_extract rfl rfl) (zo (op_extract rfl rfl) (za rfl (za rfl (zn ?_)))))
  refine zq (zq (zr (zm rfl ?_)))
  cases r8
  ·replace H := ifn Bool.false_ne_true H
   refine zo (op_not rfl) (zm rfl (zp (zp (zo (op_pickT rfl rfl rfl) (zm rfl ?_)))))
   refine zp (zp (zp (zp (zp (zp ?_)))))
   refine zp (zp (zo (op_pickT rfl rfl rfl) (zn (zt rfl rfl (zq ?_)))))
   refine Go1.cut [] trivial ?_
   intro σ _
   refine zr (za rfl (zn ?_))
   refine Go1.ret1 Try.func29 rfl ?_
   replace hB := (hB.trans et.fr).trans eI.fr
   exact ⟨([] : Str), rfl, hB.same, (by decide), H⟩
  replace H := ifp rfl H
  refine zo (op_not rfl) (zm rfl (zm rfl ?_))
  by_cases h16 : i < (0 : Int)
  ·replace H := ifp h16 H
   refine zo (fun w => opB (op_lss rfl rfl w) (decide_eq_true h16)) (zo (op_pickF rfl rfl rfl) (zm rfl (zp (zp (zp ?_)))))
   refine zp (zp (zp (zp (zp (zo (op_pickT rfl rfl rfl) ?_)))))
   refine zn (zt rfl rfl (zq (zr (za rfl (zn ?_)))))
   refine Go1.ret1 Try.func29 rfl ?_
   replace hB := (hB.trans et.fr).trans eI.fr
   exact ⟨([] : Str), rfl, hB.same, (by decide), H⟩
  replace H := ifn h16 H
  refine zo (fun w => opB (op_lss rfl rfl w) (decide_eq_false h16)) (zo (op_pickF rfl rfl rfl) (zm rfl (zm rfl (zm rfl ?_))))
  exact H.elim
 ·refine exE fun r7 => exE fun r8 => exE fun dT => exE fun iN => exE fun gs => exE fun gt => exE fun nG => exE fun ib => exE fun fG => exE fun fH => exE fun m5 => exE fun gJ => exE fun fh => exE fun fk => exE fun ml => exE fun iO => exE fun gu => exE fun gv => exE fun nH => exE fun ic => exE fun fI => exE fun fJ => exE fun m6 => exE fun ie => exE fun fK => exE fun fL => exE fun m7 => exE fun af => exE fun sA => exE fun sB => exE fun sC => exE fun rE => exE fun rF => exE fun rG => exE fun rH => exE fun qT => exE fun rI => exE fun rJ => exE fun rK => exE fun qU => andE fun hv17 => andE fun rq => andE fun hN12 => andE fun cS => andE fun cg => andE fun bT => andE fun bY => andE fun bG => andE fun bw => andE fun ci => andE fun cj => andE fun ck => fun H => ?_
  subst hv17
  clear hcase13
  replace H := oElimS H
  have nl := Stp.more hO rq hN12
  dsimp only [List.cons_append, List.nil_append] at nl
  replace hO := nl.own
  replace cS := cS.ch (Ch.assoc _ _ _ _)
  dsimp only [List.cons_append, List.nil_append] at cS
  replace cg := cg.ch (Ch.assoc _ _ _ _)
  dsimp only [List.cons_append, List.nil_append] at cg
  replace bT := bT.ch (Ch.assoc _ _ _ _)
  dsimp only [List.cons_append, List.nil_append] at bT
  replace bY := bY.ch (Ch.assoc _ _ _ _)
  dsimp only [List.cons_append, List.nil_append] at bY
  replace bG := bG.ch (Ch.assoc _ _ _ _)
  dsimp only [List.cons_append, List.nil_append] at bG
  replace bw := bw.ch (Ch.assoc _ _ _ _)
  dsimp only [List.cons_append, List.nil_append] at bw
  replace ci := ci.ch (Ch.assoc _ _ _ _)
  dsimp only [List.cons_append, List.nil_append] at ci
  replace cj := cj.ch (Ch.assoc _ _ _ _)
  dsimp only [List.cons_append, List.nil_append] at cj
  replace ck := ck.ch (Ch.assoc _ _ _ _)
  dsimp only [List.cons_append, List.nil_append] at ck
  refine zm rfl (zo (op_extract rfl rfl) (zo (op_extract rfl rfl) (za rfl (za rfl (zn ?_)))))
  refine zq (zq ?_)
  refine Go1.cut [(1, .int .i64 i), (5, .pointer (some ⟨dT, 0, none⟩)), (6, .bool r8)] ⟨rfl, rfl, rfl, trivial⟩ ?_
  intro σ _
  refine zr (zm rfl ?_)
  cases r8
  ·replace H := ifn Bool.false_ne_true H
   refine zo (op_not rfl) (zm rfl (zp (zp (zo (op_pickT rfl rfl rfl) (zm rfl ?_)))))
   refine zp (zp (zp (zp (zp (zp ?_)))))
   refine zp (zp (zo (op_pickT rfl rfl rfl) (zn (zt rfl rfl (zq ?_)))))
   refine zr (za rfl (zn ?_))
   refine Go1.ret1 Try.func29 rfl ?_
   replace hB := (hB.trans et.fr).trans nl.fr
   exact ⟨([] : Str), rfl, hB.same, (by decide), H⟩
  replace H := ifp rfl H
  refine zo (op_not rfl) (zm rfl (zm rfl ?_))
  by_cases h30 : i < (0 : Int)
  ·replace H := ifp h30 H
   refine zo (fun w => opB (op_lss rfl rfl w) (decide_eq_true h30)) (zo (op_pickF rfl rfl rfl) (zm rfl (zp (zp (zp ?_)))))
   refine zp (zp (zp (zp (zp (zo (op_pickT rfl rfl rfl) ?_)))))
   refine zn (zt rfl rfl (zq ?_))
   refine Go1.cut [] trivial ?_
   intro σ _
   refine zr (za rfl (zn ?_))
   refine Go1.ret1 Try.func29 rfl ?_
   replace hB := (hB.trans et.fr).trans nl.fr
   exact ⟨([] : Str), rfl, hB.same, (by decide), H⟩
  replace H := ifn h30 H
  refine zo (fun w => opB (op_lss rfl rfl w) (decide_eq_false h30)) (zo (op_pickF rfl rfl rfl) (zm rfl (zm rfl (zm rfl (zo (op_nilCheck rfl) ?_)))))
  refine zo (op_fieldAddr Try.underlying72 rfl ti29 rfl (by decide)) (zo (op_fieldAddr Try.underlying29 rfl ti22 rfl (by decide)) (zs (oblk (i := 3) 0 hO rfl rfl Try.underlying22 rfl rfl) (zo (op_lenN Try.underlying22 rfl (cg.neq hO 2 rfl)) ?_)))
  by_cases h31 : (r7.Enum.Elems.length : Int) ≤ i
  ·replace H := ifp h31 H
   refine zo (fun w => opB (op_geq rfl rfl w) (decide_eq_true h31)) (zo (op_pickF rfl rfl rfl) (zn (zt rfl rfl (zq (zr ?_)))))
   refine za rfl (zn ?_)
   refine Go1.ret1 Try.func29 rfl ?_
   replace hB := (hB.trans et.fr).trans nl.fr
   exact ⟨([] : Str), rfl, hB.same, (by decide), H⟩
  replace H := ifn h31 H
  refine zo (fun w => opB (op_geq rfl rfl w) (decide_eq_false h31)) (zo (op_pickF rfl rfl rfl) (zn (zf rfl rfl (zk (zq ?_)))))
  refine zr (zm rfl (zo (op_nilCheck rfl) (zo (op_fieldAddr Try.underlying72 rfl ti70 rfl (by decide)) (zs (oblk (i := 10) 0 hO rfl rfl Try.underlying70 rfl rfl) (zm rfl ?_)))))
  obtain ⟨h32, H⟩ := H
  obtain ⟨h33, H⟩ := H
  refine zo (op_index Try.underlying70 ti9 rfl rfl h32 (ltn (ci.neq hO 7 rfl) h33) (ci.psome hO 7 rfl h32 h33)) (zs (oldStr 7 hO rfl ci h32 h33 Try.underlying9 rfl rfl) ?_)
  have hle34 := Els.str_le ci h32 h33
  refine za rfl (zn ?_)
  refine Go1.ret1 Try.func29 rfl ?_
  replace hB := (hB.trans et.fr).trans nl.fr
  exact ⟨ix r7.words i, rfl, hB.same, hle34, H⟩
theorem body16 : Body Try.prog 16 := ⟨Try.f16, Try.func16, rfl, by kernel_rfl⟩
theorem walk_law12_awake {A : List Nat} {w0 : World} (hA : ∀ b ∈ A, b < w0.heap.size) {K : Bool → Prop} (H : law12_awake  K) :
    CallsV Try.prog 16 #[] w0 (fun v w' => ∃ (r0 : Bool), v = .bool r0 ∧ Same w0 w' ∧ K r0) := by
 refine CallsV.of (l := []) Try.func16 rfl Try.ntmps16 rfl ?_
 have hO := Owns.start hA
 have hB := Fr.refl (bl []) w0
 unfold law12_awake at H
 refine zq (zr (za rfl (zn (zq (zr ?_)))))
 have hobt := obuild (r := Rp.int .i64) (n := 2) (parts := [(0, .int .i64 (1 : Int)), (1, .int .i64 (0 : Int))]) (vs := [.int .i64 (1 : Int), .int .i64 (0 : Int)]) (xs := [(1 : Int), (0 : Int)]) rfl Try.underlying26 ti3 hO (by decide) (by kernel_rfl) (Els.cons rfl rfl (Els.cons rfl rfl (Els.nil _ _ _) (by simp [mx])) (by simp [mx])) rfl
 obtain ⟨w1, p2, et, hE4, hs5, KG⟩ := hobt
 refine zg (KG rfl) ?_
 replace hO := et.own
 have hobt := obuild (r := Rp.int .i64) (n := 2) (parts := [(0, .int .i64 (0 : Int)), (1, .int .i64 (0 : Int))]) (vs := [.int .i64 (0 : Int), .int .i64 (0 : Int)]) (xs := [(0 : Int), (0 : Int)]) rfl Try.underlying26 ti3 hO (by decide) (by kernel_rfl) (Els.cons rfl rfl (Els.cons rfl rfl (Els.nil _ _ _) (by simp [mx])) (by simp [mx])) rfl
 obtain ⟨w8, p9, rh, Bj, Ad, yC⟩ := hobt
 refine zg (yC rfl) ?_
 replace hO := rh.own
 replace hE4 := hE4.ch rh.ch
 have hobt := freeze 1 hO rfl hE4
 obtain ⟨hO1, KH, iW, KI⟩ := hobt
 replace hO := hO1; clear hO1
 replace Bj := Bj.ch KH
 have hobt := freeze 0 hO rfl Bj
 obtain ⟨hO1, KJ, q9, KK⟩ := hobt
 replace hO := hO1; clear hO1
 replace iW := iW.ch KJ
 have hobt := obuild (r := Rp.sl (Rp.int .i64)) (n := 2) (parts := [(0, .slice p2 2 2), (1, .slice p9 2 2)]) (vs := [.slice p2 2 2, .slice p9 2 2]) (xs := [[(1 : Int), (0 : Int)], [(0 : Int), (0 : Int)]]) rfl Try.underlying22 ti26 hO (by decide) (by kernel_rfl) (Els.cons rfl ⟨p2, 2, congrArg some (congrArg (fun nn => Value.slice p2 nn 2) KI), iW⟩ (Els.cons rfl ⟨p9, 2, congrArg some (congrArg (fun nn => Value.slice p9 nn 2) KK), q9⟩ (Els.nil _ _ _) (by simp [mx])) (by simp [mx])) rfl
 obtain ⟨w21, p22, i9, b6, zS, yD⟩ := hobt
 refine zg (yD rfl) ?_
 replace hO := i9.own
 have hobt := freeze 0 hO rfl b6
 obtain ⟨hO1, Ec, vl, KL⟩ := hobt
 replace hO := hO1; clear hO1
 refine GoR.call (op_call body17 (show ([.slice p22 2 2, .bool true] : List Value) = [.slice p22 ([[(1 : Int), (0 : Int)], [(0 : Int), (0 : Int)]]).length 2, .bool true] from by rw [← KL]) (walk_enumerate_Build hO.lt vl H)) rfl rfl ?_
 rintro v36 w33 ⟨r31, r32, vm, vn, uL, uM, ug, uh, vo, vp, uN, uO, uP, uQ, rfl, KM, pi, mE, m8, pk, nW, mF, H⟩
 have xn := Stp.same hO KM
 replace hO := xn.own
 refine zm rfl (zo (op_extract rfl rfl) (zo (op_extract rfl rfl) ?_))
 have hobt := oalloc (t := 29) (cs := #[.int .i64 (0 : Int), .bool false, .slice none 0 0, .slice none 0 0, .slice none 0 0, .slice none 0 0, .slice none 0 0, .slice none 0 0, .int .i64 (0 : Int)]) ti29 hO rfl
 obtain ⟨w38, B39, iY, Ed, HP⟩ := hobt
 refine GoR.op HP rfl rfl ?_
 replace hO := iY.own
 have hobt := oblkStAgg (us := [.int .i64 r31.Points, .bool r31.Monoid, .slice vm r31.Gens.length vn, .slice uL r31.Elems.length uM, .slice ug r31.Prefix.length uh, .slice vo r31.Last.length vp, .slice uN r31.Right.length uO, .slice uP r31.Rules.length uQ, .int .i64 r31.Done]) (o := 0) (cs' := #[.int .i64 r31.Points, .bool r31.Monoid, .slice vm r31.Gens.length vn, .slice uL r31.Elems.length uM, .slice ug r31.Prefix.length uh, .slice vo r31.Last.length vp, .slice uN r31.Right.length uO, .slice uP r31.Rules.length uQ, .int .i64 r31.Done]) 0 hO rfl rfl (Nat.le_of_ble_eq_true rfl) rfl
 obtain ⟨w44, iP, HQ⟩ := hobt
 refine zg (HQ ti29 (by exact rfl) (by exact rfl) rfl) ?_
 replace hO := iP.own
 refine za rfl (zn (zq (zr (zm rfl ?_))))
 by_cases h47 : r32 = (0 : Int)
 ·replace H := ifp h47 H
  refine zo (fun w => opB (op_eql rfl rfl w) (decide_eq_true h47)) (zm rfl (zo (op_fieldAddr Try.underlying29 rfl ti22 rfl (by decide)) (zs (oblk (i := 3) 0 hO rfl rfl Try.underlying22 rfl rfl) (zo (op_len Try.underlying22 rfl) ?_))))
  replace mE := (mE.ch iY.ch).ch iP.ch
  replace H := H mE.bd
  by_cases h48 : (r31.Elems.length : Int) = (4 : Int)
  ·replace H := ifp h48 H
   refine zo (fun w => opB (op_eql rfl rfl w) (decide_eq_true h48)) (zo (op_pickT rfl rfl rfl) (zm rfl (zo (op_fieldAddr Try.underlying29 rfl ti27 rfl (by decide)) (zs (oblk (i := 7) 0 hO rfl rfl Try.underlying27 rfl rfl) (zo (op_len Try.underlying27 rfl) ?_)))))
   replace mF := (mF.ch iY.ch).ch iP.ch
   replace H := H mF.bd
   by_cases h49 : (r31.Rules.length : Int) = (3 : Int)
   ·replace H := ifp h49 H
    refine zo (fun w => opB (op_eql rfl rfl w) (decide_eq_true h49)) (zo (op_pickT rfl rfl rfl) (zm rfl (zs (oblkAgg (vs := [.int .i64 r31.Points, .bool r31.Monoid, .slice vm r31.Gens.length vn, .slice uL r31.Elems.length uM, .slice ug r31.Prefix.length uh, .slice vo r31.Last.length vp, .slice uN r31.Right.length uO, .slice uP r31.Rules.length uQ, .int .i64 r31.Done]) (i := 0) 0 hO rfl rfl Try.underlying29 rfl ti29 rfl) ?_)))
    have Z1 := iY.ch.trans iP.ch
    replace pi := pi.ch Z1
    replace m8 := m8.ch Z1
    replace pk := pk.ch Z1
    replace nW := nW.ch Z1
    refine GoR.call (op_call body29 rfl (walk_enumerate_Word (e := r31) hO.lt pi mE m8 pk nW mF H)) rfl rfl ?_
    rintro v54 w51 ⟨r50, rfl, Bk, LD, H⟩
    have sD := Stp.same hO Bk
    replace hO := sD.own
    by_cases h56 : r50 = (([98, 97] : Str))
    ·replace H := ifp h56 H
     refine zo (fun w => opB (op_eqlS rfl rfl w) (decide_eq_true h56)) (zo (op_pickT rfl rfl rfl) (za rfl (zn ?_)))
     refine Go1.ret1 Try.func16 rfl ?_
     replace hB := (((((((((hB.trans et.fr).trans rh.fr).trans (Owns.dropFr _ _ 1)).trans (Owns.dropFr _ _ 0)).trans i9.fr).trans (Owns.dropFr _ _ 0)).trans xn.fr).trans iY.fr).trans iP.fr).trans sD.fr
     exact ⟨true, rfl, hB.same, H⟩
    replace H := ifn h56 H
    refine zo (fun w => opB (op_eqlS rfl rfl w) (decide_eq_false h56)) (zo (op_pickT rfl rfl rfl) (za rfl (zn ?_)))
    refine Go1.ret1 Try.func16 rfl ?_
    replace hB := (((((((((hB.trans et.fr).trans rh.fr).trans (Owns.dropFr _ _ 1)).trans (Owns.dropFr _ _ 0)).trans i9.fr).trans (Owns.dropFr _ _ 0)).trans xn.fr).trans iY.fr).trans iP.fr).trans sD.fr
    exact ⟨false, rfl, hB.same, H⟩
   replace H := ifn h49 H
   refine zo (fun w => opB (op_eql rfl rfl w) (decide_eq_false h49)) (zo (op_pickT rfl rfl rfl) (zm rfl (zp (zp (zp ?_)))))
   refine zo (op_pickF rfl rfl rfl) (za rfl (zn ?_))
   refine Go1.ret1 Try.func16 rfl ?_
   replace hB := ((((((((hB.trans et.fr).trans rh.fr).trans (Owns.dropFr _ _ 1)).trans (Owns.dropFr _ _ 0)).trans i9.fr).trans (Owns.dropFr _ _ 0)).trans xn.fr).trans iY.fr).trans iP.fr
   exact ⟨false, rfl, hB.same, H⟩
  replace H := ifn h48 H
  refine zo (fun w => opB (op_eql rfl rfl w) (decide_eq_false h48)) (zo (op_pickT rfl rfl rfl) (zm rfl (zp (zp (zp ?_)))))
  refine zp (zo (op_pickF rfl rfl rfl) (zm rfl (zp (zp (zp ?_)))))
  refine zo (op_pickF rfl rfl rfl) (za rfl (zn ?_))
  refine Go1.ret1 Try.func16 rfl ?_
  replace hB := ((((((((hB.trans et.fr).trans rh.fr).trans (Owns.dropFr _ _ 1)).trans (Owns.dropFr _ _ 0)).trans i9.fr).trans (Owns.dropFr _ _ 0)).trans xn.fr).trans iY.fr).trans iP.fr
  exact ⟨false, rfl, hB.same, H⟩
 replace H := ifn h47 H
 refine zo (fun w => opB (op_eql rfl rfl w) (decide_eq_false h47)) (zm rfl (zp (zp (zp (zp ?_)))))
 refine zo (op_pickF rfl rfl rfl) (zm rfl (zp (zp (zp (zp ?_)))))
 refine zo (op_pickF rfl rfl rfl) (zm rfl (zp (zp (zp (zo (op_pickF rfl rfl rfl) ?_)))))
 refine za rfl (zn ?_)
 refine Go1.ret1 Try.func16 rfl ?_
 replace hB := ((((((((hB.trans et.fr).trans rh.fr).trans (Owns.dropFr _ _ 1)).trans (Owns.dropFr _ _ 0)).trans i9.fr).trans (Owns.dropFr _ _ 0)).trans xn.fr).trans iY.fr).trans iP.fr
 exact ⟨false, rfl, hB.same, H⟩
theorem body24 : Body Try.prog 24 := ⟨Try.f24, Try.func24, rfl, by kernel_rfl⟩
theorem walk_ref03_Copy {A : List Nat} {w0 : World} {p_a : Option Addr} {c_a : Nat} {a : List (List Int)} (hA : ∀ b ∈ A, b < w0.heap.size) (h_a : ISl (Rp.sl (Rp.int .i64)) A w0 p_a c_a a) {K : List (List Int) → Prop} (H : ref03_Copy a K) :
    CallsV Try.prog 24 #[.slice p_a a.length c_a] w0 (fun v w' => ∃ (r0 : List (List Int)), ∃ (xx : Nat), ∃ (si : Option Addr), ∃ (sj : Nat), ∃ (HR : Hd), v = .slice si xx sj ∧ Same w0 w' ∧ Owns w0.heap.size w' [t2 (Fl.int .i64) 26 3 si xx sj HR r0] A ∧ K r0) := by
 refine CallsV.of (l := [.slice p_a a.length c_a]) Try.func24 rfl Try.ntmps24 rfl ?_
 have hO := Owns.start hA
 have hB := Fr.refl (bl []) w0
 unfold ref03_Copy at H
 refine zq (zr (za rfl (zn (zq (zr ?_)))))
 refine za rfl (zn (zq (zq (zr (zm rfl ?_)))))
 refine zo (op_len Try.underlying22 rfl) ?_
 replace h_a := h_a.ch (Ch.start A w0)
 replace H := H h_a.bd
 refine zm rfl (zn (zb ?_))
 have Bl := t2nil (e := 26) (e' := 3) (Fl.int .i64) hO
 replace hO := Bl.own
 replace h_a := h_a.ch Bl.ch
 replace hB := hB.trans Bl.fr
 refine Go1.loopW (S := Nat × List (List Int)) (fun s σ w => match s with | (k1_4, out1_5) => ∃ (n8 : Nat), ∃ (p6 : Option Addr), ∃ (c7 : Nat), ∃ (hs9 : Hd), agrees σ [(3, .slice p6 n8 c7), (6, .slice p_a a.length c_a), (7, .int .i64 (a.length : Int)), (8, .int .i64 (k1_4 : Int))] ∧ (fun Z0 => Owns w0.heap.size w Z0 A ∧ ISl (Rp.sl (Rp.int .i64)) (bl Z0 ++ A) w p_a c_a a ∧ Fr (bl []) w0 (bl Z0) w) [t2 (Fl.int .i64) 26 3 p6 n8 c7 hs9 out1_5]) H ⟨0, none, 0, (fun _ => (none, 0)), ⟨rfl, rfl, rfl, rfl, trivial⟩, hO, h_a, hB⟩ ?_
 intro X1
 refine prE fun k1_4 => fun out1_5 => ?_
 intro H hX1 σ w3
 refine exE fun n8 => exE fun p6 => exE fun c7 => exE fun hs9 => andE fun hag => andE fun hO => andE fun h_a => fun hB => ?_
 dsimp only at H
 refine Go1.keep [(3, .slice p6 n8 c7), (6, .slice p_a a.length c_a), (7, .int .i64 (a.length : Int)), (8, .int .i64 (k1_4 : Int))] hag ?_
 refine zq (zr ?_)
 by_cases h10 : (k1_4 : Int) < (a.length : Int)
 ·replace H := ifp h10 H
  refine zo (fun w => opB (op_lss rfl rfl w) (decide_eq_true h10)) (zn (zq (zt rfl rfl (zk (zq ?_)))))
  refine zb (zq (zr ?_))
  obtain ⟨h11, H⟩ := H
  obtain ⟨h12, H⟩ := H
  refine zo (op_index Try.underlying22 ti26 rfl rfl h11 h12 (h_a.some_ h11 h12)) ?_
  have hobt := ldSl h_a h11 h12
  obtain ⟨p13, c14, iW, Bi⟩ := hobt
  refine zs (Bi Try.underlying26 rfl rfl) (za rfl (zn (zr (zm rfl ?_))))
  have hobt := obuild (r := Rp.int .i64) (n := 0) (parts := []) (vs := []) (xs := ([] : List Int)) rfl Try.underlying26 ti3 hO (by decide) (by kernel_rfl) (Els.nil _ _ _) rfl
  obtain ⟨w17, p18, x2, KN, Pb, HS⟩ := hobt
  refine zg (HS rfl) ?_
  replace hO := x2.own
  refine zm rfl ?_
  obtain ⟨h24, H⟩ := H
  replace iW := iW.ch x2.ch
  have hobt := oapp Try.underlying26 ti3 rfl 0 hO rfl KN iW rfl h24 (by decide)
  obtain ⟨w25, p26, c27, Pc, x3, bO, HT⟩ := hobt
  refine zg (HT (by exact rfl) (by exact rfl)) ?_
  replace hO := x3.own
  have hobt := t2build1 (Fl.int .i64) Try.underlying22 ti26 hO bO
  obtain ⟨w33, p34, nh, zT⟩ := hobt
  refine zg (zT rfl) ?_
  replace hO := nh.own
  have tS := Stp.front 1 hO rfl
  replace hO := tS.own
  have lP := Stp.front 1 hO rfl
  replace hO := lP.own
  obtain ⟨h40, H⟩ := H
  have hobt := t2cat Try.underlying22 ti26 hO h40 (by decide)
  obtain ⟨w41, p42, c43, t0, HU⟩ := hobt
  refine zg (HU (by exact rfl) (by exact rfl)) ?_
  replace hO := t0.own
  refine za rfl (zn ?_)
  refine Go1.inBlock ?_
  refine zr ?_
  have Z1 := ((((x2.ch.trans x3.ch).trans nh.ch).trans tS.ch).trans lP.ch).trans t0.ch
  replace h_a := h_a.ch Z1
  refine zo (op_add rfl rfl (wrap_i64 (natbd h10 h_a.bd))) (zm rfl (zn ?_))
  replace hB := (((((hB.trans x2.fr).trans x3.fr).trans nh.fr).trans tS.fr).trans lP.fr).trans t0.fr
  exact hX1 _ H _ _ ⟨n8 + 1, p42, c43, hcat hs9 out1_5.length ((fun _ => (p26, c27))), ⟨rfl, rfl, rfl, rfl, trivial⟩, hO, h_a, hB⟩
 replace H := ifn h10 H
 refine zo (fun w => opB (op_lss rfl rfl w) (decide_eq_false h10)) (zn (zq (zf rfl rfl ?_)))
 refine Go1.exit rfl ?_
 refine zq (zr (zm rfl (za rfl (zn ?_))))
 refine Go1.ret1 Try.func24 rfl ?_
 exact ⟨out1_5, n8, p6, c7, hs9, rfl, hB.same, hO, H⟩
theorem body54 : Body Try.prog 54 := ⟨Try.f54, Try.func54, rfl, by kernel_rfl⟩
theorem walk_ref03_Discrete {A : List Nat} {w0 : World} {n : Int} (hA : ∀ b ∈ A, b < w0.heap.size) {K : List Int → Prop} (H : ref03_Discrete n K) :
    CallsV Try.prog 54 #[.int .i64 n] w0 (fun v w' => ∃ (r0 : List Int), ∃ (si : Option Addr), ∃ (sj : Nat), v = .slice si r0.length sj ∧ Same w0 w' ∧ ISl (Rp.int .i64) A w' si sj r0 ∧ K r0) := by
 refine CallsV.of (l := [.int .i64 n]) Try.func54 rfl Try.ntmps54 rfl ?_
 have hO := Owns.start hA
 have hB := Fr.refl (bl []) w0
 unfold ref03_Discrete at H
 refine zq (zr (za rfl (zn (zq (zr ?_)))))
 refine zm rfl ?_
 obtain ⟨h8, H⟩ := H
 obtain ⟨h9, H⟩ := H
 have hobt := omake (n := n) (r := Rp.int .i64) (d := (0 : Int)) Try.underlying26 ti3 (fun _ _ => rfl) rfl hO h8 h9 (by decide)
 obtain ⟨w1, p2, vs3, lT, hE5, hs6, vb⟩ := hobt
 refine zg (vb rfl rfl) ?_
 replace hO := lT.own
 refine za rfl (zn (zq (zq (zr (zm rfl ?_)))))
 refine zo (op_lenN Try.underlying26 rfl (hE5.neq hO 0 rfl)) (zm rfl (zn (zb ?_)))
 replace hB := hB.trans lT.fr
 refine Go1.loopW (S := Nat × List Int) (fun s σ w => match s with | (k1_12, p1_13) => ∃ (kP : List Value), agrees σ [(3, .slice p2 n.toNat n.toNat), (8, .int .i64 ((List.replicate n.toNat ((0 : Int))).length : Int)), (9, .int .i64 (k1_12 : Int))] ∧ (fun Z0 => Owns w0.heap.size w Z0 A ∧ Els (Rp.int .i64) (bl Z0 ++ A) w kP p1_13 ∧ Fr (bl []) w0 (bl Z0) w) [.row 3 1 p2 n.toNat n.toNat kP]) H ⟨vs3, ⟨rfl, rfl, rfl, trivial⟩, hO, hE5, hB⟩ ?_
 intro X1
 refine prE fun k1_12 => fun p1_13 => ?_
 intro H hX1 σ w11
 refine exE fun kP => andE fun hag => andE fun hO => andE fun a8 => fun hB => ?_
 dsimp only at H
 refine Go1.keep [(3, .slice p2 n.toNat n.toNat), (8, .int .i64 ((List.replicate n.toNat ((0 : Int))).length : Int)), (9, .int .i64 (k1_12 : Int))] hag ?_
 refine zq (zr ?_)
 by_cases h16 : (k1_12 : Int) < ((List.replicate n.toNat ((0 : Int))).length : Int)
 ·replace H := ifp h16 H
  refine zo (fun w => opB (op_lss rfl rfl w) (decide_eq_true h16)) (zn (zq (zt rfl rfl (zk (zq ?_)))))
  refine zb (zq (zr (zm rfl (za rfl (zn ?_)))))
  refine zr (zm rfl (zm rfl (zm rfl ?_)))
  obtain ⟨h17, H⟩ := H
  obtain ⟨h18, H⟩ := H
  refine zo (op_index Try.underlying26 ti3 rfl rfl h17 (ltn (a8.neq hO 0 rfl) h18) (a8.psome hO 0 rfl h17 h18)) ?_
  have hobt := ost (r := Rp.int .i64) rfl 0 hO rfl a8 h17 h18 (v := .int .i64 (k1_12 : Int)) (u := (k1_12 : Int)) rfl rfl
  obtain ⟨w19, KO, mz, KP, xh⟩ := hobt
  refine zg (xh Try.underlying3 rfl ti3 (by exact rfl) (by exact rfl)) ?_
  replace hO := mz.own
  refine zn ?_
  refine Go1.inBlock ?_
  refine zr ?_
  obtain ⟨h24, H⟩ := H
  refine zo (op_add rfl rfl (wrap_i64 h24)) (zm rfl (zn ?_))
  replace hB := hB.trans mz.fr
  exact hX1 _ H _ _ ⟨KO, ⟨rfl, rfl, rfl, trivial⟩, hO, KP, hB⟩
 replace H := ifn h16 H
 refine zo (fun w => opB (op_lss rfl rfl w) (decide_eq_false h16)) (zn (zq (zf rfl rfl ?_)))
 refine Go1.exit rfl ?_
 refine zq (zr (zm rfl (za rfl (zn ?_))))
 have hobt := freeze 0 hO rfl a8
 obtain ⟨hO1, Pd, KQ, Bm⟩ := hobt
 replace hO := hO1; clear hO1
 refine Go1.ret1 Try.func54 rfl ?_
 replace hB := hB.trans (Owns.dropFr _ _ 0)
 exact ⟨p1_13, p2, n.toNat, (congrArg (fun nn => Value.slice p2 nn n.toNat) Bm), hB.same, (KQ.ch (Ch.weak _ _ _)), H⟩
theorem body34 : Body Try.prog 34 := ⟨Try.f34, Try.func34, rfl, by kernel_rfl⟩
theorem walk_ref03_Same {A : List Nat} {w0 : World} {p_a : Option Addr} {c_a : Nat} {p_b : Option Addr} {c_b : Nat} {a : List Int} {b : List Int} (hA : ∀ b ∈ A, b < w0.heap.size) (h_a : ISl (Rp.int .i64) A w0 p_a c_a a) (h_b : ISl (Rp.int .i64) A w0 p_b c_b b) {K : Bool → Prop} (H : ref03_Same a b K) :
    CallsV Try.prog 34 #[.slice p_a a.length c_a, .slice p_b b.length c_b] w0 (fun v w' => ∃ (r0 : Bool), v = .bool r0 ∧ Same w0 w' ∧ K r0) := by
 refine CallsV.of (l := [.slice p_a a.length c_a, .slice p_b b.length c_b]) Try.func34 rfl Try.ntmps34 rfl ?_
 have hO := Owns.start hA
 have hB := Fr.refl (bl []) w0
 unfold ref03_Same at H
 refine zq (zr (za rfl (zn (zq (zq ?_)))))
 refine zr (zm rfl (zo (op_len Try.underlying26 rfl) ?_))
 replace h_a := h_a.ch (Ch.start A w0)
 replace H := H h_a.bd
 refine zm rfl (zo (op_len Try.underlying26 rfl) ?_)
 replace h_b := h_b.ch (Ch.start A w0)
 replace H := H h_b.bd
 by_cases h1 : (a.length : Int) = (b.length : Int)
 ·replace H := ifp h1 H
  refine zo (fun w => opB (op_neq rfl rfl w) (ndT h1)) (zn (zf rfl rfl (zk (zq (zq ?_)))))
  refine zr (zm rfl (zo (op_len Try.underlying26 rfl) (zm rfl (zn (zb ?_)))))
  refine Go1.loopW (S := Nat) (fun s σ w => agrees σ [(0, .slice p_a a.length c_a), (1, .slice p_b b.length c_b), (12, .int .i64 (a.length : Int)), (13, .int .i64 (s : Int))] ∧ Owns w0.heap.size w [] A ∧ ISl (Rp.int .i64) (bl [] ++ A) w p_a c_a a ∧ ISl (Rp.int .i64) (bl [] ++ A) w p_b c_b b ∧ Fr (bl []) w0 (bl []) w) H ⟨⟨rfl, rfl, rfl, rfl, trivial⟩, hO, h_a, h_b, hB⟩ ?_
  intro X1 k1_3
  intro H hX1 σ w2
  refine andE fun hag => andE fun hO => andE fun h_a => andE fun h_b => fun hB => ?_
  refine Go1.keep [(0, .slice p_a a.length c_a), (1, .slice p_b b.length c_b), (12, .int .i64 (a.length : Int)), (13, .int .i64 (k1_3 : Int))] hag ?_
  refine zq (zr ?_)
  by_cases h4 : (k1_3 : Int) < (a.length : Int)
  ·replace H := ifp h4 H
   refine zo (fun w => opB (op_lss rfl rfl w) (decide_eq_true h4)) (zn (zq (zt rfl rfl (zk (zq ?_)))))
   refine zb (zq (zr (zm rfl (za rfl (zn ?_)))))
   refine zq ?_
   refine Go1.drawS 0 [(0, .pure), (1, .pure), (2, .pure), (3, .stable), (4, .pure), (5, .pure), (6, .pure), (7, .stable), (8, .pure)] mixed (by kernel_rfl) ?_
   intro w5 hs6
   have kr := Stp.same hO hs6
   replace hO := kr.own
   refine GoQ.pure rfl (op_move rfl) rfl rfl ?_
   refine GoQ.pure rfl (op_move rfl) rfl rfl ?_
   obtain ⟨h8, H⟩ := H
   obtain ⟨h9, H⟩ := H
   replace h_a := h_a.ch kr.ch
   refine GoQ.pure rfl (op_index Try.underlying26 ti3 rfl rfl h8 h9 (h_a.some_ h8 h9)) rfl rfl ?_
   refine GoQ.stable rfl (ldInt h_a h8 h9 Try.underlying3 rfl rfl) rfl rfl ?_
   refine GoQ.pure rfl (op_move rfl) rfl rfl ?_
   refine GoQ.pure rfl (op_move rfl) rfl rfl ?_
   obtain ⟨h10, H⟩ := H
   obtain ⟨h11, H⟩ := H
   replace h_b := h_b.ch kr.ch
   refine GoQ.pure rfl (op_index Try.underlying26 ti3 rfl rfl h10 h11 (h_b.some_ h10 h11)) rfl rfl ?_
   refine GoQ.stable rfl (ldInt h_b h10 h11 Try.underlying3 rfl rfl) rfl rfl ?_
   by_cases h12 : (ix a (k1_3 : Int)) = (ix b (k1_3 : Int))
   ·replace H := ifp h12 H
    refine GoQ.pure rfl (fun w => opB (op_neq rfl rfl w) (ndT h12)) rfl rfl ?_
    refine GoQ.nil ?_
    refine zf rfl rfl (zk ?_)
    refine Go1.inBlock ?_
    refine zr (zo (op_add rfl rfl (wrap_i64 (natbd h4 h_a.bd))) (zm rfl (zn ?_)))
    replace hB := hB.trans kr.fr
    exact hX1 _ H _ _ ⟨⟨rfl, rfl, rfl, rfl, trivial⟩, hO, h_a, h_b, hB⟩
   replace H := ifn h12 H
   refine GoQ.pure rfl (fun w => opB (op_neq rfl rfl w) (ndF h12)) rfl rfl ?_
   refine GoQ.nil ?_
   refine zt rfl rfl (zq (zr (za rfl (zn ?_))))
   refine Go1.ret1 Try.func34 rfl ?_
   replace hB := hB.trans kr.fr
   exact ⟨false, rfl, hB.same, H⟩
  replace H := ifn h4 H
  refine zo (fun w => opB (op_lss rfl rfl w) (decide_eq_false h4)) (zn (zq (zf rfl rfl ?_)))
  refine Go1.exit rfl ?_
  refine zq (zr (za rfl (zn ?_)))
  refine Go1.ret1 Try.func34 rfl ?_
  exact ⟨true, rfl, hB.same, H⟩
 replace H := ifn h1 H
 refine zo (fun w => opB (op_neq rfl rfl w) (ndF h1)) (zn (zt rfl rfl (zq (zr (za rfl ?_)))))
 refine zn ?_
 refine Go1.ret1 Try.func34 rfl ?_
 exact ⟨false, rfl, hB.same, H⟩
theorem body41 : Body Try.prog 41 := ⟨Try.f41, Try.func41, rfl, by kernel_rfl⟩
theorem walk_ref12_Find {A : List Nat} {w0 : World} {ub : Option Addr} {uc : Nat} {p_f : Option Addr} {c_f : Nat} {elems : List (List Int)} {f : List Int} (hA : ∀ b ∈ A, b < w0.heap.size) (oK : ISl (Rp.sl (Rp.int .i64)) A w0 ub uc elems) (h_f : ISl (Rp.int .i64) A w0 p_f c_f f) {K : Int → Prop} (H : ref12_Find elems f K) :
    CallsV Try.prog 41 #[.slice ub elems.length uc, .slice p_f f.length c_f] w0 (fun v w' => ∃ (r0 : Int), v = .int .i64 r0 ∧ Same w0 w' ∧ K r0) := by
 refine CallsV.of (l := [.slice ub elems.length uc, .slice p_f f.length c_f]) Try.func41 rfl Try.ntmps41 rfl ?_
 have hO := Owns.start hA
 have hB := Fr.refl (bl []) w0
 unfold ref12_Find at H
 refine zq (zr (za rfl (zn (zq (zq ?_)))))
 refine zr (zm rfl (zo (op_len Try.underlying22 rfl) ?_))
 replace oK := oK.ch (Ch.start A w0)
 replace H := H oK.bd
 refine zm rfl (zn (zb ?_))
 replace h_f := h_f.ch (Ch.start A w0)
 refine Go1.loopW (S := Nat) (fun s σ w => agrees σ [(0, .slice ub elems.length uc), (1, .slice p_f f.length c_f), (7, .int .i64 (elems.length : Int)), (8, .int .i64 (s : Int))] ∧ Owns w0.heap.size w [] A ∧ ISl (Rp.sl (Rp.int .i64)) (bl [] ++ A) w ub uc elems ∧ ISl (Rp.int .i64) (bl [] ++ A) w p_f c_f f ∧ Fr (bl []) w0 (bl []) w) H ⟨⟨rfl, rfl, rfl, rfl, trivial⟩, hO, oK, h_f, hB⟩ ?_
 intro X1 k1_2
 intro H hX1 σ w1
 refine andE fun hag => andE fun hO => andE fun oK => andE fun h_f => fun hB => ?_
 refine Go1.keep [(0, .slice ub elems.length uc), (1, .slice p_f f.length c_f), (7, .int .i64 (elems.length : Int)), (8, .int .i64 (k1_2 : Int))] hag ?_
 refine zq (zr ?_)
 by_cases h3 : (k1_2 : Int) < (elems.length : Int)
 ·replace H := ifp h3 H
  refine zo (fun w => opB (op_lss rfl rfl w) (decide_eq_true h3)) (zn (zq (zt rfl rfl (zk (zq ?_)))))
  refine zb (zq (zr (zm rfl (za rfl (zn ?_)))))
  refine zq (zr (zm rfl (zm rfl ?_)))
  obtain ⟨h4, H⟩ := H
  obtain ⟨h5, H⟩ := H
  refine zo (op_index Try.underlying22 ti26 rfl rfl h4 h5 (oK.some_ h4 h5)) ?_
  have hobt := ldSl oK h4 h5
  obtain ⟨p6, c7, hi8, hl9⟩ := hobt
  refine zs (hl9 Try.underlying26 rfl rfl) (zm rfl ?_)
  refine GoR.call (op_call body34 rfl (walk_ref03_Same hO.lt hi8 h_f H)) rfl rfl ?_
  rintro v14 w11 ⟨r10, rfl, Ad, H⟩
  have eI := Stp.same hO Ad
  replace hO := eI.own
  refine zn ?_
  cases r10
  ·replace H := ifn Bool.false_ne_true H
   refine zf rfl rfl (zk ?_)
   refine Go1.inBlock ?_
   refine zr ?_
   replace oK := oK.ch eI.ch
   refine zo (op_add rfl rfl (wrap_i64 (natbd h3 oK.bd))) (zm rfl (zn ?_))
   replace h_f := h_f.ch eI.ch
   replace hB := hB.trans eI.fr
   exact hX1 _ H _ _ ⟨⟨rfl, rfl, rfl, rfl, trivial⟩, hO, oK, h_f, hB⟩
  replace H := ifp rfl H
  refine zt rfl rfl (zq (zr (zm rfl (za rfl (zn ?_)))))
  refine Go1.ret1 Try.func41 rfl ?_
  replace hB := hB.trans eI.fr
  exact ⟨(k1_2 : Int), rfl, hB.same, H⟩
 replace H := ifn h3 H
 refine zo (fun w => opB (op_lss rfl rfl w) (decide_eq_false h3)) (zn (zq (zf rfl rfl ?_)))
 refine Go1.exit rfl ?_
 refine zq (zr (za rfl (zn ?_)))
 refine Go1.ret1 Try.func41 rfl ?_
 exact ⟨(-1 : Int), rfl, hB.same, H⟩
theorem body55 : Body Try.prog 55 := ⟨Try.f55, Try.func55, rfl, by kernel_rfl⟩
theorem walk_ref12_letter {A : List Nat} {w0 : World} {x : Int} (hA : ∀ b ∈ A, b < w0.heap.size) {K : Str → Prop} (H : ref12_letter x K) :
    CallsV Try.prog 55 #[.int .i64 x] w0 (fun v w' => ∃ (r0 : Str), v = .string (gstr r0) ∧ Same w0 w' ∧ r0.length ≤ mx ∧ K r0) := by
 refine CallsV.of (l := [.int .i64 x]) Try.func55 rfl Try.ntmps55 rfl ?_
 have hO := Owns.start hA
 have hB := Fr.refl (bl []) w0
 unfold ref12_letter at H
 refine zq (zr (za rfl (zn (zq (zr ?_)))))
 refine zm rfl ?_
 obtain ⟨h1, H⟩ := H
 refine zo (op_add rfl rfl (wrap_i64 h1)) (zo (op_conv Try.underlying3 Try.underlying5 rfl rfl) ?_)
 have hobt := obuild (r := Rp.int .u8) (n := 1) (parts := [(0, .int .u8 (IntKind.u8.wrap ((97 : Int) + x)))]) (vs := [.int .u8 (IntKind.u8.wrap ((97 : Int) + x))]) (xs := [(IntKind.u8.wrap ((97 : Int) + x))]) rfl Try.underlying84 ti5 hO (by decide) (by kernel_rfl) (Els.cons rfl rfl (Els.nil _ _ _) (by simp [mx])) rfl
 obtain ⟨w2, p3, lT, hE5, hs6, vb⟩ := hobt
 refine zg (vb rfl) ?_
 replace hO := lT.own
 have hle9 := byt_le hE5.bd
 refine zs (oldBytes 0 hO rfl hE5 Try.underlying84 Try.underlying5 Try.underlying9 rfl) (za rfl (zn ?_))
 refine Go1.ret1 Try.func55 rfl ?_
 replace hB := hB.trans lT.fr
 exact ⟨byt ([(IntKind.u8.wrap ((97 : Int) + x))]), rfl, hB.same, hle9, H⟩
theorem body40 : Body Try.prog 40 := ⟨Try.f40, Try.func40, rfl, by kernel_rfl⟩
theorem walk_ref12_Word {A : List Nat} {w0 : World} {bE : Option Addr} {bF : Nat} {a9 : Option Addr} {ba : Nat} {aS : Option Addr} {aT : Nat} {bx : Option Addr} {bz : Nat} {bc : Option Addr} {bf : Nat} {bg : Option Addr} {bh : Nat} {e : Enum} {i : Int} (hA : ∀ b ∈ A, b < w0.heap.size) (aN : ISl (Rp.sl (Rp.int .i64)) A w0 bE bF e.Gens) (aD : ISl (Rp.sl (Rp.int .i64)) A w0 a9 ba e.Elems) (ak : ISl (Rp.int .i64) A w0 aS aT e.Prefix) (aM : ISl (Rp.int .i64) A w0 bx bz e.Last) (aE : ISl (Rp.sl (Rp.int .i64)) A w0 bc bf e.Right) (aF : ISl (rpRule) A w0 bg bh e.Rules) {K : Str → Prop} (H : ref12_Word e i K) :
    CallsV Try.prog 40 #[.agg #[.int .i64 e.Points, .bool e.Monoid, .slice bE e.Gens.length bF, .slice a9 e.Elems.length ba, .slice aS e.Prefix.length aT, .slice bx e.Last.length bz, .slice bc e.Right.length bf, .slice bg e.Rules.length bh, .int .i64 e.Done], .int .i64 i] w0 (fun v w' => ∃ (r0 : Str), v = .string (gstr r0) ∧ Same w0 w' ∧ r0.length ≤ mx ∧ K r0) := by
 refine CallsV.of (l := [.agg #[.int .i64 e.Points, .bool e.Monoid, .slice bE e.Gens.length bF, .slice a9 e.Elems.length ba, .slice aS e.Prefix.length aT, .slice bx e.Last.length bz, .slice bc e.Right.length bf, .slice bg e.Rules.length bh, .int .i64 e.Done], .int .i64 i]) Try.func40 rfl Try.ntmps40 rfl ?_
 have hO := Owns.start hA
 have hB := Fr.refl (bl []) w0
 unfold ref12_Word at H
 refine zq (zr ?_)
 have hobt := obox (t := 29) (v := .agg #[.int .i64 e.Points, .bool e.Monoid, .slice bE e.Gens.length bF, .slice a9 e.Elems.length ba, .slice aS e.Prefix.length aT, .slice bx e.Last.length bz, .slice bc e.Right.length bf, .slice bg e.Rules.length bh, .int .i64 e.Done]) (cs := #[.int .i64 e.Points, .bool e.Monoid, .slice bE e.Gens.length bF, .slice a9 e.Elems.length ba, .slice aS e.Prefix.length aT, .slice bx e.Last.length bz, .slice bc e.Right.length bf, .slice bg e.Rules.length bh, .int .i64 e.Done]) hO rfl
 obtain ⟨w1, B2, et, hs4, sQ⟩ := hobt
 refine zg (sQ rfl) ?_
 replace hO := et.own
 refine za rfl (zn (zq (zr (za rfl (zn ?_)))))
 refine zq (zb ?_)
 replace hB := hB.trans et.fr
 have Z1 := (Ch.start A w0).trans et.ch
 replace aN := aN.ch Z1
 replace aD := aD.ch Z1
 replace ak := ak.ch Z1
 replace aM := aM.ch Z1
 replace aE := aE.ch Z1
 replace aF := aF.ch Z1
 refine Go1.loopW (S := Int × Str) (fun s σ w => match s with | (i1_8, w1_9) => agrees σ [(1, .int .i64 i1_8), (2, .pointer (some ⟨B2, 0, none⟩)), (5, .string (gstr w1_9))] ∧ (fun Z0 => Owns w0.heap.size w Z0 A ∧ ISl (Rp.sl (Rp.int .i64)) (bl Z0 ++ A) w bE bF e.Gens ∧ ISl (Rp.sl (Rp.int .i64)) (bl Z0 ++ A) w a9 ba e.Elems ∧ ISl (Rp.int .i64) (bl Z0 ++ A) w aS aT e.Prefix ∧ ISl (Rp.int .i64) (bl Z0 ++ A) w bx bz e.Last ∧ ISl (Rp.sl (Rp.int .i64)) (bl Z0 ++ A) w bc bf e.Right ∧ ISl (rpRule) (bl Z0 ++ A) w bg bh e.Rules ∧ w1_9.length ≤ mx ∧ Fr (bl []) w0 (bl Z0) w) [.blk B2 (.cells #[.int .i64 e.Points, .bool e.Monoid, .slice bE e.Gens.length bF, .slice a9 e.Elems.length ba, .slice aS e.Prefix.length aT, .slice bx e.Last.length bz, .slice bc e.Right.length bf, .slice bg e.Rules.length bh, .int .i64 e.Done] 29 (0, 0))]) H ⟨⟨rfl, rfl, rfl, trivial⟩, hO, aN, aD, ak, aM, aE, aF, (by decide), hB⟩ ?_
 intro X1
 refine prE fun i1_8 => fun w1_9 => ?_
 intro H hX1 σ w7
 refine andE fun hag => andE fun hO => andE fun aN => andE fun aD => andE fun ak => andE fun aM => andE fun aE => andE fun aF => andE fun hle_w1_9 => fun hB => ?_
 dsimp only at H
 refine Go1.keep [(1, .int .i64 i1_8), (2, .pointer (some ⟨B2, 0, none⟩)), (5, .string (gstr w1_9))] hag ?_
 refine zq (zq (zr (zm rfl ?_)))
 by_cases h10 : (0 : Int) ≤ i1_8
 ·replace H := ifp h10 H
  refine zo (fun w => opB (op_geq rfl rfl w) (decide_eq_true h10)) (zm rfl (zo (op_fieldAddr Try.underlying29 rfl ti26 rfl (by decide)) (zs (oblk (i := 5) 0 hO rfl rfl Try.underlying26 rfl rfl) (zm rfl ?_))))
  obtain ⟨h11, H⟩ := H
  obtain ⟨h12, H⟩ := H
  refine zo (op_index Try.underlying26 ti3 rfl rfl h11 h12 (aM.some_ h11 h12)) (zs (ldInt aM h11 h12 Try.underlying3 rfl rfl) ?_)
  by_cases h13 : (0 : Int) ≤ (ix e.Last i1_8)
  ·replace H := ifp h13 H
   refine zo (fun w => opB (op_geq rfl rfl w) (decide_eq_true h13)) (zo (op_pickT rfl rfl rfl) (zn (zt rfl rfl (zk (zb ?_)))))
   refine zq (zr (zo (op_fieldAddr Try.underlying29 rfl ti26 rfl (by decide)) (zs (oblk (i := 5) 0 hO rfl rfl Try.underlying26 rfl rfl) (zm rfl ?_))))
   obtain ⟨h14, H⟩ := H
   obtain ⟨h15, H⟩ := H
   refine zo (op_index Try.underlying26 ti3 rfl rfl h14 h15 (aM.some_ h14 h15)) (zs (ldInt aM h14 h15 Try.underlying3 rfl rfl) ?_)
   refine GoR.call (op_call body55 rfl (walk_ref12_letter hO.lt H)) rfl rfl ?_
   rintro v20 w17 ⟨r16, rfl, KR, LE, H⟩
   have mz := Stp.same hO KR
   replace hO := mz.own
   refine zm rfl ?_
   obtain ⟨h22, H⟩ := H
   refine zo (op_addS rfl rfl h22) (za rfl (zn ?_))
   refine Go1.cut [(1, .int .i64 i1_8), (2, .pointer (some ⟨B2, 0, none⟩)), (5, .string (gstr (r16 ++ w1_9)))] ⟨rfl, rfl, rfl, trivial⟩ ?_
   intro σ _
   refine zr (zo (op_fieldAddr Try.underlying29 rfl ti26 rfl (by decide)) (zs (oblk (i := 4) 0 hO rfl rfl Try.underlying26 rfl rfl) (zm rfl ?_)))
   obtain ⟨h23, H⟩ := H
   obtain ⟨h24, H⟩ := H
   replace ak := ak.ch mz.ch
   refine zo (op_index Try.underlying26 ti3 rfl rfl h23 h24 (ak.some_ h23 h24)) (zs (ldInt ak h23 h24 Try.underlying3 rfl rfl) (za rfl (zn ?_)))
   refine Go1.inBlock ?_
   replace aN := aN.ch mz.ch
   replace aD := aD.ch mz.ch
   replace aM := aM.ch mz.ch
   replace aE := aE.ch mz.ch
   replace aF := aF.ch mz.ch
   replace hB := hB.trans mz.fr
   exact hX1 _ H _ _ ⟨⟨rfl, rfl, rfl, trivial⟩, hO, aN, aD, ak, aM, aE, aF, (lenApp h22), hB⟩
  replace H := ifn h13 H
  refine zo (fun w => opB (op_geq rfl rfl w) (decide_eq_false h13)) (zo (op_pickT rfl rfl rfl) (zn (zf rfl rfl ?_)))
  refine Go1.exit rfl ?_
  refine zq (zr (zm rfl (za rfl (zn ?_))))
  refine Go1.ret1 Try.func40 rfl ?_
  exact ⟨w1_9, rfl, hB.same, hle_w1_9, H⟩
 replace H := ifn h10 H
 refine zo (fun w => opB (op_geq rfl rfl w) (decide_eq_false h10)) (zm rfl (zp (zp (zp (zp ?_)))))
 refine zp (zp (zo (op_pickF rfl rfl rfl) (zn (zf rfl rfl ?_))))
 refine Go1.exit rfl ?_
 refine zq (zr (zm rfl (za rfl (zn ?_))))
 refine Go1.ret1 Try.func40 rfl ?_
 exact ⟨w1_9, rfl, hB.same, hle_w1_9, H⟩
end Sg
