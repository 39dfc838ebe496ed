/- The walks: each call keeps to its plain transformer. Printed by walkgen.py. -/
import Derived.Test.YtjegjjdfgefkoaaTi
import Derived.Test.YtjegjjdfgefkoaaWEnumerateBuilds
import Derived.Test.YtjegjjdfgefkoaaWEnumerateBuildsb
import Derived.Test.YtjegjjdfgefkoaaAl
namespace Sg
open Go Go.RowKit Go.Proofs
set_option linter.unusedVariables false
set_option linter.unusedSimpArgs false
set_option maxRecDepth 100000
set_option maxHeartbeats 4000000
theorem body68 : Body Try.prog 68 := ⟨Try.f68, Try.func68, rfl, by kernel_rfl⟩
theorem body53 : Body Try.prog 53 := ⟨Try.f53, Try.func53, rfl, by kernel_rfl⟩
theorem walk_enumerate_replay {A : List Nat} {w0 : World} {cd : Option Addr} {ce : Nat} {bG : Option Addr} {bH : Nat} {bq : Option Addr} {bt : Nat} {b7 : Option Addr} {b8 : Nat} {bI : Option Addr} {bK : Nat} {bM : Option Addr} {bN : Nat} {e : Enum} (hA : ∀ b ∈ A, b < w0.heap.size) (aR : ISl (Rp.sl (Rp.int .i64)) A w0 cd ce e.Gens) (aK : ISl (Rp.sl (Rp.int .i64)) A w0 bG bH e.Elems) (aC : ISl (Rp.int .i64) A w0 bq bt e.Prefix) (aS : ISl (Rp.int .i64) A w0 b7 b8 e.Last) (aL : ISl (Rp.sl (Rp.int .i64)) A w0 bI bK e.Right) (aM : ISl (rpRule) A w0 bM bN e.Rules) {K : Option run → Bool → Prop} (H : enumerate_replay e K) :
    CallsV Try.prog 53 #[.agg #[.int .i64 e.Points, .bool e.Monoid, .slice cd e.Gens.length ce, .slice bG e.Elems.length bH, .slice bq e.Prefix.length bt, .slice b7 e.Last.length b8, .slice bI e.Right.length bK, .slice bM e.Rules.length bN, .int .i64 e.Done]] w0 (fun v w' => (∃ (r1 : Bool), v = .tuple #[.pointer none, .bool r1] ∧ Same w0 w' ∧ K none r1) ∨ (∃ (q : run), ∃ (r1 : Bool), ∃ (b_q : Nat), ∃ (ct : Nat), ∃ (cu : Option Addr), ∃ (cv : Nat), ∃ (dw : List Value), ∃ (cf : Nat), ∃ (cg : Option Addr), ∃ (ci : Nat), ∃ (de : List Value), ∃ (bX : Nat), ∃ (bY : Option Addr), ∃ (b5 : Nat), ∃ (cV : List Value), ∃ (cw : Nat), ∃ (cx : Option Addr), ∃ (cy : Nat), ∃ (dx : List Value), ∃ (cj : Nat), ∃ (ck : Option Addr), ∃ (co : Nat), ∃ (dg : List Value), ∃ (cp : Nat), ∃ (cq : Option Addr), ∃ (cr : Nat), ∃ (dh : List Value), ∃ (d5 : Nat), ∃ (cX : Nat), ∃ (cY : Option Addr), ∃ (c5 : Nat), ∃ (fd : List Value), ∃ (cH : Nat), ∃ (cI : Option Addr), ∃ (cJ : Nat), ∃ (eB : List Value), ∃ (cK : Nat), ∃ (cL : Option Addr), ∃ (cM : Nat), ∃ (eC : List Value), v = .tuple #[.pointer (some ⟨b_q, 0, none⟩), .bool r1] ∧ Same w0 w' ∧ (fun Z0 => Owns w0.heap.size w' Z0 A ∧ Els (Rp.sl (Rp.int .i64)) (bl Z0 ++ A) w' dw q.Enum.Gens ∧ Els (Rp.sl (Rp.int .i64)) (bl Z0 ++ A) w' de q.Enum.Elems ∧ Els (Rp.int .i64) (bl Z0 ++ A) w' cV q.Enum.Prefix ∧ Els (Rp.int .i64) (bl Z0 ++ A) w' dx q.Enum.Last ∧ Els (Rp.sl (Rp.int .i64)) (bl Z0 ++ A) w' dg q.Enum.Right ∧ Els (rpRule) (bl Z0 ++ A) w' dh q.Enum.Rules ∧ Els (Rp.str) (bl Z0 ++ A) w' fd q.words ∧ Els (Rp.int .i64) (bl Z0 ++ A) w' eB q.behind ∧ Els (Rp.int .i64) (bl Z0 ++ A) w' eC q.single ∧ K (some q) r1) [.blk b_q (.cells #[.int .i64 q.Enum.Points, .bool q.Enum.Monoid, .slice cu ct cv, .slice cg cf ci, .slice bY bX b5, .slice cx cw cy, .slice ck cj co, .slice cq cp cr, .int .i64 q.Enum.Done, .map (some d5), .slice cY cX c5, .slice cI cH cJ, .slice cL cK cM] 72 (0, 0)), .row 26 1 cu ct cv dw, .row 26 1 cg cf ci de, .row 3 1 bY bX b5 cV, .row 3 1 cx cw cy dx, .row 26 1 ck cj co dg, .row 39 2 cq cp cr dh, .row 9 1 cY cX c5 fd, .row 3 1 cI cH cJ eB, .row 3 1 cL cK cM eC, .any (mapE (fun a : List UInt8 => Value.string (gstr a)) (fun a : Int => Value.int .i64 a) d5 q.number)])) := by
 refine CallsV.of (l := [.agg #[.int .i64 e.Points, .bool e.Monoid, .slice cd e.Gens.length ce, .slice bG e.Elems.length bH, .slice bq e.Prefix.length bt, .slice b7 e.Last.length b8, .slice bI e.Right.length bK, .slice bM e.Rules.length bN, .int .i64 e.Done]]) Try.func53 rfl Try.ntmps53 rfl ?_
 have hO := Owns.start hA
 have hB := Fr.refl (bl []) w0
 unfold enumerate_replay at H
 refine zq (zr ?_)
 have hobt := obox (t := 29) (v := .agg #[.int .i64 e.Points, .bool e.Monoid, .slice cd e.Gens.length ce, .slice bG e.Elems.length bH, .slice bq e.Prefix.length bt, .slice b7 e.Last.length b8, .slice bI e.Right.length bK, .slice bM e.Rules.length bN, .int .i64 e.Done]) (cs := #[.int .i64 e.Points, .bool e.Monoid, .slice cd e.Gens.length ce, .slice bG e.Elems.length bH, .slice bq e.Prefix.length bt, .slice b7 e.Last.length b8, .slice bI e.Right.length bK, .slice bM e.Rules.length bN, .int .i64 e.Done]) hO rfl
 obtain ⟨w1, B2, dI, hs4, qb⟩ := hobt
 refine zg (qb rfl) ?_
 replace hO := dI.own
 refine za rfl (za rfl (zn (zq (zr (zo (op_fieldAddr Try.underlying29 rfl ti22 rfl (by decide)) ?_)))))
 refine zs (oblk (i := 2) 0 hO rfl rfl Try.underlying22 rfl rfl) (zo (op_fieldAddr Try.underlying29 rfl ti4 rfl (by decide)) (zs (oblk (i := 1) 0 hO rfl rfl Try.underlying4 rfl rfl) ?_))
 replace aR := (aR.ch (Ch.start A w0)).ch dI.ch
 refine GoR.call (op_call body49 rfl (walk_enumerate_begin hO.lt aR H)) rfl rfl ?_
 intro v9 w10 hcase13
 refine Or.elim hcase13 ?_ ?_
 ·refine exE fun r8 => andE fun hv14 => andE fun vL => fun H => ?_
  subst hv14
  clear hcase13
  replace H := oElimN H
  have iJ := Stp.same hO vL
  replace hO := iJ.own
  refine zm rfl (zo (op_extract rfl rfl) (zo (op_extract rfl rfl) (za rfl (za rfl (zn ?_)))))
  refine zq (zq (zr (zm rfl ?_)))
  by_cases h16 : r8 = (0 : Int)
  ·replace H := ifp h16 H
   refine zo (fun w => opB (op_neq rfl rfl w) (ndT h16)) (zn (zf rfl rfl (zk (zq (zb ?_)))))
   replace aR := aR.ch iJ.ch
   replace hB := (hB.trans dI.fr).trans iJ.fr
   have Z1 := ((Ch.start A w0).trans dI.ch).trans iJ.ch
   replace aK := aK.ch Z1
   replace aC := aC.ch Z1
   replace aS := aS.ch Z1
   replace aL := aL.ch Z1
   replace aM := aM.ch Z1
   refine Go1.loopW (S := Unit) (fun s σ w => agrees σ [(1, .pointer (some ⟨B2, 0, none⟩)), (4, .pointer none)] ∧ (fun Z0 => Owns w0.heap.size w Z0 A ∧ ISl (Rp.sl (Rp.int .i64)) (bl Z0 ++ A) w cd ce e.Gens ∧ ISl (Rp.sl (Rp.int .i64)) (bl Z0 ++ A) w bG bH e.Elems ∧ ISl (Rp.int .i64) (bl Z0 ++ A) w bq bt e.Prefix ∧ ISl (Rp.int .i64) (bl Z0 ++ A) w b7 b8 e.Last ∧ ISl (Rp.sl (Rp.int .i64)) (bl Z0 ++ A) w bI bK e.Right ∧ ISl (rpRule) (bl Z0 ++ A) w bM bN e.Rules ∧ Fr (bl []) w0 (bl Z0) w) [.blk B2 (.cells #[.int .i64 e.Points, .bool e.Monoid, .slice cd e.Gens.length ce, .slice bG e.Elems.length bH, .slice bq e.Prefix.length bt, .slice b7 e.Last.length b8, .slice bI e.Right.length bK, .slice bM e.Rules.length bN, .int .i64 e.Done] 29 (0, 0))]) H ⟨⟨rfl, rfl, trivial⟩, hO, aR, aK, aC, aS, aL, aM, hB⟩ ?_
   intro X1 _
   intro H hX1 σ w17
   refine andE fun hag => andE fun hO => andE fun aR => andE fun aK => andE fun aC => andE fun aS => andE fun aL => andE fun aM => fun hB => ?_
   refine Go1.keep [(1, .pointer (some ⟨B2, 0, none⟩)), (4, .pointer none)] hag ?_
   refine zq (zq ?_)
   refine Go1.drawS 0 [(0, .pure), (1, .pure), (2, .pure), (3, .pure), (4, .stable), (5, .pure), (6, .stable), (7, .pure)] mixed (by kernel_rfl) ?_
   intro w18 EQ
   have xe := Stp.same hO EQ
   replace hO := xe.own
   refine GoQ.pure rfl (op_move rfl) rfl rfl ?_
   exact H.elim
  replace H := ifn h16 H
  refine zo (fun w => opB (op_neq rfl rfl w) (ndF h16)) (zn (zt rfl rfl (zq (zr (za rfl ?_)))))
  refine za rfl (zn ?_)
  refine Go1.ret2 Try.func53 rfl ?_
  replace hB := (hB.trans dI.fr).trans iJ.fr
  exact Or.inl ⟨false, rfl, hB.same, H⟩
 ·refine exE fun r7 => exE fun r8 => exE fun gt => exE fun tD => exE fun tE => exE fun tF => exE fun sg => exE fun si => exE fun sj => exE fun sk => exE fun rv => exE fun ry => exE fun rz => exE fun rB => exE fun qn => exE fun tG => exE fun tH => exE fun tI => exE fun sm => exE fun sn => exE fun sq => exE fun sr => exE fun rC => exE fun ss => exE fun su => exE fun sv => exE fun rD => exE fun bC => exE fun xS => exE fun xT => exE fun xU => exE fun wF => exE fun wG => exE fun wH => exE fun wI => exE fun vT => exE fun wJ => exE fun wK => exE fun wL => exE fun vU => andE fun hv21 => andE fun vL => andE fun hN12 => andE fun eQ => andE fun dX => andE fun dW => andE fun eU => andE fun en => andE fun eo => andE fun fy => andE fun fH => andE fun fI => fun H => ?_
  subst hv21
  clear hcase13
  replace H := oElimS H
  have eK := Stp.more hO vL hN12
  dsimp only [List.cons_append, List.nil_append] at eK
  replace hO := eK.own
  replace eQ := eQ.ch (Ch.assoc _ _ _ _)
  dsimp only [List.cons_append, List.nil_append] at eQ
  replace dX := dX.ch (Ch.assoc _ _ _ _)
  dsimp only [List.cons_append, List.nil_append] at dX
  replace dW := dW.ch (Ch.assoc _ _ _ _)
  dsimp only [List.cons_append, List.nil_append] at dW
  replace eU := eU.ch (Ch.assoc _ _ _ _)
  dsimp only [List.cons_append, List.nil_append] at eU
  replace en := en.ch (Ch.assoc _ _ _ _)
  dsimp only [List.cons_append, List.nil_append] at en
  replace eo := eo.ch (Ch.assoc _ _ _ _)
  dsimp only [List.cons_append, List.nil_append] at eo
  replace fy := fy.ch (Ch.assoc _ _ _ _)
  dsimp only [List.cons_append, List.nil_append] at fy
  replace fH := fH.ch (Ch.assoc _ _ _ _)
  dsimp only [List.cons_append, List.nil_append] at fH
  replace fI := fI.ch (Ch.assoc _ _ _ _)
  dsimp only [List.cons_append, List.nil_append] at fI
  refine zm rfl (zo (op_extract rfl rfl) (zo (op_extract rfl rfl) (za rfl (za rfl (zn ?_)))))
  refine zq (zq (zr (zm rfl ?_)))
  by_cases h34 : r8 = (0 : Int)
  ·replace H := ifp h34 H
   refine zo (fun w => opB (op_neq rfl rfl w) (ndT h34)) (zn (zf rfl rfl (zk (zq (zb ?_)))))
   replace aR := aR.ch eK.ch
   replace hB := (hB.trans dI.fr).trans eK.fr
   have Z2 := ((Ch.start A w0).trans dI.ch).trans eK.ch
   replace aK := aK.ch Z2
   replace aC := aC.ch Z2
   replace aS := aS.ch Z2
   replace aL := aL.ch Z2
   replace aM := aM.ch Z2
   refine Go1.loopW (S := Int × Bool × Int × List (List Int) × List (List Int) × List Int × List Int × List (List Int) × List Rule × List Str × List Int × List Int × (List (Str × Int))) (fun s σ w => match s with | (k2_36, b2_37, k2_38, d_39, d_45, d_51, d_57, d_63, d_69, d_75, d_81, d_87, m2_93) => ∃ (n44 : Nat), ∃ (p42 : Option Addr), ∃ (c43 : Nat), ∃ (mE : List Value), ∃ (n50 : Nat), ∃ (p48 : Option Addr), ∃ (c49 : Nat), ∃ (mF : List Value), ∃ (n56 : Nat), ∃ (p54 : Option Addr), ∃ (c55 : Nat), ∃ (mG : List Value), ∃ (n62 : Nat), ∃ (p60 : Option Addr), ∃ (c61 : Nat), ∃ (mH : List Value), ∃ (n68 : Nat), ∃ (p66 : Option Addr), ∃ (c67 : Nat), ∃ (mI : List Value), ∃ (n74 : Nat), ∃ (p72 : Option Addr), ∃ (c73 : Nat), ∃ (mJ : List Value), ∃ (n80 : Nat), ∃ (p78 : Option Addr), ∃ (c79 : Nat), ∃ (mK : List Value), ∃ (n86 : Nat), ∃ (p84 : Option Addr), ∃ (c85 : Nat), ∃ (ik : List Value), ∃ (n92 : Nat), ∃ (p90 : Option Addr), ∃ (c91 : Nat), ∃ (io : List Value), agrees σ [(1, .pointer (some ⟨B2, 0, none⟩)), (4, .pointer (some ⟨gt, 0, none⟩))] ∧ (fun Z0 => Owns w0.heap.size w Z0 A ∧ Els (Rp.sl (Rp.int .i64)) (bl Z0 ++ A) w mE d_39 ∧ Els (Rp.sl (Rp.int .i64)) (bl Z0 ++ A) w mF d_45 ∧ Els (Rp.int .i64) (bl Z0 ++ A) w mG d_51 ∧ Els (Rp.int .i64) (bl Z0 ++ A) w mH d_57 ∧ Els (Rp.sl (Rp.int .i64)) (bl Z0 ++ A) w mI d_63 ∧ Els (rpRule) (bl Z0 ++ A) w mJ d_69 ∧ Els (Rp.str) (bl Z0 ++ A) w mK d_75 ∧ Els (Rp.int .i64) (bl Z0 ++ A) w ik d_81 ∧ Els (Rp.int .i64) (bl Z0 ++ A) w io d_87 ∧ ISl (Rp.sl (Rp.int .i64)) (bl Z0 ++ A) w cd ce e.Gens ∧ ISl (Rp.sl (Rp.int .i64)) (bl Z0 ++ A) w bG bH e.Elems ∧ ISl (Rp.int .i64) (bl Z0 ++ A) w bq bt e.Prefix ∧ ISl (Rp.int .i64) (bl Z0 ++ A) w b7 b8 e.Last ∧ ISl (Rp.sl (Rp.int .i64)) (bl Z0 ++ A) w bI bK e.Right ∧ ISl (rpRule) (bl Z0 ++ A) w bM bN e.Rules ∧ Fr (bl []) w0 (bl Z0) w) [.blk gt (.cells #[.int .i64 k2_36, .bool b2_37, .slice p42 n44 c43, .slice p48 n50 c49, .slice p54 n56 c55, .slice p60 n62 c61, .slice p66 n68 c67, .slice p72 n74 c73, .int .i64 k2_38, .map (some bC), .slice p78 n80 c79, .slice p84 n86 c85, .slice p90 n92 c91] 72 (0, 0)), .row 26 1 p42 n44 c43 mE, .row 26 1 p48 n50 c49 mF, .row 3 1 p54 n56 c55 mG, .row 3 1 p60 n62 c61 mH, .row 26 1 p66 n68 c67 mI, .row 39 2 p72 n74 c73 mJ, .row 9 1 p78 n80 c79 mK, .row 3 1 p84 n86 c85 ik, .row 3 1 p90 n92 c91 io, .any (mapE (fun a : List UInt8 => Value.string (gstr a)) (fun a : Int => Value.int .i64 a) bC m2_93), .blk B2 (.cells #[.int .i64 e.Points, .bool e.Monoid, .slice cd e.Gens.length ce, .slice bG e.Elems.length bH, .slice bq e.Prefix.length bt, .slice b7 e.Last.length b8, .slice bI e.Right.length bK, .slice bM e.Rules.length bN, .int .i64 e.Done] 29 (0, 0))]) H ⟨tD, tE, tF, sg, si, sj, sk, rv, ry, rz, rB, qn, tG, tH, tI, sm, sn, sq, sr, rC, ss, su, sv, rD, xS, xT, xU, wF, wG, wH, wI, vT, wJ, wK, wL, vU, ⟨rfl, rfl, trivial⟩, hO, eQ, dX, dW, eU, en, eo, fy, fH, fI, aR, aK, aC, aS, aL, aM, hB⟩ ?_
   intro X2
   refine prE fun k2_36 => prE fun b2_37 => prE fun k2_38 => prE fun d_39 => prE fun d_45 => prE fun d_51 => prE fun d_57 => prE fun d_63 => prE fun d_69 => prE fun d_75 => prE fun d_81 => prE fun d_87 => fun m2_93 => ?_
   intro H hX2 σ w35
   refine exE fun n44 => exE fun p42 => exE fun c43 => exE fun mE => exE fun n50 => exE fun p48 => exE fun c49 => exE fun mF => exE fun n56 => exE fun p54 => exE fun c55 => exE fun mG => exE fun n62 => exE fun p60 => exE fun c61 => exE fun mH => exE fun n68 => exE fun p66 => exE fun c67 => exE fun mI => exE fun n74 => exE fun p72 => exE fun c73 => exE fun mJ => exE fun n80 => exE fun p78 => exE fun c79 => exE fun mK => exE fun n86 => exE fun p84 => exE fun c85 => exE fun ik => exE fun n92 => exE fun p90 => exE fun c91 => exE fun io => andE fun hag => andE fun hO => andE fun gj => andE fun fX => andE fun f7 => andE fun f8 => andE fun f9 => andE fun gc => andE fun gk => andE fun cP => andE fun di => andE fun aR => andE fun aK => andE fun aC => andE fun aS => andE fun aL => andE fun aM => fun hB => ?_
   dsimp only at H
   refine Go1.keep [(1, .pointer (some ⟨B2, 0, none⟩)), (4, .pointer (some ⟨gt, 0, none⟩))] hag ?_
   refine zq (zq ?_)
   refine Go1.drawS 0 [(0, .pure), (1, .pure), (2, .pure), (3, .pure), (4, .stable), (5, .pure), (6, .stable), (7, .pure)] mixed (by kernel_rfl) ?_
   intro w94 Vr
   have sw := Stp.same hO Vr
   replace hO := sw.own
   refine GoQ.pure rfl (op_move rfl) rfl rfl ?_
   refine GoQ.pure rfl (op_nilCheck rfl) rfl rfl ?_
   refine GoQ.pure rfl (op_fieldAddr Try.underlying72 rfl ti29 rfl (by decide)) rfl rfl ?_
   refine GoQ.pure rfl (op_fieldAddr Try.underlying29 rfl ti3 rfl (by decide)) rfl rfl ?_
   refine GoQ.stable rfl (oblk (i := 8) 0 hO rfl rfl Try.underlying3 rfl rfl) rfl rfl ?_
   refine GoQ.pure rfl (op_fieldAddr Try.underlying29 rfl ti3 rfl (by decide)) rfl rfl ?_
   refine GoQ.stable rfl (oblk (i := 8) 11 hO rfl rfl Try.underlying3 rfl rfl) rfl rfl ?_
   by_cases h97 : k2_38 < e.Done
   ·replace H := ifp h97 H
    refine GoQ.pure rfl (fun w => opB (op_lss rfl rfl w) (decide_eq_true h97)) rfl rfl ?_
    refine GoQ.nil ?_
    refine zt rfl rfl (zk (zb (zq (zr (zm rfl ?_)))))
    refine GoR.inl (vs := [.pointer (some ⟨gt, 0, none⟩)]) (caps := []) rfl rfl body50 Try.func50 rfl Try.ntmps50 rfl rfl rfl ?_
    intro RhR98 hR98
    refine zq (zr (za rfl (zn (zq ?_))))
    refine Go1.drawS 0 [(0, .pure), (1, .pure), (2, .pure), (3, .pure), (4, .stable), (5, .pure), (6, .pure), (7, .pure), (8, .pure), (9, .stable), (10, .pure), (11, .pure), (12, .pure)] mixed (by kernel_rfl) ?_
    intro w99 Hm
    have gO := Stp.same hO Hm
    replace hO := gO.own
    refine GoQ.pure rfl (op_move rfl) rfl rfl ?_
    refine GoQ.pure rfl (op_nilCheck rfl) rfl rfl ?_
    refine GoQ.pure rfl (op_fieldAddr Try.underlying72 rfl ti29 rfl (by decide)) rfl rfl ?_
    refine GoQ.pure rfl (op_fieldAddr Try.underlying29 rfl ti3 rfl (by decide)) rfl rfl ?_
    refine GoQ.stable rfl (oblk (i := 8) 0 hO rfl rfl Try.underlying3 rfl rfl) rfl rfl ?_
    refine GoQ.pure rfl (op_move rfl) rfl rfl ?_
    refine GoQ.pure rfl (op_nilCheck rfl) rfl rfl ?_
    refine GoQ.pure rfl (op_fieldAddr Try.underlying72 rfl ti29 rfl (by decide)) rfl rfl ?_
    refine GoQ.pure rfl (op_fieldAddr Try.underlying29 rfl ti22 rfl (by decide)) rfl rfl ?_
    refine GoQ.stable rfl (oblk (i := 3) 0 hO rfl rfl Try.underlying22 rfl rfl) rfl rfl ?_
    replace fX := (fX.ch sw.ch).ch gO.ch
    refine GoQ.pure rfl (op_lenN Try.underlying22 rfl (fX.neq hO 2 rfl)) rfl rfl ?_
    by_cases xD : k2_38 = (d_45.length : Int)
    ·replace H := ifp xD H
     refine GoQ.pure rfl (fun w => opB (op_eql rfl rfl w) (decide_eq_true xD)) rfl rfl ?_
     refine GoQ.pure rfl (op_assign rfl) rfl rfl ?_
     refine GoQ.nil ?_
     refine Go1.ret1V Try.func50 rfl (show _ = .bool true from rfl) ?_
     refine hR98 _ _ ?_
     refine zm rfl (zp (zp (zp (zo (op_pickT rfl rfl rfl) (zn ?_)))))
     refine zt rfl rfl (zq ?_)
     refine Go1.cut [] trivial ?_
     intro σ _
     refine zr (za rfl (za rfl (zn ?_)))
     refine Go1.ret2 Try.func53 rfl ?_
     replace hB := (hB.trans sw.fr).trans gO.fr
     exact Or.inl ⟨false, rfl, hB.same, H⟩
    replace H := ifn xD H
    refine GoQ.pure rfl (fun w => opB (op_eql rfl rfl w) (decide_eq_false xD)) rfl rfl ?_
    refine GoQ.pure rfl (op_assign rfl) rfl rfl ?_
    refine GoQ.nil ?_
    refine Go1.ret1V Try.func50 rfl (show _ = .bool false from rfl) ?_
    refine hR98 _ _ ?_
    refine zm rfl (zm rfl ?_)
    have Kf : Owns w0.heap.size w99 ([.blk gt (.cells #[.int .i64 k2_36, .bool b2_37, .slice p42 n44 c43, .slice p48 n50 c49, .slice p54 n56 c55, .slice p60 n62 c61, .slice p66 n68 c67, .slice p72 n74 c73, .int .i64 k2_38, .map (some bC), .slice p78 n80 c79, .slice p84 n86 c85, .slice p90 n92 c91] 72 (0, 0)), .row 26 1 p42 n44 c43 mE, .row 26 1 p48 n50 c49 mF, .row 3 1 p54 n56 c55 mG, .row 3 1 p60 n62 c61 mH, .row 26 1 p66 n68 c67 mI, .row 39 2 p72 n74 c73 mJ, .row 9 1 p78 n80 c79 mK, .row 3 1 p84 n86 c85 ik, .row 3 1 p90 n92 c91 io, .any (mapE (fun a : List UInt8 => Value.string (gstr a)) (fun a : Int => Value.int .i64 a) bC m2_93)] ++ [.blk B2 (.cells #[.int .i64 e.Points, .bool e.Monoid, .slice cd e.Gens.length ce, .slice bG e.Elems.length bH, .slice bq e.Prefix.length bt, .slice b7 e.Last.length b8, .slice bI e.Right.length bK, .slice bM e.Rules.length bN, .int .i64 e.Done] 29 (0, 0))]) A := hO
    have Qw := Owns.split Kf
    have hca105 : Ch (bl [.blk gt (.cells #[.int .i64 k2_36, .bool b2_37, .slice p42 n44 c43, .slice p48 n50 c49, .slice p54 n56 c55, .slice p60 n62 c61, .slice p66 n68 c67, .slice p72 n74 c73, .int .i64 k2_38, .map (some bC), .slice p78 n80 c79, .slice p84 n86 c85, .slice p90 n92 c91] 72 (0, 0)), .row 26 1 p42 n44 c43 mE, .row 26 1 p48 n50 c49 mF, .row 3 1 p54 n56 c55 mG, .row 3 1 p60 n62 c61 mH, .row 26 1 p66 n68 c67 mI, .row 39 2 p72 n74 c73 mJ, .row 9 1 p78 n80 c79 mK, .row 3 1 p84 n86 c85 ik, .row 3 1 p90 n92 c91 io, .any (mapE (fun a : List UInt8 => Value.string (gstr a)) (fun a : Int => Value.int .i64 a) bC m2_93), .blk B2 (.cells #[.int .i64 e.Points, .bool e.Monoid, .slice cd e.Gens.length ce, .slice bG e.Elems.length bH, .slice bq e.Prefix.length bt, .slice b7 e.Last.length b8, .slice bI e.Right.length bK, .slice bM e.Rules.length bN, .int .i64 e.Done] 29 (0, 0))] ++ A) w99 (bl [.blk gt (.cells #[.int .i64 k2_36, .bool b2_37, .slice p42 n44 c43, .slice p48 n50 c49, .slice p54 n56 c55, .slice p60 n62 c61, .slice p66 n68 c67, .slice p72 n74 c73, .int .i64 k2_38, .map (some bC), .slice p78 n80 c79, .slice p84 n86 c85, .slice p90 n92 c91] 72 (0, 0)), .row 26 1 p42 n44 c43 mE, .row 26 1 p48 n50 c49 mF, .row 3 1 p54 n56 c55 mG, .row 3 1 p60 n62 c61 mH, .row 26 1 p66 n68 c67 mI, .row 39 2 p72 n74 c73 mJ, .row 9 1 p78 n80 c79 mK, .row 3 1 p84 n86 c85 ik, .row 3 1 p90 n92 c91 io, .any (mapE (fun a : List UInt8 => Value.string (gstr a)) (fun a : Int => Value.int .i64 a) bC m2_93)] ++ (bl [.blk B2 (.cells #[.int .i64 e.Points, .bool e.Monoid, .slice cd e.Gens.length ce, .slice bG e.Elems.length bH, .slice bq e.Prefix.length bt, .slice b7 e.Last.length b8, .slice bI e.Right.length bK, .slice bM e.Rules.length bN, .int .i64 e.Done] 29 (0, 0))] ++ A)) w99 := Ch.assoc' [.blk gt (.cells #[.int .i64 k2_36, .bool b2_37, .slice p42 n44 c43, .slice p48 n50 c49, .slice p54 n56 c55, .slice p60 n62 c61, .slice p66 n68 c67, .slice p72 n74 c73, .int .i64 k2_38, .map (some bC), .slice p78 n80 c79, .slice p84 n86 c85, .slice p90 n92 c91] 72 (0, 0)), .row 26 1 p42 n44 c43 mE, .row 26 1 p48 n50 c49 mF, .row 3 1 p54 n56 c55 mG, .row 3 1 p60 n62 c61 mH, .row 26 1 p66 n68 c67 mI, .row 39 2 p72 n74 c73 mJ, .row 9 1 p78 n80 c79 mK, .row 3 1 p84 n86 c85 ik, .row 3 1 p90 n92 c91 io, .any (mapE (fun a : List UInt8 => Value.string (gstr a)) (fun a : Int => Value.int .i64 a) bC m2_93)] [.blk B2 (.cells #[.int .i64 e.Points, .bool e.Monoid, .slice cd e.Gens.length ce, .slice bG e.Elems.length bH, .slice bq e.Prefix.length bt, .slice b7 e.Last.length b8, .slice bI e.Right.length bK, .slice bM e.Rules.length bN, .int .i64 e.Done] 29 (0, 0))] A w99
    have Z3 := sw.ch.trans gO.ch
    replace gj := gj.ch Z3
    replace f7 := f7.ch Z3
    replace f8 := f8.ch Z3
    replace f9 := f9.ch Z3
    replace gc := gc.ch Z3
    replace gk := gk.ch Z3
    replace cP := cP.ch Z3
    replace di := di.ch Z3
    refine GoR.call (op_call body51 rfl (walk_enumerate_run_process (a0 := (⟨(⟨k2_36, b2_37, d_39, d_45, d_51, d_57, d_63, d_69, k2_38⟩ : Enum), m2_93, d_75, d_81, d_87⟩ : run)) Qw (gj.ch hca105) (fX.ch hca105) (f7.ch hca105) (f8.ch hca105) (f9.ch hca105) (gc.ch hca105) (gk.ch hca105) (cP.ch hca105) (di.ch hca105) H)) rfl rfl ?_
    intro abr Ho
    refine exE fun r106 => exE fun q107 => exE fun kq => exE fun kr => exE fun ks => exE fun qs => exE fun jK => exE fun jL => exE fun jM => exE fun pK => exE fun ji => exE fun jj => exE fun jk => exE fun oQ => exE fun kt => exE fun ku => exE fun kw => exE fun qt => exE fun jN => exE fun jO => exE fun jP => exE fun pM => exE fun jQ => exE fun jR => exE fun jS => exE fun pN => exE fun nV => exE fun nW => exE fun nX => exE fun vb => exE fun mo => exE fun mp => exE fun mq => exE fun tP => exE fun mr => exE fun ms => exE fun mt => exE fun tQ => andE fun hv113 => andE fun hN110 => andE fun wz => andE fun vW => andE fun vm => andE fun wA => andE fun vX => andE fun vY => andE fun zJ => andE fun yy => andE fun yz => andE fun hF111 => fun H => ?_
    subst hv113
    have zi : Stp w0.heap.size A w99 [.blk gt (.cells #[.int .i64 k2_36, .bool b2_37, .slice p42 n44 c43, .slice p48 n50 c49, .slice p54 n56 c55, .slice p60 n62 c61, .slice p66 n68 c67, .slice p72 n74 c73, .int .i64 k2_38, .map (some bC), .slice p78 n80 c79, .slice p84 n86 c85, .slice p90 n92 c91] 72 (0, 0)), .row 26 1 p42 n44 c43 mE, .row 26 1 p48 n50 c49 mF, .row 3 1 p54 n56 c55 mG, .row 3 1 p60 n62 c61 mH, .row 26 1 p66 n68 c67 mI, .row 39 2 p72 n74 c73 mJ, .row 9 1 p78 n80 c79 mK, .row 3 1 p84 n86 c85 ik, .row 3 1 p90 n92 c91 io, .any (mapE (fun a : List UInt8 => Value.string (gstr a)) (fun a : Int => Value.int .i64 a) bC m2_93), .blk B2 (.cells #[.int .i64 e.Points, .bool e.Monoid, .slice cd e.Gens.length ce, .slice bG e.Elems.length bH, .slice bq e.Prefix.length bt, .slice b7 e.Last.length b8, .slice bI e.Right.length bK, .slice bM e.Rules.length bN, .int .i64 e.Done] 29 (0, 0))] Ho [.blk gt (.cells #[.int .i64 q107.Enum.Points, .bool q107.Enum.Monoid, .slice kr kq ks, .slice jL jK jM, .slice jj ji jk, .slice ku kt kw, .slice jO jN jP, .slice jR jQ jS, .int .i64 q107.Enum.Done, .map (some bC), .slice nW nV nX, .slice mp mo mq, .slice ms mr mt] 72 (0, 0)), .row 26 1 kr kq ks qs, .row 26 1 jL jK jM pK, .row 3 1 jj ji jk oQ, .row 3 1 ku kt kw qt, .row 26 1 jO jN jP pM, .row 39 2 jR jQ jS pN, .row 9 1 nW nV nX vb, .row 3 1 mp mo mq tP, .row 3 1 ms mr mt tQ, .any (mapE (fun a : List UInt8 => Value.string (gstr a)) (fun a : Int => Value.int .i64 a) bC q107.number), .blk B2 (.cells #[.int .i64 e.Points, .bool e.Monoid, .slice cd e.Gens.length ce, .slice bG e.Elems.length bH, .slice bq e.Prefix.length bt, .slice b7 e.Last.length b8, .slice bI e.Right.length bK, .slice bM e.Rules.length bN, .int .i64 e.Done] 29 (0, 0))] := Stp.join Kf hN110 hF111
    replace hO := zi.own
    have hca114 : Ch (bl [.blk gt (.cells #[.int .i64 q107.Enum.Points, .bool q107.Enum.Monoid, .slice kr kq ks, .slice jL jK jM, .slice jj ji jk, .slice ku kt kw, .slice jO jN jP, .slice jR jQ jS, .int .i64 q107.Enum.Done, .map (some bC), .slice nW nV nX, .slice mp mo mq, .slice ms mr mt] 72 (0, 0)), .row 26 1 kr kq ks qs, .row 26 1 jL jK jM pK, .row 3 1 jj ji jk oQ, .row 3 1 ku kt kw qt, .row 26 1 jO jN jP pM, .row 39 2 jR jQ jS pN, .row 9 1 nW nV nX vb, .row 3 1 mp mo mq tP, .row 3 1 ms mr mt tQ, .any (mapE (fun a : List UInt8 => Value.string (gstr a)) (fun a : Int => Value.int .i64 a) bC q107.number)] ++ (bl [.blk B2 (.cells #[.int .i64 e.Points, .bool e.Monoid, .slice cd e.Gens.length ce, .slice bG e.Elems.length bH, .slice bq e.Prefix.length bt, .slice b7 e.Last.length b8, .slice bI e.Right.length bK, .slice bM e.Rules.length bN, .int .i64 e.Done] 29 (0, 0))] ++ A)) Ho (bl [.blk gt (.cells #[.int .i64 q107.Enum.Points, .bool q107.Enum.Monoid, .slice kr kq ks, .slice jL jK jM, .slice jj ji jk, .slice ku kt kw, .slice jO jN jP, .slice jR jQ jS, .int .i64 q107.Enum.Done, .map (some bC), .slice nW nV nX, .slice mp mo mq, .slice ms mr mt] 72 (0, 0)), .row 26 1 kr kq ks qs, .row 26 1 jL jK jM pK, .row 3 1 jj ji jk oQ, .row 3 1 ku kt kw qt, .row 26 1 jO jN jP pM, .row 39 2 jR jQ jS pN, .row 9 1 nW nV nX vb, .row 3 1 mp mo mq tP, .row 3 1 ms mr mt tQ, .any (mapE (fun a : List UInt8 => Value.string (gstr a)) (fun a : Int => Value.int .i64 a) bC q107.number), .blk B2 (.cells #[.int .i64 e.Points, .bool e.Monoid, .slice cd e.Gens.length ce, .slice bG e.Elems.length bH, .slice bq e.Prefix.length bt, .slice b7 e.Last.length b8, .slice bI e.Right.length bK, .slice bM e.Rules.length bN, .int .i64 e.Done] 29 (0, 0))] ++ A) Ho := Ch.assoc [.blk gt (.cells #[.int .i64 q107.Enum.Points, .bool q107.Enum.Monoid, .slice kr kq ks, .slice jL jK jM, .slice jj ji jk, .slice ku kt kw, .slice jO jN jP, .slice jR jQ jS, .int .i64 q107.Enum.Done, .map (some bC), .slice nW nV nX, .slice mp mo mq, .slice ms mr mt] 72 (0, 0)), .row 26 1 kr kq ks qs, .row 26 1 jL jK jM pK, .row 3 1 jj ji jk oQ, .row 3 1 ku kt kw qt, .row 26 1 jO jN jP pM, .row 39 2 jR jQ jS pN, .row 9 1 nW nV nX vb, .row 3 1 mp mo mq tP, .row 3 1 ms mr mt tQ, .any (mapE (fun a : List UInt8 => Value.string (gstr a)) (fun a : Int => Value.int .i64 a) bC q107.number)] [.blk B2 (.cells #[.int .i64 e.Points, .bool e.Monoid, .slice cd e.Gens.length ce, .slice bG e.Elems.length bH, .slice bq e.Prefix.length bt, .slice b7 e.Last.length b8, .slice bI e.Right.length bK, .slice bM e.Rules.length bN, .int .i64 e.Done] 29 (0, 0))] A Ho
    by_cases yp : r106 = (0 : Int)
    ·replace H := ifp yp H
     refine zo (fun w => opB (op_neq rfl rfl w) (ndT yp)) (zo (op_pickF rfl rfl rfl) (zn (zf rfl rfl (zk ?_))))
     refine Go1.inBlock ?_
     replace wz := wz.ch hca114
     replace vW := vW.ch hca114
     replace vm := vm.ch hca114
     replace wA := wA.ch hca114
     replace vX := vX.ch hca114
     replace vY := vY.ch hca114
     replace zJ := zJ.ch hca114
     replace yy := yy.ch hca114
     replace yz := yz.ch hca114
     have Z4 := Z3.trans zi.ch
     replace aR := aR.ch Z4
     replace aK := aK.ch Z4
     replace aC := aC.ch Z4
     replace aS := aS.ch Z4
     replace aL := aL.ch Z4
     replace aM := aM.ch Z4
     replace hB := ((hB.trans sw.fr).trans gO.fr).trans zi.fr
     exact hX2 _ H _ _ ⟨kq, kr, ks, qs, jK, jL, jM, pK, ji, jj, jk, oQ, kt, ku, kw, qt, jN, jO, jP, pM, jQ, jR, jS, pN, nV, nW, nX, vb, mo, mp, mq, tP, mr, ms, mt, tQ, ⟨rfl, rfl, trivial⟩, hO, wz, vW, vm, wA, vX, vY, zJ, yy, yz, aR, aK, aC, aS, aL, aM, hB⟩
    replace H := ifn yp H
    refine zo (fun w => opB (op_neq rfl rfl w) (ndF yp)) (zo (op_pickF rfl rfl rfl) (zn (zt rfl rfl (zq (zr ?_)))))
    refine za rfl (za rfl (zn ?_))
    refine Go1.ret2 Try.func53 rfl ?_
    replace hB := ((hB.trans sw.fr).trans gO.fr).trans zi.fr
    exact Or.inl ⟨false, rfl, hB.same, H⟩
   replace H := ifn h97 H
   refine GoQ.pure rfl (fun w => opB (op_lss rfl rfl w) (decide_eq_false h97)) rfl rfl ?_
   refine GoQ.nil ?_
   refine zf rfl rfl ?_
   refine Go1.exit rfl ?_
   refine zq (zr (zm rfl (zm rfl (zs (oblkAgg (vs := [.int .i64 e.Points, .bool e.Monoid, .slice cd e.Gens.length ce, .slice bG e.Elems.length bH, .slice bq e.Prefix.length bt, .slice b7 e.Last.length b8, .slice bI e.Right.length bK, .slice bM e.Rules.length bN, .int .i64 e.Done]) (i := 0) 11 hO rfl rfl Try.underlying29 rfl ti29 rfl) ?_))))
   refine GoR.inl (vs := [.pointer (some ⟨gt, 0, none⟩), .agg #[.int .i64 e.Points, .bool e.Monoid, .slice cd e.Gens.length ce, .slice bG e.Elems.length bH, .slice bq e.Prefix.length bt, .slice b7 e.Last.length b8, .slice bI e.Right.length bK, .slice bM e.Rules.length bN, .int .i64 e.Done]]) (caps := []) rfl rfl body68 Try.func68 rfl Try.ntmps68 rfl rfl rfl ?_
   intro RhR116 hR116
   refine zq (zr ?_)
   have hobt := obox (t := 29) (v := .agg #[.int .i64 e.Points, .bool e.Monoid, .slice cd e.Gens.length ce, .slice bG e.Elems.length bH, .slice bq e.Prefix.length bt, .slice b7 e.Last.length b8, .slice bI e.Right.length bK, .slice bM e.Rules.length bN, .int .i64 e.Done]) (cs := #[.int .i64 e.Points, .bool e.Monoid, .slice cd e.Gens.length ce, .slice bG e.Elems.length bH, .slice bq e.Prefix.length bt, .slice b7 e.Last.length b8, .slice bI e.Right.length bK, .slice bM e.Rules.length bN, .int .i64 e.Done]) hO rfl
   obtain ⟨Vs, B118, pO, XH, MM⟩ := hobt
   refine zg (MM rfl) ?_
   replace hO := pO.own
   refine za rfl (zn (zq ?_))
   refine Go1.drawS 0 [(0, .pure), (1, .pure), (2, .pure), (3, .pure), (4, .stable), (5, .pure), (6, .stable), (7, .pure), (8, .pure), (9, .pure), (10, .pure), (11, .pure), (12, .pure), (13, .stable), (14, .pure), (15, .stable), (16, .pure), (17, .pure), (18, .pure), (19, .pure), (20, .pure), (21, .pure), (22, .pure), (23, .stable), (24, .pure), (25, .stable), (26, .loud), (27, .pure), (28, .pure), (29, .pure), (30, .pure), (31, .pure), (32, .pure), (33, .stable), (34, .pure), (35, .stable), (36, .loud), (37, .pure), (38, .pure), (39, .pure), (40, .pure), (41, .pure), (42, .pure), (43, .stable), (44, .pure), (45, .stable), (46, .loud), (47, .pure), (48, .pure), (49, .pure), (50, .pure), (51, .pure), (52, .pure), (53, .stable), (54, .pure), (55, .stable), (56, .loud), (57, .pure), (58, .pure), (59, .pure), (60, .pure), (61, .pure), (62, .pure), (63, .stable), (64, .pure), (65, .stable), (66, .loud), (67, .pure), (68, .pure)] mixed (by kernel_rfl) ?_
   intro abs Qx
   have pP := Stp.same hO Qx
   replace hO := pP.own
   refine GoQ.pure rfl (op_move rfl) rfl rfl ?_
   refine GoQ.pure rfl (op_nilCheck rfl) rfl rfl ?_
   refine GoQ.pure rfl (op_fieldAddr Try.underlying72 rfl ti29 rfl (by decide)) rfl rfl ?_
   refine GoQ.pure rfl (op_fieldAddr Try.underlying29 rfl ti3 rfl (by decide)) rfl rfl ?_
   refine GoQ.stable rfl (oblk (i := 0) 1 hO rfl rfl Try.underlying3 rfl rfl) rfl rfl ?_
   refine GoQ.pure rfl (op_fieldAddr Try.underlying29 rfl ti3 rfl (by decide)) rfl rfl ?_
   refine GoQ.stable rfl (oblk (i := 0) 0 hO rfl rfl Try.underlying3 rfl rfl) rfl rfl ?_
   by_cases CO : k2_36 = e.Points
   ·replace H := ifp CO H
    refine GoQ.pure rfl (fun w => opB (op_eql rfl rfl w) (decide_eq_true CO)) rfl rfl ?_
    refine GoQ.pure rfl (op_move rfl) rfl rfl ?_
    refine GoQ.pure rfl (op_move rfl) rfl rfl ?_
    refine GoQ.pure rfl (op_nilCheck rfl) rfl rfl ?_
    refine GoQ.pure rfl (op_fieldAddr Try.underlying72 rfl ti29 rfl (by decide)) rfl rfl ?_
    refine GoQ.pure rfl (op_fieldAddr Try.underlying29 rfl ti3 rfl (by decide)) rfl rfl ?_
    refine GoQ.stable rfl (oblk (i := 8) 1 hO rfl rfl Try.underlying3 rfl rfl) rfl rfl ?_
    refine GoQ.pure rfl (op_fieldAddr Try.underlying29 rfl ti3 rfl (by decide)) rfl rfl ?_
    refine GoQ.stable rfl (oblk (i := 8) 0 hO rfl rfl Try.underlying3 rfl rfl) rfl rfl ?_
    by_cases CP : k2_38 = e.Done
    ·replace H := ifp CP H
     refine GoQ.pure rfl (fun w => opB (op_eql rfl rfl w) (decide_eq_true CP)) rfl rfl ?_
     refine GoQ.pure rfl (op_pickT rfl rfl rfl) rfl rfl ?_
     refine GoQ.pure rfl (op_move rfl) rfl rfl ?_
     refine GoQ.pure rfl (op_move rfl) rfl rfl ?_
     refine GoQ.pure rfl (op_nilCheck rfl) rfl rfl ?_
     refine GoQ.pure rfl (op_fieldAddr Try.underlying72 rfl ti29 rfl (by decide)) rfl rfl ?_
     refine GoQ.pure rfl (op_fieldAddr Try.underlying29 rfl ti22 rfl (by decide)) rfl rfl ?_
     refine GoQ.stable rfl (oblk (i := 3) 1 hO rfl rfl Try.underlying22 rfl rfl) rfl rfl ?_
     refine GoQ.pure rfl (op_fieldAddr Try.underlying29 rfl ti22 rfl (by decide)) rfl rfl ?_
     refine GoQ.stable rfl (oblk (i := 3) 0 hO rfl rfl Try.underlying22 rfl rfl) rfl rfl ?_
     have Z5 := (sw.ch.trans pO.ch).trans pP.ch
     replace fX := fX.ch Z5
     have hobt := rowlend 3 hO rfl fX
     obtain ⟨Qy, Qz⟩ := hobt
     have hOc130 := hO.drop 3
     replace aK := aK.ch Z5
     refine GoQ.call rfl (op_call body69 (show ([.slice p48 n50 c49, .slice bG e.Elems.length bH, .func (.func 70) #[] #[]] : List Value) = [.slice p48 d_45.length c49, .slice bG e.Elems.length bH, .func (.func 70) #[] #[]] from by rw [← Qz]) (walk_slices_EqualFunc_int hOc130.lt Qy (aK.ch (Owns.dropCh _ _ 3)) H)) (fun v w hr => by obtain ⟨_, _, hs, _⟩ := hr; assumption) rfl rfl ?_
     rintro abt abu ⟨r131, rfl, QA, H⟩
     have pQ := Stp.same hO QA
     replace hO := pQ.own
     refine GoQ.pure rfl (op_pickT rfl rfl rfl) rfl rfl ?_
     refine GoQ.pure rfl (op_move rfl) rfl rfl ?_
     cases r131
     ·replace H := ifn Bool.false_ne_true H
      refine GoQ.pass rfl rfl rfl ?_
      refine GoQ.pass rfl rfl rfl ?_
      refine GoQ.pass rfl rfl rfl ?_
      refine GoQ.pass rfl rfl rfl ?_
      refine GoQ.pass rfl rfl rfl ?_
      refine GoQ.pass rfl rfl rfl ?_
      refine GoQ.pass rfl rfl rfl ?_
      refine GoQ.pass rfl rfl rfl ?_
      refine GoQ.pure rfl (op_pickF rfl rfl rfl) rfl rfl ?_
      refine GoQ.pure rfl (op_move rfl) rfl rfl ?_
      refine GoQ.pass rfl rfl rfl ?_
      refine GoQ.pass rfl rfl rfl ?_
      refine GoQ.pass rfl rfl rfl ?_
      refine GoQ.pass rfl rfl rfl ?_
      refine GoQ.pass rfl rfl rfl ?_
      refine GoQ.pass rfl rfl rfl ?_
      refine GoQ.pass rfl rfl rfl ?_
      refine GoQ.pass rfl rfl rfl ?_
      refine GoQ.pure rfl (op_pickF rfl rfl rfl) rfl rfl ?_
      refine GoQ.pure rfl (op_move rfl) rfl rfl ?_
      refine GoQ.pass rfl rfl rfl ?_
      refine GoQ.pass rfl rfl rfl ?_
      refine GoQ.pass rfl rfl rfl ?_
      refine GoQ.pass rfl rfl rfl ?_
      refine GoQ.pass rfl rfl rfl ?_
      refine GoQ.pass rfl rfl rfl ?_
      refine GoQ.pass rfl rfl rfl ?_
      refine GoQ.pass rfl rfl rfl ?_
      refine GoQ.pure rfl (op_pickF rfl rfl rfl) rfl rfl ?_
      refine GoQ.pure rfl (op_move rfl) rfl rfl ?_
      refine GoQ.pass rfl rfl rfl ?_
      refine GoQ.pass rfl rfl rfl ?_
      refine GoQ.pass rfl rfl rfl ?_
      refine GoQ.pass rfl rfl rfl ?_
      refine GoQ.pass rfl rfl rfl ?_
      refine GoQ.pass rfl rfl rfl ?_
      refine GoQ.pass rfl rfl rfl ?_
      refine GoQ.pass rfl rfl rfl ?_
      refine GoQ.pure rfl (op_pickF rfl rfl rfl) rfl rfl ?_
      refine GoQ.pure rfl (op_assign rfl) rfl rfl ?_
      refine GoQ.nil ?_
      refine Go1.ret1V Try.func68 rfl (show _ = .bool false from rfl) ?_
      refine hR116 _ _ ?_
      refine za rfl (za rfl (zn ?_))
      replace hO := hO.drop 0
      have Z6 := pQ.ch.trans (Owns.dropCh _ _ 0)
      replace fX := fX.ch Z6
      replace aK := aK.ch Z6
      have Z7 := (Z5.trans pQ.ch).trans (Owns.dropCh _ _ 0)
      replace gj := gj.ch Z7
      replace f7 := f7.ch Z7
      replace f8 := f8.ch Z7
      replace f9 := f9.ch Z7
      replace gc := gc.ch Z7
      replace gk := gk.ch Z7
      replace cP := cP.ch Z7
      replace di := di.ch Z7
      replace aR := aR.ch Z7
      replace aC := aC.ch Z7
      replace aS := aS.ch Z7
      replace aL := aL.ch Z7
      replace aM := aM.ch Z7
      replace hB := ((((hB.trans sw.fr).trans pO.fr).trans pP.fr).trans pQ.fr).trans (Owns.dropFr _ _ 0)
      dsimp only [eS, eZ] at hB hO aR aK aC aS aL aM gj fX f7 f8 f9 gc gk cP di
      replace hO := hO.drop 11
      replace aR := aR.ch (Owns.dropCh _ _ 11)
      replace aK := aK.ch (Owns.dropCh _ _ 11)
      replace aC := aC.ch (Owns.dropCh _ _ 11)
      replace aS := aS.ch (Owns.dropCh _ _ 11)
      replace aL := aL.ch (Owns.dropCh _ _ 11)
      replace aM := aM.ch (Owns.dropCh _ _ 11)
      replace gj := gj.ch (Owns.dropCh _ _ 11)
      replace fX := fX.ch (Owns.dropCh _ _ 11)
      replace f7 := f7.ch (Owns.dropCh _ _ 11)
      replace f8 := f8.ch (Owns.dropCh _ _ 11)
      replace f9 := f9.ch (Owns.dropCh _ _ 11)
      replace gc := gc.ch (Owns.dropCh _ _ 11)
      replace gk := gk.ch (Owns.dropCh _ _ 11)
      replace cP := cP.ch (Owns.dropCh _ _ 11)
      replace di := di.ch (Owns.dropCh _ _ 11)
      replace hB := hB.trans (Owns.dropFr _ _ 11)
      dsimp only [eS, eZ] at hB hO aR aK aC aS aL aM gj fX f7 f8 f9 gc gk cP di
      refine Go1.ret2 Try.func53 rfl ?_
      exact Or.inr ⟨(⟨(⟨k2_36, b2_37, d_39, d_45, d_51, d_57, d_63, d_69, k2_38⟩ : Enum), m2_93, d_75, d_81, d_87⟩ : run), false, gt, n44, p42, c43, mE, n50, p48, c49, mF, n56, p54, c55, mG, n62, p60, c61, mH, n68, p66, c67, mI, n74, p72, c73, mJ, bC, n80, p78, c79, mK, n86, p84, c85, ik, n92, p90, c91, io, rfl, hB.same, hO, gj, fX, f7, f8, f9, gc, gk, cP, di, H⟩
     replace H := ifp rfl H
     refine GoQ.pure rfl (op_move rfl) rfl rfl ?_
     refine GoQ.pure rfl (op_nilCheck rfl) rfl rfl ?_
     refine GoQ.pure rfl (op_fieldAddr Try.underlying72 rfl ti29 rfl (by decide)) rfl rfl ?_
     refine GoQ.pure rfl (op_fieldAddr Try.underlying29 rfl ti26 rfl (by decide)) rfl rfl ?_
     refine GoQ.stable rfl (oblk (i := 4) 1 hO rfl rfl Try.underlying26 rfl rfl) rfl rfl ?_
     refine GoQ.pure rfl (op_fieldAddr Try.underlying29 rfl ti26 rfl (by decide)) rfl rfl ?_
     refine GoQ.stable rfl (oblk (i := 4) 0 hO rfl rfl Try.underlying26 rfl rfl) rfl rfl ?_
     replace f7 := (f7.ch Z5).ch pQ.ch
     have hobt := rowlend 4 hO rfl f7
     obtain ⟨Eo, Hp⟩ := hobt
     have hOc139 := hO.drop 4
     replace aC := (aC.ch Z5).ch pQ.ch
     refine GoQ.call rfl (op_call body70 (show ([.slice p54 n56 c55, .slice bq e.Prefix.length bt] : List Value) = [.slice p54 d_51.length c55, .slice bq e.Prefix.length bt] from by rw [← Hp]) (walk_slices_Equal_int hOc139.lt Eo (aC.ch (Owns.dropCh _ _ 4)) H)) (fun v w hr => by obtain ⟨_, _, hs, _⟩ := hr; assumption) rfl rfl ?_
     rintro abv abw ⟨r140, rfl, QB, H⟩
     have hV := Stp.same hO QB
     replace hO := hV.own
     refine GoQ.pure rfl (op_pickT rfl rfl rfl) rfl rfl ?_
     refine GoQ.pure rfl (op_move rfl) rfl rfl ?_
     cases r140
     ·replace H := ifn Bool.false_ne_true H
      refine GoQ.pass rfl rfl rfl ?_
      refine GoQ.pass rfl rfl rfl ?_
      refine GoQ.pass rfl rfl rfl ?_
      refine GoQ.pass rfl rfl rfl ?_
      refine GoQ.pass rfl rfl rfl ?_
      refine GoQ.pass rfl rfl rfl ?_
      refine GoQ.pass rfl rfl rfl ?_
      refine GoQ.pass rfl rfl rfl ?_
      refine GoQ.pure rfl (op_pickF rfl rfl rfl) rfl rfl ?_
      refine GoQ.pure rfl (op_move rfl) rfl rfl ?_
      refine GoQ.pass rfl rfl rfl ?_
      refine GoQ.pass rfl rfl rfl ?_
      refine GoQ.pass rfl rfl rfl ?_
      refine GoQ.pass rfl rfl rfl ?_
      refine GoQ.pass rfl rfl rfl ?_
      refine GoQ.pass rfl rfl rfl ?_
      refine GoQ.pass rfl rfl rfl ?_
      refine GoQ.pass rfl rfl rfl ?_
      refine GoQ.pure rfl (op_pickF rfl rfl rfl) rfl rfl ?_
      refine GoQ.pure rfl (op_move rfl) rfl rfl ?_
      refine GoQ.pass rfl rfl rfl ?_
      refine GoQ.pass rfl rfl rfl ?_
      refine GoQ.pass rfl rfl rfl ?_
      refine GoQ.pass rfl rfl rfl ?_
      refine GoQ.pass rfl rfl rfl ?_
      refine GoQ.pass rfl rfl rfl ?_
      refine GoQ.pass rfl rfl rfl ?_
      refine GoQ.pass rfl rfl rfl ?_
      refine GoQ.pure rfl (op_pickF rfl rfl rfl) rfl rfl ?_
      refine GoQ.pure rfl (op_assign rfl) rfl rfl ?_
      refine GoQ.nil ?_
      refine Go1.ret1V Try.func68 rfl (show _ = .bool false from rfl) ?_
      refine hR116 _ _ ?_
      refine za rfl (za rfl (zn ?_))
      replace hO := hO.drop 0
      have Z8 := hV.ch.trans (Owns.dropCh _ _ 0)
      replace f7 := f7.ch Z8
      replace aC := aC.ch Z8
      have Z9 := (pQ.ch.trans hV.ch).trans (Owns.dropCh _ _ 0)
      replace fX := fX.ch Z9
      replace aK := aK.ch Z9
      have Z10 := ((Z5.trans pQ.ch).trans hV.ch).trans (Owns.dropCh _ _ 0)
      replace gj := gj.ch Z10
      replace f8 := f8.ch Z10
      replace f9 := f9.ch Z10
      replace gc := gc.ch Z10
      replace gk := gk.ch Z10
      replace cP := cP.ch Z10
      replace di := di.ch Z10
      replace aR := aR.ch Z10
      replace aS := aS.ch Z10
      replace aL := aL.ch Z10
      replace aM := aM.ch Z10
      replace hB := (((((hB.trans sw.fr).trans pO.fr).trans pP.fr).trans pQ.fr).trans hV.fr).trans (Owns.dropFr _ _ 0)
      dsimp only [eS, eZ] at hB hO aR aK aC aS aL aM gj fX f7 f8 f9 gc gk cP di
      replace hO := hO.drop 11
      replace aR := aR.ch (Owns.dropCh _ _ 11)
      replace aK := aK.ch (Owns.dropCh _ _ 11)
      replace aC := aC.ch (Owns.dropCh _ _ 11)
      replace aS := aS.ch (Owns.dropCh _ _ 11)
      replace aL := aL.ch (Owns.dropCh _ _ 11)
      replace aM := aM.ch (Owns.dropCh _ _ 11)
      replace gj := gj.ch (Owns.dropCh _ _ 11)
      replace fX := fX.ch (Owns.dropCh _ _ 11)
      replace f7 := f7.ch (Owns.dropCh _ _ 11)
      replace f8 := f8.ch (Owns.dropCh _ _ 11)
      replace f9 := f9.ch (Owns.dropCh _ _ 11)
      replace gc := gc.ch (Owns.dropCh _ _ 11)
      replace gk := gk.ch (Owns.dropCh _ _ 11)
      replace cP := cP.ch (Owns.dropCh _ _ 11)
      replace di := di.ch (Owns.dropCh _ _ 11)
      replace hB := hB.trans (Owns.dropFr _ _ 11)
      dsimp only [eS, eZ] at hB hO aR aK aC aS aL aM gj fX f7 f8 f9 gc gk cP di
      refine Go1.ret2 Try.func53 rfl ?_
      exact Or.inr ⟨(⟨(⟨k2_36, b2_37, d_39, d_45, d_51, d_57, d_63, d_69, k2_38⟩ : Enum), m2_93, d_75, d_81, d_87⟩ : run), false, gt, n44, p42, c43, mE, n50, p48, c49, mF, n56, p54, c55, mG, n62, p60, c61, mH, n68, p66, c67, mI, n74, p72, c73, mJ, bC, n80, p78, c79, mK, n86, p84, c85, ik, n92, p90, c91, io, rfl, hB.same, hO, gj, fX, f7, f8, f9, gc, gk, cP, di, H⟩
     replace H := ifp rfl H
     refine GoQ.pure rfl (op_move rfl) rfl rfl ?_
     refine GoQ.pure rfl (op_nilCheck rfl) rfl rfl ?_
     refine GoQ.pure rfl (op_fieldAddr Try.underlying72 rfl ti29 rfl (by decide)) rfl rfl ?_
     refine GoQ.pure rfl (op_fieldAddr Try.underlying29 rfl ti26 rfl (by decide)) rfl rfl ?_
     refine GoQ.stable rfl (oblk (i := 5) 1 hO rfl rfl Try.underlying26 rfl rfl) rfl rfl ?_
     refine GoQ.pure rfl (op_fieldAddr Try.underlying29 rfl ti26 rfl (by decide)) rfl rfl ?_
     refine GoQ.stable rfl (oblk (i := 5) 0 hO rfl rfl Try.underlying26 rfl rfl) rfl rfl ?_
     replace f8 := ((f8.ch Z5).ch pQ.ch).ch hV.ch
     have hobt := rowlend 5 hO rfl f8
     obtain ⟨QC, QD⟩ := hobt
     have hOc148 := hO.drop 5
     replace aS := ((aS.ch Z5).ch pQ.ch).ch hV.ch
     refine GoQ.call rfl (op_call body70 (show ([.slice p60 n62 c61, .slice b7 e.Last.length b8] : List Value) = [.slice p60 d_57.length c61, .slice b7 e.Last.length b8] from by rw [← QD]) (walk_slices_Equal_int hOc148.lt QC (aS.ch (Owns.dropCh _ _ 5)) H)) (fun v w hr => by obtain ⟨_, _, hs, _⟩ := hr; assumption) rfl rfl ?_
     rintro abx UX ⟨r149, rfl, QE, H⟩
     have kg := Stp.same hO QE
     replace hO := kg.own
     refine GoQ.pure rfl (op_pickT rfl rfl rfl) rfl rfl ?_
     refine GoQ.pure rfl (op_move rfl) rfl rfl ?_
     cases r149
     ·replace H := ifn Bool.false_ne_true H
      refine GoQ.pass rfl rfl rfl ?_
      refine GoQ.pass rfl rfl rfl ?_
      refine GoQ.pass rfl rfl rfl ?_
      refine GoQ.pass rfl rfl rfl ?_
      refine GoQ.pass rfl rfl rfl ?_
      refine GoQ.pass rfl rfl rfl ?_
      refine GoQ.pass rfl rfl rfl ?_
      refine GoQ.pass rfl rfl rfl ?_
      refine GoQ.pure rfl (op_pickF rfl rfl rfl) rfl rfl ?_
      refine GoQ.pure rfl (op_move rfl) rfl rfl ?_
      refine GoQ.pass rfl rfl rfl ?_
      refine GoQ.pass rfl rfl rfl ?_
      refine GoQ.pass rfl rfl rfl ?_
      refine GoQ.pass rfl rfl rfl ?_
      refine GoQ.pass rfl rfl rfl ?_
      refine GoQ.pass rfl rfl rfl ?_
      refine GoQ.pass rfl rfl rfl ?_
      refine GoQ.pass rfl rfl rfl ?_
      refine GoQ.pure rfl (op_pickF rfl rfl rfl) rfl rfl ?_
      refine GoQ.pure rfl (op_assign rfl) rfl rfl ?_
      refine GoQ.nil ?_
      refine Go1.ret1V Try.func68 rfl (show _ = .bool false from rfl) ?_
      refine hR116 _ _ ?_
      refine za rfl (za rfl (zn ?_))
      replace hO := hO.drop 0
      have Z11 := kg.ch.trans (Owns.dropCh _ _ 0)
      replace f8 := f8.ch Z11
      replace aS := aS.ch Z11
      have Z12 := (hV.ch.trans kg.ch).trans (Owns.dropCh _ _ 0)
      replace f7 := f7.ch Z12
      replace aC := aC.ch Z12
      have Z13 := ((pQ.ch.trans hV.ch).trans kg.ch).trans (Owns.dropCh _ _ 0)
      replace fX := fX.ch Z13
      replace aK := aK.ch Z13
      have Z14 := (((Z5.trans pQ.ch).trans hV.ch).trans kg.ch).trans (Owns.dropCh _ _ 0)
      replace gj := gj.ch Z14
      replace f9 := f9.ch Z14
      replace gc := gc.ch Z14
      replace gk := gk.ch Z14
      replace cP := cP.ch Z14
      replace di := di.ch Z14
      replace aR := aR.ch Z14
      replace aL := aL.ch Z14
      replace aM := aM.ch Z14
      replace hB := ((((((hB.trans sw.fr).trans pO.fr).trans pP.fr).trans pQ.fr).trans hV.fr).trans kg.fr).trans (Owns.dropFr _ _ 0)
      dsimp only [eS, eZ] at hB hO aR aK aC aS aL aM gj fX f7 f8 f9 gc gk cP di
      replace hO := hO.drop 11
      replace aR := aR.ch (Owns.dropCh _ _ 11)
      replace aK := aK.ch (Owns.dropCh _ _ 11)
      replace aC := aC.ch (Owns.dropCh _ _ 11)
      replace aS := aS.ch (Owns.dropCh _ _ 11)
      replace aL := aL.ch (Owns.dropCh _ _ 11)
      replace aM := aM.ch (Owns.dropCh _ _ 11)
      replace gj := gj.ch (Owns.dropCh _ _ 11)
      replace fX := fX.ch (Owns.dropCh _ _ 11)
      replace f7 := f7.ch (Owns.dropCh _ _ 11)
      replace f8 := f8.ch (Owns.dropCh _ _ 11)
      replace f9 := f9.ch (Owns.dropCh _ _ 11)
      replace gc := gc.ch (Owns.dropCh _ _ 11)
      replace gk := gk.ch (Owns.dropCh _ _ 11)
      replace cP := cP.ch (Owns.dropCh _ _ 11)
      replace di := di.ch (Owns.dropCh _ _ 11)
      replace hB := hB.trans (Owns.dropFr _ _ 11)
      dsimp only [eS, eZ] at hB hO aR aK aC aS aL aM gj fX f7 f8 f9 gc gk cP di
      refine Go1.ret2 Try.func53 rfl ?_
      exact Or.inr ⟨(⟨(⟨k2_36, b2_37, d_39, d_45, d_51, d_57, d_63, d_69, k2_38⟩ : Enum), m2_93, d_75, d_81, d_87⟩ : run), false, gt, n44, p42, c43, mE, n50, p48, c49, mF, n56, p54, c55, mG, n62, p60, c61, mH, n68, p66, c67, mI, n74, p72, c73, mJ, bC, n80, p78, c79, mK, n86, p84, c85, ik, n92, p90, c91, io, rfl, hB.same, hO, gj, fX, f7, f8, f9, gc, gk, cP, di, H⟩
     replace H := ifp rfl H
     refine GoQ.pure rfl (op_move rfl) rfl rfl ?_
     refine GoQ.pure rfl (op_nilCheck rfl) rfl rfl ?_
     refine GoQ.pure rfl (op_fieldAddr Try.underlying72 rfl ti29 rfl (by decide)) rfl rfl ?_
     refine GoQ.pure rfl (op_fieldAddr Try.underlying29 rfl ti22 rfl (by decide)) rfl rfl ?_
     refine GoQ.stable rfl (oblk (i := 6) 1 hO rfl rfl Try.underlying22 rfl rfl) rfl rfl ?_
     refine GoQ.pure rfl (op_fieldAddr Try.underlying29 rfl ti22 rfl (by decide)) rfl rfl ?_
     refine GoQ.stable rfl (oblk (i := 6) 0 hO rfl rfl Try.underlying22 rfl rfl) rfl rfl ?_
     have Z15 := ((Z5.trans pQ.ch).trans hV.ch).trans kg.ch
     replace f9 := f9.ch Z15
     have hobt := rowlend 6 hO rfl f9
     obtain ⟨QF, QG⟩ := hobt
     have hOc157 := hO.drop 6
     replace aL := aL.ch Z15
     refine GoQ.call rfl (op_call body69 (show ([.slice p66 n68 c67, .slice bI e.Right.length bK, .func (.func 70) #[] #[]] : List Value) = [.slice p66 d_63.length c67, .slice bI e.Right.length bK, .func (.func 70) #[] #[]] from by rw [← QG]) (walk_slices_EqualFunc_int hOc157.lt QF (aL.ch (Owns.dropCh _ _ 6)) H)) (fun v w hr => by obtain ⟨_, _, hs, _⟩ := hr; assumption) rfl rfl ?_
     rintro aby MN ⟨r158, rfl, QH, H⟩
     have pS := Stp.same hO QH
     replace hO := pS.own
     refine GoQ.pure rfl (op_pickT rfl rfl rfl) rfl rfl ?_
     refine GoQ.pure rfl (op_move rfl) rfl rfl ?_
     cases r158
     ·replace H := ifn Bool.false_ne_true H
      refine GoQ.pass rfl rfl rfl ?_
      refine GoQ.pass rfl rfl rfl ?_
      refine GoQ.pass rfl rfl rfl ?_
      refine GoQ.pass rfl rfl rfl ?_
      refine GoQ.pass rfl rfl rfl ?_
      refine GoQ.pass rfl rfl rfl ?_
      refine GoQ.pass rfl rfl rfl ?_
      refine GoQ.pass rfl rfl rfl ?_
      refine GoQ.pure rfl (op_pickF rfl rfl rfl) rfl rfl ?_
      refine GoQ.pure rfl (op_assign rfl) rfl rfl ?_
      refine GoQ.nil ?_
      refine Go1.ret1V Try.func68 rfl (show _ = .bool false from rfl) ?_
      refine hR116 _ _ ?_
      refine za rfl (za rfl (zn ?_))
      replace hO := hO.drop 0
      have Z16 := pS.ch.trans (Owns.dropCh _ _ 0)
      replace f9 := f9.ch Z16
      replace aL := aL.ch Z16
      have Z17 := (kg.ch.trans pS.ch).trans (Owns.dropCh _ _ 0)
      replace f8 := f8.ch Z17
      replace aS := aS.ch Z17
      have Z18 := ((hV.ch.trans kg.ch).trans pS.ch).trans (Owns.dropCh _ _ 0)
      replace f7 := f7.ch Z18
      replace aC := aC.ch Z18
      have Z19 := (((pQ.ch.trans hV.ch).trans kg.ch).trans pS.ch).trans (Owns.dropCh _ _ 0)
      replace fX := fX.ch Z19
      replace aK := aK.ch Z19
      have Z20 := (Z15.trans pS.ch).trans (Owns.dropCh _ _ 0)
      replace gj := gj.ch Z20
      replace gc := gc.ch Z20
      replace gk := gk.ch Z20
      replace cP := cP.ch Z20
      replace di := di.ch Z20
      replace aR := aR.ch Z20
      replace aM := aM.ch Z20
      replace hB := (((((((hB.trans sw.fr).trans pO.fr).trans pP.fr).trans pQ.fr).trans hV.fr).trans kg.fr).trans pS.fr).trans (Owns.dropFr _ _ 0)
      dsimp only [eS, eZ] at hB hO aR aK aC aS aL aM gj fX f7 f8 f9 gc gk cP di
      replace hO := hO.drop 11
      replace aR := aR.ch (Owns.dropCh _ _ 11)
      replace aK := aK.ch (Owns.dropCh _ _ 11)
      replace aC := aC.ch (Owns.dropCh _ _ 11)
      replace aS := aS.ch (Owns.dropCh _ _ 11)
      replace aL := aL.ch (Owns.dropCh _ _ 11)
      replace aM := aM.ch (Owns.dropCh _ _ 11)
      replace gj := gj.ch (Owns.dropCh _ _ 11)
      replace fX := fX.ch (Owns.dropCh _ _ 11)
      replace f7 := f7.ch (Owns.dropCh _ _ 11)
      replace f8 := f8.ch (Owns.dropCh _ _ 11)
      replace f9 := f9.ch (Owns.dropCh _ _ 11)
      replace gc := gc.ch (Owns.dropCh _ _ 11)
      replace gk := gk.ch (Owns.dropCh _ _ 11)
      replace cP := cP.ch (Owns.dropCh _ _ 11)
      replace di := di.ch (Owns.dropCh _ _ 11)
      replace hB := hB.trans (Owns.dropFr _ _ 11)
      dsimp only [eS, eZ] at hB hO aR aK aC aS aL aM gj fX f7 f8 f9 gc gk cP di
      refine Go1.ret2 Try.func53 rfl ?_
      exact Or.inr ⟨(⟨(⟨k2_36, b2_37, d_39, d_45, d_51, d_57, d_63, d_69, k2_38⟩ : Enum), m2_93, d_75, d_81, d_87⟩ : run), false, gt, n44, p42, c43, mE, n50, p48, c49, mF, n56, p54, c55, mG, n62, p60, c61, mH, n68, p66, c67, mI, n74, p72, c73, mJ, bC, n80, p78, c79, mK, n86, p84, c85, ik, n92, p90, c91, io, rfl, hB.same, hO, gj, fX, f7, f8, f9, gc, gk, cP, di, H⟩
     replace H := ifp rfl H
     refine GoQ.pure rfl (op_move rfl) rfl rfl ?_
     refine GoQ.pure rfl (op_nilCheck rfl) rfl rfl ?_
     refine GoQ.pure rfl (op_fieldAddr Try.underlying72 rfl ti29 rfl (by decide)) rfl rfl ?_
     refine GoQ.pure rfl (op_fieldAddr Try.underlying29 rfl ti27 rfl (by decide)) rfl rfl ?_
     refine GoQ.stable rfl (oblk (i := 7) 1 hO rfl rfl Try.underlying27 rfl rfl) rfl rfl ?_
     refine GoQ.pure rfl (op_fieldAddr Try.underlying29 rfl ti27 rfl (by decide)) rfl rfl ?_
     refine GoQ.stable rfl (oblk (i := 7) 0 hO rfl rfl Try.underlying27 rfl rfl) rfl rfl ?_
     replace gc := (gc.ch Z15).ch pS.ch
     have hobt := rowlend 7 hO rfl gc
     obtain ⟨QI, QJ⟩ := hobt
     have hOc166 := hO.drop 7
     replace aM := (aM.ch Z15).ch pS.ch
     refine GoQ.call rfl (op_call body71 (show ([.slice p72 n74 c73, .slice bM e.Rules.length bN] : List Value) = [.slice p72 d_69.length c73, .slice bM e.Rules.length bN] from by rw [← QJ]) (walk_slices_Equal_api_Rule hOc166.lt QI (aM.ch (Owns.dropCh _ _ 7)) H)) (fun v w hr => by obtain ⟨_, _, hs, _⟩ := hr; assumption) rfl rfl ?_
     rintro T8 KM ⟨r167, rfl, GA, H⟩
     have gE := Stp.same hO GA
     replace hO := gE.own
     refine GoQ.pure rfl (op_pickT rfl rfl rfl) rfl rfl ?_
     refine GoQ.pure rfl (op_assign rfl) rfl rfl ?_
     refine GoQ.nil ?_
     refine Go1.ret1V Try.func68 rfl (show _ = .bool r167 from rfl) ?_
     refine hR116 _ _ ?_
     refine za rfl (za rfl (zn ?_))
     replace hO := hO.drop 0
     have Z21 := gE.ch.trans (Owns.dropCh _ _ 0)
     replace gc := gc.ch Z21
     replace aM := aM.ch Z21
     have Z22 := (pS.ch.trans gE.ch).trans (Owns.dropCh _ _ 0)
     replace f9 := f9.ch Z22
     replace aL := aL.ch Z22
     have Z23 := ((kg.ch.trans pS.ch).trans gE.ch).trans (Owns.dropCh _ _ 0)
     replace f8 := f8.ch Z23
     replace aS := aS.ch Z23
     have Z24 := (((hV.ch.trans kg.ch).trans pS.ch).trans gE.ch).trans (Owns.dropCh _ _ 0)
     replace f7 := f7.ch Z24
     replace aC := aC.ch Z24
     have Z25 := ((((pQ.ch.trans hV.ch).trans kg.ch).trans pS.ch).trans gE.ch).trans (Owns.dropCh _ _ 0)
     replace fX := fX.ch Z25
     replace aK := aK.ch Z25
     have Z26 := ((Z15.trans pS.ch).trans gE.ch).trans (Owns.dropCh _ _ 0)
     replace gj := gj.ch Z26
     replace gk := gk.ch Z26
     replace cP := cP.ch Z26
     replace di := di.ch Z26
     replace aR := aR.ch Z26
     replace hB := ((((((((hB.trans sw.fr).trans pO.fr).trans pP.fr).trans pQ.fr).trans hV.fr).trans kg.fr).trans pS.fr).trans gE.fr).trans (Owns.dropFr _ _ 0)
     dsimp only [eS, eZ] at hB hO aR aK aC aS aL aM gj fX f7 f8 f9 gc gk cP di
     replace hO := hO.drop 11
     replace aR := aR.ch (Owns.dropCh _ _ 11)
     replace aK := aK.ch (Owns.dropCh _ _ 11)
     replace aC := aC.ch (Owns.dropCh _ _ 11)
     replace aS := aS.ch (Owns.dropCh _ _ 11)
     replace aL := aL.ch (Owns.dropCh _ _ 11)
     replace aM := aM.ch (Owns.dropCh _ _ 11)
     replace gj := gj.ch (Owns.dropCh _ _ 11)
     replace fX := fX.ch (Owns.dropCh _ _ 11)
     replace f7 := f7.ch (Owns.dropCh _ _ 11)
     replace f8 := f8.ch (Owns.dropCh _ _ 11)
     replace f9 := f9.ch (Owns.dropCh _ _ 11)
     replace gc := gc.ch (Owns.dropCh _ _ 11)
     replace gk := gk.ch (Owns.dropCh _ _ 11)
     replace cP := cP.ch (Owns.dropCh _ _ 11)
     replace di := di.ch (Owns.dropCh _ _ 11)
     replace hB := hB.trans (Owns.dropFr _ _ 11)
     dsimp only [eS, eZ] at hB hO aR aK aC aS aL aM gj fX f7 f8 f9 gc gk cP di
     refine Go1.ret2 Try.func53 rfl ?_
     exact Or.inr ⟨(⟨(⟨k2_36, b2_37, d_39, d_45, d_51, d_57, d_63, d_69, k2_38⟩ : Enum), m2_93, d_75, d_81, d_87⟩ : run), r167, gt, n44, p42, c43, mE, n50, p48, c49, mF, n56, p54, c55, mG, n62, p60, c61, mH, n68, p66, c67, mI, n74, p72, c73, mJ, bC, n80, p78, c79, mK, n86, p84, c85, ik, n92, p90, c91, io, rfl, hB.same, hO, gj, fX, f7, f8, f9, gc, gk, cP, di, H⟩
    replace H := ifn CP H
    refine GoQ.pure rfl (fun w => opB (op_eql rfl rfl w) (decide_eq_false CP)) rfl rfl ?_
    refine GoQ.pure rfl (op_pickT rfl rfl rfl) rfl rfl ?_
    refine GoQ.pure rfl (op_move rfl) rfl rfl ?_
    refine GoQ.pass rfl rfl rfl ?_
    refine GoQ.pass rfl rfl rfl ?_
    refine GoQ.pass rfl rfl rfl ?_
    refine GoQ.pass rfl rfl rfl ?_
    refine GoQ.pass rfl rfl rfl ?_
    refine GoQ.pass rfl rfl rfl ?_
    refine GoQ.pass rfl rfl rfl ?_
    refine GoQ.pass rfl rfl rfl ?_
    refine GoQ.pure rfl (op_pickF rfl rfl rfl) rfl rfl ?_
    refine GoQ.pure rfl (op_move rfl) rfl rfl ?_
    refine GoQ.pass rfl rfl rfl ?_
    refine GoQ.pass rfl rfl rfl ?_
    refine GoQ.pass rfl rfl rfl ?_
    refine GoQ.pass rfl rfl rfl ?_
    refine GoQ.pass rfl rfl rfl ?_
    refine GoQ.pass rfl rfl rfl ?_
    refine GoQ.pass rfl rfl rfl ?_
    refine GoQ.pass rfl rfl rfl ?_
    refine GoQ.pure rfl (op_pickF rfl rfl rfl) rfl rfl ?_
    refine GoQ.pure rfl (op_move rfl) rfl rfl ?_
    refine GoQ.pass rfl rfl rfl ?_
    refine GoQ.pass rfl rfl rfl ?_
    refine GoQ.pass rfl rfl rfl ?_
    refine GoQ.pass rfl rfl rfl ?_
    refine GoQ.pass rfl rfl rfl ?_
    refine GoQ.pass rfl rfl rfl ?_
    refine GoQ.pass rfl rfl rfl ?_
    refine GoQ.pass rfl rfl rfl ?_
    refine GoQ.pure rfl (op_pickF rfl rfl rfl) rfl rfl ?_
    refine GoQ.pure rfl (op_move rfl) rfl rfl ?_
    refine GoQ.pass rfl rfl rfl ?_
    refine GoQ.pass rfl rfl rfl ?_
    refine GoQ.pass rfl rfl rfl ?_
    refine GoQ.pass rfl rfl rfl ?_
    refine GoQ.pass rfl rfl rfl ?_
    refine GoQ.pass rfl rfl rfl ?_
    refine GoQ.pass rfl rfl rfl ?_
    refine GoQ.pass rfl rfl rfl ?_
    refine GoQ.pure rfl (op_pickF rfl rfl rfl) rfl rfl ?_
    refine GoQ.pure rfl (op_move rfl) rfl rfl ?_
    refine GoQ.pass rfl rfl rfl ?_
    refine GoQ.pass rfl rfl rfl ?_
    refine GoQ.pass rfl rfl rfl ?_
    refine GoQ.pass rfl rfl rfl ?_
    refine GoQ.pass rfl rfl rfl ?_
    refine GoQ.pass rfl rfl rfl ?_
    refine GoQ.pass rfl rfl rfl ?_
    refine GoQ.pass rfl rfl rfl ?_
    refine GoQ.pure rfl (op_pickF rfl rfl rfl) rfl rfl ?_
    refine GoQ.pure rfl (op_assign rfl) rfl rfl ?_
    refine GoQ.nil ?_
    refine Go1.ret1V Try.func68 rfl (show _ = .bool false from rfl) ?_
    refine hR116 _ _ ?_
    refine za rfl (za rfl (zn ?_))
    replace hO := hO.drop 0
    have Z27 := ((sw.ch.trans pO.ch).trans pP.ch).trans (Owns.dropCh _ _ 0)
    replace gj := gj.ch Z27
    replace fX := fX.ch Z27
    replace f7 := f7.ch Z27
    replace f8 := f8.ch Z27
    replace f9 := f9.ch Z27
    replace gc := gc.ch Z27
    replace gk := gk.ch Z27
    replace cP := cP.ch Z27
    replace di := di.ch Z27
    replace aR := aR.ch Z27
    replace aK := aK.ch Z27
    replace aC := aC.ch Z27
    replace aS := aS.ch Z27
    replace aL := aL.ch Z27
    replace aM := aM.ch Z27
    replace hB := (((hB.trans sw.fr).trans pO.fr).trans pP.fr).trans (Owns.dropFr _ _ 0)
    dsimp only [eS, eZ] at hB hO aR aK aC aS aL aM gj fX f7 f8 f9 gc gk cP di
    replace hO := hO.drop 11
    replace aR := aR.ch (Owns.dropCh _ _ 11)
    replace aK := aK.ch (Owns.dropCh _ _ 11)
    replace aC := aC.ch (Owns.dropCh _ _ 11)
    replace aS := aS.ch (Owns.dropCh _ _ 11)
    replace aL := aL.ch (Owns.dropCh _ _ 11)
    replace aM := aM.ch (Owns.dropCh _ _ 11)
    replace gj := gj.ch (Owns.dropCh _ _ 11)
    replace fX := fX.ch (Owns.dropCh _ _ 11)
    replace f7 := f7.ch (Owns.dropCh _ _ 11)
    replace f8 := f8.ch (Owns.dropCh _ _ 11)
    replace f9 := f9.ch (Owns.dropCh _ _ 11)
    replace gc := gc.ch (Owns.dropCh _ _ 11)
    replace gk := gk.ch (Owns.dropCh _ _ 11)
    replace cP := cP.ch (Owns.dropCh _ _ 11)
    replace di := di.ch (Owns.dropCh _ _ 11)
    replace hB := hB.trans (Owns.dropFr _ _ 11)
    dsimp only [eS, eZ] at hB hO aR aK aC aS aL aM gj fX f7 f8 f9 gc gk cP di
    refine Go1.ret2 Try.func53 rfl ?_
    exact Or.inr ⟨(⟨(⟨k2_36, b2_37, d_39, d_45, d_51, d_57, d_63, d_69, k2_38⟩ : Enum), m2_93, d_75, d_81, d_87⟩ : run), false, gt, n44, p42, c43, mE, n50, p48, c49, mF, n56, p54, c55, mG, n62, p60, c61, mH, n68, p66, c67, mI, n74, p72, c73, mJ, bC, n80, p78, c79, mK, n86, p84, c85, ik, n92, p90, c91, io, rfl, hB.same, hO, gj, fX, f7, f8, f9, gc, gk, cP, di, H⟩
   replace H := ifn CO H
   refine GoQ.pure rfl (fun w => opB (op_eql rfl rfl w) (decide_eq_false CO)) rfl rfl ?_
   refine GoQ.pure rfl (op_move rfl) rfl rfl ?_
   refine GoQ.pass rfl rfl rfl ?_
   refine GoQ.pass rfl rfl rfl ?_
   refine GoQ.pass rfl rfl rfl ?_
   refine GoQ.pass rfl rfl rfl ?_
   refine GoQ.pass rfl rfl rfl ?_
   refine GoQ.pass rfl rfl rfl ?_
   refine GoQ.pass rfl rfl rfl ?_
   refine GoQ.pass rfl rfl rfl ?_
   refine GoQ.pure rfl (op_pickF rfl rfl rfl) rfl rfl ?_
   refine GoQ.pure rfl (op_move rfl) rfl rfl ?_
   refine GoQ.pass rfl rfl rfl ?_
   refine GoQ.pass rfl rfl rfl ?_
   refine GoQ.pass rfl rfl rfl ?_
   refine GoQ.pass rfl rfl rfl ?_
   refine GoQ.pass rfl rfl rfl ?_
   refine GoQ.pass rfl rfl rfl ?_
   refine GoQ.pass rfl rfl rfl ?_
   refine GoQ.pass rfl rfl rfl ?_
   refine GoQ.pure rfl (op_pickF rfl rfl rfl) rfl rfl ?_
   refine GoQ.pure rfl (op_move rfl) rfl rfl ?_
   refine GoQ.pass rfl rfl rfl ?_
   refine GoQ.pass rfl rfl rfl ?_
   refine GoQ.pass rfl rfl rfl ?_
   refine GoQ.pass rfl rfl rfl ?_
   refine GoQ.pass rfl rfl rfl ?_
   refine GoQ.pass rfl rfl rfl ?_
   refine GoQ.pass rfl rfl rfl ?_
   refine GoQ.pass rfl rfl rfl ?_
   refine GoQ.pure rfl (op_pickF rfl rfl rfl) rfl rfl ?_
   refine GoQ.pure rfl (op_move rfl) rfl rfl ?_
   refine GoQ.pass rfl rfl rfl ?_
   refine GoQ.pass rfl rfl rfl ?_
   refine GoQ.pass rfl rfl rfl ?_
   refine GoQ.pass rfl rfl rfl ?_
   refine GoQ.pass rfl rfl rfl ?_
   refine GoQ.pass rfl rfl rfl ?_
   refine GoQ.pass rfl rfl rfl ?_
   refine GoQ.pass rfl rfl rfl ?_
   refine GoQ.pure rfl (op_pickF rfl rfl rfl) rfl rfl ?_
   refine GoQ.pure rfl (op_move rfl) rfl rfl ?_
   refine GoQ.pass rfl rfl rfl ?_
   refine GoQ.pass rfl rfl rfl ?_
   refine GoQ.pass rfl rfl rfl ?_
   refine GoQ.pass rfl rfl rfl ?_
   refine GoQ.pass rfl rfl rfl ?_
   refine GoQ.pass rfl rfl rfl ?_
   refine GoQ.pass rfl rfl rfl ?_
   refine GoQ.pass rfl rfl rfl ?_
   refine GoQ.pure rfl (op_pickF rfl rfl rfl) rfl rfl ?_
   refine GoQ.pure rfl (op_move rfl) rfl rfl ?_
   refine GoQ.pass rfl rfl rfl ?_
   refine GoQ.pass rfl rfl rfl ?_
   refine GoQ.pass rfl rfl rfl ?_
   refine GoQ.pass rfl rfl rfl ?_
   refine GoQ.pass rfl rfl rfl ?_
   refine GoQ.pass rfl rfl rfl ?_
   refine GoQ.pass rfl rfl rfl ?_
   refine GoQ.pass rfl rfl rfl ?_
   refine GoQ.pure rfl (op_pickF rfl rfl rfl) rfl rfl ?_
   refine GoQ.pure rfl (op_assign rfl) rfl rfl ?_
   refine GoQ.nil ?_
   refine Go1.ret1V Try.func68 rfl (show _ = .bool false from rfl) ?_
   refine hR116 _ _ ?_
   refine za rfl (za rfl (zn ?_))
   replace hO := hO.drop 0
   have Z28 := ((sw.ch.trans pO.ch).trans pP.ch).trans (Owns.dropCh _ _ 0)
   replace gj := gj.ch Z28
   replace fX := fX.ch Z28
   replace f7 := f7.ch Z28
   replace f8 := f8.ch Z28
   replace f9 := f9.ch Z28
   replace gc := gc.ch Z28
   replace gk := gk.ch Z28
   replace cP := cP.ch Z28
   replace di := di.ch Z28
   replace aR := aR.ch Z28
   replace aK := aK.ch Z28
   replace aC := aC.ch Z28
   replace aS := aS.ch Z28
   replace aL := aL.ch Z28
   replace aM := aM.ch Z28
   replace hB := (((hB.trans sw.fr).trans pO.fr).trans pP.fr).trans (Owns.dropFr _ _ 0)
   dsimp only [eS, eZ] at hB hO aR aK aC aS aL aM gj fX f7 f8 f9 gc gk cP di
   replace hO := hO.drop 11
   replace aR := aR.ch (Owns.dropCh _ _ 11)
   replace aK := aK.ch (Owns.dropCh _ _ 11)
   replace aC := aC.ch (Owns.dropCh _ _ 11)
   replace aS := aS.ch (Owns.dropCh _ _ 11)
   replace aL := aL.ch (Owns.dropCh _ _ 11)
   replace aM := aM.ch (Owns.dropCh _ _ 11)
   replace gj := gj.ch (Owns.dropCh _ _ 11)
   replace fX := fX.ch (Owns.dropCh _ _ 11)
   replace f7 := f7.ch (Owns.dropCh _ _ 11)
   replace f8 := f8.ch (Owns.dropCh _ _ 11)
   replace f9 := f9.ch (Owns.dropCh _ _ 11)
   replace gc := gc.ch (Owns.dropCh _ _ 11)
   replace gk := gk.ch (Owns.dropCh _ _ 11)
   replace cP := cP.ch (Owns.dropCh _ _ 11)
   replace di := di.ch (Owns.dropCh _ _ 11)
   replace hB := hB.trans (Owns.dropFr _ _ 11)
   dsimp only [eS, eZ] at hB hO aR aK aC aS aL aM gj fX f7 f8 f9 gc gk cP di
   refine Go1.ret2 Try.func53 rfl ?_
   exact Or.inr ⟨(⟨(⟨k2_36, b2_37, d_39, d_45, d_51, d_57, d_63, d_69, k2_38⟩ : Enum), m2_93, d_75, d_81, d_87⟩ : run), false, gt, n44, p42, c43, mE, n50, p48, c49, mF, n56, p54, c55, mG, n62, p60, c61, mH, n68, p66, c67, mI, n74, p72, c73, mJ, bC, n80, p78, c79, mK, n86, p84, c85, ik, n92, p90, c91, io, rfl, hB.same, hO, gj, fX, f7, f8, f9, gc, gk, cP, di, H⟩
  replace H := ifn h34 H
  refine zo (fun w => opB (op_neq rfl rfl w) (ndF h34)) (zn (zt rfl rfl (zq ?_)))
  refine Go1.cut [] trivial ?_
  intro σ _
  refine zr (za rfl (za rfl (zn ?_)))
  refine Go1.ret2 Try.func53 rfl ?_
  replace hB := (hB.trans dI.fr).trans eK.fr
  exact Or.inl ⟨false, rfl, hB.same, H⟩
theorem body29 : Body Try.prog 29 := ⟨Try.f29, Try.func29, rfl, by kernel_rfl⟩
theorem walk_enumerate_Word {A : List Nat} {w0 : World} {cd : Option Addr} {ce : Nat} {bG : Option Addr} {bH : Nat} {bq : Option Addr} {bt : Nat} {b7 : Option Addr} {b8 : Nat} {bI : Option Addr} {bK : Nat} {bM : Option Addr} {bN : Nat} {e : Enum} {i : Int} (hA : ∀ b ∈ A, b < w0.heap.size) (aR : ISl (Rp.sl (Rp.int .i64)) A w0 cd ce e.Gens) (aK : ISl (Rp.sl (Rp.int .i64)) A w0 bG bH e.Elems) (aC : ISl (Rp.int .i64) A w0 bq bt e.Prefix) (aS : ISl (Rp.int .i64) A w0 b7 b8 e.Last) (aL : ISl (Rp.sl (Rp.int .i64)) A w0 bI bK e.Right) (aM : ISl (rpRule) A w0 bM bN e.Rules) {K : Str → Prop} (H : enumerate_Word e i K) :
    CallsV Try.prog 29 #[.agg #[.int .i64 e.Points, .bool e.Monoid, .slice cd e.Gens.length ce, .slice bG e.Elems.length bH, .slice bq e.Prefix.length bt, .slice b7 e.Last.length b8, .slice bI e.Right.length bK, .slice bM e.Rules.length bN, .int .i64 e.Done], .int .i64 i] w0 (fun v w' => ∃ (r0 : Str), v = .string (gstr r0) ∧ Same w0 w' ∧ r0.length ≤ mx ∧ K r0) := by
 refine CallsV.of (l := [.agg #[.int .i64 e.Points, .bool e.Monoid, .slice cd e.Gens.length ce, .slice bG e.Elems.length bH, .slice bq e.Prefix.length bt, .slice b7 e.Last.length b8, .slice bI e.Right.length bK, .slice bM e.Rules.length bN, .int .i64 e.Done], .int .i64 i]) Try.func29 rfl Try.ntmps29 rfl ?_
 have hO := Owns.start hA
 have hB := Fr.refl (bl []) w0
 unfold enumerate_Word at H
 refine zq (zr ?_)
 have hobt := obox (t := 29) (v := .agg #[.int .i64 e.Points, .bool e.Monoid, .slice cd e.Gens.length ce, .slice bG e.Elems.length bH, .slice bq e.Prefix.length bt, .slice b7 e.Last.length b8, .slice bI e.Right.length bK, .slice bM e.Rules.length bN, .int .i64 e.Done]) (cs := #[.int .i64 e.Points, .bool e.Monoid, .slice cd e.Gens.length ce, .slice bG e.Elems.length bH, .slice bq e.Prefix.length bt, .slice b7 e.Last.length b8, .slice bI e.Right.length bK, .slice bM e.Rules.length bN, .int .i64 e.Done]) hO rfl
 obtain ⟨w1, B2, dI, hs4, qb⟩ := hobt
 refine zg (qb rfl) ?_
 replace hO := dI.own
 refine za rfl (zn (zq (zr (zs (oblkAgg (vs := [.int .i64 e.Points, .bool e.Monoid, .slice cd e.Gens.length ce, .slice bG e.Elems.length bH, .slice bq e.Prefix.length bt, .slice b7 e.Last.length b8, .slice bI e.Right.length bK, .slice bM e.Rules.length bN, .int .i64 e.Done]) (i := 0) 0 hO rfl rfl Try.underlying29 rfl ti29 rfl) ?_))))
 have Z1 := (Ch.start A w0).trans dI.ch
 replace aR := aR.ch Z1
 replace aK := aK.ch Z1
 replace aC := aC.ch Z1
 replace aS := aS.ch Z1
 replace aL := aL.ch Z1
 replace aM := aM.ch Z1
 refine GoR.call (op_call body53 rfl (walk_enumerate_replay (e := e) hO.lt aR aK aC aS aL aM H)) rfl rfl ?_
 intro v9 w10 hcase13
 refine Or.elim hcase13 ?_ ?_
 ·refine exE fun r8 => andE fun hv14 => andE fun vL => fun H => ?_
  subst hv14
  clear hcase13
  replace H := oElimN H
  have iJ := Stp.same hO vL
  replace hO := iJ.own
  refine zm rfl (zo (op_extract rfl rfl) (zo (op_extract rfl rfl) (za rfl (za rfl (zn ?_)))))
  refine zq (zq (zr (zm rfl ?_)))
  cases r8
  ·replace H := ifn Bool.false_ne_true H
   refine zo (op_not rfl) (zm rfl (zp (zp (zo (op_pickT rfl rfl rfl) (zm rfl ?_)))))
   refine zp (zp (zp (zp (zp (zp ?_)))))
   refine zp (zp (zo (op_pickT rfl rfl rfl) (zn (zt rfl rfl (zq ?_)))))
   refine Go1.cut [] trivial ?_
   intro σ _
   refine zr (za rfl (zn ?_))
   refine Go1.ret1 Try.func29 rfl ?_
   replace hB := (hB.trans dI.fr).trans iJ.fr
   exact ⟨([] : Str), rfl, hB.same, (by decide), H⟩
  replace H := ifp rfl H
  refine zo (op_not rfl) (zm rfl (zm rfl ?_))
  by_cases h16 : i < (0 : Int)
  ·replace H := ifp h16 H
   refine zo (fun w => opB (op_lss rfl rfl w) (decide_eq_true h16)) (zo (op_pickF rfl rfl rfl) (zm rfl (zp (zp (zp ?_)))))
   refine zp (zp (zp (zp (zp (zo (op_pickT rfl rfl rfl) ?_)))))
   refine zn (zt rfl rfl (zq (zr (za rfl (zn ?_)))))
   refine Go1.ret1 Try.func29 rfl ?_
   replace hB := (hB.trans dI.fr).trans iJ.fr
   exact ⟨([] : Str), rfl, hB.same, (by decide), H⟩
  replace H := ifn h16 H
  refine zo (fun w => opB (op_lss rfl rfl w) (decide_eq_false h16)) (zo (op_pickF rfl rfl rfl) (zm rfl (zm rfl (zm rfl ?_))))
  exact H.elim
 ·refine exE fun r7 => exE fun r8 => exE fun gt => exE fun tD => exE fun tE => exE fun tF => exE fun sg => exE fun si => exE fun sj => exE fun sk => exE fun rv => exE fun ry => exE fun rz => exE fun rB => exE fun qn => exE fun tG => exE fun tH => exE fun tI => exE fun sm => exE fun sn => exE fun sq => exE fun sr => exE fun rC => exE fun ss => exE fun su => exE fun sv => exE fun rD => exE fun bC => exE fun xS => exE fun xT => exE fun xU => exE fun wF => exE fun wG => exE fun wH => exE fun wI => exE fun vT => exE fun wJ => exE fun wK => exE fun wL => exE fun vU => andE fun hv17 => andE fun vL => andE fun hN12 => andE fun eQ => andE fun dX => andE fun dW => andE fun eU => andE fun en => andE fun eo => andE fun fy => andE fun fH => andE fun fI => fun H => ?_
  subst hv17
  clear hcase13
  replace H := oElimS H
  have lC := Stp.more hO vL hN12
  dsimp only [List.cons_append, List.nil_append] at lC
  replace hO := lC.own
  replace eQ := eQ.ch (Ch.assoc _ _ _ _)
  dsimp only [List.cons_append, List.nil_append] at eQ
  replace dX := dX.ch (Ch.assoc _ _ _ _)
  dsimp only [List.cons_append, List.nil_append] at dX
  replace dW := dW.ch (Ch.assoc _ _ _ _)
  dsimp only [List.cons_append, List.nil_append] at dW
  replace eU := eU.ch (Ch.assoc _ _ _ _)
  dsimp only [List.cons_append, List.nil_append] at eU
  replace en := en.ch (Ch.assoc _ _ _ _)
  dsimp only [List.cons_append, List.nil_append] at en
  replace eo := eo.ch (Ch.assoc _ _ _ _)
  dsimp only [List.cons_append, List.nil_append] at eo
  replace fy := fy.ch (Ch.assoc _ _ _ _)
  dsimp only [List.cons_append, List.nil_append] at fy
  replace fH := fH.ch (Ch.assoc _ _ _ _)
  dsimp only [List.cons_append, List.nil_append] at fH
  replace fI := fI.ch (Ch.assoc _ _ _ _)
  dsimp only [List.cons_append, List.nil_append] at fI
  refine zm rfl (zo (op_extract rfl rfl) (zo (op_extract rfl rfl) (za rfl (za rfl (zn ?_)))))
  refine zq (zq ?_)
  refine Go1.cut [(1, .int .i64 i), (5, .pointer (some ⟨gt, 0, none⟩)), (6, .bool r8)] ⟨rfl, rfl, rfl, trivial⟩ ?_
  intro σ _
  refine zr (zm rfl ?_)
  cases r8
  ·replace H := ifn Bool.false_ne_true H
   refine zo (op_not rfl) (zm rfl (zp (zp (zo (op_pickT rfl rfl rfl) (zm rfl ?_)))))
   refine zp (zp (zp (zp (zp (zp ?_)))))
   refine zp (zp (zo (op_pickT rfl rfl rfl) (zn (zt rfl rfl (zq ?_)))))
   refine zr (za rfl (zn ?_))
   refine Go1.ret1 Try.func29 rfl ?_
   replace hB := (hB.trans dI.fr).trans lC.fr
   exact ⟨([] : Str), rfl, hB.same, (by decide), H⟩
  replace H := ifp rfl H
  refine zo (op_not rfl) (zm rfl (zm rfl ?_))
  by_cases h30 : i < (0 : Int)
  ·replace H := ifp h30 H
   refine zo (fun w => opB (op_lss rfl rfl w) (decide_eq_true h30)) (zo (op_pickF rfl rfl rfl) (zm rfl (zp (zp (zp ?_)))))
   refine zp (zp (zp (zp (zp (zo (op_pickT rfl rfl rfl) ?_)))))
   refine zn (zt rfl rfl (zq ?_))
   refine Go1.cut [] trivial ?_
   intro σ _
   refine zr (za rfl (zn ?_))
   refine Go1.ret1 Try.func29 rfl ?_
   replace hB := (hB.trans dI.fr).trans lC.fr
   exact ⟨([] : Str), rfl, hB.same, (by decide), H⟩
  replace H := ifn h30 H
  refine zo (fun w => opB (op_lss rfl rfl w) (decide_eq_false h30)) (zo (op_pickF rfl rfl rfl) (zm rfl (zm rfl (zm rfl (zo (op_nilCheck rfl) ?_)))))
  refine zo (op_fieldAddr Try.underlying72 rfl ti29 rfl (by decide)) (zo (op_fieldAddr Try.underlying29 rfl ti22 rfl (by decide)) (zs (oblk (i := 3) 0 hO rfl rfl Try.underlying22 rfl rfl) (zo (op_lenN Try.underlying22 rfl (dX.neq hO 2 rfl)) ?_)))
  by_cases h31 : (r7.Enum.Elems.length : Int) ≤ i
  ·replace H := ifp h31 H
   refine zo (fun w => opB (op_geq rfl rfl w) (decide_eq_true h31)) (zo (op_pickF rfl rfl rfl) (zn (zt rfl rfl (zq (zr ?_)))))
   refine za rfl (zn ?_)
   refine Go1.ret1 Try.func29 rfl ?_
   replace hB := (hB.trans dI.fr).trans lC.fr
   exact ⟨([] : Str), rfl, hB.same, (by decide), H⟩
  replace H := ifn h31 H
  refine zo (fun w => opB (op_geq rfl rfl w) (decide_eq_false h31)) (zo (op_pickF rfl rfl rfl) (zn (zf rfl rfl (zk (zq ?_)))))
  refine zr (zm rfl (zo (op_nilCheck rfl) (zo (op_fieldAddr Try.underlying72 rfl ti70 rfl (by decide)) (zs (oblk (i := 10) 0 hO rfl rfl Try.underlying70 rfl rfl) (zm rfl ?_)))))
  obtain ⟨h32, H⟩ := H
  obtain ⟨h33, H⟩ := H
  refine zo (op_index Try.underlying70 ti9 rfl rfl h32 (ltn (fy.neq hO 7 rfl) h33) (fy.psome hO 7 rfl h32 h33)) (zs (oldStr 7 hO rfl fy h32 h33 Try.underlying9 rfl rfl) ?_)
  have hle34 := Els.str_le fy h32 h33
  refine za rfl (zn ?_)
  refine Go1.ret1 Try.func29 rfl ?_
  replace hB := (hB.trans dI.fr).trans lC.fr
  exact ⟨ix r7.words i, rfl, hB.same, hle34, H⟩
theorem body16 : Body Try.prog 16 := ⟨Try.f16, Try.func16, rfl, by kernel_rfl⟩
theorem walk_law12_awake {A : List Nat} {w0 : World} (hA : ∀ b ∈ A, b < w0.heap.size) {K : Bool → Prop} (H : law12_awake  K) :
    CallsV Try.prog 16 #[] w0 (fun v w' => ∃ (r0 : Bool), v = .bool r0 ∧ Same w0 w' ∧ K r0) := by
 refine CallsV.of (l := []) Try.func16 rfl Try.ntmps16 rfl ?_
 have hO := Owns.start hA
 have hB := Fr.refl (bl []) w0
 unfold law12_awake at H
 refine zq (zr (za rfl (zn (zq (zr ?_)))))
 have hobt := obuild (r := Rp.int .i64) (n := 2) (parts := [(0, .int .i64 (1 : Int)), (1, .int .i64 (0 : Int))]) (vs := [.int .i64 (1 : Int), .int .i64 (0 : Int)]) (xs := [(1 : Int), (0 : Int)]) rfl Try.underlying26 ti3 hO (by decide) (by kernel_rfl) (Els.cons rfl rfl (Els.cons rfl rfl (Els.nil _ _ _) (by simp [mx])) (by simp [mx])) rfl
 obtain ⟨w1, p2, dI, hE4, hs5, Vt⟩ := hobt
 refine zg (Vt rfl) ?_
 replace hO := dI.own
 have hobt := obuild (r := Rp.int .i64) (n := 2) (parts := [(0, .int .i64 (0 : Int)), (1, .int .i64 (0 : Int))]) (vs := [.int .i64 (0 : Int), .int .i64 (0 : Int)]) (xs := [(0 : Int), (0 : Int)]) rfl Try.underlying26 ti3 hO (by decide) (by kernel_rfl) (Els.cons rfl rfl (Els.cons rfl rfl (Els.nil _ _ _) (by simp [mx])) (by simp [mx])) rfl
 obtain ⟨w8, p9, o5, Js, IB, Gv⟩ := hobt
 refine zg (Gv rfl) ?_
 replace hO := o5.own
 replace hE4 := hE4.ch o5.ch
 have hobt := freeze 1 hO rfl hE4
 obtain ⟨hO1, Vu, lT, Vv⟩ := hobt
 replace hO := hO1; clear hO1
 replace Js := Js.ch Vu
 have hobt := freeze 0 hO rfl Js
 obtain ⟨hO1, Vw, v3, Vx⟩ := hobt
 replace hO := hO1; clear hO1
 replace lT := lT.ch Vw
 have hobt := obuild (r := Rp.sl (Rp.int .i64)) (n := 2) (parts := [(0, .slice p2 2 2), (1, .slice p9 2 2)]) (vs := [.slice p2 2 2, .slice p9 2 2]) (xs := [[(1 : Int), (0 : Int)], [(0 : Int), (0 : Int)]]) rfl Try.underlying22 ti26 hO (by decide) (by kernel_rfl) (Els.cons rfl ⟨p2, 2, congrArg some (congrArg (fun nn => Value.slice p2 nn 2) Vv), lT⟩ (Els.cons rfl ⟨p9, 2, congrArg some (congrArg (fun nn => Value.slice p9 nn 2) Vx), v3⟩ (Els.nil _ _ _) (by simp [mx])) (by simp [mx])) rfl
 obtain ⟨w21, p22, mX, dM, CM, Gw⟩ := hobt
 refine zg (Gw rfl) ?_
 replace hO := mX.own
 have hobt := freeze 0 hO rfl dM
 obtain ⟨hO1, F5, Af, Jt⟩ := hobt
 replace hO := hO1; clear hO1
 refine GoR.call (op_call body17 (show ([.slice p22 2 2, .bool true] : List Value) = [.slice p22 ([[(1 : Int), (0 : Int)], [(0 : Int), (0 : Int)]]).length 2, .bool true] from by rw [← Jt]) (walk_enumerate_Build hO.lt Af H)) rfl rfl ?_
 rintro v36 w33 ⟨r31, r32, BT, BU, A9, Ba, Ag, Ah, BV, BW, Bb, Bc, Bd, Be, rfl, Vy, ur, qV, rE, ut, sR, qW, H⟩
 have Ep := Stp.same hO Vy
 replace hO := Ep.own
 refine zm rfl (zo (op_extract rfl rfl) (zo (op_extract rfl rfl) ?_))
 have hobt := oalloc (t := 29) (cs := #[.int .i64 (0 : Int), .bool false, .slice none 0 0, .slice none 0 0, .slice none 0 0, .slice none 0 0, .slice none 0 0, .slice none 0 0, .int .i64 (0 : Int)]) ti29 hO rfl
 obtain ⟨w38, B39, lU, Hq, QK⟩ := hobt
 refine GoR.op QK rfl rfl ?_
 replace hO := lU.own
 have hobt := oblkStAgg (us := [.int .i64 r31.Points, .bool r31.Monoid, .slice BT r31.Gens.length BU, .slice A9 r31.Elems.length Ba, .slice Ag r31.Prefix.length Ah, .slice BV r31.Last.length BW, .slice Bb r31.Right.length Bc, .slice Bd r31.Rules.length Be, .int .i64 r31.Done]) (o := 0) (cs' := #[.int .i64 r31.Points, .bool r31.Monoid, .slice BT r31.Gens.length BU, .slice A9 r31.Elems.length Ba, .slice Ag r31.Prefix.length Ah, .slice BV r31.Last.length BW, .slice Bb r31.Right.length Bc, .slice Bd r31.Rules.length Be, .int .i64 r31.Done]) 0 hO rfl rfl (Nat.le_of_ble_eq_true rfl) rfl
 obtain ⟨w44, xV, QL⟩ := hobt
 refine zg (QL ti29 (by exact rfl) (by exact rfl) rfl) ?_
 replace hO := xV.own
 refine za rfl (zn (zq (zr (zm rfl ?_))))
 by_cases h47 : r32 = (0 : Int)
 ·replace H := ifp h47 H
  refine zo (fun w => opB (op_eql rfl rfl w) (decide_eq_true h47)) (zm rfl (zo (op_fieldAddr Try.underlying29 rfl ti22 rfl (by decide)) (zs (oblk (i := 3) 0 hO rfl rfl Try.underlying22 rfl rfl) (zo (op_len Try.underlying22 rfl) ?_))))
  replace qV := (qV.ch lU.ch).ch xV.ch
  replace H := H qV.bd
  by_cases h48 : (r31.Elems.length : Int) = (4 : Int)
  ·replace H := ifp h48 H
   refine zo (fun w => opB (op_eql rfl rfl w) (decide_eq_true h48)) (zo (op_pickT rfl rfl rfl) (zm rfl (zo (op_fieldAddr Try.underlying29 rfl ti27 rfl (by decide)) (zs (oblk (i := 7) 0 hO rfl rfl Try.underlying27 rfl rfl) (zo (op_len Try.underlying27 rfl) ?_)))))
   replace qW := (qW.ch lU.ch).ch xV.ch
   replace H := H qW.bd
   by_cases h49 : (r31.Rules.length : Int) = (3 : Int)
   ·replace H := ifp h49 H
    refine zo (fun w => opB (op_eql rfl rfl w) (decide_eq_true h49)) (zo (op_pickT rfl rfl rfl) (zm rfl (zs (oblkAgg (vs := [.int .i64 r31.Points, .bool r31.Monoid, .slice BT r31.Gens.length BU, .slice A9 r31.Elems.length Ba, .slice Ag r31.Prefix.length Ah, .slice BV r31.Last.length BW, .slice Bb r31.Right.length Bc, .slice Bd r31.Rules.length Be, .int .i64 r31.Done]) (i := 0) 0 hO rfl rfl Try.underlying29 rfl ti29 rfl) ?_)))
    have Z1 := lU.ch.trans xV.ch
    replace ur := ur.ch Z1
    replace rE := rE.ch Z1
    replace ut := ut.ch Z1
    replace sR := sR.ch Z1
    refine GoR.call (op_call body29 rfl (walk_enumerate_Word (e := r31) hO.lt ur qV rE ut sR qW H)) rfl rfl ?_
    rintro v54 w51 ⟨r50, rfl, F6, MO, H⟩
    have k8 := Stp.same hO F6
    replace hO := k8.own
    by_cases h56 : r50 = (([98, 97] : Str))
    ·replace H := ifp h56 H
     refine zo (fun w => opB (op_eqlS rfl rfl w) (decide_eq_true h56)) (zo (op_pickT rfl rfl rfl) (za rfl (zn ?_)))
     refine Go1.ret1 Try.func16 rfl ?_
     replace hB := (((((((((hB.trans dI.fr).trans o5.fr).trans (Owns.dropFr _ _ 1)).trans (Owns.dropFr _ _ 0)).trans mX.fr).trans (Owns.dropFr _ _ 0)).trans Ep.fr).trans lU.fr).trans xV.fr).trans k8.fr
     exact ⟨true, rfl, hB.same, H⟩
    replace H := ifn h56 H
    refine zo (fun w => opB (op_eqlS rfl rfl w) (decide_eq_false h56)) (zo (op_pickT rfl rfl rfl) (za rfl (zn ?_)))
    refine Go1.ret1 Try.func16 rfl ?_
    replace hB := (((((((((hB.trans dI.fr).trans o5.fr).trans (Owns.dropFr _ _ 1)).trans (Owns.dropFr _ _ 0)).trans mX.fr).trans (Owns.dropFr _ _ 0)).trans Ep.fr).trans lU.fr).trans xV.fr).trans k8.fr
    exact ⟨false, rfl, hB.same, H⟩
   replace H := ifn h49 H
   refine zo (fun w => opB (op_eql rfl rfl w) (decide_eq_false h49)) (zo (op_pickT rfl rfl rfl) (zm rfl (zp (zp (zp ?_)))))
   refine zo (op_pickF rfl rfl rfl) (za rfl (zn ?_))
   refine Go1.ret1 Try.func16 rfl ?_
   replace hB := ((((((((hB.trans dI.fr).trans o5.fr).trans (Owns.dropFr _ _ 1)).trans (Owns.dropFr _ _ 0)).trans mX.fr).trans (Owns.dropFr _ _ 0)).trans Ep.fr).trans lU.fr).trans xV.fr
   exact ⟨false, rfl, hB.same, H⟩
  replace H := ifn h48 H
  refine zo (fun w => opB (op_eql rfl rfl w) (decide_eq_false h48)) (zo (op_pickT rfl rfl rfl) (zm rfl (zp (zp (zp ?_)))))
  refine zp (zo (op_pickF rfl rfl rfl) (zm rfl (zp (zp (zp ?_)))))
  refine zo (op_pickF rfl rfl rfl) (za rfl (zn ?_))
  refine Go1.ret1 Try.func16 rfl ?_
  replace hB := ((((((((hB.trans dI.fr).trans o5.fr).trans (Owns.dropFr _ _ 1)).trans (Owns.dropFr _ _ 0)).trans mX.fr).trans (Owns.dropFr _ _ 0)).trans Ep.fr).trans lU.fr).trans xV.fr
  exact ⟨false, rfl, hB.same, H⟩
 replace H := ifn h47 H
 refine zo (fun w => opB (op_eql rfl rfl w) (decide_eq_false h47)) (zm rfl (zp (zp (zp (zp ?_)))))
 refine zo (op_pickF rfl rfl rfl) (zm rfl (zp (zp (zp (zp ?_)))))
 refine zo (op_pickF rfl rfl rfl) (zm rfl (zp (zp (zp (zo (op_pickF rfl rfl rfl) ?_)))))
 refine za rfl (zn ?_)
 refine Go1.ret1 Try.func16 rfl ?_
 replace hB := ((((((((hB.trans dI.fr).trans o5.fr).trans (Owns.dropFr _ _ 1)).trans (Owns.dropFr _ _ 0)).trans mX.fr).trans (Owns.dropFr _ _ 0)).trans Ep.fr).trans lU.fr).trans xV.fr
 exact ⟨false, rfl, hB.same, H⟩
theorem body24 : Body Try.prog 24 := ⟨Try.f24, Try.func24, rfl, by kernel_rfl⟩
theorem walk_ref03_Copy {A : List Nat} {w0 : World} {p_a : Option Addr} {c_a : Nat} {a : List (List Int)} (hA : ∀ b ∈ A, b < w0.heap.size) (h_a : ISl (Rp.sl (Rp.int .i64)) A w0 p_a c_a a) {K : List (List Int) → Prop} (H : ref03_Copy a K) :
    CallsV Try.prog 24 #[.slice p_a a.length c_a] w0 (fun v w' => ∃ (r0 : List (List Int)), ∃ (EI : Nat), ∃ (sL : Option Addr), ∃ (sM : Nat), ∃ (QM : Hd), v = .slice sL EI sM ∧ Same w0 w' ∧ Owns w0.heap.size w' [t2 (Fl.int .i64) 26 3 sL EI sM QM r0] A ∧ K r0) := by
 refine CallsV.of (l := [.slice p_a a.length c_a]) Try.func24 rfl Try.ntmps24 rfl ?_
 have hO := Owns.start hA
 have hB := Fr.refl (bl []) w0
 unfold ref03_Copy at H
 refine zq (zr (za rfl (zn (zq (zr ?_)))))
 refine za rfl (zn (zq (zq (zr (zm rfl ?_)))))
 refine zo (op_len Try.underlying22 rfl) ?_
 replace h_a := h_a.ch (Ch.start A w0)
 replace H := H h_a.bd
 refine zm rfl (zn (zb ?_))
 have Ju := t2nil (e := 26) (e' := 3) (Fl.int .i64) hO
 replace hO := Ju.own
 replace h_a := h_a.ch Ju.ch
 replace hB := hB.trans Ju.fr
 refine Go1.loopW (S := Nat × List (List Int)) (fun s σ w => match s with | (k1_4, out1_5) => ∃ (n8 : Nat), ∃ (p6 : Option Addr), ∃ (c7 : Nat), ∃ (hs9 : Hd), agrees σ [(3, .slice p6 n8 c7), (6, .slice p_a a.length c_a), (7, .int .i64 (a.length : Int)), (8, .int .i64 (k1_4 : Int))] ∧ (fun Z0 => Owns w0.heap.size w Z0 A ∧ ISl (Rp.sl (Rp.int .i64)) (bl Z0 ++ A) w p_a c_a a ∧ Fr (bl []) w0 (bl Z0) w) [t2 (Fl.int .i64) 26 3 p6 n8 c7 hs9 out1_5]) H ⟨0, none, 0, (fun _ => (none, 0)), ⟨rfl, rfl, rfl, rfl, trivial⟩, hO, h_a, hB⟩ ?_
 intro X1
 refine prE fun k1_4 => fun out1_5 => ?_
 intro H hX1 σ w3
 refine exE fun n8 => exE fun p6 => exE fun c7 => exE fun hs9 => andE fun hag => andE fun hO => andE fun h_a => fun hB => ?_
 dsimp only at H
 refine Go1.keep [(3, .slice p6 n8 c7), (6, .slice p_a a.length c_a), (7, .int .i64 (a.length : Int)), (8, .int .i64 (k1_4 : Int))] hag ?_
 refine zq (zr ?_)
 by_cases h10 : (k1_4 : Int) < (a.length : Int)
 ·replace H := ifp h10 H
  refine zo (fun w => opB (op_lss rfl rfl w) (decide_eq_true h10)) (zn (zq (zt rfl rfl (zk (zq ?_)))))
  refine zb (zq (zr ?_))
  obtain ⟨h11, H⟩ := H
  obtain ⟨h12, H⟩ := H
  refine zo (op_index Try.underlying22 ti26 rfl rfl h11 h12 (h_a.some_ h11 h12)) ?_
  have hobt := ldSl h_a h11 h12
  obtain ⟨p13, c14, lT, Jr⟩ := hobt
  refine zs (Jr Try.underlying26 rfl rfl) (za rfl (zn (zr (zm rfl ?_))))
  have hobt := obuild (r := Rp.int .i64) (n := 0) (parts := []) (vs := []) (xs := ([] : List Int)) rfl Try.underlying26 ti3 hO (by decide) (by kernel_rfl) (Els.nil _ _ _) rfl
  obtain ⟨w17, p18, m5, Vz, abz, QO⟩ := hobt
  refine zg (QO rfl) ?_
  replace hO := m5.own
  refine zm rfl ?_
  obtain ⟨h24, H⟩ := H
  replace lT := lT.ch m5.ch
  have hobt := oapp Try.underlying26 ti3 rfl 0 hO rfl Vz lT rfl h24 (by decide)
  obtain ⟨w25, p26, c27, abA, vA, dz, QP⟩ := hobt
  refine zg (QP (by exact rfl) (by exact rfl)) ?_
  replace hO := vA.own
  have hobt := t2build1 (Fl.int .i64) Try.underlying22 ti26 hO dz
  obtain ⟨w33, p34, jx, Er⟩ := hobt
  refine zg (Er rfl) ?_
  replace hO := jx.own
  have gl := Stp.front 1 hO rfl
  replace hO := gl.own
  have yH := Stp.front 1 hO rfl
  replace hO := yH.own
  obtain ⟨h40, H⟩ := H
  have hobt := t2cat Try.underlying22 ti26 hO h40 (by decide)
  obtain ⟨w41, p42, c43, qS, QQ⟩ := hobt
  refine zg (QQ (by exact rfl) (by exact rfl)) ?_
  replace hO := qS.own
  refine za rfl (zn ?_)
  refine Go1.inBlock ?_
  refine zr ?_
  have Z1 := ((((m5.ch.trans vA.ch).trans jx.ch).trans gl.ch).trans yH.ch).trans qS.ch
  replace h_a := h_a.ch Z1
  refine zo (op_add rfl rfl (wrap_i64 (natbd h10 h_a.bd))) (zm rfl (zn ?_))
  replace hB := (((((hB.trans m5.fr).trans vA.fr).trans jx.fr).trans gl.fr).trans yH.fr).trans qS.fr
  exact hX1 _ H _ _ ⟨n8 + 1, p42, c43, hcat hs9 out1_5.length ((fun _ => (p26, c27))), ⟨rfl, rfl, rfl, rfl, trivial⟩, hO, h_a, hB⟩
 replace H := ifn h10 H
 refine zo (fun w => opB (op_lss rfl rfl w) (decide_eq_false h10)) (zn (zq (zf rfl rfl ?_)))
 refine Go1.exit rfl ?_
 refine zq (zr (zm rfl (za rfl (zn ?_))))
 refine Go1.ret1 Try.func24 rfl ?_
 exact ⟨out1_5, n8, p6, c7, hs9, rfl, hB.same, hO, H⟩
theorem body54 : Body Try.prog 54 := ⟨Try.f54, Try.func54, rfl, by kernel_rfl⟩
theorem walk_ref03_Discrete {A : List Nat} {w0 : World} {n : Int} (hA : ∀ b ∈ A, b < w0.heap.size) {K : List Int → Prop} (H : ref03_Discrete n K) :
    CallsV Try.prog 54 #[.int .i64 n] w0 (fun v w' => ∃ (r0 : List Int), ∃ (sL : Option Addr), ∃ (sM : Nat), v = .slice sL r0.length sM ∧ Same w0 w' ∧ ISl (Rp.int .i64) A w' sL sM r0 ∧ K r0) := by
 refine CallsV.of (l := [.int .i64 n]) Try.func54 rfl Try.ntmps54 rfl ?_
 have hO := Owns.start hA
 have hB := Fr.refl (bl []) w0
 unfold ref03_Discrete at H
 refine zq (zr (za rfl (zn (zq (zr ?_)))))
 refine zm rfl ?_
 obtain ⟨h8, H⟩ := H
 obtain ⟨h9, H⟩ := H
 have hobt := omake (n := n) (r := Rp.int .i64) (d := (0 : Int)) Try.underlying26 ti3 (fun _ _ => rfl) rfl hO h8 h9 (by decide)
 obtain ⟨w1, p2, vs3, m8, hE5, hs6, Ab⟩ := hobt
 refine zg (Ab rfl rfl) ?_
 replace hO := m8.own
 refine za rfl (zn (zq (zq (zr (zm rfl ?_)))))
 refine zo (op_lenN Try.underlying26 rfl (hE5.neq hO 0 rfl)) (zm rfl (zn (zb ?_)))
 replace hB := hB.trans m8.fr
 refine Go1.loopW (S := Nat × List Int) (fun s σ w => match s with | (k1_12, p1_13) => ∃ (lb : List Value), agrees σ [(3, .slice p2 n.toNat n.toNat), (8, .int .i64 ((List.replicate n.toNat ((0 : Int))).length : Int)), (9, .int .i64 (k1_12 : Int))] ∧ (fun Z0 => Owns w0.heap.size w Z0 A ∧ Els (Rp.int .i64) (bl Z0 ++ A) w lb p1_13 ∧ Fr (bl []) w0 (bl Z0) w) [.row 3 1 p2 n.toNat n.toNat lb]) H ⟨vs3, ⟨rfl, rfl, rfl, trivial⟩, hO, hE5, hB⟩ ?_
 intro X1
 refine prE fun k1_12 => fun p1_13 => ?_
 intro H hX1 σ w11
 refine exE fun lb => andE fun hag => andE fun hO => andE fun cG => fun hB => ?_
 dsimp only at H
 refine Go1.keep [(3, .slice p2 n.toNat n.toNat), (8, .int .i64 ((List.replicate n.toNat ((0 : Int))).length : Int)), (9, .int .i64 (k1_12 : Int))] hag ?_
 refine zq (zr ?_)
 by_cases h16 : (k1_12 : Int) < ((List.replicate n.toNat ((0 : Int))).length : Int)
 ·replace H := ifp h16 H
  refine zo (fun w => opB (op_lss rfl rfl w) (decide_eq_true h16)) (zn (zq (zt rfl rfl (zk (zq ?_)))))
  refine zb (zq (zr (zm rfl (za rfl (zn ?_)))))
  refine zr (zm rfl (zm rfl (zm rfl ?_)))
  obtain ⟨h17, H⟩ := H
  obtain ⟨h18, H⟩ := H
  refine zo (op_index Try.underlying26 ti3 rfl rfl h17 (ltn (cG.neq hO 0 rfl) h18) (cG.psome hO 0 rfl h17 h18)) ?_
  have hobt := ost (r := Rp.int .i64) rfl 0 hO rfl cG h17 h18 (v := .int .i64 (k1_12 : Int)) (u := (k1_12 : Int)) rfl rfl
  obtain ⟨w19, VA, m3, VB, BJ⟩ := hobt
  refine zg (BJ Try.underlying3 rfl ti3 (by exact rfl) (by exact rfl)) ?_
  replace hO := m3.own
  refine zn ?_
  refine Go1.inBlock ?_
  refine zr ?_
  obtain ⟨h24, H⟩ := H
  refine zo (op_add rfl rfl (wrap_i64 h24)) (zm rfl (zn ?_))
  replace hB := hB.trans m3.fr
  exact hX1 _ H _ _ ⟨VA, ⟨rfl, rfl, rfl, trivial⟩, hO, VB, hB⟩
 replace H := ifn h16 H
 refine zo (fun w => opB (op_lss rfl rfl w) (decide_eq_false h16)) (zn (zq (zf rfl rfl ?_)))
 refine Go1.exit rfl ?_
 refine zq (zr (zm rfl (za rfl (zn ?_))))
 have hobt := freeze 0 hO rfl cG
 obtain ⟨hO1, abB, VC, Jv⟩ := hobt
 replace hO := hO1; clear hO1
 refine Go1.ret1 Try.func54 rfl ?_
 replace hB := hB.trans (Owns.dropFr _ _ 0)
 exact ⟨p1_13, p2, n.toNat, (congrArg (fun nn => Value.slice p2 nn n.toNat) Jv), hB.same, (VC.ch (Ch.weak _ _ _)), H⟩
theorem body34 : Body Try.prog 34 := ⟨Try.f34, Try.func34, rfl, by kernel_rfl⟩
theorem walk_ref03_Same {A : List Nat} {w0 : World} {p_a : Option Addr} {c_a : Nat} {p_b : Option Addr} {c_b : Nat} {a : List Int} {b : List Int} (hA : ∀ b ∈ A, b < w0.heap.size) (h_a : ISl (Rp.int .i64) A w0 p_a c_a a) (h_b : ISl (Rp.int .i64) A w0 p_b c_b b) {K : Bool → Prop} (H : ref03_Same a b K) :
    CallsV Try.prog 34 #[.slice p_a a.length c_a, .slice p_b b.length c_b] w0 (fun v w' => ∃ (r0 : Bool), v = .bool r0 ∧ Same w0 w' ∧ K r0) := by
 refine CallsV.of (l := [.slice p_a a.length c_a, .slice p_b b.length c_b]) Try.func34 rfl Try.ntmps34 rfl ?_
 have hO := Owns.start hA
 have hB := Fr.refl (bl []) w0
 unfold ref03_Same at H
 refine zq (zr (za rfl (zn (zq (zq ?_)))))
 refine zr (zm rfl (zo (op_len Try.underlying26 rfl) ?_))
 replace h_a := h_a.ch (Ch.start A w0)
 replace H := H h_a.bd
 refine zm rfl (zo (op_len Try.underlying26 rfl) ?_)
 replace h_b := h_b.ch (Ch.start A w0)
 replace H := H h_b.bd
 by_cases h1 : (a.length : Int) = (b.length : Int)
 ·replace H := ifp h1 H
  refine zo (fun w => opB (op_neq rfl rfl w) (ndT h1)) (zn (zf rfl rfl (zk (zq (zq ?_)))))
  refine zr (zm rfl (zo (op_len Try.underlying26 rfl) (zm rfl (zn (zb ?_)))))
  refine Go1.loopW (S := Nat) (fun s σ w => agrees σ [(0, .slice p_a a.length c_a), (1, .slice p_b b.length c_b), (12, .int .i64 (a.length : Int)), (13, .int .i64 (s : Int))] ∧ Owns w0.heap.size w [] A ∧ ISl (Rp.int .i64) (bl [] ++ A) w p_a c_a a ∧ ISl (Rp.int .i64) (bl [] ++ A) w p_b c_b b ∧ Fr (bl []) w0 (bl []) w) H ⟨⟨rfl, rfl, rfl, rfl, trivial⟩, hO, h_a, h_b, hB⟩ ?_
  intro X1 k1_3
  intro H hX1 σ w2
  refine andE fun hag => andE fun hO => andE fun h_a => andE fun h_b => fun hB => ?_
  refine Go1.keep [(0, .slice p_a a.length c_a), (1, .slice p_b b.length c_b), (12, .int .i64 (a.length : Int)), (13, .int .i64 (k1_3 : Int))] hag ?_
  refine zq (zr ?_)
  by_cases h4 : (k1_3 : Int) < (a.length : Int)
  ·replace H := ifp h4 H
   refine zo (fun w => opB (op_lss rfl rfl w) (decide_eq_true h4)) (zn (zq (zt rfl rfl (zk (zq ?_)))))
   refine zb (zq (zr (zm rfl (za rfl (zn ?_)))))
   refine zq ?_
   refine Go1.drawS 0 [(0, .pure), (1, .pure), (2, .pure), (3, .stable), (4, .pure), (5, .pure), (6, .pure), (7, .stable), (8, .pure)] mixed (by kernel_rfl) ?_
   intro w5 hs6
   have qQ := Stp.same hO hs6
   replace hO := qQ.own
   refine GoQ.pure rfl (op_move rfl) rfl rfl ?_
   refine GoQ.pure rfl (op_move rfl) rfl rfl ?_
   obtain ⟨h8, H⟩ := H
   obtain ⟨h9, H⟩ := H
   replace h_a := h_a.ch qQ.ch
   refine GoQ.pure rfl (op_index Try.underlying26 ti3 rfl rfl h8 h9 (h_a.some_ h8 h9)) rfl rfl ?_
   refine GoQ.stable rfl (ldInt h_a h8 h9 Try.underlying3 rfl rfl) rfl rfl ?_
   refine GoQ.pure rfl (op_move rfl) rfl rfl ?_
   refine GoQ.pure rfl (op_move rfl) rfl rfl ?_
   obtain ⟨h10, H⟩ := H
   obtain ⟨h11, H⟩ := H
   replace h_b := h_b.ch qQ.ch
   refine GoQ.pure rfl (op_index Try.underlying26 ti3 rfl rfl h10 h11 (h_b.some_ h10 h11)) rfl rfl ?_
   refine GoQ.stable rfl (ldInt h_b h10 h11 Try.underlying3 rfl rfl) rfl rfl ?_
   by_cases h12 : (ix a (k1_3 : Int)) = (ix b (k1_3 : Int))
   ·replace H := ifp h12 H
    refine GoQ.pure rfl (fun w => opB (op_neq rfl rfl w) (ndT h12)) rfl rfl ?_
    refine GoQ.nil ?_
    refine zf rfl rfl (zk ?_)
    refine Go1.inBlock ?_
    refine zr (zo (op_add rfl rfl (wrap_i64 (natbd h4 h_a.bd))) (zm rfl (zn ?_)))
    replace hB := hB.trans qQ.fr
    exact hX1 _ H _ _ ⟨⟨rfl, rfl, rfl, rfl, trivial⟩, hO, h_a, h_b, hB⟩
   replace H := ifn h12 H
   refine GoQ.pure rfl (fun w => opB (op_neq rfl rfl w) (ndF h12)) rfl rfl ?_
   refine GoQ.nil ?_
   refine zt rfl rfl (zq (zr (za rfl (zn ?_))))
   refine Go1.ret1 Try.func34 rfl ?_
   replace hB := hB.trans qQ.fr
   exact ⟨false, rfl, hB.same, H⟩
  replace H := ifn h4 H
  refine zo (fun w => opB (op_lss rfl rfl w) (decide_eq_false h4)) (zn (zq (zf rfl rfl ?_)))
  refine Go1.exit rfl ?_
  refine zq (zr (za rfl (zn ?_)))
  refine Go1.ret1 Try.func34 rfl ?_
  exact ⟨true, rfl, hB.same, H⟩
 replace H := ifn h1 H
 refine zo (fun w => opB (op_neq rfl rfl w) (ndF h1)) (zn (zt rfl rfl (zq (zr (za rfl ?_)))))
 refine zn ?_
 refine Go1.ret1 Try.func34 rfl ?_
 exact ⟨false, rfl, hB.same, H⟩
theorem body41 : Body Try.prog 41 := ⟨Try.f41, Try.func41, rfl, by kernel_rfl⟩
theorem walk_ref12_Find {A : List Nat} {w0 : World} {z6 : Option Addr} {z7 : Nat} {p_f : Option Addr} {c_f : Nat} {elems : List (List Int)} {f : List Int} (hA : ∀ b ∈ A, b < w0.heap.size) (tR : ISl (Rp.sl (Rp.int .i64)) A w0 z6 z7 elems) (h_f : ISl (Rp.int .i64) A w0 p_f c_f f) {K : Int → Prop} (H : ref12_Find elems f K) :
    CallsV Try.prog 41 #[.slice z6 elems.length z7, .slice p_f f.length c_f] w0 (fun v w' => ∃ (r0 : Int), v = .int .i64 r0 ∧ Same w0 w' ∧ K r0) := by
 refine CallsV.of (l := [.slice z6 elems.length z7, .slice p_f f.length c_f]) Try.func41 rfl Try.ntmps41 rfl ?_
 have hO := Owns.start hA
 have hB := Fr.refl (bl []) w0
 unfold ref12_Find at H
 refine zq (zr (za rfl (zn (zq (zq ?_)))))
 refine zr (zm rfl (zo (op_len Try.underlying22 rfl) ?_))
 replace tR := tR.ch (Ch.start A w0)
 replace H := H tR.bd
 refine zm rfl (zn (zb ?_))
 replace h_f := h_f.ch (Ch.start A w0)
 refine Go1.loopW (S := Nat) (fun s σ w => agrees σ [(0, .slice z6 elems.length z7), (1, .slice p_f f.length c_f), (7, .int .i64 (elems.length : Int)), (8, .int .i64 (s : Int))] ∧ Owns w0.heap.size w [] A ∧ ISl (Rp.sl (Rp.int .i64)) (bl [] ++ A) w z6 z7 elems ∧ ISl (Rp.int .i64) (bl [] ++ A) w p_f c_f f ∧ Fr (bl []) w0 (bl []) w) H ⟨⟨rfl, rfl, rfl, rfl, trivial⟩, hO, tR, h_f, hB⟩ ?_
 intro X1 k1_2
 intro H hX1 σ w1
 refine andE fun hag => andE fun hO => andE fun tR => andE fun h_f => fun hB => ?_
 refine Go1.keep [(0, .slice z6 elems.length z7), (1, .slice p_f f.length c_f), (7, .int .i64 (elems.length : Int)), (8, .int .i64 (k1_2 : Int))] hag ?_
 refine zq (zr ?_)
 by_cases h3 : (k1_2 : Int) < (elems.length : Int)
 ·replace H := ifp h3 H
  refine zo (fun w => opB (op_lss rfl rfl w) (decide_eq_true h3)) (zn (zq (zt rfl rfl (zk (zq ?_)))))
  refine zb (zq (zr (zm rfl (za rfl (zn ?_)))))
  refine zq (zr (zm rfl (zm rfl ?_)))
  obtain ⟨h4, H⟩ := H
  obtain ⟨h5, H⟩ := H
  refine zo (op_index Try.underlying22 ti26 rfl rfl h4 h5 (tR.some_ h4 h5)) ?_
  have hobt := ldSl tR h4 h5
  obtain ⟨p6, c7, hi8, hl9⟩ := hobt
  refine zs (hl9 Try.underlying26 rfl rfl) (zm rfl ?_)
  refine GoR.call (op_call body34 rfl (walk_ref03_Same hO.lt hi8 h_f H)) rfl rfl ?_
  rintro v14 w11 ⟨r10, rfl, IB, H⟩
  have iJ := Stp.same hO IB
  replace hO := iJ.own
  refine zn ?_
  cases r10
  ·replace H := ifn Bool.false_ne_true H
   refine zf rfl rfl (zk ?_)
   refine Go1.inBlock ?_
   refine zr ?_
   replace tR := tR.ch iJ.ch
   refine zo (op_add rfl rfl (wrap_i64 (natbd h3 tR.bd))) (zm rfl (zn ?_))
   replace h_f := h_f.ch iJ.ch
   replace hB := hB.trans iJ.fr
   exact hX1 _ H _ _ ⟨⟨rfl, rfl, rfl, rfl, trivial⟩, hO, tR, h_f, hB⟩
  replace H := ifp rfl H
  refine zt rfl rfl (zq (zr (zm rfl (za rfl (zn ?_)))))
  refine Go1.ret1 Try.func41 rfl ?_
  replace hB := hB.trans iJ.fr
  exact ⟨(k1_2 : Int), rfl, hB.same, H⟩
 replace H := ifn h3 H
 refine zo (fun w => opB (op_lss rfl rfl w) (decide_eq_false h3)) (zn (zq (zf rfl rfl ?_)))
 refine Go1.exit rfl ?_
 refine zq (zr (za rfl (zn ?_)))
 refine Go1.ret1 Try.func41 rfl ?_
 exact ⟨(-1 : Int), rfl, hB.same, H⟩
theorem body55 : Body Try.prog 55 := ⟨Try.f55, Try.func55, rfl, by kernel_rfl⟩
theorem walk_ref12_letter {A : List Nat} {w0 : World} {x : Int} (hA : ∀ b ∈ A, b < w0.heap.size) {K : Str → Prop} (H : ref12_letter x K) :
    CallsV Try.prog 55 #[.int .i64 x] w0 (fun v w' => ∃ (r0 : Str), v = .string (gstr r0) ∧ Same w0 w' ∧ r0.length ≤ mx ∧ K r0) := by
 refine CallsV.of (l := [.int .i64 x]) Try.func55 rfl Try.ntmps55 rfl ?_
 have hO := Owns.start hA
 have hB := Fr.refl (bl []) w0
 unfold ref12_letter at H
 refine zq (zr (za rfl (zn (zq (zr ?_)))))
 refine zm rfl ?_
 obtain ⟨h1, H⟩ := H
 refine zo (op_add rfl rfl (wrap_i64 h1)) (zo (op_conv Try.underlying3 Try.underlying5 rfl rfl) ?_)
 have hobt := obuild (r := Rp.int .u8) (n := 1) (parts := [(0, .int .u8 (IntKind.u8.wrap ((97 : Int) + x)))]) (vs := [.int .u8 (IntKind.u8.wrap ((97 : Int) + x))]) (xs := [(IntKind.u8.wrap ((97 : Int) + x))]) rfl Try.underlying84 ti5 hO (by decide) (by kernel_rfl) (Els.cons rfl rfl (Els.nil _ _ _) (by simp [mx])) rfl
 obtain ⟨w2, p3, m8, hE5, hs6, Ab⟩ := hobt
 refine zg (Ab rfl) ?_
 replace hO := m8.own
 have hle9 := byt_le hE5.bd
 refine zs (oldBytes 0 hO rfl hE5 Try.underlying84 Try.underlying5 Try.underlying9 rfl) (za rfl (zn ?_))
 refine Go1.ret1 Try.func55 rfl ?_
 replace hB := hB.trans m8.fr
 exact ⟨byt ([(IntKind.u8.wrap ((97 : Int) + x))]), rfl, hB.same, hle9, H⟩
theorem body40 : Body Try.prog 40 := ⟨Try.f40, Try.func40, rfl, by kernel_rfl⟩
theorem walk_ref12_Word {A : List Nat} {w0 : World} {cd : Option Addr} {ce : Nat} {bG : Option Addr} {bH : Nat} {bq : Option Addr} {bt : Nat} {b7 : Option Addr} {b8 : Nat} {bI : Option Addr} {bK : Nat} {bM : Option Addr} {bN : Nat} {e : Enum} {i : Int} (hA : ∀ b ∈ A, b < w0.heap.size) (aR : ISl (Rp.sl (Rp.int .i64)) A w0 cd ce e.Gens) (aK : ISl (Rp.sl (Rp.int .i64)) A w0 bG bH e.Elems) (aC : ISl (Rp.int .i64) A w0 bq bt e.Prefix) (aS : ISl (Rp.int .i64) A w0 b7 b8 e.Last) (aL : ISl (Rp.sl (Rp.int .i64)) A w0 bI bK e.Right) (aM : ISl (rpRule) A w0 bM bN e.Rules) {K : Str → Prop} (H : ref12_Word e i K) :
    CallsV Try.prog 40 #[.agg #[.int .i64 e.Points, .bool e.Monoid, .slice cd e.Gens.length ce, .slice bG e.Elems.length bH, .slice bq e.Prefix.length bt, .slice b7 e.Last.length b8, .slice bI e.Right.length bK, .slice bM e.Rules.length bN, .int .i64 e.Done], .int .i64 i] w0 (fun v w' => ∃ (r0 : Str), v = .string (gstr r0) ∧ Same w0 w' ∧ r0.length ≤ mx ∧ K r0) := by
 refine CallsV.of (l := [.agg #[.int .i64 e.Points, .bool e.Monoid, .slice cd e.Gens.length ce, .slice bG e.Elems.length bH, .slice bq e.Prefix.length bt, .slice b7 e.Last.length b8, .slice bI e.Right.length bK, .slice bM e.Rules.length bN, .int .i64 e.Done], .int .i64 i]) Try.func40 rfl Try.ntmps40 rfl ?_
 have hO := Owns.start hA
 have hB := Fr.refl (bl []) w0
 unfold ref12_Word at H
 refine zq (zr ?_)
 have hobt := obox (t := 29) (v := .agg #[.int .i64 e.Points, .bool e.Monoid, .slice cd e.Gens.length ce, .slice bG e.Elems.length bH, .slice bq e.Prefix.length bt, .slice b7 e.Last.length b8, .slice bI e.Right.length bK, .slice bM e.Rules.length bN, .int .i64 e.Done]) (cs := #[.int .i64 e.Points, .bool e.Monoid, .slice cd e.Gens.length ce, .slice bG e.Elems.length bH, .slice bq e.Prefix.length bt, .slice b7 e.Last.length b8, .slice bI e.Right.length bK, .slice bM e.Rules.length bN, .int .i64 e.Done]) hO rfl
 obtain ⟨w1, B2, dI, hs4, qb⟩ := hobt
 refine zg (qb rfl) ?_
 replace hO := dI.own
 refine za rfl (zn (zq (zr (za rfl (zn ?_)))))
 refine zq (zb ?_)
 replace hB := hB.trans dI.fr
 have Z1 := (Ch.start A w0).trans dI.ch
 replace aR := aR.ch Z1
 replace aK := aK.ch Z1
 replace aC := aC.ch Z1
 replace aS := aS.ch Z1
 replace aL := aL.ch Z1
 replace aM := aM.ch Z1
 refine Go1.loopW (S := Int × Str) (fun s σ w => match s with | (i1_8, w1_9) => agrees σ [(1, .int .i64 i1_8), (2, .pointer (some ⟨B2, 0, none⟩)), (5, .string (gstr w1_9))] ∧ (fun Z0 => Owns w0.heap.size w Z0 A ∧ ISl (Rp.sl (Rp.int .i64)) (bl Z0 ++ A) w cd ce e.Gens ∧ ISl (Rp.sl (Rp.int .i64)) (bl Z0 ++ A) w bG bH e.Elems ∧ ISl (Rp.int .i64) (bl Z0 ++ A) w bq bt e.Prefix ∧ ISl (Rp.int .i64) (bl Z0 ++ A) w b7 b8 e.Last ∧ ISl (Rp.sl (Rp.int .i64)) (bl Z0 ++ A) w bI bK e.Right ∧ ISl (rpRule) (bl Z0 ++ A) w bM bN e.Rules ∧ w1_9.length ≤ mx ∧ Fr (bl []) w0 (bl Z0) w) [.blk B2 (.cells #[.int .i64 e.Points, .bool e.Monoid, .slice cd e.Gens.length ce, .slice bG e.Elems.length bH, .slice bq e.Prefix.length bt, .slice b7 e.Last.length b8, .slice bI e.Right.length bK, .slice bM e.Rules.length bN, .int .i64 e.Done] 29 (0, 0))]) H ⟨⟨rfl, rfl, rfl, trivial⟩, hO, aR, aK, aC, aS, aL, aM, (by decide), hB⟩ ?_
 intro X1
 refine prE fun i1_8 => fun w1_9 => ?_
 intro H hX1 σ w7
 refine andE fun hag => andE fun hO => andE fun aR => andE fun aK => andE fun aC => andE fun aS => andE fun aL => andE fun aM => andE fun hle_w1_9 => fun hB => ?_
 dsimp only at H
 refine Go1.keep [(1, .int .i64 i1_8), (2, .pointer (some ⟨B2, 0, none⟩)), (5, .string (gstr w1_9))] hag ?_
 refine zq (zq (zr (zm rfl ?_)))
 by_cases h10 : (0 : Int) ≤ i1_8
 ·replace H := ifp h10 H
  refine zo (fun w => opB (op_geq rfl rfl w) (decide_eq_true h10)) (zm rfl (zo (op_fieldAddr Try.underlying29 rfl ti26 rfl (by decide)) (zs (oblk (i := 5) 0 hO rfl rfl Try.underlying26 rfl rfl) (zm rfl ?_))))
  obtain ⟨h11, H⟩ := H
  obtain ⟨h12, H⟩ := H
  refine zo (op_index Try.underlying26 ti3 rfl rfl h11 h12 (aS.some_ h11 h12)) (zs (ldInt aS h11 h12 Try.underlying3 rfl rfl) ?_)
  by_cases h13 : (0 : Int) ≤ (ix e.Last i1_8)
  ·replace H := ifp h13 H
   refine zo (fun w => opB (op_geq rfl rfl w) (decide_eq_true h13)) (zo (op_pickT rfl rfl rfl) (zn (zt rfl rfl (zk (zb ?_)))))
   refine zq (zr (zo (op_fieldAddr Try.underlying29 rfl ti26 rfl (by decide)) (zs (oblk (i := 5) 0 hO rfl rfl Try.underlying26 rfl rfl) (zm rfl ?_))))
   obtain ⟨h14, H⟩ := H
   obtain ⟨h15, H⟩ := H
   refine zo (op_index Try.underlying26 ti3 rfl rfl h14 h15 (aS.some_ h14 h15)) (zs (ldInt aS h14 h15 Try.underlying3 rfl rfl) ?_)
   refine GoR.call (op_call body55 rfl (walk_ref12_letter hO.lt H)) rfl rfl ?_
   rintro v20 w17 ⟨r16, rfl, z8, W8, H⟩
   have m3 := Stp.same hO z8
   replace hO := m3.own
   refine zm rfl ?_
   obtain ⟨h22, H⟩ := H
   refine zo (op_addS rfl rfl h22) (za rfl (zn ?_))
   refine Go1.cut [(1, .int .i64 i1_8), (2, .pointer (some ⟨B2, 0, none⟩)), (5, .string (gstr (r16 ++ w1_9)))] ⟨rfl, rfl, rfl, trivial⟩ ?_
   intro σ _
   refine zr (zo (op_fieldAddr Try.underlying29 rfl ti26 rfl (by decide)) (zs (oblk (i := 4) 0 hO rfl rfl Try.underlying26 rfl rfl) (zm rfl ?_)))
   obtain ⟨h23, H⟩ := H
   obtain ⟨h24, H⟩ := H
   replace aC := aC.ch m3.ch
   refine zo (op_index Try.underlying26 ti3 rfl rfl h23 h24 (aC.some_ h23 h24)) (zs (ldInt aC h23 h24 Try.underlying3 rfl rfl) (za rfl (zn ?_)))
   refine Go1.inBlock ?_
   replace aR := aR.ch m3.ch
   replace aK := aK.ch m3.ch
   replace aS := aS.ch m3.ch
   replace aL := aL.ch m3.ch
   replace aM := aM.ch m3.ch
   replace hB := hB.trans m3.fr
   exact hX1 _ H _ _ ⟨⟨rfl, rfl, rfl, trivial⟩, hO, aR, aK, aC, aS, aL, aM, (lenApp h22), hB⟩
  replace H := ifn h13 H
  refine zo (fun w => opB (op_geq rfl rfl w) (decide_eq_false h13)) (zo (op_pickT rfl rfl rfl) (zn (zf rfl rfl ?_)))
  refine Go1.exit rfl ?_
  refine zq (zr (zm rfl (za rfl (zn ?_))))
  refine Go1.ret1 Try.func40 rfl ?_
  exact ⟨w1_9, rfl, hB.same, hle_w1_9, H⟩
 replace H := ifn h10 H
 refine zo (fun w => opB (op_geq rfl rfl w) (decide_eq_false h10)) (zm rfl (zp (zp (zp (zp ?_)))))
 refine zp (zp (zo (op_pickF rfl rfl rfl) (zn (zf rfl rfl ?_))))
 refine Go1.exit rfl ?_
 refine zq (zr (zm rfl (za rfl (zn ?_))))
 refine Go1.ret1 Try.func40 rfl ?_
 exact ⟨w1_9, rfl, hB.same, hle_w1_9, H⟩
end Sg
