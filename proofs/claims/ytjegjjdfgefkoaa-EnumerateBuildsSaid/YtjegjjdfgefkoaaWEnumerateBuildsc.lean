/- The walks: each call keeps to its plain transformer. Printed by walkgen.py. -/
import Derived.Test.YtjegjjdfgefkoaaTi
import Derived.Test.YtjegjjdfgefkoaaWEnumerateBuilds
import Derived.Test.YtjegjjdfgefkoaaWEnumerateBuildsb
import Derived.Test.YtjegjjdfgefkoaaAl
namespace Sg
open Go Go.RowKit Go.Proofs
set_option linter.unusedVariables false
set_option linter.unusedSimpArgs false
set_option maxRecDepth 100000
set_option maxHeartbeats 4000000
theorem body68 : Body Try.prog 68 := ⟨Try.f68, Try.func68, rfl, by kernel_rfl⟩
theorem body53 : Body Try.prog 53 := ⟨Try.f53, Try.func53, rfl, by kernel_rfl⟩
theorem walk_enumerate_replay {A : List Nat} {w0 : World} {bW : Option Addr} {bX : Nat} {bo : Option Addr} {bp : Nat} {bc : Option Addr} {bf : Nat} {bP : Option Addr} {bQ : Nat} {bq : Option Addr} {bt : Nat} {bu : Option Addr} {bv : Nat} {e : Enum} (hA : ∀ b ∈ A, b < w0.heap.size) (aV : ISl (Rp.sl (Rp.int .i64)) A w0 bW bX e.Gens) (aL : ISl (Rp.sl (Rp.int .i64)) A w0 bo bp e.Elems) (au : ISl (Rp.int .i64) A w0 bc bf e.Prefix) (aU : ISl (Rp.int .i64) A w0 bP bQ e.Last) (aM : ISl (Rp.sl (Rp.int .i64)) A w0 bq bt e.Right) (aN : ISl (rpRule) A w0 bu bv e.Rules) {K : Option run → Bool → Prop} (H : enumerate_replay e K) :
    CallsV Try.prog 53 #[.agg #[.int .i64 e.Points, .bool e.Monoid, .slice bW e.Gens.length bX, .slice bo e.Elems.length bp, .slice bc e.Prefix.length bf, .slice bP e.Last.length bQ, .slice bq e.Right.length bt, .slice bu e.Rules.length bv, .int .i64 e.Done]] w0 (fun v w' => (∃ (r1 : Bool), v = .tuple #[.pointer none, .bool r1] ∧ Same w0 w' ∧ K none r1) ∨ (∃ (q : run), ∃ (r1 : Bool), ∃ (b_q : Nat), ∃ (aO : Nat), ∃ (aP : Option Addr), ∃ (aQ : Nat), ∃ (cf : List Value), ∃ (aC : Nat), ∃ (aD : Option Addr), ∃ (aE : Nat), ∃ (bS : List Value), ∃ (av : Nat), ∃ (aw : Option Addr), ∃ (ax : Nat), ∃ (bG : List Value), ∃ (aR : Nat), ∃ (aS : Option Addr), ∃ (aT : Nat), ∃ (cg : List Value), ∃ (aF : Nat), ∃ (aG : Option Addr), ∃ (aH : Nat), ∃ (bT : List Value), ∃ (aI : Nat), ∃ (aJ : Option Addr), ∃ (aK : Nat), ∃ (bU : List Value), ∃ (cJ : Nat), ∃ (bI : Nat), ∃ (bK : Option Addr), ∃ (bM : Nat), ∃ (dl : List Value), ∃ (bh : Nat), ∃ (bi : Option Addr), ∃ (bj : Nat), ∃ (cT : List Value), ∃ (bk : Nat), ∃ (bm : Option Addr), ∃ (bn : Nat), ∃ (cU : List Value), v = .tuple #[.pointer (some ⟨b_q, 0, none⟩), .bool r1] ∧ Same w0 w' ∧ (fun Z0 => Owns w0.heap.size w' Z0 A ∧ Els (Rp.sl (Rp.int .i64)) (bl Z0 ++ A) w' cf q.Enum.Gens ∧ Els (Rp.sl (Rp.int .i64)) (bl Z0 ++ A) w' bS q.Enum.Elems ∧ Els (Rp.int .i64) (bl Z0 ++ A) w' bG q.Enum.Prefix ∧ Els (Rp.int .i64) (bl Z0 ++ A) w' cg q.Enum.Last ∧ Els (Rp.sl (Rp.int .i64)) (bl Z0 ++ A) w' bT q.Enum.Right ∧ Els (rpRule) (bl Z0 ++ A) w' bU q.Enum.Rules ∧ Els (Rp.str) (bl Z0 ++ A) w' dl q.words ∧ Els (Rp.int .i64) (bl Z0 ++ A) w' cT q.behind ∧ Els (Rp.int .i64) (bl Z0 ++ A) w' cU q.single ∧ K (some q) r1) [.blk b_q (.cells #[.int .i64 q.Enum.Points, .bool q.Enum.Monoid, .slice aP aO aQ, .slice aD aC aE, .slice aw av ax, .slice aS aR aT, .slice aG aF aH, .slice aJ aI aK, .int .i64 q.Enum.Done, .map (some cJ), .slice bK bI bM, .slice bi bh bj, .slice bm bk bn] 72 (0, 0)), .row 26 1 aP aO aQ cf, .row 26 1 aD aC aE bS, .row 3 1 aw av ax bG, .row 3 1 aS aR aT cg, .row 26 1 aG aF aH bT, .row 39 2 aJ aI aK bU, .row 9 1 bK bI bM dl, .row 3 1 bi bh bj cT, .row 3 1 bm bk bn cU, .any (mapE (fun a : List UInt8 => Value.string (gstr a)) (fun a : Int => Value.int .i64 a) cJ q.number)])) := by
 refine CallsV.of (l := [.agg #[.int .i64 e.Points, .bool e.Monoid, .slice bW e.Gens.length bX, .slice bo e.Elems.length bp, .slice bc e.Prefix.length bf, .slice bP e.Last.length bQ, .slice bq e.Right.length bt, .slice bu e.Rules.length bv, .int .i64 e.Done]]) Try.func53 rfl Try.ntmps53 rfl ?_
 have hO := Owns.start hA
 have hB := Fr.refl (bl []) w0
 unfold enumerate_replay at H
 refine zq (zr ?_)
 have hobt := obox (t := 29) (v := .agg #[.int .i64 e.Points, .bool e.Monoid, .slice bW e.Gens.length bX, .slice bo e.Elems.length bp, .slice bc e.Prefix.length bf, .slice bP e.Last.length bQ, .slice bq e.Right.length bt, .slice bu e.Rules.length bv, .int .i64 e.Done]) (cs := #[.int .i64 e.Points, .bool e.Monoid, .slice bW e.Gens.length bX, .slice bo e.Elems.length bp, .slice bc e.Prefix.length bf, .slice bP e.Last.length bQ, .slice bq e.Right.length bt, .slice bu e.Rules.length bv, .int .i64 e.Done]) hO rfl
 obtain ⟨w1, B2, eF, hs4, vF⟩ := hobt
 refine zg (vF rfl) ?_
 replace hO := eF.own
 refine za rfl (za rfl (zn (zq (zr (zo (op_fieldAddr Try.underlying29 rfl ti22 rfl (by decide)) ?_)))))
 refine zs (oblk (i := 2) 0 hO rfl rfl Try.underlying22 rfl rfl) (zo (op_fieldAddr Try.underlying29 rfl ti4 rfl (by decide)) (zs (oblk (i := 1) 0 hO rfl rfl Try.underlying4 rfl rfl) ?_))
 replace aV := (aV.ch (Ch.start A w0)).ch eF.ch
 refine GoR.call (op_call body49 rfl (walk_enumerate_begin hO.lt aV H)) rfl rfl ?_
 intro v9 w10 hcase13
 refine Or.elim hcase13 ?_ ?_
 ·refine exE fun r8 => andE fun hv14 => andE fun x5 => fun H => ?_
  subst hv14
  clear hcase13
  replace H := oElimN H
  have jN := Stp.same hO x5
  replace hO := jN.own
  refine zm rfl (zo (op_extract rfl rfl) (zo (op_extract rfl rfl) (za rfl (za rfl (zn ?_)))))
  refine zq (zq (zr (zm rfl ?_)))
  by_cases h16 : r8 = (0 : Int)
  ·replace H := ifp h16 H
   refine zo (fun w => opB (op_neq rfl rfl w) (ndT h16)) (zn (zf rfl rfl (zk (zq (zb ?_)))))
   replace aV := aV.ch jN.ch
   replace hB := (hB.trans eF.fr).trans jN.fr
   have Z1 := ((Ch.start A w0).trans eF.ch).trans jN.ch
   replace aL := aL.ch Z1
   replace au := au.ch Z1
   replace aU := aU.ch Z1
   replace aM := aM.ch Z1
   replace aN := aN.ch Z1
   refine Go1.loopW (S := Unit) (fun s σ w => agrees σ [(1, .pointer (some ⟨B2, 0, none⟩)), (4, .pointer none)] ∧ (fun Z0 => Owns w0.heap.size w Z0 A ∧ ISl (Rp.sl (Rp.int .i64)) (bl Z0 ++ A) w bW bX e.Gens ∧ ISl (Rp.sl (Rp.int .i64)) (bl Z0 ++ A) w bo bp e.Elems ∧ ISl (Rp.int .i64) (bl Z0 ++ A) w bc bf e.Prefix ∧ ISl (Rp.int .i64) (bl Z0 ++ A) w bP bQ e.Last ∧ ISl (Rp.sl (Rp.int .i64)) (bl Z0 ++ A) w bq bt e.Right ∧ ISl (rpRule) (bl Z0 ++ A) w bu bv e.Rules ∧ Fr (bl []) w0 (bl Z0) w) [.blk B2 (.cells #[.int .i64 e.Points, .bool e.Monoid, .slice bW e.Gens.length bX, .slice bo e.Elems.length bp, .slice bc e.Prefix.length bf, .slice bP e.Last.length bQ, .slice bq e.Right.length bt, .slice bu e.Rules.length bv, .int .i64 e.Done] 29 (0, 0))]) H ⟨⟨rfl, rfl, trivial⟩, hO, aV, aL, au, aU, aM, aN, hB⟩ ?_
   intro X1 _
   intro H hX1 σ w17
   refine andE fun hag => andE fun hO => andE fun aV => andE fun aL => andE fun au => andE fun aU => andE fun aM => andE fun aN => fun hB => ?_
   refine Go1.keep [(1, .pointer (some ⟨B2, 0, none⟩)), (4, .pointer none)] hag ?_
   refine zq (zq ?_)
   refine Go1.drawS 0 [(0, .pure), (1, .pure), (2, .pure), (3, .pure), (4, .stable), (5, .pure), (6, .stable), (7, .pure)] mixed (by kernel_rfl) ?_
   intro w18 Cw
   have ve := Stp.same hO Cw
   replace hO := ve.own
   refine GoQ.pure rfl (op_move rfl) rfl rfl ?_
   exact H.elim
  replace H := ifn h16 H
  refine zo (fun w => opB (op_neq rfl rfl w) (ndF h16)) (zn (zt rfl rfl (zq (zr (za rfl ?_)))))
  refine za rfl (zn ?_)
  refine Go1.ret2 Try.func53 rfl ?_
  replace hB := (hB.trans eF.fr).trans jN.fr
  exact Or.inl ⟨false, rfl, hB.same, H⟩
 ·refine exE fun r7 => exE fun r8 => exE fun eH => exE fun uu => exE fun uv => exE fun uw => exE fun tG => exE fun tH => exE fun tI => exE fun tJ => exE fun rP => exE fun rQ => exE fun rR => exE fun rS => exE fun qx => exE fun ux => exE fun uy => exE fun uz => exE fun tK => exE fun tL => exE fun tM => exE fun tN => exE fun rT => exE fun tO => exE fun tP => exE fun tQ => exE fun rU => exE fun ai => exE fun xw => exE fun xx => exE fun xz => exE fun wx => exE fun wy => exE fun wz => exE fun wA => exE fun vO => exE fun wB => exE fun wC => exE fun wD => exE fun vP => andE fun hv21 => andE fun x5 => andE fun hN12 => andE fun fe => andE fun er => andE fun et => andE fun ff => andE fun eM => andE fun eN => andE fun fA => andE fun fW => andE fun fX => fun H => ?_
  subst hv21
  clear hcase13
  replace H := oElimS H
  have fH := Stp.more hO x5 hN12
  dsimp only [List.cons_append, List.nil_append] at fH
  replace hO := fH.own
  replace fe := fe.ch (Ch.assoc _ _ _ _)
  dsimp only [List.cons_append, List.nil_append] at fe
  replace er := er.ch (Ch.assoc _ _ _ _)
  dsimp only [List.cons_append, List.nil_append] at er
  replace et := et.ch (Ch.assoc _ _ _ _)
  dsimp only [List.cons_append, List.nil_append] at et
  replace ff := ff.ch (Ch.assoc _ _ _ _)
  dsimp only [List.cons_append, List.nil_append] at ff
  replace eM := eM.ch (Ch.assoc _ _ _ _)
  dsimp only [List.cons_append, List.nil_append] at eM
  replace eN := eN.ch (Ch.assoc _ _ _ _)
  dsimp only [List.cons_append, List.nil_append] at eN
  replace fA := fA.ch (Ch.assoc _ _ _ _)
  dsimp only [List.cons_append, List.nil_append] at fA
  replace fW := fW.ch (Ch.assoc _ _ _ _)
  dsimp only [List.cons_append, List.nil_append] at fW
  replace fX := fX.ch (Ch.assoc _ _ _ _)
  dsimp only [List.cons_append, List.nil_append] at fX
  refine zm rfl (zo (op_extract rfl rfl) (zo (op_extract rfl rfl) (za rfl (za rfl (zn ?_)))))
  refine zq (zq (zr (zm rfl ?_)))
  by_cases h34 : r8 = (0 : Int)
  ·replace H := ifp h34 H
   refine zo (fun w => opB (op_neq rfl rfl w) (ndT h34)) (zn (zf rfl rfl (zk (zq (zb ?_)))))
   replace aV := aV.ch fH.ch
   replace hB := (hB.trans eF.fr).trans fH.fr
   have Z2 := ((Ch.start A w0).trans eF.ch).trans fH.ch
   replace aL := aL.ch Z2
   replace au := au.ch Z2
   replace aU := aU.ch Z2
   replace aM := aM.ch Z2
   replace aN := aN.ch Z2
   refine Go1.loopW (S := Int × Bool × Int × List (List Int) × List (List Int) × List Int × List Int × List (List Int) × List Rule × List Str × List Int × List Int × (List (Str × Int))) (fun s σ w => match s with | (k2_36, b2_37, k2_38, d_39, d_45, d_51, d_57, d_63, d_69, d_75, d_81, d_87, m2_93) => ∃ (n44 : Nat), ∃ (p42 : Option Addr), ∃ (c43 : Nat), ∃ (kN : List Value), ∃ (n50 : Nat), ∃ (p48 : Option Addr), ∃ (c49 : Nat), ∃ (kO : List Value), ∃ (n56 : Nat), ∃ (p54 : Option Addr), ∃ (c55 : Nat), ∃ (kP : List Value), ∃ (n62 : Nat), ∃ (p60 : Option Addr), ∃ (c61 : Nat), ∃ (kQ : List Value), ∃ (n68 : Nat), ∃ (p66 : Option Addr), ∃ (c67 : Nat), ∃ (kS : List Value), ∃ (n74 : Nat), ∃ (p72 : Option Addr), ∃ (c73 : Nat), ∃ (kT : List Value), ∃ (n80 : Nat), ∃ (p78 : Option Addr), ∃ (c79 : Nat), ∃ (kU : List Value), ∃ (n86 : Nat), ∃ (p84 : Option Addr), ∃ (c85 : Nat), ∃ (fM : List Value), ∃ (n92 : Nat), ∃ (p90 : Option Addr), ∃ (c91 : Nat), ∃ (fN : List Value), agrees σ [(1, .pointer (some ⟨B2, 0, none⟩)), (4, .pointer (some ⟨eH, 0, none⟩))] ∧ (fun Z0 => Owns w0.heap.size w Z0 A ∧ Els (Rp.sl (Rp.int .i64)) (bl Z0 ++ A) w kN d_39 ∧ Els (Rp.sl (Rp.int .i64)) (bl Z0 ++ A) w kO d_45 ∧ Els (Rp.int .i64) (bl Z0 ++ A) w kP d_51 ∧ Els (Rp.int .i64) (bl Z0 ++ A) w kQ d_57 ∧ Els (Rp.sl (Rp.int .i64)) (bl Z0 ++ A) w kS d_63 ∧ Els (rpRule) (bl Z0 ++ A) w kT d_69 ∧ Els (Rp.str) (bl Z0 ++ A) w kU d_75 ∧ Els (Rp.int .i64) (bl Z0 ++ A) w fM d_81 ∧ Els (Rp.int .i64) (bl Z0 ++ A) w fN d_87 ∧ ISl (Rp.sl (Rp.int .i64)) (bl Z0 ++ A) w bW bX e.Gens ∧ ISl (Rp.sl (Rp.int .i64)) (bl Z0 ++ A) w bo bp e.Elems ∧ ISl (Rp.int .i64) (bl Z0 ++ A) w bc bf e.Prefix ∧ ISl (Rp.int .i64) (bl Z0 ++ A) w bP bQ e.Last ∧ ISl (Rp.sl (Rp.int .i64)) (bl Z0 ++ A) w bq bt e.Right ∧ ISl (rpRule) (bl Z0 ++ A) w bu bv e.Rules ∧ Fr (bl []) w0 (bl Z0) w) [.blk eH (.cells #[.int .i64 k2_36, .bool b2_37, .slice p42 n44 c43, .slice p48 n50 c49, .slice p54 n56 c55, .slice p60 n62 c61, .slice p66 n68 c67, .slice p72 n74 c73, .int .i64 k2_38, .map (some ai), .slice p78 n80 c79, .slice p84 n86 c85, .slice p90 n92 c91] 72 (0, 0)), .row 26 1 p42 n44 c43 kN, .row 26 1 p48 n50 c49 kO, .row 3 1 p54 n56 c55 kP, .row 3 1 p60 n62 c61 kQ, .row 26 1 p66 n68 c67 kS, .row 39 2 p72 n74 c73 kT, .row 9 1 p78 n80 c79 kU, .row 3 1 p84 n86 c85 fM, .row 3 1 p90 n92 c91 fN, .any (mapE (fun a : List UInt8 => Value.string (gstr a)) (fun a : Int => Value.int .i64 a) ai m2_93), .blk B2 (.cells #[.int .i64 e.Points, .bool e.Monoid, .slice bW e.Gens.length bX, .slice bo e.Elems.length bp, .slice bc e.Prefix.length bf, .slice bP e.Last.length bQ, .slice bq e.Right.length bt, .slice bu e.Rules.length bv, .int .i64 e.Done] 29 (0, 0))]) H ⟨uu, uv, uw, tG, tH, tI, tJ, rP, rQ, rR, rS, qx, ux, uy, uz, tK, tL, tM, tN, rT, tO, tP, tQ, rU, xw, xx, xz, wx, wy, wz, wA, vO, wB, wC, wD, vP, ⟨rfl, rfl, trivial⟩, hO, fe, er, et, ff, eM, eN, fA, fW, fX, aV, aL, au, aU, aM, aN, hB⟩ ?_
   intro X2
   refine prE fun k2_36 => prE fun b2_37 => prE fun k2_38 => prE fun d_39 => prE fun d_45 => prE fun d_51 => prE fun d_57 => prE fun d_63 => prE fun d_69 => prE fun d_75 => prE fun d_81 => prE fun d_87 => fun m2_93 => ?_
   intro H hX2 σ w35
   refine exE fun n44 => exE fun p42 => exE fun c43 => exE fun kN => exE fun n50 => exE fun p48 => exE fun c49 => exE fun kO => exE fun n56 => exE fun p54 => exE fun c55 => exE fun kP => exE fun n62 => exE fun p60 => exE fun c61 => exE fun kQ => exE fun n68 => exE fun p66 => exE fun c67 => exE fun kS => exE fun n74 => exE fun p72 => exE fun c73 => exE fun kT => exE fun n80 => exE fun p78 => exE fun c79 => exE fun kU => exE fun n86 => exE fun p84 => exE fun c85 => exE fun fM => exE fun n92 => exE fun p90 => exE fun c91 => exE fun fN => andE fun hag => andE fun hO => andE fun d9 => andE fun dP => andE fun dU => andE fun dV => andE fun dW => andE fun dX => andE fun eg => andE fun bz => andE fun bV => andE fun aV => andE fun aL => andE fun au => andE fun aU => andE fun aM => andE fun aN => fun hB => ?_
   dsimp only at H
   refine Go1.keep [(1, .pointer (some ⟨B2, 0, none⟩)), (4, .pointer (some ⟨eH, 0, none⟩))] hag ?_
   refine zq (zq ?_)
   refine Go1.drawS 0 [(0, .pure), (1, .pure), (2, .pure), (3, .pure), (4, .stable), (5, .pure), (6, .stable), (7, .pure)] mixed (by kernel_rfl) ?_
   intro w94 Rt
   have pX := Stp.same hO Rt
   replace hO := pX.own
   refine GoQ.pure rfl (op_move rfl) rfl rfl ?_
   refine GoQ.pure rfl (op_nilCheck rfl) rfl rfl ?_
   refine GoQ.pure rfl (op_fieldAddr Try.underlying72 rfl ti29 rfl (by decide)) rfl rfl ?_
   refine GoQ.pure rfl (op_fieldAddr Try.underlying29 rfl ti3 rfl (by decide)) rfl rfl ?_
   refine GoQ.stable rfl (oblk (i := 8) 0 hO rfl rfl Try.underlying3 rfl rfl) rfl rfl ?_
   refine GoQ.pure rfl (op_fieldAddr Try.underlying29 rfl ti3 rfl (by decide)) rfl rfl ?_
   refine GoQ.stable rfl (oblk (i := 8) 11 hO rfl rfl Try.underlying3 rfl rfl) rfl rfl ?_
   by_cases h97 : k2_38 < e.Done
   ·replace H := ifp h97 H
    refine GoQ.pure rfl (fun w => opB (op_lss rfl rfl w) (decide_eq_true h97)) rfl rfl ?_
    refine GoQ.nil ?_
    refine zt rfl rfl (zk (zb (zq (zr (zm rfl ?_)))))
    refine GoR.inl (vs := [.pointer (some ⟨eH, 0, none⟩)]) (caps := []) rfl rfl body50 Try.func50 rfl Try.ntmps50 rfl rfl rfl ?_
    intro RhR98 hR98
    refine zq (zr (za rfl (zn (zq ?_))))
    refine Go1.drawS 0 [(0, .pure), (1, .pure), (2, .pure), (3, .pure), (4, .stable), (5, .pure), (6, .pure), (7, .pure), (8, .pure), (9, .stable), (10, .pure), (11, .pure), (12, .pure)] mixed (by kernel_rfl) ?_
    intro w99 EM
    have fm := Stp.same hO EM
    replace hO := fm.own
    refine GoQ.pure rfl (op_move rfl) rfl rfl ?_
    refine GoQ.pure rfl (op_nilCheck rfl) rfl rfl ?_
    refine GoQ.pure rfl (op_fieldAddr Try.underlying72 rfl ti29 rfl (by decide)) rfl rfl ?_
    refine GoQ.pure rfl (op_fieldAddr Try.underlying29 rfl ti3 rfl (by decide)) rfl rfl ?_
    refine GoQ.stable rfl (oblk (i := 8) 0 hO rfl rfl Try.underlying3 rfl rfl) rfl rfl ?_
    refine GoQ.pure rfl (op_move rfl) rfl rfl ?_
    refine GoQ.pure rfl (op_nilCheck rfl) rfl rfl ?_
    refine GoQ.pure rfl (op_fieldAddr Try.underlying72 rfl ti29 rfl (by decide)) rfl rfl ?_
    refine GoQ.pure rfl (op_fieldAddr Try.underlying29 rfl ti22 rfl (by decide)) rfl rfl ?_
    refine GoQ.stable rfl (oblk (i := 3) 0 hO rfl rfl Try.underlying22 rfl rfl) rfl rfl ?_
    replace dP := (dP.ch pX.ch).ch fm.ch
    refine GoQ.pure rfl (op_lenN Try.underlying22 rfl (dP.neq hO 2 rfl)) rfl rfl ?_
    by_cases zN : k2_38 = (d_45.length : Int)
    ·replace H := ifp zN H
     refine GoQ.pure rfl (fun w => opB (op_eql rfl rfl w) (decide_eq_true zN)) rfl rfl ?_
     refine GoQ.pure rfl (op_assign rfl) rfl rfl ?_
     refine GoQ.nil ?_
     refine Go1.ret1V Try.func50 rfl (show _ = .bool true from rfl) ?_
     refine hR98 _ _ ?_
     refine zm rfl (zp (zp (zp (zo (op_pickT rfl rfl rfl) (zn ?_)))))
     refine zt rfl rfl (zq ?_)
     refine Go1.cut [] trivial ?_
     intro σ _
     refine zr (za rfl (za rfl (zn ?_)))
     refine Go1.ret2 Try.func53 rfl ?_
     replace hB := (hB.trans pX.fr).trans fm.fr
     exact Or.inl ⟨false, rfl, hB.same, H⟩
    replace H := ifn zN H
    refine GoQ.pure rfl (fun w => opB (op_eql rfl rfl w) (decide_eq_false zN)) rfl rfl ?_
    refine GoQ.pure rfl (op_assign rfl) rfl rfl ?_
    refine GoQ.nil ?_
    refine Go1.ret1V Try.func50 rfl (show _ = .bool false from rfl) ?_
    refine hR98 _ _ ?_
    refine zm rfl (zm rfl ?_)
    have Hh : Owns w0.heap.size w99 ([.blk eH (.cells #[.int .i64 k2_36, .bool b2_37, .slice p42 n44 c43, .slice p48 n50 c49, .slice p54 n56 c55, .slice p60 n62 c61, .slice p66 n68 c67, .slice p72 n74 c73, .int .i64 k2_38, .map (some ai), .slice p78 n80 c79, .slice p84 n86 c85, .slice p90 n92 c91] 72 (0, 0)), .row 26 1 p42 n44 c43 kN, .row 26 1 p48 n50 c49 kO, .row 3 1 p54 n56 c55 kP, .row 3 1 p60 n62 c61 kQ, .row 26 1 p66 n68 c67 kS, .row 39 2 p72 n74 c73 kT, .row 9 1 p78 n80 c79 kU, .row 3 1 p84 n86 c85 fM, .row 3 1 p90 n92 c91 fN, .any (mapE (fun a : List UInt8 => Value.string (gstr a)) (fun a : Int => Value.int .i64 a) ai m2_93)] ++ [.blk B2 (.cells #[.int .i64 e.Points, .bool e.Monoid, .slice bW e.Gens.length bX, .slice bo e.Elems.length bp, .slice bc e.Prefix.length bf, .slice bP e.Last.length bQ, .slice bq e.Right.length bt, .slice bu e.Rules.length bv, .int .i64 e.Done] 29 (0, 0))]) A := hO
    have Nr := Owns.split Hh
    have hca105 : Ch (bl [.blk eH (.cells #[.int .i64 k2_36, .bool b2_37, .slice p42 n44 c43, .slice p48 n50 c49, .slice p54 n56 c55, .slice p60 n62 c61, .slice p66 n68 c67, .slice p72 n74 c73, .int .i64 k2_38, .map (some ai), .slice p78 n80 c79, .slice p84 n86 c85, .slice p90 n92 c91] 72 (0, 0)), .row 26 1 p42 n44 c43 kN, .row 26 1 p48 n50 c49 kO, .row 3 1 p54 n56 c55 kP, .row 3 1 p60 n62 c61 kQ, .row 26 1 p66 n68 c67 kS, .row 39 2 p72 n74 c73 kT, .row 9 1 p78 n80 c79 kU, .row 3 1 p84 n86 c85 fM, .row 3 1 p90 n92 c91 fN, .any (mapE (fun a : List UInt8 => Value.string (gstr a)) (fun a : Int => Value.int .i64 a) ai m2_93), .blk B2 (.cells #[.int .i64 e.Points, .bool e.Monoid, .slice bW e.Gens.length bX, .slice bo e.Elems.length bp, .slice bc e.Prefix.length bf, .slice bP e.Last.length bQ, .slice bq e.Right.length bt, .slice bu e.Rules.length bv, .int .i64 e.Done] 29 (0, 0))] ++ A) w99 (bl [.blk eH (.cells #[.int .i64 k2_36, .bool b2_37, .slice p42 n44 c43, .slice p48 n50 c49, .slice p54 n56 c55, .slice p60 n62 c61, .slice p66 n68 c67, .slice p72 n74 c73, .int .i64 k2_38, .map (some ai), .slice p78 n80 c79, .slice p84 n86 c85, .slice p90 n92 c91] 72 (0, 0)), .row 26 1 p42 n44 c43 kN, .row 26 1 p48 n50 c49 kO, .row 3 1 p54 n56 c55 kP, .row 3 1 p60 n62 c61 kQ, .row 26 1 p66 n68 c67 kS, .row 39 2 p72 n74 c73 kT, .row 9 1 p78 n80 c79 kU, .row 3 1 p84 n86 c85 fM, .row 3 1 p90 n92 c91 fN, .any (mapE (fun a : List UInt8 => Value.string (gstr a)) (fun a : Int => Value.int .i64 a) ai m2_93)] ++ (bl [.blk B2 (.cells #[.int .i64 e.Points, .bool e.Monoid, .slice bW e.Gens.length bX, .slice bo e.Elems.length bp, .slice bc e.Prefix.length bf, .slice bP e.Last.length bQ, .slice bq e.Right.length bt, .slice bu e.Rules.length bv, .int .i64 e.Done] 29 (0, 0))] ++ A)) w99 := Ch.assoc' [.blk eH (.cells #[.int .i64 k2_36, .bool b2_37, .slice p42 n44 c43, .slice p48 n50 c49, .slice p54 n56 c55, .slice p60 n62 c61, .slice p66 n68 c67, .slice p72 n74 c73, .int .i64 k2_38, .map (some ai), .slice p78 n80 c79, .slice p84 n86 c85, .slice p90 n92 c91] 72 (0, 0)), .row 26 1 p42 n44 c43 kN, .row 26 1 p48 n50 c49 kO, .row 3 1 p54 n56 c55 kP, .row 3 1 p60 n62 c61 kQ, .row 26 1 p66 n68 c67 kS, .row 39 2 p72 n74 c73 kT, .row 9 1 p78 n80 c79 kU, .row 3 1 p84 n86 c85 fM, .row 3 1 p90 n92 c91 fN, .any (mapE (fun a : List UInt8 => Value.string (gstr a)) (fun a : Int => Value.int .i64 a) ai m2_93)] [.blk B2 (.cells #[.int .i64 e.Points, .bool e.Monoid, .slice bW e.Gens.length bX, .slice bo e.Elems.length bp, .slice bc e.Prefix.length bf, .slice bP e.Last.length bQ, .slice bq e.Right.length bt, .slice bu e.Rules.length bv, .int .i64 e.Done] 29 (0, 0))] A w99
    have Z3 := pX.ch.trans fm.ch
    replace d9 := d9.ch Z3
    replace dU := dU.ch Z3
    replace dV := dV.ch Z3
    replace dW := dW.ch Z3
    replace dX := dX.ch Z3
    replace eg := eg.ch Z3
    replace bz := bz.ch Z3
    replace bV := bV.ch Z3
    refine GoR.call (op_call body51 rfl (walk_enumerate_run_process (a0 := (⟨(⟨k2_36, b2_37, d_39, d_45, d_51, d_57, d_63, d_69, k2_38⟩ : Enum), m2_93, d_75, d_81, d_87⟩ : run)) Nr (d9.ch hca105) (dP.ch hca105) (dU.ch hca105) (dV.ch hca105) (dW.ch hca105) (dX.ch hca105) (eg.ch hca105) (bz.ch hca105) (bV.ch hca105) H)) rfl rfl ?_
    intro Wa ER
    refine exE fun r106 => exE fun q107 => exE fun iU => exE fun iV => exE fun iW => exE fun oB => exE fun g9 => exE fun hV => exE fun ia => exE fun nG => exE fun gC => exE fun gD => exE fun gE => exE fun mO => exE fun iX => exE fun iY => exE fun i4 => exE fun oC => exE fun ib => exE fun ic => exE fun ie => exE fun nH => exE fun ig => exE fun ii => exE fun ik => exE fun nI => exE fun mb => exE fun mc => exE fun me => exE fun te => exE fun ku => exE fun kw => exE fun kx => exE fun qX => exE fun kz => exE fun kA => exE fun kB => exE fun qY => andE fun hv113 => andE fun hN110 => andE fun uQ => andE fun ud => andE fun tu => andE fun uR => andE fun ue => andE fun uf => andE fun xv => andE fun wm => andE fun wn => andE fun hF111 => fun H => ?_
    subst hv113
    have xd : Stp w0.heap.size A w99 [.blk eH (.cells #[.int .i64 k2_36, .bool b2_37, .slice p42 n44 c43, .slice p48 n50 c49, .slice p54 n56 c55, .slice p60 n62 c61, .slice p66 n68 c67, .slice p72 n74 c73, .int .i64 k2_38, .map (some ai), .slice p78 n80 c79, .slice p84 n86 c85, .slice p90 n92 c91] 72 (0, 0)), .row 26 1 p42 n44 c43 kN, .row 26 1 p48 n50 c49 kO, .row 3 1 p54 n56 c55 kP, .row 3 1 p60 n62 c61 kQ, .row 26 1 p66 n68 c67 kS, .row 39 2 p72 n74 c73 kT, .row 9 1 p78 n80 c79 kU, .row 3 1 p84 n86 c85 fM, .row 3 1 p90 n92 c91 fN, .any (mapE (fun a : List UInt8 => Value.string (gstr a)) (fun a : Int => Value.int .i64 a) ai m2_93), .blk B2 (.cells #[.int .i64 e.Points, .bool e.Monoid, .slice bW e.Gens.length bX, .slice bo e.Elems.length bp, .slice bc e.Prefix.length bf, .slice bP e.Last.length bQ, .slice bq e.Right.length bt, .slice bu e.Rules.length bv, .int .i64 e.Done] 29 (0, 0))] ER [.blk eH (.cells #[.int .i64 q107.Enum.Points, .bool q107.Enum.Monoid, .slice iV iU iW, .slice hV g9 ia, .slice gD gC gE, .slice iY iX i4, .slice ic ib ie, .slice ii ig ik, .int .i64 q107.Enum.Done, .map (some ai), .slice mc mb me, .slice kw ku kx, .slice kA kz kB] 72 (0, 0)), .row 26 1 iV iU iW oB, .row 26 1 hV g9 ia nG, .row 3 1 gD gC gE mO, .row 3 1 iY iX i4 oC, .row 26 1 ic ib ie nH, .row 39 2 ii ig ik nI, .row 9 1 mc mb me te, .row 3 1 kw ku kx qX, .row 3 1 kA kz kB qY, .any (mapE (fun a : List UInt8 => Value.string (gstr a)) (fun a : Int => Value.int .i64 a) ai q107.number), .blk B2 (.cells #[.int .i64 e.Points, .bool e.Monoid, .slice bW e.Gens.length bX, .slice bo e.Elems.length bp, .slice bc e.Prefix.length bf, .slice bP e.Last.length bQ, .slice bq e.Right.length bt, .slice bu e.Rules.length bv, .int .i64 e.Done] 29 (0, 0))] := Stp.join Hh hN110 hF111
    replace hO := xd.own
    have hca114 : Ch (bl [.blk eH (.cells #[.int .i64 q107.Enum.Points, .bool q107.Enum.Monoid, .slice iV iU iW, .slice hV g9 ia, .slice gD gC gE, .slice iY iX i4, .slice ic ib ie, .slice ii ig ik, .int .i64 q107.Enum.Done, .map (some ai), .slice mc mb me, .slice kw ku kx, .slice kA kz kB] 72 (0, 0)), .row 26 1 iV iU iW oB, .row 26 1 hV g9 ia nG, .row 3 1 gD gC gE mO, .row 3 1 iY iX i4 oC, .row 26 1 ic ib ie nH, .row 39 2 ii ig ik nI, .row 9 1 mc mb me te, .row 3 1 kw ku kx qX, .row 3 1 kA kz kB qY, .any (mapE (fun a : List UInt8 => Value.string (gstr a)) (fun a : Int => Value.int .i64 a) ai q107.number)] ++ (bl [.blk B2 (.cells #[.int .i64 e.Points, .bool e.Monoid, .slice bW e.Gens.length bX, .slice bo e.Elems.length bp, .slice bc e.Prefix.length bf, .slice bP e.Last.length bQ, .slice bq e.Right.length bt, .slice bu e.Rules.length bv, .int .i64 e.Done] 29 (0, 0))] ++ A)) ER (bl [.blk eH (.cells #[.int .i64 q107.Enum.Points, .bool q107.Enum.Monoid, .slice iV iU iW, .slice hV g9 ia, .slice gD gC gE, .slice iY iX i4, .slice ic ib ie, .slice ii ig ik, .int .i64 q107.Enum.Done, .map (some ai), .slice mc mb me, .slice kw ku kx, .slice kA kz kB] 72 (0, 0)), .row 26 1 iV iU iW oB, .row 26 1 hV g9 ia nG, .row 3 1 gD gC gE mO, .row 3 1 iY iX i4 oC, .row 26 1 ic ib ie nH, .row 39 2 ii ig ik nI, .row 9 1 mc mb me te, .row 3 1 kw ku kx qX, .row 3 1 kA kz kB qY, .any (mapE (fun a : List UInt8 => Value.string (gstr a)) (fun a : Int => Value.int .i64 a) ai q107.number), .blk B2 (.cells #[.int .i64 e.Points, .bool e.Monoid, .slice bW e.Gens.length bX, .slice bo e.Elems.length bp, .slice bc e.Prefix.length bf, .slice bP e.Last.length bQ, .slice bq e.Right.length bt, .slice bu e.Rules.length bv, .int .i64 e.Done] 29 (0, 0))] ++ A) ER := Ch.assoc [.blk eH (.cells #[.int .i64 q107.Enum.Points, .bool q107.Enum.Monoid, .slice iV iU iW, .slice hV g9 ia, .slice gD gC gE, .slice iY iX i4, .slice ic ib ie, .slice ii ig ik, .int .i64 q107.Enum.Done, .map (some ai), .slice mc mb me, .slice kw ku kx, .slice kA kz kB] 72 (0, 0)), .row 26 1 iV iU iW oB, .row 26 1 hV g9 ia nG, .row 3 1 gD gC gE mO, .row 3 1 iY iX i4 oC, .row 26 1 ic ib ie nH, .row 39 2 ii ig ik nI, .row 9 1 mc mb me te, .row 3 1 kw ku kx qX, .row 3 1 kA kz kB qY, .any (mapE (fun a : List UInt8 => Value.string (gstr a)) (fun a : Int => Value.int .i64 a) ai q107.number)] [.blk B2 (.cells #[.int .i64 e.Points, .bool e.Monoid, .slice bW e.Gens.length bX, .slice bo e.Elems.length bp, .slice bc e.Prefix.length bf, .slice bP e.Last.length bQ, .slice bq e.Right.length bt, .slice bu e.Rules.length bv, .int .i64 e.Done] 29 (0, 0))] A ER
    by_cases ES : r106 = (0 : Int)
    ·replace H := ifp ES H
     refine zo (fun w => opB (op_neq rfl rfl w) (ndT ES)) (zo (op_pickF rfl rfl rfl) (zn (zf rfl rfl (zk ?_))))
     refine Go1.inBlock ?_
     replace uQ := uQ.ch hca114
     replace ud := ud.ch hca114
     replace tu := tu.ch hca114
     replace uR := uR.ch hca114
     replace ue := ue.ch hca114
     replace uf := uf.ch hca114
     replace xv := xv.ch hca114
     replace wm := wm.ch hca114
     replace wn := wn.ch hca114
     have Z4 := Z3.trans xd.ch
     replace aV := aV.ch Z4
     replace aL := aL.ch Z4
     replace au := au.ch Z4
     replace aU := aU.ch Z4
     replace aM := aM.ch Z4
     replace aN := aN.ch Z4
     replace hB := ((hB.trans pX.fr).trans fm.fr).trans xd.fr
     exact hX2 _ H _ _ ⟨iU, iV, iW, oB, g9, hV, ia, nG, gC, gD, gE, mO, iX, iY, i4, oC, ib, ic, ie, nH, ig, ii, ik, nI, mb, mc, me, te, ku, kw, kx, qX, kz, kA, kB, qY, ⟨rfl, rfl, trivial⟩, hO, uQ, ud, tu, uR, ue, uf, xv, wm, wn, aV, aL, au, aU, aM, aN, hB⟩
    replace H := ifn ES H
    refine zo (fun w => opB (op_neq rfl rfl w) (ndF ES)) (zo (op_pickF rfl rfl rfl) (zn (zt rfl rfl (zq (zr ?_)))))
    refine za rfl (za rfl (zn ?_))
    refine Go1.ret2 Try.func53 rfl ?_
    replace hB := ((hB.trans pX.fr).trans fm.fr).trans xd.fr
    exact Or.inl ⟨false, rfl, hB.same, H⟩
   replace H := ifn h97 H
   refine GoQ.pure rfl (fun w => opB (op_lss rfl rfl w) (decide_eq_false h97)) rfl rfl ?_
   refine GoQ.nil ?_
   refine zf rfl rfl ?_
   refine Go1.exit rfl ?_
   refine zq (zr (zm rfl (zm rfl (zs (oblkAgg (vs := [.int .i64 e.Points, .bool e.Monoid, .slice bW e.Gens.length bX, .slice bo e.Elems.length bp, .slice bc e.Prefix.length bf, .slice bP e.Last.length bQ, .slice bq e.Right.length bt, .slice bu e.Rules.length bv, .int .i64 e.Done]) (i := 0) 11 hO rfl rfl Try.underlying29 rfl ti29 rfl) ?_))))
   refine GoR.inl (vs := [.pointer (some ⟨eH, 0, none⟩), .agg #[.int .i64 e.Points, .bool e.Monoid, .slice bW e.Gens.length bX, .slice bo e.Elems.length bp, .slice bc e.Prefix.length bf, .slice bP e.Last.length bQ, .slice bq e.Right.length bt, .slice bu e.Rules.length bv, .int .i64 e.Done]]) (caps := []) rfl rfl body68 Try.func68 rfl Try.ntmps68 rfl rfl rfl ?_
   intro RhR116 hR116
   refine zq (zr ?_)
   have hobt := obox (t := 29) (v := .agg #[.int .i64 e.Points, .bool e.Monoid, .slice bW e.Gens.length bX, .slice bo e.Elems.length bp, .slice bc e.Prefix.length bf, .slice bP e.Last.length bQ, .slice bq e.Right.length bt, .slice bu e.Rules.length bv, .int .i64 e.Done]) (cs := #[.int .i64 e.Points, .bool e.Monoid, .slice bW e.Gens.length bX, .slice bo e.Elems.length bp, .slice bc e.Prefix.length bf, .slice bP e.Last.length bQ, .slice bq e.Right.length bt, .slice bu e.Rules.length bv, .int .i64 e.Done]) hO rfl
   obtain ⟨Wb, B118, nJ, TB, JC⟩ := hobt
   refine zg (JC rfl) ?_
   replace hO := nJ.own
   refine za rfl (zn (zq ?_))
   refine Go1.drawS 0 [(0, .pure), (1, .pure), (2, .pure), (3, .pure), (4, .stable), (5, .pure), (6, .stable), (7, .pure), (8, .pure), (9, .pure), (10, .pure), (11, .pure), (12, .pure), (13, .stable), (14, .pure), (15, .stable), (16, .pure), (17, .pure), (18, .pure), (19, .pure), (20, .pure), (21, .pure), (22, .pure), (23, .stable), (24, .pure), (25, .stable), (26, .loud), (27, .pure), (28, .pure), (29, .pure), (30, .pure), (31, .pure), (32, .pure), (33, .stable), (34, .pure), (35, .stable), (36, .loud), (37, .pure), (38, .pure), (39, .pure), (40, .pure), (41, .pure), (42, .pure), (43, .stable), (44, .pure), (45, .stable), (46, .loud), (47, .pure), (48, .pure), (49, .pure), (50, .pure), (51, .pure), (52, .pure), (53, .stable), (54, .pure), (55, .stable), (56, .loud), (57, .pure), (58, .pure), (59, .pure), (60, .pure), (61, .pure), (62, .pure), (63, .stable), (64, .pure), (65, .stable), (66, .loud), (67, .pure), (68, .pure)] mixed (by kernel_rfl) ?_
   intro Wc Ns
   have nK := Stp.same hO Ns
   replace hO := nK.own
   refine GoQ.pure rfl (op_move rfl) rfl rfl ?_
   refine GoQ.pure rfl (op_nilCheck rfl) rfl rfl ?_
   refine GoQ.pure rfl (op_fieldAddr Try.underlying72 rfl ti29 rfl (by decide)) rfl rfl ?_
   refine GoQ.pure rfl (op_fieldAddr Try.underlying29 rfl ti3 rfl (by decide)) rfl rfl ?_
   refine GoQ.stable rfl (oblk (i := 0) 1 hO rfl rfl Try.underlying3 rfl rfl) rfl rfl ?_
   refine GoQ.pure rfl (op_fieldAddr Try.underlying29 rfl ti3 rfl (by decide)) rfl rfl ?_
   refine GoQ.stable rfl (oblk (i := 0) 0 hO rfl rfl Try.underlying3 rfl rfl) rfl rfl ?_
   by_cases ET : k2_36 = e.Points
   ·replace H := ifp ET H
    refine GoQ.pure rfl (fun w => opB (op_eql rfl rfl w) (decide_eq_true ET)) rfl rfl ?_
    refine GoQ.pure rfl (op_move rfl) rfl rfl ?_
    refine GoQ.pure rfl (op_move rfl) rfl rfl ?_
    refine GoQ.pure rfl (op_nilCheck rfl) rfl rfl ?_
    refine GoQ.pure rfl (op_fieldAddr Try.underlying72 rfl ti29 rfl (by decide)) rfl rfl ?_
    refine GoQ.pure rfl (op_fieldAddr Try.underlying29 rfl ti3 rfl (by decide)) rfl rfl ?_
    refine GoQ.stable rfl (oblk (i := 8) 1 hO rfl rfl Try.underlying3 rfl rfl) rfl rfl ?_
    refine GoQ.pure rfl (op_fieldAddr Try.underlying29 rfl ti3 rfl (by decide)) rfl rfl ?_
    refine GoQ.stable rfl (oblk (i := 8) 0 hO rfl rfl Try.underlying3 rfl rfl) rfl rfl ?_
    by_cases EU : k2_38 = e.Done
    ·replace H := ifp EU H
     refine GoQ.pure rfl (fun w => opB (op_eql rfl rfl w) (decide_eq_true EU)) rfl rfl ?_
     refine GoQ.pure rfl (op_pickT rfl rfl rfl) rfl rfl ?_
     refine GoQ.pure rfl (op_move rfl) rfl rfl ?_
     refine GoQ.pure rfl (op_move rfl) rfl rfl ?_
     refine GoQ.pure rfl (op_nilCheck rfl) rfl rfl ?_
     refine GoQ.pure rfl (op_fieldAddr Try.underlying72 rfl ti29 rfl (by decide)) rfl rfl ?_
     refine GoQ.pure rfl (op_fieldAddr Try.underlying29 rfl ti22 rfl (by decide)) rfl rfl ?_
     refine GoQ.stable rfl (oblk (i := 3) 1 hO rfl rfl Try.underlying22 rfl rfl) rfl rfl ?_
     refine GoQ.pure rfl (op_fieldAddr Try.underlying29 rfl ti22 rfl (by decide)) rfl rfl ?_
     refine GoQ.stable rfl (oblk (i := 3) 0 hO rfl rfl Try.underlying22 rfl rfl) rfl rfl ?_
     have Z5 := (pX.ch.trans nJ.ch).trans nK.ch
     replace dP := dP.ch Z5
     have hobt := rowlend 3 hO rfl dP
     obtain ⟨Nt, Nu⟩ := hobt
     have hOc130 := hO.drop 3
     replace aL := aL.ch Z5
     refine GoQ.call rfl (op_call body69 (show ([.slice p48 n50 c49, .slice bo e.Elems.length bp, .func (.func 70) #[] #[]] : List Value) = [.slice p48 d_45.length c49, .slice bo e.Elems.length bp, .func (.func 70) #[] #[]] from by rw [← Nu]) (walk_slices_EqualFunc_int hOc130.lt Nt (aL.ch (Owns.dropCh _ _ 3)) H)) (fun v w hr => by obtain ⟨_, _, hs, _⟩ := hr; assumption) rfl rfl ?_
     rintro Wd We ⟨r131, rfl, Nv, H⟩
     have nM := Stp.same hO Nv
     replace hO := nM.own
     refine GoQ.pure rfl (op_pickT rfl rfl rfl) rfl rfl ?_
     refine GoQ.pure rfl (op_move rfl) rfl rfl ?_
     cases r131
     ·replace H := ifn Bool.false_ne_true H
      refine GoQ.pass rfl rfl rfl ?_
      refine GoQ.pass rfl rfl rfl ?_
      refine GoQ.pass rfl rfl rfl ?_
      refine GoQ.pass rfl rfl rfl ?_
      refine GoQ.pass rfl rfl rfl ?_
      refine GoQ.pass rfl rfl rfl ?_
      refine GoQ.pass rfl rfl rfl ?_
      refine GoQ.pass rfl rfl rfl ?_
      refine GoQ.pure rfl (op_pickF rfl rfl rfl) rfl rfl ?_
      refine GoQ.pure rfl (op_move rfl) rfl rfl ?_
      refine GoQ.pass rfl rfl rfl ?_
      refine GoQ.pass rfl rfl rfl ?_
      refine GoQ.pass rfl rfl rfl ?_
      refine GoQ.pass rfl rfl rfl ?_
      refine GoQ.pass rfl rfl rfl ?_
      refine GoQ.pass rfl rfl rfl ?_
      refine GoQ.pass rfl rfl rfl ?_
      refine GoQ.pass rfl rfl rfl ?_
      refine GoQ.pure rfl (op_pickF rfl rfl rfl) rfl rfl ?_
      refine GoQ.pure rfl (op_move rfl) rfl rfl ?_
      refine GoQ.pass rfl rfl rfl ?_
      refine GoQ.pass rfl rfl rfl ?_
      refine GoQ.pass rfl rfl rfl ?_
      refine GoQ.pass rfl rfl rfl ?_
      refine GoQ.pass rfl rfl rfl ?_
      refine GoQ.pass rfl rfl rfl ?_
      refine GoQ.pass rfl rfl rfl ?_
      refine GoQ.pass rfl rfl rfl ?_
      refine GoQ.pure rfl (op_pickF rfl rfl rfl) rfl rfl ?_
      refine GoQ.pure rfl (op_move rfl) rfl rfl ?_
      refine GoQ.pass rfl rfl rfl ?_
      refine GoQ.pass rfl rfl rfl ?_
      refine GoQ.pass rfl rfl rfl ?_
      refine GoQ.pass rfl rfl rfl ?_
      refine GoQ.pass rfl rfl rfl ?_
      refine GoQ.pass rfl rfl rfl ?_
      refine GoQ.pass rfl rfl rfl ?_
      refine GoQ.pass rfl rfl rfl ?_
      refine GoQ.pure rfl (op_pickF rfl rfl rfl) rfl rfl ?_
      refine GoQ.pure rfl (op_assign rfl) rfl rfl ?_
      refine GoQ.nil ?_
      refine Go1.ret1V Try.func68 rfl (show _ = .bool false from rfl) ?_
      refine hR116 _ _ ?_
      refine za rfl (za rfl (zn ?_))
      replace hO := hO.drop 0
      have Z6 := nM.ch.trans (Owns.dropCh _ _ 0)
      replace dP := dP.ch Z6
      replace aL := aL.ch Z6
      have Z7 := (Z5.trans nM.ch).trans (Owns.dropCh _ _ 0)
      replace d9 := d9.ch Z7
      replace dU := dU.ch Z7
      replace dV := dV.ch Z7
      replace dW := dW.ch Z7
      replace dX := dX.ch Z7
      replace eg := eg.ch Z7
      replace bz := bz.ch Z7
      replace bV := bV.ch Z7
      replace aV := aV.ch Z7
      replace au := au.ch Z7
      replace aU := aU.ch Z7
      replace aM := aM.ch Z7
      replace aN := aN.ch Z7
      replace hB := ((((hB.trans pX.fr).trans nJ.fr).trans nK.fr).trans nM.fr).trans (Owns.dropFr _ _ 0)
      dsimp only [eS, eZ] at hB hO aV aL au aU aM aN d9 dP dU dV dW dX eg bz bV
      replace hO := hO.drop 11
      replace aV := aV.ch (Owns.dropCh _ _ 11)
      replace aL := aL.ch (Owns.dropCh _ _ 11)
      replace au := au.ch (Owns.dropCh _ _ 11)
      replace aU := aU.ch (Owns.dropCh _ _ 11)
      replace aM := aM.ch (Owns.dropCh _ _ 11)
      replace aN := aN.ch (Owns.dropCh _ _ 11)
      replace d9 := d9.ch (Owns.dropCh _ _ 11)
      replace dP := dP.ch (Owns.dropCh _ _ 11)
      replace dU := dU.ch (Owns.dropCh _ _ 11)
      replace dV := dV.ch (Owns.dropCh _ _ 11)
      replace dW := dW.ch (Owns.dropCh _ _ 11)
      replace dX := dX.ch (Owns.dropCh _ _ 11)
      replace eg := eg.ch (Owns.dropCh _ _ 11)
      replace bz := bz.ch (Owns.dropCh _ _ 11)
      replace bV := bV.ch (Owns.dropCh _ _ 11)
      replace hB := hB.trans (Owns.dropFr _ _ 11)
      dsimp only [eS, eZ] at hB hO aV aL au aU aM aN d9 dP dU dV dW dX eg bz bV
      refine Go1.ret2 Try.func53 rfl ?_
      exact Or.inr ⟨(⟨(⟨k2_36, b2_37, d_39, d_45, d_51, d_57, d_63, d_69, k2_38⟩ : Enum), m2_93, d_75, d_81, d_87⟩ : run), false, eH, n44, p42, c43, kN, n50, p48, c49, kO, n56, p54, c55, kP, n62, p60, c61, kQ, n68, p66, c67, kS, n74, p72, c73, kT, ai, n80, p78, c79, kU, n86, p84, c85, fM, n92, p90, c91, fN, rfl, hB.same, hO, d9, dP, dU, dV, dW, dX, eg, bz, bV, H⟩
     replace H := ifp rfl H
     refine GoQ.pure rfl (op_move rfl) rfl rfl ?_
     refine GoQ.pure rfl (op_nilCheck rfl) rfl rfl ?_
     refine GoQ.pure rfl (op_fieldAddr Try.underlying72 rfl ti29 rfl (by decide)) rfl rfl ?_
     refine GoQ.pure rfl (op_fieldAddr Try.underlying29 rfl ti26 rfl (by decide)) rfl rfl ?_
     refine GoQ.stable rfl (oblk (i := 4) 1 hO rfl rfl Try.underlying26 rfl rfl) rfl rfl ?_
     refine GoQ.pure rfl (op_fieldAddr Try.underlying29 rfl ti26 rfl (by decide)) rfl rfl ?_
     refine GoQ.stable rfl (oblk (i := 4) 0 hO rfl rfl Try.underlying26 rfl rfl) rfl rfl ?_
     replace dU := (dU.ch Z5).ch nM.ch
     have hobt := rowlend 4 hO rfl dU
     obtain ⟨EV, EW⟩ := hobt
     have hOc139 := hO.drop 4
     replace au := (au.ch Z5).ch nM.ch
     refine GoQ.call rfl (op_call body70 (show ([.slice p54 n56 c55, .slice bc e.Prefix.length bf] : List Value) = [.slice p54 d_51.length c55, .slice bc e.Prefix.length bf] from by rw [← EW]) (walk_slices_Equal_int hOc139.lt EV (au.ch (Owns.dropCh _ _ 4)) H)) (fun v w hr => by obtain ⟨_, _, hs, _⟩ := hr; assumption) rfl rfl ?_
     rintro Wf Wg ⟨r140, rfl, Nw, H⟩
     have fG := Stp.same hO Nw
     replace hO := fG.own
     refine GoQ.pure rfl (op_pickT rfl rfl rfl) rfl rfl ?_
     refine GoQ.pure rfl (op_move rfl) rfl rfl ?_
     cases r140
     ·replace H := ifn Bool.false_ne_true H
      refine GoQ.pass rfl rfl rfl ?_
      refine GoQ.pass rfl rfl rfl ?_
      refine GoQ.pass rfl rfl rfl ?_
      refine GoQ.pass rfl rfl rfl ?_
      refine GoQ.pass rfl rfl rfl ?_
      refine GoQ.pass rfl rfl rfl ?_
      refine GoQ.pass rfl rfl rfl ?_
      refine GoQ.pass rfl rfl rfl ?_
      refine GoQ.pure rfl (op_pickF rfl rfl rfl) rfl rfl ?_
      refine GoQ.pure rfl (op_move rfl) rfl rfl ?_
      refine GoQ.pass rfl rfl rfl ?_
      refine GoQ.pass rfl rfl rfl ?_
      refine GoQ.pass rfl rfl rfl ?_
      refine GoQ.pass rfl rfl rfl ?_
      refine GoQ.pass rfl rfl rfl ?_
      refine GoQ.pass rfl rfl rfl ?_
      refine GoQ.pass rfl rfl rfl ?_
      refine GoQ.pass rfl rfl rfl ?_
      refine GoQ.pure rfl (op_pickF rfl rfl rfl) rfl rfl ?_
      refine GoQ.pure rfl (op_move rfl) rfl rfl ?_
      refine GoQ.pass rfl rfl rfl ?_
      refine GoQ.pass rfl rfl rfl ?_
      refine GoQ.pass rfl rfl rfl ?_
      refine GoQ.pass rfl rfl rfl ?_
      refine GoQ.pass rfl rfl rfl ?_
      refine GoQ.pass rfl rfl rfl ?_
      refine GoQ.pass rfl rfl rfl ?_
      refine GoQ.pass rfl rfl rfl ?_
      refine GoQ.pure rfl (op_pickF rfl rfl rfl) rfl rfl ?_
      refine GoQ.pure rfl (op_assign rfl) rfl rfl ?_
      refine GoQ.nil ?_
      refine Go1.ret1V Try.func68 rfl (show _ = .bool false from rfl) ?_
      refine hR116 _ _ ?_
      refine za rfl (za rfl (zn ?_))
      replace hO := hO.drop 0
      have Z8 := fG.ch.trans (Owns.dropCh _ _ 0)
      replace dU := dU.ch Z8
      replace au := au.ch Z8
      have Z9 := (nM.ch.trans fG.ch).trans (Owns.dropCh _ _ 0)
      replace dP := dP.ch Z9
      replace aL := aL.ch Z9
      have Z10 := ((Z5.trans nM.ch).trans fG.ch).trans (Owns.dropCh _ _ 0)
      replace d9 := d9.ch Z10
      replace dV := dV.ch Z10
      replace dW := dW.ch Z10
      replace dX := dX.ch Z10
      replace eg := eg.ch Z10
      replace bz := bz.ch Z10
      replace bV := bV.ch Z10
      replace aV := aV.ch Z10
      replace aU := aU.ch Z10
      replace aM := aM.ch Z10
      replace aN := aN.ch Z10
      replace hB := (((((hB.trans pX.fr).trans nJ.fr).trans nK.fr).trans nM.fr).trans fG.fr).trans (Owns.dropFr _ _ 0)
      dsimp only [eS, eZ] at hB hO aV aL au aU aM aN d9 dP dU dV dW dX eg bz bV
      replace hO := hO.drop 11
      replace aV := aV.ch (Owns.dropCh _ _ 11)
      replace aL := aL.ch (Owns.dropCh _ _ 11)
      replace au := au.ch (Owns.dropCh _ _ 11)
      replace aU := aU.ch (Owns.dropCh _ _ 11)
      replace aM := aM.ch (Owns.dropCh _ _ 11)
      replace aN := aN.ch (Owns.dropCh _ _ 11)
      replace d9 := d9.ch (Owns.dropCh _ _ 11)
      replace dP := dP.ch (Owns.dropCh _ _ 11)
      replace dU := dU.ch (Owns.dropCh _ _ 11)
      replace dV := dV.ch (Owns.dropCh _ _ 11)
      replace dW := dW.ch (Owns.dropCh _ _ 11)
      replace dX := dX.ch (Owns.dropCh _ _ 11)
      replace eg := eg.ch (Owns.dropCh _ _ 11)
      replace bz := bz.ch (Owns.dropCh _ _ 11)
      replace bV := bV.ch (Owns.dropCh _ _ 11)
      replace hB := hB.trans (Owns.dropFr _ _ 11)
      dsimp only [eS, eZ] at hB hO aV aL au aU aM aN d9 dP dU dV dW dX eg bz bV
      refine Go1.ret2 Try.func53 rfl ?_
      exact Or.inr ⟨(⟨(⟨k2_36, b2_37, d_39, d_45, d_51, d_57, d_63, d_69, k2_38⟩ : Enum), m2_93, d_75, d_81, d_87⟩ : run), false, eH, n44, p42, c43, kN, n50, p48, c49, kO, n56, p54, c55, kP, n62, p60, c61, kQ, n68, p66, c67, kS, n74, p72, c73, kT, ai, n80, p78, c79, kU, n86, p84, c85, fM, n92, p90, c91, fN, rfl, hB.same, hO, d9, dP, dU, dV, dW, dX, eg, bz, bV, H⟩
     replace H := ifp rfl H
     refine GoQ.pure rfl (op_move rfl) rfl rfl ?_
     refine GoQ.pure rfl (op_nilCheck rfl) rfl rfl ?_
     refine GoQ.pure rfl (op_fieldAddr Try.underlying72 rfl ti29 rfl (by decide)) rfl rfl ?_
     refine GoQ.pure rfl (op_fieldAddr Try.underlying29 rfl ti26 rfl (by decide)) rfl rfl ?_
     refine GoQ.stable rfl (oblk (i := 5) 1 hO rfl rfl Try.underlying26 rfl rfl) rfl rfl ?_
     refine GoQ.pure rfl (op_fieldAddr Try.underlying29 rfl ti26 rfl (by decide)) rfl rfl ?_
     refine GoQ.stable rfl (oblk (i := 5) 0 hO rfl rfl Try.underlying26 rfl rfl) rfl rfl ?_
     replace dV := ((dV.ch Z5).ch nM.ch).ch fG.ch
     have hobt := rowlend 5 hO rfl dV
     obtain ⟨Nx, Ny⟩ := hobt
     have hOc148 := hO.drop 5
     replace aU := ((aU.ch Z5).ch nM.ch).ch fG.ch
     refine GoQ.call rfl (op_call body70 (show ([.slice p60 n62 c61, .slice bP e.Last.length bQ] : List Value) = [.slice p60 d_57.length c61, .slice bP e.Last.length bQ] from by rw [← Ny]) (walk_slices_Equal_int hOc148.lt Nx (aU.ch (Owns.dropCh _ _ 5)) H)) (fun v w hr => by obtain ⟨_, _, hs, _⟩ := hr; assumption) rfl rfl ?_
     rintro Wh Q0 ⟨r149, rfl, Nz, H⟩
     have iM := Stp.same hO Nz
     replace hO := iM.own
     refine GoQ.pure rfl (op_pickT rfl rfl rfl) rfl rfl ?_
     refine GoQ.pure rfl (op_move rfl) rfl rfl ?_
     cases r149
     ·replace H := ifn Bool.false_ne_true H
      refine GoQ.pass rfl rfl rfl ?_
      refine GoQ.pass rfl rfl rfl ?_
      refine GoQ.pass rfl rfl rfl ?_
      refine GoQ.pass rfl rfl rfl ?_
      refine GoQ.pass rfl rfl rfl ?_
      refine GoQ.pass rfl rfl rfl ?_
      refine GoQ.pass rfl rfl rfl ?_
      refine GoQ.pass rfl rfl rfl ?_
      refine GoQ.pure rfl (op_pickF rfl rfl rfl) rfl rfl ?_
      refine GoQ.pure rfl (op_move rfl) rfl rfl ?_
      refine GoQ.pass rfl rfl rfl ?_
      refine GoQ.pass rfl rfl rfl ?_
      refine GoQ.pass rfl rfl rfl ?_
      refine GoQ.pass rfl rfl rfl ?_
      refine GoQ.pass rfl rfl rfl ?_
      refine GoQ.pass rfl rfl rfl ?_
      refine GoQ.pass rfl rfl rfl ?_
      refine GoQ.pass rfl rfl rfl ?_
      refine GoQ.pure rfl (op_pickF rfl rfl rfl) rfl rfl ?_
      refine GoQ.pure rfl (op_assign rfl) rfl rfl ?_
      refine GoQ.nil ?_
      refine Go1.ret1V Try.func68 rfl (show _ = .bool false from rfl) ?_
      refine hR116 _ _ ?_
      refine za rfl (za rfl (zn ?_))
      replace hO := hO.drop 0
      have Z11 := iM.ch.trans (Owns.dropCh _ _ 0)
      replace dV := dV.ch Z11
      replace aU := aU.ch Z11
      have Z12 := (fG.ch.trans iM.ch).trans (Owns.dropCh _ _ 0)
      replace dU := dU.ch Z12
      replace au := au.ch Z12
      have Z13 := ((nM.ch.trans fG.ch).trans iM.ch).trans (Owns.dropCh _ _ 0)
      replace dP := dP.ch Z13
      replace aL := aL.ch Z13
      have Z14 := (((Z5.trans nM.ch).trans fG.ch).trans iM.ch).trans (Owns.dropCh _ _ 0)
      replace d9 := d9.ch Z14
      replace dW := dW.ch Z14
      replace dX := dX.ch Z14
      replace eg := eg.ch Z14
      replace bz := bz.ch Z14
      replace bV := bV.ch Z14
      replace aV := aV.ch Z14
      replace aM := aM.ch Z14
      replace aN := aN.ch Z14
      replace hB := ((((((hB.trans pX.fr).trans nJ.fr).trans nK.fr).trans nM.fr).trans fG.fr).trans iM.fr).trans (Owns.dropFr _ _ 0)
      dsimp only [eS, eZ] at hB hO aV aL au aU aM aN d9 dP dU dV dW dX eg bz bV
      replace hO := hO.drop 11
      replace aV := aV.ch (Owns.dropCh _ _ 11)
      replace aL := aL.ch (Owns.dropCh _ _ 11)
      replace au := au.ch (Owns.dropCh _ _ 11)
      replace aU := aU.ch (Owns.dropCh _ _ 11)
      replace aM := aM.ch (Owns.dropCh _ _ 11)
      replace aN := aN.ch (Owns.dropCh _ _ 11)
      replace d9 := d9.ch (Owns.dropCh _ _ 11)
      replace dP := dP.ch (Owns.dropCh _ _ 11)
      replace dU := dU.ch (Owns.dropCh _ _ 11)
      replace dV := dV.ch (Owns.dropCh _ _ 11)
      replace dW := dW.ch (Owns.dropCh _ _ 11)
      replace dX := dX.ch (Owns.dropCh _ _ 11)
      replace eg := eg.ch (Owns.dropCh _ _ 11)
      replace bz := bz.ch (Owns.dropCh _ _ 11)
      replace bV := bV.ch (Owns.dropCh _ _ 11)
      replace hB := hB.trans (Owns.dropFr _ _ 11)
      dsimp only [eS, eZ] at hB hO aV aL au aU aM aN d9 dP dU dV dW dX eg bz bV
      refine Go1.ret2 Try.func53 rfl ?_
      exact Or.inr ⟨(⟨(⟨k2_36, b2_37, d_39, d_45, d_51, d_57, d_63, d_69, k2_38⟩ : Enum), m2_93, d_75, d_81, d_87⟩ : run), false, eH, n44, p42, c43, kN, n50, p48, c49, kO, n56, p54, c55, kP, n62, p60, c61, kQ, n68, p66, c67, kS, n74, p72, c73, kT, ai, n80, p78, c79, kU, n86, p84, c85, fM, n92, p90, c91, fN, rfl, hB.same, hO, d9, dP, dU, dV, dW, dX, eg, bz, bV, H⟩
     replace H := ifp rfl H
     refine GoQ.pure rfl (op_move rfl) rfl rfl ?_
     refine GoQ.pure rfl (op_nilCheck rfl) rfl rfl ?_
     refine GoQ.pure rfl (op_fieldAddr Try.underlying72 rfl ti29 rfl (by decide)) rfl rfl ?_
     refine GoQ.pure rfl (op_fieldAddr Try.underlying29 rfl ti22 rfl (by decide)) rfl rfl ?_
     refine GoQ.stable rfl (oblk (i := 6) 1 hO rfl rfl Try.underlying22 rfl rfl) rfl rfl ?_
     refine GoQ.pure rfl (op_fieldAddr Try.underlying29 rfl ti22 rfl (by decide)) rfl rfl ?_
     refine GoQ.stable rfl (oblk (i := 6) 0 hO rfl rfl Try.underlying22 rfl rfl) rfl rfl ?_
     have Z15 := ((Z5.trans nM.ch).trans fG.ch).trans iM.ch
     replace dW := dW.ch Z15
     have hobt := rowlend 6 hO rfl dW
     obtain ⟨NA, NB⟩ := hobt
     have hOc157 := hO.drop 6
     replace aM := aM.ch Z15
     refine GoQ.call rfl (op_call body69 (show ([.slice p66 n68 c67, .slice bq e.Right.length bt, .func (.func 70) #[] #[]] : List Value) = [.slice p66 d_63.length c67, .slice bq e.Right.length bt, .func (.func 70) #[] #[]] from by rw [← NB]) (walk_slices_EqualFunc_int hOc157.lt NA (aM.ch (Owns.dropCh _ _ 6)) H)) (fun v w hr => by obtain ⟨_, _, hs, _⟩ := hr; assumption) rfl rfl ?_
     rintro Wi JD ⟨r158, rfl, NC, H⟩
     have nN := Stp.same hO NC
     replace hO := nN.own
     refine GoQ.pure rfl (op_pickT rfl rfl rfl) rfl rfl ?_
     refine GoQ.pure rfl (op_move rfl) rfl rfl ?_
     cases r158
     ·replace H := ifn Bool.false_ne_true H
      refine GoQ.pass rfl rfl rfl ?_
      refine GoQ.pass rfl rfl rfl ?_
      refine GoQ.pass rfl rfl rfl ?_
      refine GoQ.pass rfl rfl rfl ?_
      refine GoQ.pass rfl rfl rfl ?_
      refine GoQ.pass rfl rfl rfl ?_
      refine GoQ.pass rfl rfl rfl ?_
      refine GoQ.pass rfl rfl rfl ?_
      refine GoQ.pure rfl (op_pickF rfl rfl rfl) rfl rfl ?_
      refine GoQ.pure rfl (op_assign rfl) rfl rfl ?_
      refine GoQ.nil ?_
      refine Go1.ret1V Try.func68 rfl (show _ = .bool false from rfl) ?_
      refine hR116 _ _ ?_
      refine za rfl (za rfl (zn ?_))
      replace hO := hO.drop 0
      have Z16 := nN.ch.trans (Owns.dropCh _ _ 0)
      replace dW := dW.ch Z16
      replace aM := aM.ch Z16
      have Z17 := (iM.ch.trans nN.ch).trans (Owns.dropCh _ _ 0)
      replace dV := dV.ch Z17
      replace aU := aU.ch Z17
      have Z18 := ((fG.ch.trans iM.ch).trans nN.ch).trans (Owns.dropCh _ _ 0)
      replace dU := dU.ch Z18
      replace au := au.ch Z18
      have Z19 := (((nM.ch.trans fG.ch).trans iM.ch).trans nN.ch).trans (Owns.dropCh _ _ 0)
      replace dP := dP.ch Z19
      replace aL := aL.ch Z19
      have Z20 := (Z15.trans nN.ch).trans (Owns.dropCh _ _ 0)
      replace d9 := d9.ch Z20
      replace dX := dX.ch Z20
      replace eg := eg.ch Z20
      replace bz := bz.ch Z20
      replace bV := bV.ch Z20
      replace aV := aV.ch Z20
      replace aN := aN.ch Z20
      replace hB := (((((((hB.trans pX.fr).trans nJ.fr).trans nK.fr).trans nM.fr).trans fG.fr).trans iM.fr).trans nN.fr).trans (Owns.dropFr _ _ 0)
      dsimp only [eS, eZ] at hB hO aV aL au aU aM aN d9 dP dU dV dW dX eg bz bV
      replace hO := hO.drop 11
      replace aV := aV.ch (Owns.dropCh _ _ 11)
      replace aL := aL.ch (Owns.dropCh _ _ 11)
      replace au := au.ch (Owns.dropCh _ _ 11)
      replace aU := aU.ch (Owns.dropCh _ _ 11)
      replace aM := aM.ch (Owns.dropCh _ _ 11)
      replace aN := aN.ch (Owns.dropCh _ _ 11)
      replace d9 := d9.ch (Owns.dropCh _ _ 11)
      replace dP := dP.ch (Owns.dropCh _ _ 11)
      replace dU := dU.ch (Owns.dropCh _ _ 11)
      replace dV := dV.ch (Owns.dropCh _ _ 11)
      replace dW := dW.ch (Owns.dropCh _ _ 11)
      replace dX := dX.ch (Owns.dropCh _ _ 11)
      replace eg := eg.ch (Owns.dropCh _ _ 11)
      replace bz := bz.ch (Owns.dropCh _ _ 11)
      replace bV := bV.ch (Owns.dropCh _ _ 11)
      replace hB := hB.trans (Owns.dropFr _ _ 11)
      dsimp only [eS, eZ] at hB hO aV aL au aU aM aN d9 dP dU dV dW dX eg bz bV
      refine Go1.ret2 Try.func53 rfl ?_
      exact Or.inr ⟨(⟨(⟨k2_36, b2_37, d_39, d_45, d_51, d_57, d_63, d_69, k2_38⟩ : Enum), m2_93, d_75, d_81, d_87⟩ : run), false, eH, n44, p42, c43, kN, n50, p48, c49, kO, n56, p54, c55, kP, n62, p60, c61, kQ, n68, p66, c67, kS, n74, p72, c73, kT, ai, n80, p78, c79, kU, n86, p84, c85, fM, n92, p90, c91, fN, rfl, hB.same, hO, d9, dP, dU, dV, dW, dX, eg, bz, bV, H⟩
     replace H := ifp rfl H
     refine GoQ.pure rfl (op_move rfl) rfl rfl ?_
     refine GoQ.pure rfl (op_nilCheck rfl) rfl rfl ?_
     refine GoQ.pure rfl (op_fieldAddr Try.underlying72 rfl ti29 rfl (by decide)) rfl rfl ?_
     refine GoQ.pure rfl (op_fieldAddr Try.underlying29 rfl ti27 rfl (by decide)) rfl rfl ?_
     refine GoQ.stable rfl (oblk (i := 7) 1 hO rfl rfl Try.underlying27 rfl rfl) rfl rfl ?_
     refine GoQ.pure rfl (op_fieldAddr Try.underlying29 rfl ti27 rfl (by decide)) rfl rfl ?_
     refine GoQ.stable rfl (oblk (i := 7) 0 hO rfl rfl Try.underlying27 rfl rfl) rfl rfl ?_
     replace dX := (dX.ch Z15).ch nN.ch
     have hobt := rowlend 7 hO rfl dX
     obtain ⟨ND, NE⟩ := hobt
     have hOc166 := hO.drop 7
     replace aN := (aN.ch Z15).ch nN.ch
     refine GoQ.call rfl (op_call body71 (show ([.slice p72 n74 c73, .slice bu e.Rules.length bv] : List Value) = [.slice p72 d_69.length c73, .slice bu e.Rules.length bv] from by rw [← NE]) (walk_slices_Equal_api_Rule hOc166.lt ND (aN.ch (Owns.dropCh _ _ 7)) H)) (fun v w hr => by obtain ⟨_, _, hs, _⟩ := hr; assumption) rfl rfl ?_
     rintro Qa HK ⟨r167, rfl, D1, H⟩
     have eV := Stp.same hO D1
     replace hO := eV.own
     refine GoQ.pure rfl (op_pickT rfl rfl rfl) rfl rfl ?_
     refine GoQ.pure rfl (op_assign rfl) rfl rfl ?_
     refine GoQ.nil ?_
     refine Go1.ret1V Try.func68 rfl (show _ = .bool r167 from rfl) ?_
     refine hR116 _ _ ?_
     refine za rfl (za rfl (zn ?_))
     replace hO := hO.drop 0
     have Z21 := eV.ch.trans (Owns.dropCh _ _ 0)
     replace dX := dX.ch Z21
     replace aN := aN.ch Z21
     have Z22 := (nN.ch.trans eV.ch).trans (Owns.dropCh _ _ 0)
     replace dW := dW.ch Z22
     replace aM := aM.ch Z22
     have Z23 := ((iM.ch.trans nN.ch).trans eV.ch).trans (Owns.dropCh _ _ 0)
     replace dV := dV.ch Z23
     replace aU := aU.ch Z23
     have Z24 := (((fG.ch.trans iM.ch).trans nN.ch).trans eV.ch).trans (Owns.dropCh _ _ 0)
     replace dU := dU.ch Z24
     replace au := au.ch Z24
     have Z25 := ((((nM.ch.trans fG.ch).trans iM.ch).trans nN.ch).trans eV.ch).trans (Owns.dropCh _ _ 0)
     replace dP := dP.ch Z25
     replace aL := aL.ch Z25
     have Z26 := ((Z15.trans nN.ch).trans eV.ch).trans (Owns.dropCh _ _ 0)
     replace d9 := d9.ch Z26
     replace eg := eg.ch Z26
     replace bz := bz.ch Z26
     replace bV := bV.ch Z26
     replace aV := aV.ch Z26
     replace hB := ((((((((hB.trans pX.fr).trans nJ.fr).trans nK.fr).trans nM.fr).trans fG.fr).trans iM.fr).trans nN.fr).trans eV.fr).trans (Owns.dropFr _ _ 0)
     dsimp only [eS, eZ] at hB hO aV aL au aU aM aN d9 dP dU dV dW dX eg bz bV
     replace hO := hO.drop 11
     replace aV := aV.ch (Owns.dropCh _ _ 11)
     replace aL := aL.ch (Owns.dropCh _ _ 11)
     replace au := au.ch (Owns.dropCh _ _ 11)
     replace aU := aU.ch (Owns.dropCh _ _ 11)
     replace aM := aM.ch (Owns.dropCh _ _ 11)
     replace aN := aN.ch (Owns.dropCh _ _ 11)
     replace d9 := d9.ch (Owns.dropCh _ _ 11)
     replace dP := dP.ch (Owns.dropCh _ _ 11)
     replace dU := dU.ch (Owns.dropCh _ _ 11)
     replace dV := dV.ch (Owns.dropCh _ _ 11)
     replace dW := dW.ch (Owns.dropCh _ _ 11)
     replace dX := dX.ch (Owns.dropCh _ _ 11)
     replace eg := eg.ch (Owns.dropCh _ _ 11)
     replace bz := bz.ch (Owns.dropCh _ _ 11)
     replace bV := bV.ch (Owns.dropCh _ _ 11)
     replace hB := hB.trans (Owns.dropFr _ _ 11)
     dsimp only [eS, eZ] at hB hO aV aL au aU aM aN d9 dP dU dV dW dX eg bz bV
     refine Go1.ret2 Try.func53 rfl ?_
     exact Or.inr ⟨(⟨(⟨k2_36, b2_37, d_39, d_45, d_51, d_57, d_63, d_69, k2_38⟩ : Enum), m2_93, d_75, d_81, d_87⟩ : run), r167, eH, n44, p42, c43, kN, n50, p48, c49, kO, n56, p54, c55, kP, n62, p60, c61, kQ, n68, p66, c67, kS, n74, p72, c73, kT, ai, n80, p78, c79, kU, n86, p84, c85, fM, n92, p90, c91, fN, rfl, hB.same, hO, d9, dP, dU, dV, dW, dX, eg, bz, bV, H⟩
    replace H := ifn EU H
    refine GoQ.pure rfl (fun w => opB (op_eql rfl rfl w) (decide_eq_false EU)) rfl rfl ?_
    refine GoQ.pure rfl (op_pickT rfl rfl rfl) rfl rfl ?_
    refine GoQ.pure rfl (op_move rfl) rfl rfl ?_
    refine GoQ.pass rfl rfl rfl ?_
    refine GoQ.pass rfl rfl rfl ?_
    refine GoQ.pass rfl rfl rfl ?_
    refine GoQ.pass rfl rfl rfl ?_
    refine GoQ.pass rfl rfl rfl ?_
    refine GoQ.pass rfl rfl rfl ?_
    refine GoQ.pass rfl rfl rfl ?_
    refine GoQ.pass rfl rfl rfl ?_
    refine GoQ.pure rfl (op_pickF rfl rfl rfl) rfl rfl ?_
    refine GoQ.pure rfl (op_move rfl) rfl rfl ?_
    refine GoQ.pass rfl rfl rfl ?_
    refine GoQ.pass rfl rfl rfl ?_
    refine GoQ.pass rfl rfl rfl ?_
    refine GoQ.pass rfl rfl rfl ?_
    refine GoQ.pass rfl rfl rfl ?_
    refine GoQ.pass rfl rfl rfl ?_
    refine GoQ.pass rfl rfl rfl ?_
    refine GoQ.pass rfl rfl rfl ?_
    refine GoQ.pure rfl (op_pickF rfl rfl rfl) rfl rfl ?_
    refine GoQ.pure rfl (op_move rfl) rfl rfl ?_
    refine GoQ.pass rfl rfl rfl ?_
    refine GoQ.pass rfl rfl rfl ?_
    refine GoQ.pass rfl rfl rfl ?_
    refine GoQ.pass rfl rfl rfl ?_
    refine GoQ.pass rfl rfl rfl ?_
    refine GoQ.pass rfl rfl rfl ?_
    refine GoQ.pass rfl rfl rfl ?_
    refine GoQ.pass rfl rfl rfl ?_
    refine GoQ.pure rfl (op_pickF rfl rfl rfl) rfl rfl ?_
    refine GoQ.pure rfl (op_move rfl) rfl rfl ?_
    refine GoQ.pass rfl rfl rfl ?_
    refine GoQ.pass rfl rfl rfl ?_
    refine GoQ.pass rfl rfl rfl ?_
    refine GoQ.pass rfl rfl rfl ?_
    refine GoQ.pass rfl rfl rfl ?_
    refine GoQ.pass rfl rfl rfl ?_
    refine GoQ.pass rfl rfl rfl ?_
    refine GoQ.pass rfl rfl rfl ?_
    refine GoQ.pure rfl (op_pickF rfl rfl rfl) rfl rfl ?_
    refine GoQ.pure rfl (op_move rfl) rfl rfl ?_
    refine GoQ.pass rfl rfl rfl ?_
    refine GoQ.pass rfl rfl rfl ?_
    refine GoQ.pass rfl rfl rfl ?_
    refine GoQ.pass rfl rfl rfl ?_
    refine GoQ.pass rfl rfl rfl ?_
    refine GoQ.pass rfl rfl rfl ?_
    refine GoQ.pass rfl rfl rfl ?_
    refine GoQ.pass rfl rfl rfl ?_
    refine GoQ.pure rfl (op_pickF rfl rfl rfl) rfl rfl ?_
    refine GoQ.pure rfl (op_assign rfl) rfl rfl ?_
    refine GoQ.nil ?_
    refine Go1.ret1V Try.func68 rfl (show _ = .bool false from rfl) ?_
    refine hR116 _ _ ?_
    refine za rfl (za rfl (zn ?_))
    replace hO := hO.drop 0
    have Z27 := ((pX.ch.trans nJ.ch).trans nK.ch).trans (Owns.dropCh _ _ 0)
    replace d9 := d9.ch Z27
    replace dP := dP.ch Z27
    replace dU := dU.ch Z27
    replace dV := dV.ch Z27
    replace dW := dW.ch Z27
    replace dX := dX.ch Z27
    replace eg := eg.ch Z27
    replace bz := bz.ch Z27
    replace bV := bV.ch Z27
    replace aV := aV.ch Z27
    replace aL := aL.ch Z27
    replace au := au.ch Z27
    replace aU := aU.ch Z27
    replace aM := aM.ch Z27
    replace aN := aN.ch Z27
    replace hB := (((hB.trans pX.fr).trans nJ.fr).trans nK.fr).trans (Owns.dropFr _ _ 0)
    dsimp only [eS, eZ] at hB hO aV aL au aU aM aN d9 dP dU dV dW dX eg bz bV
    replace hO := hO.drop 11
    replace aV := aV.ch (Owns.dropCh _ _ 11)
    replace aL := aL.ch (Owns.dropCh _ _ 11)
    replace au := au.ch (Owns.dropCh _ _ 11)
    replace aU := aU.ch (Owns.dropCh _ _ 11)
    replace aM := aM.ch (Owns.dropCh _ _ 11)
    replace aN := aN.ch (Owns.dropCh _ _ 11)
    replace d9 := d9.ch (Owns.dropCh _ _ 11)
    replace dP := dP.ch (Owns.dropCh _ _ 11)
    replace dU := dU.ch (Owns.dropCh _ _ 11)
    replace dV := dV.ch (Owns.dropCh _ _ 11)
    replace dW := dW.ch (Owns.dropCh _ _ 11)
    replace dX := dX.ch (Owns.dropCh _ _ 11)
    replace eg := eg.ch (Owns.dropCh _ _ 11)
    replace bz := bz.ch (Owns.dropCh _ _ 11)
    replace bV := bV.ch (Owns.dropCh _ _ 11)
    replace hB := hB.trans (Owns.dropFr _ _ 11)
    dsimp only [eS, eZ] at hB hO aV aL au aU aM aN d9 dP dU dV dW dX eg bz bV
    refine Go1.ret2 Try.func53 rfl ?_
    exact Or.inr ⟨(⟨(⟨k2_36, b2_37, d_39, d_45, d_51, d_57, d_63, d_69, k2_38⟩ : Enum), m2_93, d_75, d_81, d_87⟩ : run), false, eH, n44, p42, c43, kN, n50, p48, c49, kO, n56, p54, c55, kP, n62, p60, c61, kQ, n68, p66, c67, kS, n74, p72, c73, kT, ai, n80, p78, c79, kU, n86, p84, c85, fM, n92, p90, c91, fN, rfl, hB.same, hO, d9, dP, dU, dV, dW, dX, eg, bz, bV, H⟩
   replace H := ifn ET H
   refine GoQ.pure rfl (fun w => opB (op_eql rfl rfl w) (decide_eq_false ET)) rfl rfl ?_
   refine GoQ.pure rfl (op_move rfl) rfl rfl ?_
   refine GoQ.pass rfl rfl rfl ?_
   refine GoQ.pass rfl rfl rfl ?_
   refine GoQ.pass rfl rfl rfl ?_
   refine GoQ.pass rfl rfl rfl ?_
   refine GoQ.pass rfl rfl rfl ?_
   refine GoQ.pass rfl rfl rfl ?_
   refine GoQ.pass rfl rfl rfl ?_
   refine GoQ.pass rfl rfl rfl ?_
   refine GoQ.pure rfl (op_pickF rfl rfl rfl) rfl rfl ?_
   refine GoQ.pure rfl (op_move rfl) rfl rfl ?_
   refine GoQ.pass rfl rfl rfl ?_
   refine GoQ.pass rfl rfl rfl ?_
   refine GoQ.pass rfl rfl rfl ?_
   refine GoQ.pass rfl rfl rfl ?_
   refine GoQ.pass rfl rfl rfl ?_
   refine GoQ.pass rfl rfl rfl ?_
   refine GoQ.pass rfl rfl rfl ?_
   refine GoQ.pass rfl rfl rfl ?_
   refine GoQ.pure rfl (op_pickF rfl rfl rfl) rfl rfl ?_
   refine GoQ.pure rfl (op_move rfl) rfl rfl ?_
   refine GoQ.pass rfl rfl rfl ?_
   refine GoQ.pass rfl rfl rfl ?_
   refine GoQ.pass rfl rfl rfl ?_
   refine GoQ.pass rfl rfl rfl ?_
   refine GoQ.pass rfl rfl rfl ?_
   refine GoQ.pass rfl rfl rfl ?_
   refine GoQ.pass rfl rfl rfl ?_
   refine GoQ.pass rfl rfl rfl ?_
   refine GoQ.pure rfl (op_pickF rfl rfl rfl) rfl rfl ?_
   refine GoQ.pure rfl (op_move rfl) rfl rfl ?_
   refine GoQ.pass rfl rfl rfl ?_
   refine GoQ.pass rfl rfl rfl ?_
   refine GoQ.pass rfl rfl rfl ?_
   refine GoQ.pass rfl rfl rfl ?_
   refine GoQ.pass rfl rfl rfl ?_
   refine GoQ.pass rfl rfl rfl ?_
   refine GoQ.pass rfl rfl rfl ?_
   refine GoQ.pass rfl rfl rfl ?_
   refine GoQ.pure rfl (op_pickF rfl rfl rfl) rfl rfl ?_
   refine GoQ.pure rfl (op_move rfl) rfl rfl ?_
   refine GoQ.pass rfl rfl rfl ?_
   refine GoQ.pass rfl rfl rfl ?_
   refine GoQ.pass rfl rfl rfl ?_
   refine GoQ.pass rfl rfl rfl ?_
   refine GoQ.pass rfl rfl rfl ?_
   refine GoQ.pass rfl rfl rfl ?_
   refine GoQ.pass rfl rfl rfl ?_
   refine GoQ.pass rfl rfl rfl ?_
   refine GoQ.pure rfl (op_pickF rfl rfl rfl) rfl rfl ?_
   refine GoQ.pure rfl (op_move rfl) rfl rfl ?_
   refine GoQ.pass rfl rfl rfl ?_
   refine GoQ.pass rfl rfl rfl ?_
   refine GoQ.pass rfl rfl rfl ?_
   refine GoQ.pass rfl rfl rfl ?_
   refine GoQ.pass rfl rfl rfl ?_
   refine GoQ.pass rfl rfl rfl ?_
   refine GoQ.pass rfl rfl rfl ?_
   refine GoQ.pass rfl rfl rfl ?_
   refine GoQ.pure rfl (op_pickF rfl rfl rfl) rfl rfl ?_
   refine GoQ.pure rfl (op_assign rfl) rfl rfl ?_
   refine GoQ.nil ?_
   refine Go1.ret1V Try.func68 rfl (show _ = .bool false from rfl) ?_
   refine hR116 _ _ ?_
   refine za rfl (za rfl (zn ?_))
   replace hO := hO.drop 0
   have Z28 := ((pX.ch.trans nJ.ch).trans nK.ch).trans (Owns.dropCh _ _ 0)
   replace d9 := d9.ch Z28
   replace dP := dP.ch Z28
   replace dU := dU.ch Z28
   replace dV := dV.ch Z28
   replace dW := dW.ch Z28
   replace dX := dX.ch Z28
   replace eg := eg.ch Z28
   replace bz := bz.ch Z28
   replace bV := bV.ch Z28
   replace aV := aV.ch Z28
   replace aL := aL.ch Z28
   replace au := au.ch Z28
   replace aU := aU.ch Z28
   replace aM := aM.ch Z28
   replace aN := aN.ch Z28
   replace hB := (((hB.trans pX.fr).trans nJ.fr).trans nK.fr).trans (Owns.dropFr _ _ 0)
   dsimp only [eS, eZ] at hB hO aV aL au aU aM aN d9 dP dU dV dW dX eg bz bV
   replace hO := hO.drop 11
   replace aV := aV.ch (Owns.dropCh _ _ 11)
   replace aL := aL.ch (Owns.dropCh _ _ 11)
   replace au := au.ch (Owns.dropCh _ _ 11)
   replace aU := aU.ch (Owns.dropCh _ _ 11)
   replace aM := aM.ch (Owns.dropCh _ _ 11)
   replace aN := aN.ch (Owns.dropCh _ _ 11)
   replace d9 := d9.ch (Owns.dropCh _ _ 11)
   replace dP := dP.ch (Owns.dropCh _ _ 11)
   replace dU := dU.ch (Owns.dropCh _ _ 11)
   replace dV := dV.ch (Owns.dropCh _ _ 11)
   replace dW := dW.ch (Owns.dropCh _ _ 11)
   replace dX := dX.ch (Owns.dropCh _ _ 11)
   replace eg := eg.ch (Owns.dropCh _ _ 11)
   replace bz := bz.ch (Owns.dropCh _ _ 11)
   replace bV := bV.ch (Owns.dropCh _ _ 11)
   replace hB := hB.trans (Owns.dropFr _ _ 11)
   dsimp only [eS, eZ] at hB hO aV aL au aU aM aN d9 dP dU dV dW dX eg bz bV
   refine Go1.ret2 Try.func53 rfl ?_
   exact Or.inr ⟨(⟨(⟨k2_36, b2_37, d_39, d_45, d_51, d_57, d_63, d_69, k2_38⟩ : Enum), m2_93, d_75, d_81, d_87⟩ : run), false, eH, n44, p42, c43, kN, n50, p48, c49, kO, n56, p54, c55, kP, n62, p60, c61, kQ, n68, p66, c67, kS, n74, p72, c73, kT, ai, n80, p78, c79, kU, n86, p84, c85, fM, n92, p90, c91, fN, rfl, hB.same, hO, d9, dP, dU, dV, dW, dX, eg, bz, bV, H⟩
  replace H := ifn h34 H
  refine zo (fun w => opB (op_neq rfl rfl w) (ndF h34)) (zn (zt rfl rfl (zq ?_)))
  refine Go1.cut [] trivial ?_
  intro σ _
  refine zr (za rfl (za rfl (zn ?_)))
  refine Go1.ret2 Try.func53 rfl ?_
  replace hB := (hB.trans eF.fr).trans fH.fr
  exact Or.inl ⟨false, rfl, hB.same, H⟩
theorem body29 : Body Try.prog 29 := ⟨Try.f29, Try.func29, rfl, by kernel_rfl⟩
theorem walk_enumerate_Word {A : List Nat} {w0 : World} {bW : Option Addr} {bX : Nat} {bo : Option Addr} {bp : Nat} {bc : Option Addr} {bf : Nat} {bP : Option Addr} {bQ : Nat} {bq : Option Addr} {bt : Nat} {bu : Option Addr} {bv : Nat} {e : Enum} {i : Int} (hA : ∀ b ∈ A, b < w0.heap.size) (aV : ISl (Rp.sl (Rp.int .i64)) A w0 bW bX e.Gens) (aL : ISl (Rp.sl (Rp.int .i64)) A w0 bo bp e.Elems) (au : ISl (Rp.int .i64) A w0 bc bf e.Prefix) (aU : ISl (Rp.int .i64) A w0 bP bQ e.Last) (aM : ISl (Rp.sl (Rp.int .i64)) A w0 bq bt e.Right) (aN : ISl (rpRule) A w0 bu bv e.Rules) {K : Str → Prop} (H : enumerate_Word e i K) :
    CallsV Try.prog 29 #[.agg #[.int .i64 e.Points, .bool e.Monoid, .slice bW e.Gens.length bX, .slice bo e.Elems.length bp, .slice bc e.Prefix.length bf, .slice bP e.Last.length bQ, .slice bq e.Right.length bt, .slice bu e.Rules.length bv, .int .i64 e.Done], .int .i64 i] w0 (fun v w' => ∃ (r0 : Str), v = .string (gstr r0) ∧ Same w0 w' ∧ r0.length ≤ mx ∧ K r0) := by
 refine CallsV.of (l := [.agg #[.int .i64 e.Points, .bool e.Monoid, .slice bW e.Gens.length bX, .slice bo e.Elems.length bp, .slice bc e.Prefix.length bf, .slice bP e.Last.length bQ, .slice bq e.Right.length bt, .slice bu e.Rules.length bv, .int .i64 e.Done], .int .i64 i]) Try.func29 rfl Try.ntmps29 rfl ?_
 have hO := Owns.start hA
 have hB := Fr.refl (bl []) w0
 unfold enumerate_Word at H
 refine zq (zr ?_)
 have hobt := obox (t := 29) (v := .agg #[.int .i64 e.Points, .bool e.Monoid, .slice bW e.Gens.length bX, .slice bo e.Elems.length bp, .slice bc e.Prefix.length bf, .slice bP e.Last.length bQ, .slice bq e.Right.length bt, .slice bu e.Rules.length bv, .int .i64 e.Done]) (cs := #[.int .i64 e.Points, .bool e.Monoid, .slice bW e.Gens.length bX, .slice bo e.Elems.length bp, .slice bc e.Prefix.length bf, .slice bP e.Last.length bQ, .slice bq e.Right.length bt, .slice bu e.Rules.length bv, .int .i64 e.Done]) hO rfl
 obtain ⟨w1, B2, eF, hs4, vF⟩ := hobt
 refine zg (vF rfl) ?_
 replace hO := eF.own
 refine za rfl (zn (zq (zr (zs (oblkAgg (vs := [.int .i64 e.Points, .bool e.Monoid, .slice bW e.Gens.length bX, .slice bo e.Elems.length bp, .slice bc e.Prefix.length bf, .slice bP e.Last.length bQ, .slice bq e.Right.length bt, .slice bu e.Rules.length bv, .int .i64 e.Done]) (i := 0) 0 hO rfl rfl Try.underlying29 rfl ti29 rfl) ?_))))
 have Z1 := (Ch.start A w0).trans eF.ch
 replace aV := aV.ch Z1
 replace aL := aL.ch Z1
 replace au := au.ch Z1
 replace aU := aU.ch Z1
 replace aM := aM.ch Z1
 replace aN := aN.ch Z1
 refine GoR.call (op_call body53 rfl (walk_enumerate_replay (e := e) hO.lt aV aL au aU aM aN H)) rfl rfl ?_
 intro v9 w10 hcase13
 refine Or.elim hcase13 ?_ ?_
 ·refine exE fun r8 => andE fun hv14 => andE fun x5 => fun H => ?_
  subst hv14
  clear hcase13
  replace H := oElimN H
  have jN := Stp.same hO x5
  replace hO := jN.own
  refine zm rfl (zo (op_extract rfl rfl) (zo (op_extract rfl rfl) (za rfl (za rfl (zn ?_)))))
  refine zq (zq (zr (zm rfl ?_)))
  cases r8
  ·replace H := ifn Bool.false_ne_true H
   refine zo (op_not rfl) (zm rfl (zp (zp (zo (op_pickT rfl rfl rfl) (zm rfl ?_)))))
   refine zp (zp (zp (zp (zp (zp ?_)))))
   refine zp (zp (zo (op_pickT rfl rfl rfl) (zn (zt rfl rfl (zq ?_)))))
   refine Go1.cut [] trivial ?_
   intro σ _
   refine zr (za rfl (zn ?_))
   refine Go1.ret1 Try.func29 rfl ?_
   replace hB := (hB.trans eF.fr).trans jN.fr
   exact ⟨([] : Str), rfl, hB.same, (by decide), H⟩
  replace H := ifp rfl H
  refine zo (op_not rfl) (zm rfl (zm rfl ?_))
  by_cases h16 : i < (0 : Int)
  ·replace H := ifp h16 H
   refine zo (fun w => opB (op_lss rfl rfl w) (decide_eq_true h16)) (zo (op_pickF rfl rfl rfl) (zm rfl (zp (zp (zp ?_)))))
   refine zp (zp (zp (zp (zp (zo (op_pickT rfl rfl rfl) ?_)))))
   refine zn (zt rfl rfl (zq (zr (za rfl (zn ?_)))))
   refine Go1.ret1 Try.func29 rfl ?_
   replace hB := (hB.trans eF.fr).trans jN.fr
   exact ⟨([] : Str), rfl, hB.same, (by decide), H⟩
  replace H := ifn h16 H
  refine zo (fun w => opB (op_lss rfl rfl w) (decide_eq_false h16)) (zo (op_pickF rfl rfl rfl) (zm rfl (zm rfl (zm rfl ?_))))
  exact H.elim
 ·refine exE fun r7 => exE fun r8 => exE fun eH => exE fun uu => exE fun uv => exE fun uw => exE fun tG => exE fun tH => exE fun tI => exE fun tJ => exE fun rP => exE fun rQ => exE fun rR => exE fun rS => exE fun qx => exE fun ux => exE fun uy => exE fun uz => exE fun tK => exE fun tL => exE fun tM => exE fun tN => exE fun rT => exE fun tO => exE fun tP => exE fun tQ => exE fun rU => exE fun ai => exE fun xw => exE fun xx => exE fun xz => exE fun wx => exE fun wy => exE fun wz => exE fun wA => exE fun vO => exE fun wB => exE fun wC => exE fun wD => exE fun vP => andE fun hv17 => andE fun x5 => andE fun hN12 => andE fun fe => andE fun er => andE fun et => andE fun ff => andE fun eM => andE fun eN => andE fun fA => andE fun fW => andE fun fX => fun H => ?_
  subst hv17
  clear hcase13
  replace H := oElimS H
  have um := Stp.more hO x5 hN12
  dsimp only [List.cons_append, List.nil_append] at um
  replace hO := um.own
  replace fe := fe.ch (Ch.assoc _ _ _ _)
  dsimp only [List.cons_append, List.nil_append] at fe
  replace er := er.ch (Ch.assoc _ _ _ _)
  dsimp only [List.cons_append, List.nil_append] at er
  replace et := et.ch (Ch.assoc _ _ _ _)
  dsimp only [List.cons_append, List.nil_append] at et
  replace ff := ff.ch (Ch.assoc _ _ _ _)
  dsimp only [List.cons_append, List.nil_append] at ff
  replace eM := eM.ch (Ch.assoc _ _ _ _)
  dsimp only [List.cons_append, List.nil_append] at eM
  replace eN := eN.ch (Ch.assoc _ _ _ _)
  dsimp only [List.cons_append, List.nil_append] at eN
  replace fA := fA.ch (Ch.assoc _ _ _ _)
  dsimp only [List.cons_append, List.nil_append] at fA
  replace fW := fW.ch (Ch.assoc _ _ _ _)
  dsimp only [List.cons_append, List.nil_append] at fW
  replace fX := fX.ch (Ch.assoc _ _ _ _)
  dsimp only [List.cons_append, List.nil_append] at fX
  refine zm rfl (zo (op_extract rfl rfl) (zo (op_extract rfl rfl) (za rfl (za rfl (zn ?_)))))
  refine zq (zq ?_)
  refine Go1.cut [(1, .int .i64 i), (5, .pointer (some ⟨eH, 0, none⟩)), (6, .bool r8)] ⟨rfl, rfl, rfl, trivial⟩ ?_
  intro σ _
  refine zr (zm rfl ?_)
  cases r8
  ·replace H := ifn Bool.false_ne_true H
   refine zo (op_not rfl) (zm rfl (zp (zp (zo (op_pickT rfl rfl rfl) (zm rfl ?_)))))
   refine zp (zp (zp (zp (zp (zp ?_)))))
   refine zp (zp (zo (op_pickT rfl rfl rfl) (zn (zt rfl rfl (zq ?_)))))
   refine zr (za rfl (zn ?_))
   refine Go1.ret1 Try.func29 rfl ?_
   replace hB := (hB.trans eF.fr).trans um.fr
   exact ⟨([] : Str), rfl, hB.same, (by decide), H⟩
  replace H := ifp rfl H
  refine zo (op_not rfl) (zm rfl (zm rfl ?_))
  by_cases h30 : i < (0 : Int)
  ·replace H := ifp h30 H
   refine zo (fun w => opB (op_lss rfl rfl w) (decide_eq_true h30)) (zo (op_pickF rfl rfl rfl) (zm rfl (zp (zp (zp ?_)))))
   refine zp (zp (zp (zp (zp (zo (op_pickT rfl rfl rfl) ?_)))))
   refine zn (zt rfl rfl (zq ?_))
   refine Go1.cut [] trivial ?_
   intro σ _
   refine zr (za rfl (zn ?_))
   refine Go1.ret1 Try.func29 rfl ?_
   replace hB := (hB.trans eF.fr).trans um.fr
   exact ⟨([] : Str), rfl, hB.same, (by decide), H⟩
  replace H := ifn h30 H
  refine zo (fun w => opB (op_lss rfl rfl w) (decide_eq_false h30)) (zo (op_pickF rfl rfl rfl) (zm rfl (zm rfl (zm rfl (zo (op_nilCheck rfl) ?_)))))
  refine zo (op_fieldAddr Try.underlying72 rfl ti29 rfl (by decide)) (zo (op_fieldAddr Try.underlying29 rfl ti22 rfl (by decide)) (zs (oblk (i := 3) 0 hO rfl rfl Try.underlying22 rfl rfl) (zo (op_lenN Try.underlying22 rfl (er.neq hO 2 rfl)) ?_)))
  by_cases h31 : (r7.Enum.Elems.length : Int) ≤ i
  ·replace H := ifp h31 H
   refine zo (fun w => opB (op_geq rfl rfl w) (decide_eq_true h31)) (zo (op_pickF rfl rfl rfl) (zn (zt rfl rfl (zq (zr ?_)))))
   refine za rfl (zn ?_)
   refine Go1.ret1 Try.func29 rfl ?_
   replace hB := (hB.trans eF.fr).trans um.fr
   exact ⟨([] : Str), rfl, hB.same, (by decide), H⟩
  replace H := ifn h31 H
  refine zo (fun w => opB (op_geq rfl rfl w) (decide_eq_false h31)) (zo (op_pickF rfl rfl rfl) (zn (zf rfl rfl (zk (zq ?_)))))
  refine zr (zm rfl (zo (op_nilCheck rfl) (zo (op_fieldAddr Try.underlying72 rfl ti70 rfl (by decide)) (zs (oblk (i := 10) 0 hO rfl rfl Try.underlying70 rfl rfl) (zm rfl ?_)))))
  obtain ⟨h32, H⟩ := H
  obtain ⟨h33, H⟩ := H
  refine zo (op_index Try.underlying70 ti9 rfl rfl h32 (ltn (fA.neq hO 7 rfl) h33) (fA.psome hO 7 rfl h32 h33)) (zs (oldStr 7 hO rfl fA h32 h33 Try.underlying9 rfl rfl) ?_)
  have hle34 := Els.str_le fA h32 h33
  refine za rfl (zn ?_)
  refine Go1.ret1 Try.func29 rfl ?_
  replace hB := (hB.trans eF.fr).trans um.fr
  exact ⟨ix r7.words i, rfl, hB.same, hle34, H⟩
theorem body16 : Body Try.prog 16 := ⟨Try.f16, Try.func16, rfl, by kernel_rfl⟩
theorem walk_law12_awake {A : List Nat} {w0 : World} (hA : ∀ b ∈ A, b < w0.heap.size) {K : Bool → Prop} (H : law12_awake  K) :
    CallsV Try.prog 16 #[] w0 (fun v w' => ∃ (r0 : Bool), v = .bool r0 ∧ Same w0 w' ∧ K r0) := by
 refine CallsV.of (l := []) Try.func16 rfl Try.ntmps16 rfl ?_
 have hO := Owns.start hA
 have hB := Fr.refl (bl []) w0
 unfold law12_awake at H
 refine zq (zr (za rfl (zn (zq (zr ?_)))))
 have hobt := obuild (r := Rp.int .i64) (n := 2) (parts := [(0, .int .i64 (1 : Int)), (1, .int .i64 (0 : Int))]) (vs := [.int .i64 (1 : Int), .int .i64 (0 : Int)]) (xs := [(1 : Int), (0 : Int)]) rfl Try.underlying26 ti3 hO (by decide) (by kernel_rfl) (Els.cons rfl rfl (Els.cons rfl rfl (Els.nil _ _ _) (by simp [mx])) (by simp [mx])) rfl
 obtain ⟨w1, p2, eF, hE4, hs5, Ru⟩ := hobt
 refine zg (Ru rfl) ?_
 replace hO := eF.own
 have hobt := obuild (r := Rp.int .i64) (n := 2) (parts := [(0, .int .i64 (0 : Int)), (1, .int .i64 (0 : Int))]) (vs := [.int .i64 (0 : Int), .int .i64 (0 : Int)]) (xs := [(0 : Int), (0 : Int)]) rfl Try.underlying26 ti3 hO (by decide) (by kernel_rfl) (Els.cons rfl rfl (Els.cons rfl rfl (Els.nil _ _ _) (by simp [mx])) (by simp [mx])) rfl
 obtain ⟨w8, p9, EX, GE, FF, DW⟩ := hobt
 refine zg (DW rfl) ?_
 replace hO := EX.own
 replace hE4 := hE4.ch EX.ch
 have hobt := freeze 1 hO rfl hE4
 obtain ⟨hO1, Rv, j8, Rw⟩ := hobt
 replace hO := hO1; clear hO1
 replace GE := GE.ch Rv
 have hobt := freeze 0 hO rfl GE
 obtain ⟨hO1, Rx, ug, Ry⟩ := hobt
 replace hO := hO1; clear hO1
 replace j8 := j8.ch Rx
 have hobt := obuild (r := Rp.sl (Rp.int .i64)) (n := 2) (parts := [(0, .slice p2 2 2), (1, .slice p9 2 2)]) (vs := [.slice p2 2 2, .slice p9 2 2]) (xs := [[(1 : Int), (0 : Int)], [(0 : Int), (0 : Int)]]) rfl Try.underlying22 ti26 hO (by decide) (by kernel_rfl) (Els.cons rfl ⟨p2, 2, congrArg some (congrArg (fun nn => Value.slice p2 nn 2) Rw), j8⟩ (Els.cons rfl ⟨p9, 2, congrArg some (congrArg (fun nn => Value.slice p9 nn 2) Ry), ug⟩ (Els.nil _ _ _) (by simp [mx])) (by simp [mx])) rfl
 obtain ⟨w21, p22, rk, cy, EY, DX⟩ := hobt
 refine zg (DX rfl) ?_
 replace hO := rk.own
 have hobt := freeze 0 hO rfl cy
 obtain ⟨hO1, DJ, x6, GF⟩ := hobt
 replace hO := hO1; clear hO1
 refine GoR.call (op_call body17 (show ([.slice p22 2 2, .bool true] : List Value) = [.slice p22 ([[(1 : Int), (0 : Int)], [(0 : Int), (0 : Int)]]).length 2, .bool true] from by rw [← GF]) (walk_enumerate_Build hO.lt x6 H)) rfl rfl ?_
 rintro v36 w33 ⟨r31, r32, zO, zP, yQ, yR, x7, x8, zQ, zR, yS, yT, yU, yV, rfl, Rz, rV, oQ, ph, rW, qo, oR, H⟩
 have m6 := Stp.same hO Rz
 replace hO := m6.own
 refine zm rfl (zo (op_extract rfl rfl) (zo (op_extract rfl rfl) ?_))
 have hobt := oalloc (t := 29) (cs := #[.int .i64 (0 : Int), .bool false, .slice none 0 0, .slice none 0 0, .slice none 0 0, .slice none 0 0, .slice none 0 0, .slice none 0 0, .int .i64 (0 : Int)]) ti29 hO rfl
 obtain ⟨w38, B39, ka, JE, NF⟩ := hobt
 refine GoR.op NF rfl rfl ?_
 replace hO := ka.own
 have hobt := oblkStAgg (us := [.int .i64 r31.Points, .bool r31.Monoid, .slice zO r31.Gens.length zP, .slice yQ r31.Elems.length yR, .slice x7 r31.Prefix.length x8, .slice zQ r31.Last.length zR, .slice yS r31.Right.length yT, .slice yU r31.Rules.length yV, .int .i64 r31.Done]) (o := 0) (cs' := #[.int .i64 r31.Points, .bool r31.Monoid, .slice zO r31.Gens.length zP, .slice yQ r31.Elems.length yR, .slice x7 r31.Prefix.length x8, .slice zQ r31.Last.length zR, .slice yS r31.Right.length yT, .slice yU r31.Rules.length yV, .int .i64 r31.Done]) 0 hO rfl rfl (Nat.le_of_ble_eq_true rfl) rfl
 obtain ⟨w44, jO, NG⟩ := hobt
 refine zg (NG ti29 (by exact rfl) (by exact rfl) rfl) ?_
 replace hO := jO.own
 refine za rfl (zn (zq (zr (zm rfl ?_))))
 by_cases h47 : r32 = (0 : Int)
 ·replace H := ifp h47 H
  refine zo (fun w => opB (op_eql rfl rfl w) (decide_eq_true h47)) (zm rfl (zo (op_fieldAddr Try.underlying29 rfl ti22 rfl (by decide)) (zs (oblk (i := 3) 0 hO rfl rfl Try.underlying22 rfl rfl) (zo (op_len Try.underlying22 rfl) ?_))))
  replace oQ := (oQ.ch ka.ch).ch jO.ch
  replace H := H oQ.bd
  by_cases h48 : (r31.Elems.length : Int) = (4 : Int)
  ·replace H := ifp h48 H
   refine zo (fun w => opB (op_eql rfl rfl w) (decide_eq_true h48)) (zo (op_pickT rfl rfl rfl) (zm rfl (zo (op_fieldAddr Try.underlying29 rfl ti27 rfl (by decide)) (zs (oblk (i := 7) 0 hO rfl rfl Try.underlying27 rfl rfl) (zo (op_len Try.underlying27 rfl) ?_)))))
   replace oR := (oR.ch ka.ch).ch jO.ch
   replace H := H oR.bd
   by_cases h49 : (r31.Rules.length : Int) = (3 : Int)
   ·replace H := ifp h49 H
    refine zo (fun w => opB (op_eql rfl rfl w) (decide_eq_true h49)) (zo (op_pickT rfl rfl rfl) (zm rfl (zs (oblkAgg (vs := [.int .i64 r31.Points, .bool r31.Monoid, .slice zO r31.Gens.length zP, .slice yQ r31.Elems.length yR, .slice x7 r31.Prefix.length x8, .slice zQ r31.Last.length zR, .slice yS r31.Right.length yT, .slice yU r31.Rules.length yV, .int .i64 r31.Done]) (i := 0) 0 hO rfl rfl Try.underlying29 rfl ti29 rfl) ?_)))
    have Z1 := ka.ch.trans jO.ch
    replace rV := rV.ch Z1
    replace ph := ph.ch Z1
    replace rW := rW.ch Z1
    replace qo := qo.ch Z1
    refine GoR.call (op_call body29 rfl (walk_enumerate_Word (e := r31) hO.lt rV oQ ph rW qo oR H)) rfl rfl ?_
    rintro v54 w51 ⟨r50, rfl, GG, S4, H⟩
    have vQ := Stp.same hO GG
    replace hO := vQ.own
    by_cases h56 : r50 = (([98, 97] : Str))
    ·replace H := ifp h56 H
     refine zo (fun w => opB (op_eqlS rfl rfl w) (decide_eq_true h56)) (zo (op_pickT rfl rfl rfl) (za rfl (zn ?_)))
     refine Go1.ret1 Try.func16 rfl ?_
     replace hB := (((((((((hB.trans eF.fr).trans EX.fr).trans (Owns.dropFr _ _ 1)).trans (Owns.dropFr _ _ 0)).trans rk.fr).trans (Owns.dropFr _ _ 0)).trans m6.fr).trans ka.fr).trans jO.fr).trans vQ.fr
     exact ⟨true, rfl, hB.same, H⟩
    replace H := ifn h56 H
    refine zo (fun w => opB (op_eqlS rfl rfl w) (decide_eq_false h56)) (zo (op_pickT rfl rfl rfl) (za rfl (zn ?_)))
    refine Go1.ret1 Try.func16 rfl ?_
    replace hB := (((((((((hB.trans eF.fr).trans EX.fr).trans (Owns.dropFr _ _ 1)).trans (Owns.dropFr _ _ 0)).trans rk.fr).trans (Owns.dropFr _ _ 0)).trans m6.fr).trans ka.fr).trans jO.fr).trans vQ.fr
    exact ⟨false, rfl, hB.same, H⟩
   replace H := ifn h49 H
   refine zo (fun w => opB (op_eql rfl rfl w) (decide_eq_false h49)) (zo (op_pickT rfl rfl rfl) (zm rfl (zp (zp (zp ?_)))))
   refine zo (op_pickF rfl rfl rfl) (za rfl (zn ?_))
   refine Go1.ret1 Try.func16 rfl ?_
   replace hB := ((((((((hB.trans eF.fr).trans EX.fr).trans (Owns.dropFr _ _ 1)).trans (Owns.dropFr _ _ 0)).trans rk.fr).trans (Owns.dropFr _ _ 0)).trans m6.fr).trans ka.fr).trans jO.fr
   exact ⟨false, rfl, hB.same, H⟩
  replace H := ifn h48 H
  refine zo (fun w => opB (op_eql rfl rfl w) (decide_eq_false h48)) (zo (op_pickT rfl rfl rfl) (zm rfl (zp (zp (zp ?_)))))
  refine zp (zo (op_pickF rfl rfl rfl) (zm rfl (zp (zp (zp ?_)))))
  refine zo (op_pickF rfl rfl rfl) (za rfl (zn ?_))
  refine Go1.ret1 Try.func16 rfl ?_
  replace hB := ((((((((hB.trans eF.fr).trans EX.fr).trans (Owns.dropFr _ _ 1)).trans (Owns.dropFr _ _ 0)).trans rk.fr).trans (Owns.dropFr _ _ 0)).trans m6.fr).trans ka.fr).trans jO.fr
  exact ⟨false, rfl, hB.same, H⟩
 replace H := ifn h47 H
 refine zo (fun w => opB (op_eql rfl rfl w) (decide_eq_false h47)) (zm rfl (zp (zp (zp (zp ?_)))))
 refine zo (op_pickF rfl rfl rfl) (zm rfl (zp (zp (zp (zp ?_)))))
 refine zo (op_pickF rfl rfl rfl) (zm rfl (zp (zp (zp (zo (op_pickF rfl rfl rfl) ?_)))))
 refine za rfl (zn ?_)
 refine Go1.ret1 Try.func16 rfl ?_
 replace hB := ((((((((hB.trans eF.fr).trans EX.fr).trans (Owns.dropFr _ _ 1)).trans (Owns.dropFr _ _ 0)).trans rk.fr).trans (Owns.dropFr _ _ 0)).trans m6.fr).trans ka.fr).trans jO.fr
 exact ⟨false, rfl, hB.same, H⟩
theorem body24 : Body Try.prog 24 := ⟨Try.f24, Try.func24, rfl, by kernel_rfl⟩
theorem walk_ref03_Copy {A : List Nat} {w0 : World} {p_a : Option Addr} {c_a : Nat} {a : List (List Int)} (hA : ∀ b ∈ A, b < w0.heap.size) (h_a : ISl (Rp.sl (Rp.int .i64)) A w0 p_a c_a a) {K : List (List Int) → Prop} (H : ref03_Copy a K) :
    CallsV Try.prog 24 #[.slice p_a a.length c_a] w0 (fun v w' => ∃ (r0 : List (List Int)), ∃ (Co : Nat), ∃ (tf : Option Addr), ∃ (tg : Nat), ∃ (NH : Hd), v = .slice tf Co tg ∧ Same w0 w' ∧ Owns w0.heap.size w' [t2 (Fl.int .i64) 26 3 tf Co tg NH r0] A ∧ K r0) := by
 refine CallsV.of (l := [.slice p_a a.length c_a]) Try.func24 rfl Try.ntmps24 rfl ?_
 have hO := Owns.start hA
 have hB := Fr.refl (bl []) w0
 unfold ref03_Copy at H
 refine zq (zr (za rfl (zn (zq (zr ?_)))))
 refine za rfl (zn (zq (zq (zr (zm rfl ?_)))))
 refine zo (op_len Try.underlying22 rfl) ?_
 replace h_a := h_a.ch (Ch.start A w0)
 replace H := H h_a.bd
 refine zm rfl (zn (zb ?_))
 have GH := t2nil (e := 26) (e' := 3) (Fl.int .i64) hO
 replace hO := GH.own
 replace h_a := h_a.ch GH.ch
 replace hB := hB.trans GH.fr
 refine Go1.loopW (S := Nat × List (List Int)) (fun s σ w => match s with | (k1_4, out1_5) => ∃ (n8 : Nat), ∃ (p6 : Option Addr), ∃ (c7 : Nat), ∃ (hs9 : Hd), agrees σ [(3, .slice p6 n8 c7), (6, .slice p_a a.length c_a), (7, .int .i64 (a.length : Int)), (8, .int .i64 (k1_4 : Int))] ∧ (fun Z0 => Owns w0.heap.size w Z0 A ∧ ISl (Rp.sl (Rp.int .i64)) (bl Z0 ++ A) w p_a c_a a ∧ Fr (bl []) w0 (bl Z0) w) [t2 (Fl.int .i64) 26 3 p6 n8 c7 hs9 out1_5]) H ⟨0, none, 0, (fun _ => (none, 0)), ⟨rfl, rfl, rfl, rfl, trivial⟩, hO, h_a, hB⟩ ?_
 intro X1
 refine prE fun k1_4 => fun out1_5 => ?_
 intro H hX1 σ w3
 refine exE fun n8 => exE fun p6 => exE fun c7 => exE fun hs9 => andE fun hag => andE fun hO => andE fun h_a => fun hB => ?_
 dsimp only at H
 refine Go1.keep [(3, .slice p6 n8 c7), (6, .slice p_a a.length c_a), (7, .int .i64 (a.length : Int)), (8, .int .i64 (k1_4 : Int))] hag ?_
 refine zq (zr ?_)
 by_cases h10 : (k1_4 : Int) < (a.length : Int)
 ·replace H := ifp h10 H
  refine zo (fun w => opB (op_lss rfl rfl w) (decide_eq_true h10)) (zn (zq (zt rfl rfl (zk (zq ?_)))))
  refine zb (zq (zr ?_))
  obtain ⟨h11, H⟩ := H
  obtain ⟨h12, H⟩ := H
  refine zo (op_index Try.underlying22 ti26 rfl rfl h11 h12 (h_a.some_ h11 h12)) ?_
  have hobt := ldSl h_a h11 h12
  obtain ⟨p13, c14, j8, GD⟩ := hobt
  refine zs (GD Try.underlying26 rfl rfl) (za rfl (zn (zr (zm rfl ?_))))
  have hobt := obuild (r := Rp.int .i64) (n := 0) (parts := []) (vs := []) (xs := ([] : List Int)) rfl Try.underlying26 ti3 hO (by decide) (by kernel_rfl) (Els.nil _ _ _) rfl
  obtain ⟨w17, p18, CX, RA, Wj, Cc⟩ := hobt
  refine zg (Cc rfl) ?_
  replace hO := CX.own
  refine zm rfl ?_
  obtain ⟨h24, H⟩ := H
  replace j8 := j8.ch CX.ch
  have hobt := oapp Try.underlying26 ti3 rfl 0 hO rfl RA j8 rfl h24 (by decide)
  obtain ⟨w25, p26, c27, Wk, tR, cj, NI⟩ := hobt
  refine zg (NI (by exact rfl) (by exact rfl)) ?_
  replace hO := tR.own
  have hobt := t2build1 (Fl.int .i64) Try.underlying22 ti26 hO cj
  obtain ⟨w33, p34, tS, E0⟩ := hobt
  refine zg (E0 rfl) ?_
  replace hO := tS.own
  have jv := Stp.front 1 hO rfl
  replace hO := jv.own
  have C0 := Stp.front 1 hO rfl
  replace hO := C0.own
  obtain ⟨h40, H⟩ := H
  have hobt := t2cat Try.underlying22 ti26 hO h40 (by decide)
  obtain ⟨w41, p42, c43, xG, NJ⟩ := hobt
  refine zg (NJ (by exact rfl) (by exact rfl)) ?_
  replace hO := xG.own
  refine za rfl (zn ?_)
  refine Go1.inBlock ?_
  refine zr ?_
  have Z1 := ((((CX.ch.trans tR.ch).trans tS.ch).trans jv.ch).trans C0.ch).trans xG.ch
  replace h_a := h_a.ch Z1
  refine zo (op_add rfl rfl (wrap_i64 (natbd h10 h_a.bd))) (zm rfl (zn ?_))
  replace hB := (((((hB.trans CX.fr).trans tR.fr).trans tS.fr).trans jv.fr).trans C0.fr).trans xG.fr
  exact hX1 _ H _ _ ⟨n8 + 1, p42, c43, hcat hs9 out1_5.length ((fun _ => (p26, c27))), ⟨rfl, rfl, rfl, rfl, trivial⟩, hO, h_a, hB⟩
 replace H := ifn h10 H
 refine zo (fun w => opB (op_lss rfl rfl w) (decide_eq_false h10)) (zn (zq (zf rfl rfl ?_)))
 refine Go1.exit rfl ?_
 refine zq (zr (zm rfl (za rfl (zn ?_))))
 refine Go1.ret1 Try.func24 rfl ?_
 exact ⟨out1_5, n8, p6, c7, hs9, rfl, hB.same, hO, H⟩
theorem body54 : Body Try.prog 54 := ⟨Try.f54, Try.func54, rfl, by kernel_rfl⟩
theorem walk_ref03_Discrete {A : List Nat} {w0 : World} {n : Int} (hA : ∀ b ∈ A, b < w0.heap.size) {K : List Int → Prop} (H : ref03_Discrete n K) :
    CallsV Try.prog 54 #[.int .i64 n] w0 (fun v w' => ∃ (r0 : List Int), ∃ (tf : Option Addr), ∃ (tg : Nat), v = .slice tf r0.length tg ∧ Same w0 w' ∧ ISl (Rp.int .i64) A w' tf tg r0 ∧ K r0) := by
 refine CallsV.of (l := [.int .i64 n]) Try.func54 rfl Try.ntmps54 rfl ?_
 have hO := Owns.start hA
 have hB := Fr.refl (bl []) w0
 unfold ref03_Discrete at H
 refine zq (zr (za rfl (zn (zq (zr ?_)))))
 refine zm rfl ?_
 obtain ⟨h8, H⟩ := H
 obtain ⟨h9, H⟩ := H
 have hobt := omake (n := n) (r := Rp.int .i64) (d := (0 : Int)) Try.underlying26 ti3 (fun _ _ => rfl) rfl hO h8 h9 (by decide)
 obtain ⟨w1, p2, vs3, li, hE5, hs6, xY⟩ := hobt
 refine zg (xY rfl rfl) ?_
 replace hO := li.own
 refine za rfl (zn (zq (zq (zr (zm rfl ?_)))))
 refine zo (op_lenN Try.underlying26 rfl (hE5.neq hO 0 rfl)) (zm rfl (zn (zb ?_)))
 replace hB := hB.trans li.fr
 refine Go1.loopW (S := Nat × List Int) (fun s σ w => match s with | (k1_12, p1_13) => ∃ (jy : List Value), agrees σ [(3, .slice p2 n.toNat n.toNat), (8, .int .i64 ((List.replicate n.toNat ((0 : Int))).length : Int)), (9, .int .i64 (k1_12 : Int))] ∧ (fun Z0 => Owns w0.heap.size w Z0 A ∧ Els (Rp.int .i64) (bl Z0 ++ A) w jy p1_13 ∧ Fr (bl []) w0 (bl Z0) w) [.row 3 1 p2 n.toNat n.toNat jy]) H ⟨vs3, ⟨rfl, rfl, rfl, trivial⟩, hO, hE5, hB⟩ ?_
 intro X1
 refine prE fun k1_12 => fun p1_13 => ?_
 intro H hX1 σ w11
 refine exE fun jy => andE fun hag => andE fun hO => andE fun bg => fun hB => ?_
 dsimp only at H
 refine Go1.keep [(3, .slice p2 n.toNat n.toNat), (8, .int .i64 ((List.replicate n.toNat ((0 : Int))).length : Int)), (9, .int .i64 (k1_12 : Int))] hag ?_
 refine zq (zr ?_)
 by_cases h16 : (k1_12 : Int) < ((List.replicate n.toNat ((0 : Int))).length : Int)
 ·replace H := ifp h16 H
  refine zo (fun w => opB (op_lss rfl rfl w) (decide_eq_true h16)) (zn (zq (zt rfl rfl (zk (zq ?_)))))
  refine zb (zq (zr (zm rfl (za rfl (zn ?_)))))
  refine zr (zm rfl (zm rfl (zm rfl ?_)))
  obtain ⟨h17, H⟩ := H
  obtain ⟨h18, H⟩ := H
  refine zo (op_index Try.underlying26 ti3 rfl rfl h17 (ltn (bg.neq hO 0 rfl) h18) (bg.psome hO 0 rfl h17 h18)) ?_
  have hobt := ost (r := Rp.int .i64) rfl 0 hO rfl bg h17 h18 (v := .int .i64 (k1_12 : Int)) (u := (k1_12 : Int)) rfl rfl
  obtain ⟨w19, RB, gS, RD, B6⟩ := hobt
  refine zg (B6 Try.underlying3 rfl ti3 (by exact rfl) (by exact rfl)) ?_
  replace hO := gS.own
  refine zn ?_
  refine Go1.inBlock ?_
  refine zr ?_
  obtain ⟨h24, H⟩ := H
  refine zo (op_add rfl rfl (wrap_i64 h24)) (zm rfl (zn ?_))
  replace hB := hB.trans gS.fr
  exact hX1 _ H _ _ ⟨RB, ⟨rfl, rfl, rfl, trivial⟩, hO, RD, hB⟩
 replace H := ifn h16 H
 refine zo (fun w => opB (op_lss rfl rfl w) (decide_eq_false h16)) (zn (zq (zf rfl rfl ?_)))
 refine Go1.exit rfl ?_
 refine zq (zr (zm rfl (za rfl (zn ?_))))
 have hobt := freeze 0 hO rfl bg
 obtain ⟨hO1, Wl, RE, GJ⟩ := hobt
 replace hO := hO1; clear hO1
 refine Go1.ret1 Try.func54 rfl ?_
 replace hB := hB.trans (Owns.dropFr _ _ 0)
 exact ⟨p1_13, p2, n.toNat, (congrArg (fun nn => Value.slice p2 nn n.toNat) GJ), hB.same, (RE.ch (Ch.weak _ _ _)), H⟩
theorem body34 : Body Try.prog 34 := ⟨Try.f34, Try.func34, rfl, by kernel_rfl⟩
theorem walk_ref03_Same {A : List Nat} {w0 : World} {p_a : Option Addr} {c_a : Nat} {p_b : Option Addr} {c_b : Nat} {a : List Int} {b : List Int} (hA : ∀ b ∈ A, b < w0.heap.size) (h_a : ISl (Rp.int .i64) A w0 p_a c_a a) (h_b : ISl (Rp.int .i64) A w0 p_b c_b b) {K : Bool → Prop} (H : ref03_Same a b K) :
    CallsV Try.prog 34 #[.slice p_a a.length c_a, .slice p_b b.length c_b] w0 (fun v w' => ∃ (r0 : Bool), v = .bool r0 ∧ Same w0 w' ∧ K r0) := by
 refine CallsV.of (l := [.slice p_a a.length c_a, .slice p_b b.length c_b]) Try.func34 rfl Try.ntmps34 rfl ?_
 have hO := Owns.start hA
 have hB := Fr.refl (bl []) w0
 unfold ref03_Same at H
 refine zq (zr (za rfl (zn (zq (zq ?_)))))
 refine zr (zm rfl (zo (op_len Try.underlying26 rfl) ?_))
 replace h_a := h_a.ch (Ch.start A w0)
 replace H := H h_a.bd
 refine zm rfl (zo (op_len Try.underlying26 rfl) ?_)
 replace h_b := h_b.ch (Ch.start A w0)
 replace H := H h_b.bd
 by_cases h1 : (a.length : Int) = (b.length : Int)
 ·replace H := ifp h1 H
  refine zo (fun w => opB (op_neq rfl rfl w) (ndT h1)) (zn (zf rfl rfl (zk (zq (zq ?_)))))
  refine zr (zm rfl (zo (op_len Try.underlying26 rfl) (zm rfl (zn (zb ?_)))))
  refine Go1.loopW (S := Nat) (fun s σ w => agrees σ [(0, .slice p_a a.length c_a), (1, .slice p_b b.length c_b), (12, .int .i64 (a.length : Int)), (13, .int .i64 (s : Int))] ∧ Owns w0.heap.size w [] A ∧ ISl (Rp.int .i64) (bl [] ++ A) w p_a c_a a ∧ ISl (Rp.int .i64) (bl [] ++ A) w p_b c_b b ∧ Fr (bl []) w0 (bl []) w) H ⟨⟨rfl, rfl, rfl, rfl, trivial⟩, hO, h_a, h_b, hB⟩ ?_
  intro X1 k1_3
  intro H hX1 σ w2
  refine andE fun hag => andE fun hO => andE fun h_a => andE fun h_b => fun hB => ?_
  refine Go1.keep [(0, .slice p_a a.length c_a), (1, .slice p_b b.length c_b), (12, .int .i64 (a.length : Int)), (13, .int .i64 (k1_3 : Int))] hag ?_
  refine zq (zr ?_)
  by_cases h4 : (k1_3 : Int) < (a.length : Int)
  ·replace H := ifp h4 H
   refine zo (fun w => opB (op_lss rfl rfl w) (decide_eq_true h4)) (zn (zq (zt rfl rfl (zk (zq ?_)))))
   refine zb (zq (zr (zm rfl (za rfl (zn ?_)))))
   refine zq ?_
   refine Go1.drawS 0 [(0, .pure), (1, .pure), (2, .pure), (3, .stable), (4, .pure), (5, .pure), (6, .pure), (7, .stable), (8, .pure)] mixed (by kernel_rfl) ?_
   intro w5 hs6
   have oG := Stp.same hO hs6
   replace hO := oG.own
   refine GoQ.pure rfl (op_move rfl) rfl rfl ?_
   refine GoQ.pure rfl (op_move rfl) rfl rfl ?_
   obtain ⟨h8, H⟩ := H
   obtain ⟨h9, H⟩ := H
   replace h_a := h_a.ch oG.ch
   refine GoQ.pure rfl (op_index Try.underlying26 ti3 rfl rfl h8 h9 (h_a.some_ h8 h9)) rfl rfl ?_
   refine GoQ.stable rfl (ldInt h_a h8 h9 Try.underlying3 rfl rfl) rfl rfl ?_
   refine GoQ.pure rfl (op_move rfl) rfl rfl ?_
   refine GoQ.pure rfl (op_move rfl) rfl rfl ?_
   obtain ⟨h10, H⟩ := H
   obtain ⟨h11, H⟩ := H
   replace h_b := h_b.ch oG.ch
   refine GoQ.pure rfl (op_index Try.underlying26 ti3 rfl rfl h10 h11 (h_b.some_ h10 h11)) rfl rfl ?_
   refine GoQ.stable rfl (ldInt h_b h10 h11 Try.underlying3 rfl rfl) rfl rfl ?_
   by_cases h12 : (ix a (k1_3 : Int)) = (ix b (k1_3 : Int))
   ·replace H := ifp h12 H
    refine GoQ.pure rfl (fun w => opB (op_neq rfl rfl w) (ndT h12)) rfl rfl ?_
    refine GoQ.nil ?_
    refine zf rfl rfl (zk ?_)
    refine Go1.inBlock ?_
    refine zr (zo (op_add rfl rfl (wrap_i64 (natbd h4 h_a.bd))) (zm rfl (zn ?_)))
    replace hB := hB.trans oG.fr
    exact hX1 _ H _ _ ⟨⟨rfl, rfl, rfl, rfl, trivial⟩, hO, h_a, h_b, hB⟩
   replace H := ifn h12 H
   refine GoQ.pure rfl (fun w => opB (op_neq rfl rfl w) (ndF h12)) rfl rfl ?_
   refine GoQ.nil ?_
   refine zt rfl rfl (zq (zr (za rfl (zn ?_))))
   refine Go1.ret1 Try.func34 rfl ?_
   replace hB := hB.trans oG.fr
   exact ⟨false, rfl, hB.same, H⟩
  replace H := ifn h4 H
  refine zo (fun w => opB (op_lss rfl rfl w) (decide_eq_false h4)) (zn (zq (zf rfl rfl ?_)))
  refine Go1.exit rfl ?_
  refine zq (zr (za rfl (zn ?_)))
  refine Go1.ret1 Try.func34 rfl ?_
  exact ⟨true, rfl, hB.same, H⟩
 replace H := ifn h1 H
 refine zo (fun w => opB (op_neq rfl rfl w) (ndF h1)) (zn (zt rfl rfl (zq (zr (za rfl ?_)))))
 refine zn ?_
 refine Go1.ret1 Try.func34 rfl ?_
 exact ⟨false, rfl, hB.same, H⟩
theorem body41 : Body Try.prog 41 := ⟨Try.f41, Try.func41, rfl, by kernel_rfl⟩
theorem walk_ref12_Find {A : List Nat} {w0 : World} {xW : Option Addr} {xX : Nat} {p_f : Option Addr} {c_f : Nat} {elems : List (List Int)} {f : List Int} (hA : ∀ b ∈ A, b < w0.heap.size) (q8 : ISl (Rp.sl (Rp.int .i64)) A w0 xW xX elems) (h_f : ISl (Rp.int .i64) A w0 p_f c_f f) {K : Int → Prop} (H : ref12_Find elems f K) :
    CallsV Try.prog 41 #[.slice xW elems.length xX, .slice p_f f.length c_f] w0 (fun v w' => ∃ (r0 : Int), v = .int .i64 r0 ∧ Same w0 w' ∧ K r0) := by
 refine CallsV.of (l := [.slice xW elems.length xX, .slice p_f f.length c_f]) Try.func41 rfl Try.ntmps41 rfl ?_
 have hO := Owns.start hA
 have hB := Fr.refl (bl []) w0
 unfold ref12_Find at H
 refine zq (zr (za rfl (zn (zq (zq ?_)))))
 refine zr (zm rfl (zo (op_len Try.underlying22 rfl) ?_))
 replace q8 := q8.ch (Ch.start A w0)
 replace H := H q8.bd
 refine zm rfl (zn (zb ?_))
 replace h_f := h_f.ch (Ch.start A w0)
 refine Go1.loopW (S := Nat) (fun s σ w => agrees σ [(0, .slice xW elems.length xX), (1, .slice p_f f.length c_f), (7, .int .i64 (elems.length : Int)), (8, .int .i64 (s : Int))] ∧ Owns w0.heap.size w [] A ∧ ISl (Rp.sl (Rp.int .i64)) (bl [] ++ A) w xW xX elems ∧ ISl (Rp.int .i64) (bl [] ++ A) w p_f c_f f ∧ Fr (bl []) w0 (bl []) w) H ⟨⟨rfl, rfl, rfl, rfl, trivial⟩, hO, q8, h_f, hB⟩ ?_
 intro X1 k1_2
 intro H hX1 σ w1
 refine andE fun hag => andE fun hO => andE fun q8 => andE fun h_f => fun hB => ?_
 refine Go1.keep [(0, .slice xW elems.length xX), (1, .slice p_f f.length c_f), (7, .int .i64 (elems.length : Int)), (8, .int .i64 (k1_2 : Int))] hag ?_
 refine zq (zr ?_)
 by_cases h3 : (k1_2 : Int) < (elems.length : Int)
 ·replace H := ifp h3 H
  refine zo (fun w => opB (op_lss rfl rfl w) (decide_eq_true h3)) (zn (zq (zt rfl rfl (zk (zq ?_)))))
  refine zb (zq (zr (zm rfl (za rfl (zn ?_)))))
  refine zq (zr (zm rfl (zm rfl ?_)))
  obtain ⟨h4, H⟩ := H
  obtain ⟨h5, H⟩ := H
  refine zo (op_index Try.underlying22 ti26 rfl rfl h4 h5 (q8.some_ h4 h5)) ?_
  have hobt := ldSl q8 h4 h5
  obtain ⟨p6, c7, hi8, hl9⟩ := hobt
  refine zs (hl9 Try.underlying26 rfl rfl) (zm rfl ?_)
  refine GoR.call (op_call body34 rfl (walk_ref03_Same hO.lt hi8 h_f H)) rfl rfl ?_
  rintro v14 w11 ⟨r10, rfl, FF, H⟩
  have jN := Stp.same hO FF
  replace hO := jN.own
  refine zn ?_
  cases r10
  ·replace H := ifn Bool.false_ne_true H
   refine zf rfl rfl (zk ?_)
   refine Go1.inBlock ?_
   refine zr ?_
   replace q8 := q8.ch jN.ch
   refine zo (op_add rfl rfl (wrap_i64 (natbd h3 q8.bd))) (zm rfl (zn ?_))
   replace h_f := h_f.ch jN.ch
   replace hB := hB.trans jN.fr
   exact hX1 _ H _ _ ⟨⟨rfl, rfl, rfl, rfl, trivial⟩, hO, q8, h_f, hB⟩
  replace H := ifp rfl H
  refine zt rfl rfl (zq (zr (zm rfl (za rfl (zn ?_)))))
  refine Go1.ret1 Try.func41 rfl ?_
  replace hB := hB.trans jN.fr
  exact ⟨(k1_2 : Int), rfl, hB.same, H⟩
 replace H := ifn h3 H
 refine zo (fun w => opB (op_lss rfl rfl w) (decide_eq_false h3)) (zn (zq (zf rfl rfl ?_)))
 refine Go1.exit rfl ?_
 refine zq (zr (za rfl (zn ?_)))
 refine Go1.ret1 Try.func41 rfl ?_
 exact ⟨(-1 : Int), rfl, hB.same, H⟩
theorem body55 : Body Try.prog 55 := ⟨Try.f55, Try.func55, rfl, by kernel_rfl⟩
theorem walk_ref12_letter {A : List Nat} {w0 : World} {x : Int} (hA : ∀ b ∈ A, b < w0.heap.size) {K : Str → Prop} (H : ref12_letter x K) :
    CallsV Try.prog 55 #[.int .i64 x] w0 (fun v w' => ∃ (r0 : Str), v = .string (gstr r0) ∧ Same w0 w' ∧ r0.length ≤ mx ∧ K r0) := by
 refine CallsV.of (l := [.int .i64 x]) Try.func55 rfl Try.ntmps55 rfl ?_
 have hO := Owns.start hA
 have hB := Fr.refl (bl []) w0
 unfold ref12_letter at H
 refine zq (zr (za rfl (zn (zq (zr ?_)))))
 refine zm rfl ?_
 obtain ⟨h1, H⟩ := H
 refine zo (op_add rfl rfl (wrap_i64 h1)) (zo (op_conv Try.underlying3 Try.underlying5 rfl rfl) ?_)
 have hobt := obuild (r := Rp.int .u8) (n := 1) (parts := [(0, .int .u8 (IntKind.u8.wrap ((97 : Int) + x)))]) (vs := [.int .u8 (IntKind.u8.wrap ((97 : Int) + x))]) (xs := [(IntKind.u8.wrap ((97 : Int) + x))]) rfl Try.underlying84 ti5 hO (by decide) (by kernel_rfl) (Els.cons rfl rfl (Els.nil _ _ _) (by simp [mx])) rfl
 obtain ⟨w2, p3, li, hE5, hs6, xY⟩ := hobt
 refine zg (xY rfl) ?_
 replace hO := li.own
 have hle9 := byt_le hE5.bd
 refine zs (oldBytes 0 hO rfl hE5 Try.underlying84 Try.underlying5 Try.underlying9 rfl) (za rfl (zn ?_))
 refine Go1.ret1 Try.func55 rfl ?_
 replace hB := hB.trans li.fr
 exact ⟨byt ([(IntKind.u8.wrap ((97 : Int) + x))]), rfl, hB.same, hle9, H⟩
theorem body40 : Body Try.prog 40 := ⟨Try.f40, Try.func40, rfl, by kernel_rfl⟩
theorem walk_ref12_Word {A : List Nat} {w0 : World} {bW : Option Addr} {bX : Nat} {bo : Option Addr} {bp : Nat} {bc : Option Addr} {bf : Nat} {bP : Option Addr} {bQ : Nat} {bq : Option Addr} {bt : Nat} {bu : Option Addr} {bv : Nat} {e : Enum} {i : Int} (hA : ∀ b ∈ A, b < w0.heap.size) (aV : ISl (Rp.sl (Rp.int .i64)) A w0 bW bX e.Gens) (aL : ISl (Rp.sl (Rp.int .i64)) A w0 bo bp e.Elems) (au : ISl (Rp.int .i64) A w0 bc bf e.Prefix) (aU : ISl (Rp.int .i64) A w0 bP bQ e.Last) (aM : ISl (Rp.sl (Rp.int .i64)) A w0 bq bt e.Right) (aN : ISl (rpRule) A w0 bu bv e.Rules) {K : Str → Prop} (H : ref12_Word e i K) :
    CallsV Try.prog 40 #[.agg #[.int .i64 e.Points, .bool e.Monoid, .slice bW e.Gens.length bX, .slice bo e.Elems.length bp, .slice bc e.Prefix.length bf, .slice bP e.Last.length bQ, .slice bq e.Right.length bt, .slice bu e.Rules.length bv, .int .i64 e.Done], .int .i64 i] w0 (fun v w' => ∃ (r0 : Str), v = .string (gstr r0) ∧ Same w0 w' ∧ r0.length ≤ mx ∧ K r0) := by
 refine CallsV.of (l := [.agg #[.int .i64 e.Points, .bool e.Monoid, .slice bW e.Gens.length bX, .slice bo e.Elems.length bp, .slice bc e.Prefix.length bf, .slice bP e.Last.length bQ, .slice bq e.Right.length bt, .slice bu e.Rules.length bv, .int .i64 e.Done], .int .i64 i]) Try.func40 rfl Try.ntmps40 rfl ?_
 have hO := Owns.start hA
 have hB := Fr.refl (bl []) w0
 unfold ref12_Word at H
 refine zq (zr ?_)
 have hobt := obox (t := 29) (v := .agg #[.int .i64 e.Points, .bool e.Monoid, .slice bW e.Gens.length bX, .slice bo e.Elems.length bp, .slice bc e.Prefix.length bf, .slice bP e.Last.length bQ, .slice bq e.Right.length bt, .slice bu e.Rules.length bv, .int .i64 e.Done]) (cs := #[.int .i64 e.Points, .bool e.Monoid, .slice bW e.Gens.length bX, .slice bo e.Elems.length bp, .slice bc e.Prefix.length bf, .slice bP e.Last.length bQ, .slice bq e.Right.length bt, .slice bu e.Rules.length bv, .int .i64 e.Done]) hO rfl
 obtain ⟨w1, B2, eF, hs4, vF⟩ := hobt
 refine zg (vF rfl) ?_
 replace hO := eF.own
 refine za rfl (zn (zq (zr (za rfl (zn ?_)))))
 refine zq (zb ?_)
 replace hB := hB.trans eF.fr
 have Z1 := (Ch.start A w0).trans eF.ch
 replace aV := aV.ch Z1
 replace aL := aL.ch Z1
 replace au := au.ch Z1
 replace aU := aU.ch Z1
 replace aM := aM.ch Z1
 replace aN := aN.ch Z1
 refine Go1.loopW (S := Int × Str) (fun s σ w => match s with | (i1_8, w1_9) => agrees σ [(1, .int .i64 i1_8), (2, .pointer (some ⟨B2, 0, none⟩)), (5, .string (gstr w1_9))] ∧ (fun Z0 => Owns w0.heap.size w Z0 A ∧ ISl (Rp.sl (Rp.int .i64)) (bl Z0 ++ A) w bW bX e.Gens ∧ ISl (Rp.sl (Rp.int .i64)) (bl Z0 ++ A) w bo bp e.Elems ∧ ISl (Rp.int .i64) (bl Z0 ++ A) w bc bf e.Prefix ∧ ISl (Rp.int .i64) (bl Z0 ++ A) w bP bQ e.Last ∧ ISl (Rp.sl (Rp.int .i64)) (bl Z0 ++ A) w bq bt e.Right ∧ ISl (rpRule) (bl Z0 ++ A) w bu bv e.Rules ∧ w1_9.length ≤ mx ∧ Fr (bl []) w0 (bl Z0) w) [.blk B2 (.cells #[.int .i64 e.Points, .bool e.Monoid, .slice bW e.Gens.length bX, .slice bo e.Elems.length bp, .slice bc e.Prefix.length bf, .slice bP e.Last.length bQ, .slice bq e.Right.length bt, .slice bu e.Rules.length bv, .int .i64 e.Done] 29 (0, 0))]) H ⟨⟨rfl, rfl, rfl, trivial⟩, hO, aV, aL, au, aU, aM, aN, (by decide), hB⟩ ?_
 intro X1
 refine prE fun i1_8 => fun w1_9 => ?_
 intro H hX1 σ w7
 refine andE fun hag => andE fun hO => andE fun aV => andE fun aL => andE fun au => andE fun aU => andE fun aM => andE fun aN => andE fun hle_w1_9 => fun hB => ?_
 dsimp only at H
 refine Go1.keep [(1, .int .i64 i1_8), (2, .pointer (some ⟨B2, 0, none⟩)), (5, .string (gstr w1_9))] hag ?_
 refine zq (zq (zr (zm rfl ?_)))
 by_cases h10 : (0 : Int) ≤ i1_8
 ·replace H := ifp h10 H
  refine zo (fun w => opB (op_geq rfl rfl w) (decide_eq_true h10)) (zm rfl (zo (op_fieldAddr Try.underlying29 rfl ti26 rfl (by decide)) (zs (oblk (i := 5) 0 hO rfl rfl Try.underlying26 rfl rfl) (zm rfl ?_))))
  obtain ⟨h11, H⟩ := H
  obtain ⟨h12, H⟩ := H
  refine zo (op_index Try.underlying26 ti3 rfl rfl h11 h12 (aU.some_ h11 h12)) (zs (ldInt aU h11 h12 Try.underlying3 rfl rfl) ?_)
  by_cases h13 : (0 : Int) ≤ (ix e.Last i1_8)
  ·replace H := ifp h13 H
   refine zo (fun w => opB (op_geq rfl rfl w) (decide_eq_true h13)) (zo (op_pickT rfl rfl rfl) (zn (zt rfl rfl (zk (zb ?_)))))
   refine zq (zr (zo (op_fieldAddr Try.underlying29 rfl ti26 rfl (by decide)) (zs (oblk (i := 5) 0 hO rfl rfl Try.underlying26 rfl rfl) (zm rfl ?_))))
   obtain ⟨h14, H⟩ := H
   obtain ⟨h15, H⟩ := H
   refine zo (op_index Try.underlying26 ti3 rfl rfl h14 h15 (aU.some_ h14 h15)) (zs (ldInt aU h14 h15 Try.underlying3 rfl rfl) ?_)
   refine GoR.call (op_call body55 rfl (walk_ref12_letter hO.lt H)) rfl rfl ?_
   rintro v20 w17 ⟨r16, rfl, RF, S5, H⟩
   have gS := Stp.same hO RF
   replace hO := gS.own
   refine zm rfl ?_
   obtain ⟨h22, H⟩ := H
   refine zo (op_addS rfl rfl h22) (za rfl (zn ?_))
   refine Go1.cut [(1, .int .i64 i1_8), (2, .pointer (some ⟨B2, 0, none⟩)), (5, .string (gstr (r16 ++ w1_9)))] ⟨rfl, rfl, rfl, trivial⟩ ?_
   intro σ _
   refine zr (zo (op_fieldAddr Try.underlying29 rfl ti26 rfl (by decide)) (zs (oblk (i := 4) 0 hO rfl rfl Try.underlying26 rfl rfl) (zm rfl ?_)))
   obtain ⟨h23, H⟩ := H
   obtain ⟨h24, H⟩ := H
   replace au := au.ch gS.ch
   refine zo (op_index Try.underlying26 ti3 rfl rfl h23 h24 (au.some_ h23 h24)) (zs (ldInt au h23 h24 Try.underlying3 rfl rfl) (za rfl (zn ?_)))
   refine Go1.inBlock ?_
   replace aV := aV.ch gS.ch
   replace aL := aL.ch gS.ch
   replace aU := aU.ch gS.ch
   replace aM := aM.ch gS.ch
   replace aN := aN.ch gS.ch
   replace hB := hB.trans gS.fr
   exact hX1 _ H _ _ ⟨⟨rfl, rfl, rfl, trivial⟩, hO, aV, aL, au, aU, aM, aN, (lenApp h22), hB⟩
  replace H := ifn h13 H
  refine zo (fun w => opB (op_geq rfl rfl w) (decide_eq_false h13)) (zo (op_pickT rfl rfl rfl) (zn (zf rfl rfl ?_)))
  refine Go1.exit rfl ?_
  refine zq (zr (zm rfl (za rfl (zn ?_))))
  refine Go1.ret1 Try.func40 rfl ?_
  exact ⟨w1_9, rfl, hB.same, hle_w1_9, H⟩
 replace H := ifn h10 H
 refine zo (fun w => opB (op_geq rfl rfl w) (decide_eq_false h10)) (zm rfl (zp (zp (zp (zp ?_)))))
 refine zp (zp (zo (op_pickF rfl rfl rfl) (zn (zf rfl rfl ?_))))
 refine Go1.exit rfl ?_
 refine zq (zr (zm rfl (za rfl (zn ?_))))
 refine Go1.ret1 Try.func40 rfl ?_
 exact ⟨w1_9, rfl, hB.same, hle_w1_9, H⟩
end Sg
