/- The walks: each call keeps to its plain transformer. Printed by walkgen.py. -/
import Derived.Test.YtjegjjdfgefkoaaTi
import Derived.Test.YtjegjjdfgefkoaaWEnumerateBuilds
import Derived.Test.YtjegjjdfgefkoaaWEnumerateBuildsb
import Derived.Test.YtjegjjdfgefkoaaAl
namespace Sg
open Go Go.RowKit Go.Proofs
set_option linter.unusedVariables false
set_option linter.unusedSimpArgs false
set_option maxRecDepth 100000
set_option maxHeartbeats 4000000
theorem body68 : Body Try.prog 68 := ⟨Try.f68, Try.func68, rfl, by kernel_rfl⟩
theorem body53 : Body Try.prog 53 := ⟨Try.f53, Try.func53, rfl, by kernel_rfl⟩
theorem walk_enumerate_replay {A : List Nat} {w0 : World} {a8 : Option Addr} {a9 : Nat} {aC : Option Addr} {aD : Nat} {av : Option Addr} {aw : Nat} {aY : Option Addr} {a7 : Nat} {aE : Option Addr} {aF : Nat} {aG : Option Addr} {aH : Nat} {e : Enum} (hA : ∀ b ∈ A, b < w0.heap.size) (ak : ISl (Rp.sl (Rp.int .i64)) A w0 a8 a9 e.Gens) (af : ISl (Rp.sl (Rp.int .i64)) A w0 aC aD e.Elems) (ae : ISl (Rp.int .i64) A w0 av aw e.Prefix) (aj : ISl (Rp.int .i64) A w0 aY a7 e.Last) (ag : ISl (Rp.sl (Rp.int .i64)) A w0 aE aF e.Right) (ah : ISl (rpRule) A w0 aG aH e.Rules) {K : Option run → Bool → Prop} (H : enumerate_replay e K) :
    CallsV Try.prog 53 #[.agg #[.int .i64 e.Points, .bool e.Monoid, .slice a8 e.Gens.length a9, .slice aC e.Elems.length aD, .slice av e.Prefix.length aw, .slice aY e.Last.length a7, .slice aE e.Right.length aF, .slice aG e.Rules.length aH, .int .i64 e.Done]] w0 (fun v w' => (∃ (r1 : Bool), v = .tuple #[.pointer none, .bool r1] ∧ Same w0 w' ∧ K none r1) ∨ (∃ (q : run), ∃ (r1 : Bool), ∃ (b_q : Nat), ∃ (ba : Nat), ∃ (bc : Option Addr), ∃ (bf : Nat), ∃ (ck : List Value), ∃ (aP : Nat), ∃ (aQ : Option Addr), ∃ (aR : Nat), ∃ (bW : List Value), ∃ (aI : Nat), ∃ (aJ : Option Addr), ∃ (aK : Nat), ∃ (bM : List Value), ∃ (bg : Nat), ∃ (bh : Option Addr), ∃ (bi : Nat), ∃ (co : List Value), ∃ (aS : Nat), ∃ (aT : Option Addr), ∃ (aU : Nat), ∃ (bX : List Value), ∃ (aV : Nat), ∃ (aW : Option Addr), ∃ (aX : Nat), ∃ (bY : List Value), ∃ (cU : Nat), ∃ (bP : Nat), ∃ (bQ : Option Addr), ∃ (bS : Nat), ∃ (dE : List Value), ∃ (bu : Nat), ∃ (bv : Option Addr), ∃ (bw : Nat), ∃ (di : List Value), ∃ (bx : Nat), ∃ (bz : Option Addr), ∃ (bA : Nat), ∃ (dj : List Value), v = .tuple #[.pointer (some ⟨b_q, 0, none⟩), .bool r1] ∧ Same w0 w' ∧ (fun Z0 => Owns w0.heap.size w' Z0 A ∧ Els (Rp.sl (Rp.int .i64)) (bl Z0 ++ A) w' ck q.Enum.Gens ∧ Els (Rp.sl (Rp.int .i64)) (bl Z0 ++ A) w' bW q.Enum.Elems ∧ Els (Rp.int .i64) (bl Z0 ++ A) w' bM q.Enum.Prefix ∧ Els (Rp.int .i64) (bl Z0 ++ A) w' co q.Enum.Last ∧ Els (Rp.sl (Rp.int .i64)) (bl Z0 ++ A) w' bX q.Enum.Right ∧ Els (rpRule) (bl Z0 ++ A) w' bY q.Enum.Rules ∧ Els (Rp.str) (bl Z0 ++ A) w' dE q.words ∧ Els (Rp.int .i64) (bl Z0 ++ A) w' di q.behind ∧ Els (Rp.int .i64) (bl Z0 ++ A) w' dj q.single ∧ K (some q) r1) [.blk b_q (.cells #[.int .i64 q.Enum.Points, .bool q.Enum.Monoid, .slice bc ba bf, .slice aQ aP aR, .slice aJ aI aK, .slice bh bg bi, .slice aT aS aU, .slice aW aV aX, .int .i64 q.Enum.Done, .map (some cU), .slice bQ bP bS, .slice bv bu bw, .slice bz bx bA] 72 (0, 0)), .row 26 1 bc ba bf ck, .row 26 1 aQ aP aR bW, .row 3 1 aJ aI aK bM, .row 3 1 bh bg bi co, .row 26 1 aT aS aU bX, .row 39 2 aW aV aX bY, .row 9 1 bQ bP bS dE, .row 3 1 bv bu bw di, .row 3 1 bz bx bA dj, .any (mapE (fun a : List UInt8 => Value.string (gstr a)) (fun a : Int => Value.int .i64 a) cU q.number)])) := by
 refine CallsV.of (l := [.agg #[.int .i64 e.Points, .bool e.Monoid, .slice a8 e.Gens.length a9, .slice aC e.Elems.length aD, .slice av e.Prefix.length aw, .slice aY e.Last.length a7, .slice aE e.Right.length aF, .slice aG e.Rules.length aH, .int .i64 e.Done]]) Try.func53 rfl Try.ntmps53 rfl ?_
 have hO := Owns.start hA
 have hB := Fr.refl (bl []) w0
 unfold enumerate_replay at H
 refine zq (zr ?_)
 have hobt := obox (t := 29) (v := .agg #[.int .i64 e.Points, .bool e.Monoid, .slice a8 e.Gens.length a9, .slice aC e.Elems.length aD, .slice av e.Prefix.length aw, .slice aY e.Last.length a7, .slice aE e.Right.length aF, .slice aG e.Rules.length aH, .int .i64 e.Done]) (cs := #[.int .i64 e.Points, .bool e.Monoid, .slice a8 e.Gens.length a9, .slice aC e.Elems.length aD, .slice av e.Prefix.length aw, .slice aY e.Last.length a7, .slice aE e.Right.length aF, .slice aG e.Rules.length aH, .int .i64 e.Done]) hO rfl
 obtain ⟨w1, B2, cQ, hs4, rh⟩ := hobt
 refine zg (rh rfl) ?_
 replace hO := cQ.own
 refine za rfl (za rfl (zn (zq (zr (zo (op_fieldAddr Try.underlying29 rfl ti22 rfl (by decide)) ?_)))))
 refine zs (oblk (i := 2) 0 hO rfl rfl Try.underlying22 rfl rfl) (zo (op_fieldAddr Try.underlying29 rfl ti4 rfl (by decide)) (zs (oblk (i := 1) 0 hO rfl rfl Try.underlying4 rfl rfl) ?_))
 replace ak := (ak.ch (Ch.start A w0)).ch cQ.ch
 refine GoR.call (op_call body49 rfl (walk_enumerate_begin hO.lt ak H)) rfl rfl ?_
 intro v9 w10 hcase13
 refine Or.elim hcase13 ?_ ?_
 ·refine exE fun r8 => andE fun hv14 => andE fun u3 => fun H => ?_
  subst hv14
  clear hcase13
  replace H := oElimN H
  have gq := Stp.same hO u3
  replace hO := gq.own
  refine zm rfl (zo (op_extract rfl rfl) (zo (op_extract rfl rfl) (za rfl (za rfl (zn ?_)))))
  refine zq (zq (zr (zm rfl ?_)))
  by_cases h16 : r8 = (0 : Int)
  ·replace H := ifp h16 H
   refine zo (fun w => opB (op_neq rfl rfl w) (ndT h16)) (zn (zf rfl rfl (zk (zq (zb ?_)))))
   replace ak := ak.ch gq.ch
   replace hB := (hB.trans cQ.fr).trans gq.fr
   have Z1 := ((Ch.start A w0).trans cQ.ch).trans gq.ch
   replace af := af.ch Z1
   replace ae := ae.ch Z1
   replace aj := aj.ch Z1
   replace ag := ag.ch Z1
   replace ah := ah.ch Z1
   refine Go1.loopW (S := Unit) (fun s σ w => agrees σ [(1, .pointer (some ⟨B2, 0, none⟩)), (4, .pointer none)] ∧ (fun Z0 => Owns w0.heap.size w Z0 A ∧ ISl (Rp.sl (Rp.int .i64)) (bl Z0 ++ A) w a8 a9 e.Gens ∧ ISl (Rp.sl (Rp.int .i64)) (bl Z0 ++ A) w aC aD e.Elems ∧ ISl (Rp.int .i64) (bl Z0 ++ A) w av aw e.Prefix ∧ ISl (Rp.int .i64) (bl Z0 ++ A) w aY a7 e.Last ∧ ISl (Rp.sl (Rp.int .i64)) (bl Z0 ++ A) w aE aF e.Right ∧ ISl (rpRule) (bl Z0 ++ A) w aG aH e.Rules ∧ Fr (bl []) w0 (bl Z0) w) [.blk B2 (.cells #[.int .i64 e.Points, .bool e.Monoid, .slice a8 e.Gens.length a9, .slice aC e.Elems.length aD, .slice av e.Prefix.length aw, .slice aY e.Last.length a7, .slice aE e.Right.length aF, .slice aG e.Rules.length aH, .int .i64 e.Done] 29 (0, 0))]) H ⟨⟨rfl, rfl, trivial⟩, hO, ak, af, ae, aj, ag, ah, hB⟩ ?_
   intro X1 _
   intro H hX1 σ w17
   refine andE fun hag => andE fun hO => andE fun ak => andE fun af => andE fun ae => andE fun aj => andE fun ag => andE fun ah => fun hB => ?_
   refine Go1.keep [(1, .pointer (some ⟨B2, 0, none⟩)), (4, .pointer none)] hag ?_
   refine zq (zq ?_)
   refine Go1.drawS 0 [(0, .pure), (1, .pure), (2, .pure), (3, .pure), (4, .stable), (5, .pure), (6, .stable), (7, .pure)] mixed (by kernel_rfl) ?_
   intro w18 Jt
   have ub := Stp.same hO Jt
   replace hO := ub.own
   refine GoQ.pure rfl (op_move rfl) rfl rfl ?_
   exact H.elim
  replace H := ifn h16 H
  refine zo (fun w => opB (op_neq rfl rfl w) (ndF h16)) (zn (zt rfl rfl (zq (zr (za rfl ?_)))))
  refine za rfl (zn ?_)
  refine Go1.ret2 Try.func53 rfl ?_
  replace hB := (hB.trans cQ.fr).trans gq.fr
  exact Or.inl ⟨false, rfl, hB.same, H⟩
 ·refine exE fun r7 => exE fun r8 => exE fun eW => exE fun lh => exE fun iw => exE fun iA => exE fun ra => exE fun j8 => exE fun gH => exE fun gI => exE fun qi => exE fun ji => exE fun gm => exE fun gn => exE fun po => exE fun li => exE fun iB => exE fun iC => exE fun rb => exE fun j9 => exE fun gJ => exE fun gK => exE fun qj => exE fun ka => exE fun gL => exE fun gM => exE fun qk => exE fun ap => exE fun x4 => exE fun x5 => exE fun x6 => exE fun wN => exE fun wO => exE fun wP => exE fun wQ => exE fun u4 => exE fun wR => exE fun wS => exE fun wT => exE fun u5 => andE fun hv21 => andE fun u3 => andE fun hN12 => andE fun cR => andE fun cp => andE fun bV => andE fun cf => andE fun bN => andE fun bC => andE fun cz => andE fun cD => andE fun cE => fun H => ?_
  subst hv21
  clear hcase13
  replace H := oElimS H
  have d9 := Stp.more hO u3 hN12
  dsimp only [List.cons_append, List.nil_append] at d9
  replace hO := d9.own
  replace cR := cR.ch (Ch.assoc _ _ _ _)
  dsimp only [List.cons_append, List.nil_append] at cR
  replace cp := cp.ch (Ch.assoc _ _ _ _)
  dsimp only [List.cons_append, List.nil_append] at cp
  replace bV := bV.ch (Ch.assoc _ _ _ _)
  dsimp only [List.cons_append, List.nil_append] at bV
  replace cf := cf.ch (Ch.assoc _ _ _ _)
  dsimp only [List.cons_append, List.nil_append] at cf
  replace bN := bN.ch (Ch.assoc _ _ _ _)
  dsimp only [List.cons_append, List.nil_append] at bN
  replace bC := bC.ch (Ch.assoc _ _ _ _)
  dsimp only [List.cons_append, List.nil_append] at bC
  replace cz := cz.ch (Ch.assoc _ _ _ _)
  dsimp only [List.cons_append, List.nil_append] at cz
  replace cD := cD.ch (Ch.assoc _ _ _ _)
  dsimp only [List.cons_append, List.nil_append] at cD
  replace cE := cE.ch (Ch.assoc _ _ _ _)
  dsimp only [List.cons_append, List.nil_append] at cE
  refine zm rfl (zo (op_extract rfl rfl) (zo (op_extract rfl rfl) (za rfl (za rfl (zn ?_)))))
  refine zq (zq (zr (zm rfl ?_)))
  by_cases h34 : r8 = (0 : Int)
  ·replace H := ifp h34 H
   refine zo (fun w => opB (op_neq rfl rfl w) (ndT h34)) (zn (zf rfl rfl (zk (zq (zb ?_)))))
   replace ak := ak.ch d9.ch
   replace hB := (hB.trans cQ.fr).trans d9.fr
   have Z2 := ((Ch.start A w0).trans cQ.ch).trans d9.ch
   replace af := af.ch Z2
   replace ae := ae.ch Z2
   replace aj := aj.ch Z2
   replace ag := ag.ch Z2
   replace ah := ah.ch Z2
   refine Go1.loopW (S := Int × Bool × Int × List (List Int) × List (List Int) × List Int × List Int × List (List Int) × List Rule × List Str × List Int × List Int × (List (Str × Int))) (fun s σ w => match s with | (k2_36, b2_37, k2_38, d_39, d_45, d_51, d_57, d_63, d_69, d_75, d_81, d_87, m2_93) => ∃ (n44 : Nat), ∃ (p42 : Option Addr), ∃ (c43 : Nat), ∃ (nT : List Value), ∃ (n50 : Nat), ∃ (p48 : Option Addr), ∃ (c49 : Nat), ∃ (nU : List Value), ∃ (n56 : Nat), ∃ (p54 : Option Addr), ∃ (c55 : Nat), ∃ (nV : List Value), ∃ (n62 : Nat), ∃ (p60 : Option Addr), ∃ (c61 : Nat), ∃ (nW : List Value), ∃ (n68 : Nat), ∃ (p66 : Option Addr), ∃ (c67 : Nat), ∃ (nX : List Value), ∃ (n74 : Nat), ∃ (p72 : Option Addr), ∃ (c73 : Nat), ∃ (nY : List Value), ∃ (n80 : Nat), ∃ (p78 : Option Addr), ∃ (c79 : Nat), ∃ (n7 : List Value), ∃ (n86 : Nat), ∃ (p84 : Option Addr), ∃ (c85 : Nat), ∃ (gv : List Value), ∃ (n92 : Nat), ∃ (p90 : Option Addr), ∃ (c91 : Nat), ∃ (gw : List Value), agrees σ [(1, .pointer (some ⟨B2, 0, none⟩)), (4, .pointer (some ⟨eW, 0, none⟩))] ∧ (fun Z0 => Owns w0.heap.size w Z0 A ∧ Els (Rp.sl (Rp.int .i64)) (bl Z0 ++ A) w nT d_39 ∧ Els (Rp.sl (Rp.int .i64)) (bl Z0 ++ A) w nU d_45 ∧ Els (Rp.int .i64) (bl Z0 ++ A) w nV d_51 ∧ Els (Rp.int .i64) (bl Z0 ++ A) w nW d_57 ∧ Els (Rp.sl (Rp.int .i64)) (bl Z0 ++ A) w nX d_63 ∧ Els (rpRule) (bl Z0 ++ A) w nY d_69 ∧ Els (Rp.str) (bl Z0 ++ A) w n7 d_75 ∧ Els (Rp.int .i64) (bl Z0 ++ A) w gv d_81 ∧ Els (Rp.int .i64) (bl Z0 ++ A) w gw d_87 ∧ ISl (Rp.sl (Rp.int .i64)) (bl Z0 ++ A) w a8 a9 e.Gens ∧ ISl (Rp.sl (Rp.int .i64)) (bl Z0 ++ A) w aC aD e.Elems ∧ ISl (Rp.int .i64) (bl Z0 ++ A) w av aw e.Prefix ∧ ISl (Rp.int .i64) (bl Z0 ++ A) w aY a7 e.Last ∧ ISl (Rp.sl (Rp.int .i64)) (bl Z0 ++ A) w aE aF e.Right ∧ ISl (rpRule) (bl Z0 ++ A) w aG aH e.Rules ∧ Fr (bl []) w0 (bl Z0) w) [.blk eW (.cells #[.int .i64 k2_36, .bool b2_37, .slice p42 n44 c43, .slice p48 n50 c49, .slice p54 n56 c55, .slice p60 n62 c61, .slice p66 n68 c67, .slice p72 n74 c73, .int .i64 k2_38, .map (some ap), .slice p78 n80 c79, .slice p84 n86 c85, .slice p90 n92 c91] 72 (0, 0)), .row 26 1 p42 n44 c43 nT, .row 26 1 p48 n50 c49 nU, .row 3 1 p54 n56 c55 nV, .row 3 1 p60 n62 c61 nW, .row 26 1 p66 n68 c67 nX, .row 39 2 p72 n74 c73 nY, .row 9 1 p78 n80 c79 n7, .row 3 1 p84 n86 c85 gv, .row 3 1 p90 n92 c91 gw, .any (mapE (fun a : List UInt8 => Value.string (gstr a)) (fun a : Int => Value.int .i64 a) ap m2_93), .blk B2 (.cells #[.int .i64 e.Points, .bool e.Monoid, .slice a8 e.Gens.length a9, .slice aC e.Elems.length aD, .slice av e.Prefix.length aw, .slice aY e.Last.length a7, .slice aE e.Right.length aF, .slice aG e.Rules.length aH, .int .i64 e.Done] 29 (0, 0))]) H ⟨lh, iw, iA, ra, j8, gH, gI, qi, ji, gm, gn, po, li, iB, iC, rb, j9, gJ, gK, qj, ka, gL, gM, qk, x4, x5, x6, wN, wO, wP, wQ, u4, wR, wS, wT, u5, ⟨rfl, rfl, trivial⟩, hO, cR, cp, bV, cf, bN, bC, cz, cD, cE, ak, af, ae, aj, ag, ah, hB⟩ ?_
   intro X2
   refine prE fun k2_36 => prE fun b2_37 => prE fun k2_38 => prE fun d_39 => prE fun d_45 => prE fun d_51 => prE fun d_57 => prE fun d_63 => prE fun d_69 => prE fun d_75 => prE fun d_81 => prE fun d_87 => fun m2_93 => ?_
   intro H hX2 σ w35
   refine exE fun n44 => exE fun p42 => exE fun c43 => exE fun nT => exE fun n50 => exE fun p48 => exE fun c49 => exE fun nU => exE fun n56 => exE fun p54 => exE fun c55 => exE fun nV => exE fun n62 => exE fun p60 => exE fun c61 => exE fun nW => exE fun n68 => exE fun p66 => exE fun c67 => exE fun nX => exE fun n74 => exE fun p72 => exE fun c73 => exE fun nY => exE fun n80 => exE fun p78 => exE fun c79 => exE fun n7 => exE fun n86 => exE fun p84 => exE fun c85 => exE fun gv => exE fun n92 => exE fun p90 => exE fun c91 => exE fun gw => andE fun hag => andE fun hO => andE fun eP => andE fun eo => andE fun eC => andE fun eF => andE fun eG => andE fun eH => andE fun eQ => andE fun bE => andE fun b5 => andE fun ak => andE fun af => andE fun ae => andE fun aj => andE fun ag => andE fun ah => fun hB => ?_
   dsimp only at H
   refine Go1.keep [(1, .pointer (some ⟨B2, 0, none⟩)), (4, .pointer (some ⟨eW, 0, none⟩))] hag ?_
   refine zq (zq ?_)
   refine Go1.drawS 0 [(0, .pure), (1, .pure), (2, .pure), (3, .pure), (4, .stable), (5, .pure), (6, .stable), (7, .pure)] mixed (by kernel_rfl) ?_
   intro w94 abk
   have uc := Stp.same hO abk
   replace hO := uc.own
   refine GoQ.pure rfl (op_move rfl) rfl rfl ?_
   refine GoQ.pure rfl (op_nilCheck rfl) rfl rfl ?_
   refine GoQ.pure rfl (op_fieldAddr Try.underlying72 rfl ti29 rfl (by decide)) rfl rfl ?_
   refine GoQ.pure rfl (op_fieldAddr Try.underlying29 rfl ti3 rfl (by decide)) rfl rfl ?_
   refine GoQ.stable rfl (oblk (i := 8) 0 hO rfl rfl Try.underlying3 rfl rfl) rfl rfl ?_
   refine GoQ.pure rfl (op_fieldAddr Try.underlying29 rfl ti3 rfl (by decide)) rfl rfl ?_
   refine GoQ.stable rfl (oblk (i := 8) 11 hO rfl rfl Try.underlying3 rfl rfl) rfl rfl ?_
   by_cases h97 : k2_38 < e.Done
   ·replace H := ifp h97 H
    refine GoQ.pure rfl (fun w => opB (op_lss rfl rfl w) (decide_eq_true h97)) rfl rfl ?_
    refine GoQ.nil ?_
    refine zt rfl rfl (zk (zb (zq (zr (zm rfl ?_)))))
    refine GoR.inl (vs := [.pointer (some ⟨eW, 0, none⟩)]) (caps := []) rfl rfl body50 Try.func50 rfl Try.ntmps50 rfl rfl rfl ?_
    intro RhR98 hR98
    refine zq (zr (za rfl (zn (zq ?_))))
    refine Go1.drawS 0 [(0, .pure), (1, .pure), (2, .pure), (3, .pure), (4, .stable), (5, .pure), (6, .pure), (7, .pure), (8, .pure), (9, .stable), (10, .pure), (11, .pure), (12, .pure)] mixed (by kernel_rfl) ?_
    intro w99 Ma
    have fF := Stp.same hO Ma
    replace hO := fF.own
    refine GoQ.pure rfl (op_move rfl) rfl rfl ?_
    refine GoQ.pure rfl (op_nilCheck rfl) rfl rfl ?_
    refine GoQ.pure rfl (op_fieldAddr Try.underlying72 rfl ti29 rfl (by decide)) rfl rfl ?_
    refine GoQ.pure rfl (op_fieldAddr Try.underlying29 rfl ti3 rfl (by decide)) rfl rfl ?_
    refine GoQ.stable rfl (oblk (i := 8) 0 hO rfl rfl Try.underlying3 rfl rfl) rfl rfl ?_
    refine GoQ.pure rfl (op_move rfl) rfl rfl ?_
    refine GoQ.pure rfl (op_nilCheck rfl) rfl rfl ?_
    refine GoQ.pure rfl (op_fieldAddr Try.underlying72 rfl ti29 rfl (by decide)) rfl rfl ?_
    refine GoQ.pure rfl (op_fieldAddr Try.underlying29 rfl ti22 rfl (by decide)) rfl rfl ?_
    refine GoQ.stable rfl (oblk (i := 3) 0 hO rfl rfl Try.underlying22 rfl rfl) rfl rfl ?_
    replace eo := (eo.ch uc.ch).ch fF.ch
    refine GoQ.pure rfl (op_lenN Try.underlying22 rfl (eo.neq hO 2 rfl)) rfl rfl ?_
    by_cases Gp : k2_38 = (d_45.length : Int)
    ·replace H := ifp Gp H
     refine GoQ.pure rfl (fun w => opB (op_eql rfl rfl w) (decide_eq_true Gp)) rfl rfl ?_
     refine GoQ.pure rfl (op_assign rfl) rfl rfl ?_
     refine GoQ.nil ?_
     refine Go1.ret1V Try.func50 rfl (show _ = .bool true from rfl) ?_
     refine hR98 _ _ ?_
     refine zm rfl (zp (zp (zp (zo (op_pickT rfl rfl rfl) (zn ?_)))))
     refine zt rfl rfl (zq ?_)
     refine Go1.cut [] trivial ?_
     intro σ _
     refine zr (za rfl (za rfl (zn ?_)))
     refine Go1.ret2 Try.func53 rfl ?_
     replace hB := (hB.trans uc.fr).trans fF.fr
     exact Or.inl ⟨false, rfl, hB.same, H⟩
    replace H := ifn Gp H
    refine GoQ.pure rfl (fun w => opB (op_eql rfl rfl w) (decide_eq_false Gp)) rfl rfl ?_
    refine GoQ.pure rfl (op_assign rfl) rfl rfl ?_
    refine GoQ.nil ?_
    refine Go1.ret1V Try.func50 rfl (show _ = .bool false from rfl) ?_
    refine hR98 _ _ ?_
    refine zm rfl (zm rfl ?_)
    have O4 : Owns w0.heap.size w99 ([.blk eW (.cells #[.int .i64 k2_36, .bool b2_37, .slice p42 n44 c43, .slice p48 n50 c49, .slice p54 n56 c55, .slice p60 n62 c61, .slice p66 n68 c67, .slice p72 n74 c73, .int .i64 k2_38, .map (some ap), .slice p78 n80 c79, .slice p84 n86 c85, .slice p90 n92 c91] 72 (0, 0)), .row 26 1 p42 n44 c43 nT, .row 26 1 p48 n50 c49 nU, .row 3 1 p54 n56 c55 nV, .row 3 1 p60 n62 c61 nW, .row 26 1 p66 n68 c67 nX, .row 39 2 p72 n74 c73 nY, .row 9 1 p78 n80 c79 n7, .row 3 1 p84 n86 c85 gv, .row 3 1 p90 n92 c91 gw, .any (mapE (fun a : List UInt8 => Value.string (gstr a)) (fun a : Int => Value.int .i64 a) ap m2_93)] ++ [.blk B2 (.cells #[.int .i64 e.Points, .bool e.Monoid, .slice a8 e.Gens.length a9, .slice aC e.Elems.length aD, .slice av e.Prefix.length aw, .slice aY e.Last.length a7, .slice aE e.Right.length aF, .slice aG e.Rules.length aH, .int .i64 e.Done] 29 (0, 0))]) A := hO
    have VE := Owns.split O4
    have hca105 : Ch (bl [.blk eW (.cells #[.int .i64 k2_36, .bool b2_37, .slice p42 n44 c43, .slice p48 n50 c49, .slice p54 n56 c55, .slice p60 n62 c61, .slice p66 n68 c67, .slice p72 n74 c73, .int .i64 k2_38, .map (some ap), .slice p78 n80 c79, .slice p84 n86 c85, .slice p90 n92 c91] 72 (0, 0)), .row 26 1 p42 n44 c43 nT, .row 26 1 p48 n50 c49 nU, .row 3 1 p54 n56 c55 nV, .row 3 1 p60 n62 c61 nW, .row 26 1 p66 n68 c67 nX, .row 39 2 p72 n74 c73 nY, .row 9 1 p78 n80 c79 n7, .row 3 1 p84 n86 c85 gv, .row 3 1 p90 n92 c91 gw, .any (mapE (fun a : List UInt8 => Value.string (gstr a)) (fun a : Int => Value.int .i64 a) ap m2_93), .blk B2 (.cells #[.int .i64 e.Points, .bool e.Monoid, .slice a8 e.Gens.length a9, .slice aC e.Elems.length aD, .slice av e.Prefix.length aw, .slice aY e.Last.length a7, .slice aE e.Right.length aF, .slice aG e.Rules.length aH, .int .i64 e.Done] 29 (0, 0))] ++ A) w99 (bl [.blk eW (.cells #[.int .i64 k2_36, .bool b2_37, .slice p42 n44 c43, .slice p48 n50 c49, .slice p54 n56 c55, .slice p60 n62 c61, .slice p66 n68 c67, .slice p72 n74 c73, .int .i64 k2_38, .map (some ap), .slice p78 n80 c79, .slice p84 n86 c85, .slice p90 n92 c91] 72 (0, 0)), .row 26 1 p42 n44 c43 nT, .row 26 1 p48 n50 c49 nU, .row 3 1 p54 n56 c55 nV, .row 3 1 p60 n62 c61 nW, .row 26 1 p66 n68 c67 nX, .row 39 2 p72 n74 c73 nY, .row 9 1 p78 n80 c79 n7, .row 3 1 p84 n86 c85 gv, .row 3 1 p90 n92 c91 gw, .any (mapE (fun a : List UInt8 => Value.string (gstr a)) (fun a : Int => Value.int .i64 a) ap m2_93)] ++ (bl [.blk B2 (.cells #[.int .i64 e.Points, .bool e.Monoid, .slice a8 e.Gens.length a9, .slice aC e.Elems.length aD, .slice av e.Prefix.length aw, .slice aY e.Last.length a7, .slice aE e.Right.length aF, .slice aG e.Rules.length aH, .int .i64 e.Done] 29 (0, 0))] ++ A)) w99 := Ch.assoc' [.blk eW (.cells #[.int .i64 k2_36, .bool b2_37, .slice p42 n44 c43, .slice p48 n50 c49, .slice p54 n56 c55, .slice p60 n62 c61, .slice p66 n68 c67, .slice p72 n74 c73, .int .i64 k2_38, .map (some ap), .slice p78 n80 c79, .slice p84 n86 c85, .slice p90 n92 c91] 72 (0, 0)), .row 26 1 p42 n44 c43 nT, .row 26 1 p48 n50 c49 nU, .row 3 1 p54 n56 c55 nV, .row 3 1 p60 n62 c61 nW, .row 26 1 p66 n68 c67 nX, .row 39 2 p72 n74 c73 nY, .row 9 1 p78 n80 c79 n7, .row 3 1 p84 n86 c85 gv, .row 3 1 p90 n92 c91 gw, .any (mapE (fun a : List UInt8 => Value.string (gstr a)) (fun a : Int => Value.int .i64 a) ap m2_93)] [.blk B2 (.cells #[.int .i64 e.Points, .bool e.Monoid, .slice a8 e.Gens.length a9, .slice aC e.Elems.length aD, .slice av e.Prefix.length aw, .slice aY e.Last.length a7, .slice aE e.Right.length aF, .slice aG e.Rules.length aH, .int .i64 e.Done] 29 (0, 0))] A w99
    have Z3 := uc.ch.trans fF.ch
    replace eP := eP.ch Z3
    replace eC := eC.ch Z3
    replace eF := eF.ch Z3
    replace eG := eG.ch Z3
    replace eH := eH.ch Z3
    replace eQ := eQ.ch Z3
    replace bE := bE.ch Z3
    replace b5 := b5.ch Z3
    refine GoR.call (op_call body51 rfl (walk_enumerate_run_process (a0 := (⟨(⟨k2_36, b2_37, d_39, d_45, d_51, d_57, d_63, d_69, k2_38⟩ : Enum), m2_93, d_75, d_81, d_87⟩ : run)) VE (eP.ch hca105) (eo.ch hca105) (eC.ch hca105) (eF.ch hca105) (eG.ch hca105) (eH.ch hca105) (eQ.ch hca105) (bE.ch hca105) (b5.ch hca105) H)) rfl rfl ?_
    intro afN Mf
    refine exE fun r106 => exE fun q107 => exE fun kB => exE fun kC => exE fun kD => exE fun rJ => exE fun jC => exE fun jD => exE fun jE => exE fun qG => exE fun iR => exE fun iT => exE fun iU => exE fun pW => exE fun kE => exE fun kF => exE fun kG => exE fun rK => exE fun jF => exE fun jG => exE fun jH => exE fun qH => exE fun jI => exE fun jJ => exE fun jK => exE fun qI => exE fun o3 => exE fun o4 => exE fun o5 => exE fun wF => exE fun nt => exE fun nu => exE fun nv => exE fun vc => exE fun nw => exE fun ny => exE fun nA => exE fun vd => andE fun hv113 => andE fun hN110 => andE fun yt => andE fun xI => andE fun w4 => andE fun yu => andE fun xJ => andE fun xK => andE fun Bh => andE fun Al => andE fun Am => andE fun hF111 => fun H => ?_
    subst hv113
    have A6 : Stp w0.heap.size A w99 [.blk eW (.cells #[.int .i64 k2_36, .bool b2_37, .slice p42 n44 c43, .slice p48 n50 c49, .slice p54 n56 c55, .slice p60 n62 c61, .slice p66 n68 c67, .slice p72 n74 c73, .int .i64 k2_38, .map (some ap), .slice p78 n80 c79, .slice p84 n86 c85, .slice p90 n92 c91] 72 (0, 0)), .row 26 1 p42 n44 c43 nT, .row 26 1 p48 n50 c49 nU, .row 3 1 p54 n56 c55 nV, .row 3 1 p60 n62 c61 nW, .row 26 1 p66 n68 c67 nX, .row 39 2 p72 n74 c73 nY, .row 9 1 p78 n80 c79 n7, .row 3 1 p84 n86 c85 gv, .row 3 1 p90 n92 c91 gw, .any (mapE (fun a : List UInt8 => Value.string (gstr a)) (fun a : Int => Value.int .i64 a) ap m2_93), .blk B2 (.cells #[.int .i64 e.Points, .bool e.Monoid, .slice a8 e.Gens.length a9, .slice aC e.Elems.length aD, .slice av e.Prefix.length aw, .slice aY e.Last.length a7, .slice aE e.Right.length aF, .slice aG e.Rules.length aH, .int .i64 e.Done] 29 (0, 0))] Mf [.blk eW (.cells #[.int .i64 q107.Enum.Points, .bool q107.Enum.Monoid, .slice kC kB kD, .slice jD jC jE, .slice iT iR iU, .slice kF kE kG, .slice jG jF jH, .slice jJ jI jK, .int .i64 q107.Enum.Done, .map (some ap), .slice o4 o3 o5, .slice nu nt nv, .slice ny nw nA] 72 (0, 0)), .row 26 1 kC kB kD rJ, .row 26 1 jD jC jE qG, .row 3 1 iT iR iU pW, .row 3 1 kF kE kG rK, .row 26 1 jG jF jH qH, .row 39 2 jJ jI jK qI, .row 9 1 o4 o3 o5 wF, .row 3 1 nu nt nv vc, .row 3 1 ny nw nA vd, .any (mapE (fun a : List UInt8 => Value.string (gstr a)) (fun a : Int => Value.int .i64 a) ap q107.number), .blk B2 (.cells #[.int .i64 e.Points, .bool e.Monoid, .slice a8 e.Gens.length a9, .slice aC e.Elems.length aD, .slice av e.Prefix.length aw, .slice aY e.Last.length a7, .slice aE e.Right.length aF, .slice aG e.Rules.length aH, .int .i64 e.Done] 29 (0, 0))] := Stp.join O4 hN110 hF111
    replace hO := A6.own
    have hca114 : Ch (bl [.blk eW (.cells #[.int .i64 q107.Enum.Points, .bool q107.Enum.Monoid, .slice kC kB kD, .slice jD jC jE, .slice iT iR iU, .slice kF kE kG, .slice jG jF jH, .slice jJ jI jK, .int .i64 q107.Enum.Done, .map (some ap), .slice o4 o3 o5, .slice nu nt nv, .slice ny nw nA] 72 (0, 0)), .row 26 1 kC kB kD rJ, .row 26 1 jD jC jE qG, .row 3 1 iT iR iU pW, .row 3 1 kF kE kG rK, .row 26 1 jG jF jH qH, .row 39 2 jJ jI jK qI, .row 9 1 o4 o3 o5 wF, .row 3 1 nu nt nv vc, .row 3 1 ny nw nA vd, .any (mapE (fun a : List UInt8 => Value.string (gstr a)) (fun a : Int => Value.int .i64 a) ap q107.number)] ++ (bl [.blk B2 (.cells #[.int .i64 e.Points, .bool e.Monoid, .slice a8 e.Gens.length a9, .slice aC e.Elems.length aD, .slice av e.Prefix.length aw, .slice aY e.Last.length a7, .slice aE e.Right.length aF, .slice aG e.Rules.length aH, .int .i64 e.Done] 29 (0, 0))] ++ A)) Mf (bl [.blk eW (.cells #[.int .i64 q107.Enum.Points, .bool q107.Enum.Monoid, .slice kC kB kD, .slice jD jC jE, .slice iT iR iU, .slice kF kE kG, .slice jG jF jH, .slice jJ jI jK, .int .i64 q107.Enum.Done, .map (some ap), .slice o4 o3 o5, .slice nu nt nv, .slice ny nw nA] 72 (0, 0)), .row 26 1 kC kB kD rJ, .row 26 1 jD jC jE qG, .row 3 1 iT iR iU pW, .row 3 1 kF kE kG rK, .row 26 1 jG jF jH qH, .row 39 2 jJ jI jK qI, .row 9 1 o4 o3 o5 wF, .row 3 1 nu nt nv vc, .row 3 1 ny nw nA vd, .any (mapE (fun a : List UInt8 => Value.string (gstr a)) (fun a : Int => Value.int .i64 a) ap q107.number), .blk B2 (.cells #[.int .i64 e.Points, .bool e.Monoid, .slice a8 e.Gens.length a9, .slice aC e.Elems.length aD, .slice av e.Prefix.length aw, .slice aY e.Last.length a7, .slice aE e.Right.length aF, .slice aG e.Rules.length aH, .int .i64 e.Done] 29 (0, 0))] ++ A) Mf := Ch.assoc [.blk eW (.cells #[.int .i64 q107.Enum.Points, .bool q107.Enum.Monoid, .slice kC kB kD, .slice jD jC jE, .slice iT iR iU, .slice kF kE kG, .slice jG jF jH, .slice jJ jI jK, .int .i64 q107.Enum.Done, .map (some ap), .slice o4 o3 o5, .slice nu nt nv, .slice ny nw nA] 72 (0, 0)), .row 26 1 kC kB kD rJ, .row 26 1 jD jC jE qG, .row 3 1 iT iR iU pW, .row 3 1 kF kE kG rK, .row 26 1 jG jF jH qH, .row 39 2 jJ jI jK qI, .row 9 1 o4 o3 o5 wF, .row 3 1 nu nt nv vc, .row 3 1 ny nw nA vd, .any (mapE (fun a : List UInt8 => Value.string (gstr a)) (fun a : Int => Value.int .i64 a) ap q107.number)] [.blk B2 (.cells #[.int .i64 e.Points, .bool e.Monoid, .slice a8 e.Gens.length a9, .slice aC e.Elems.length aD, .slice av e.Prefix.length aw, .slice aY e.Last.length a7, .slice aE e.Right.length aF, .slice aG e.Rules.length aH, .int .i64 e.Done] 29 (0, 0))] A Mf
    by_cases Gq : r106 = (0 : Int)
    ·replace H := ifp Gq H
     refine zo (fun w => opB (op_neq rfl rfl w) (ndT Gq)) (zo (op_pickF rfl rfl rfl) (zn (zf rfl rfl (zk ?_))))
     refine Go1.inBlock ?_
     replace yt := yt.ch hca114
     replace xI := xI.ch hca114
     replace w4 := w4.ch hca114
     replace yu := yu.ch hca114
     replace xJ := xJ.ch hca114
     replace xK := xK.ch hca114
     replace Bh := Bh.ch hca114
     replace Al := Al.ch hca114
     replace Am := Am.ch hca114
     have Z4 := Z3.trans A6.ch
     replace ak := ak.ch Z4
     replace af := af.ch Z4
     replace ae := ae.ch Z4
     replace aj := aj.ch Z4
     replace ag := ag.ch Z4
     replace ah := ah.ch Z4
     replace hB := ((hB.trans uc.fr).trans fF.fr).trans A6.fr
     exact hX2 _ H _ _ ⟨kB, kC, kD, rJ, jC, jD, jE, qG, iR, iT, iU, pW, kE, kF, kG, rK, jF, jG, jH, qH, jI, jJ, jK, qI, o3, o4, o5, wF, nt, nu, nv, vc, nw, ny, nA, vd, ⟨rfl, rfl, trivial⟩, hO, yt, xI, w4, yu, xJ, xK, Bh, Al, Am, ak, af, ae, aj, ag, ah, hB⟩
    replace H := ifn Gq H
    refine zo (fun w => opB (op_neq rfl rfl w) (ndF Gq)) (zo (op_pickF rfl rfl rfl) (zn (zt rfl rfl (zq (zr ?_)))))
    refine za rfl (za rfl (zn ?_))
    refine Go1.ret2 Try.func53 rfl ?_
    replace hB := ((hB.trans uc.fr).trans fF.fr).trans A6.fr
    exact Or.inl ⟨false, rfl, hB.same, H⟩
   replace H := ifn h97 H
   refine GoQ.pure rfl (fun w => opB (op_lss rfl rfl w) (decide_eq_false h97)) rfl rfl ?_
   refine GoQ.nil ?_
   refine zf rfl rfl ?_
   refine Go1.exit rfl ?_
   refine zq (zr (zm rfl (zm rfl (zs (oblkAgg (vs := [.int .i64 e.Points, .bool e.Monoid, .slice a8 e.Gens.length a9, .slice aC e.Elems.length aD, .slice av e.Prefix.length aw, .slice aY e.Last.length a7, .slice aE e.Right.length aF, .slice aG e.Rules.length aH, .int .i64 e.Done]) (i := 0) 11 hO rfl rfl Try.underlying29 rfl ti29 rfl) ?_))))
   refine GoR.inl (vs := [.pointer (some ⟨eW, 0, none⟩), .agg #[.int .i64 e.Points, .bool e.Monoid, .slice a8 e.Gens.length a9, .slice aC e.Elems.length aD, .slice av e.Prefix.length aw, .slice aY e.Last.length a7, .slice aE e.Right.length aF, .slice aG e.Rules.length aH, .int .i64 e.Done]]) (caps := []) rfl rfl body68 Try.func68 rfl Try.ntmps68 rfl rfl rfl ?_
   intro RhR116 hR116
   refine zq (zr ?_)
   have hobt := obox (t := 29) (v := .agg #[.int .i64 e.Points, .bool e.Monoid, .slice a8 e.Gens.length a9, .slice aC e.Elems.length aD, .slice av e.Prefix.length aw, .slice aY e.Last.length a7, .slice aE e.Right.length aF, .slice aG e.Rules.length aH, .int .i64 e.Done]) (cs := #[.int .i64 e.Points, .bool e.Monoid, .slice a8 e.Gens.length a9, .slice aC e.Elems.length aD, .slice av e.Prefix.length aw, .slice aY e.Last.length a7, .slice aE e.Right.length aF, .slice aG e.Rules.length aH, .int .i64 e.Done]) hO rfl
   obtain ⟨afO, B118, qJ, ads, Ry⟩ := hobt
   refine zg (Ry rfl) ?_
   replace hO := qJ.own
   refine za rfl (zn (zq ?_))
   refine Go1.drawS 0 [(0, .pure), (1, .pure), (2, .pure), (3, .pure), (4, .stable), (5, .pure), (6, .stable), (7, .pure), (8, .pure), (9, .pure), (10, .pure), (11, .pure), (12, .pure), (13, .stable), (14, .pure), (15, .stable), (16, .pure), (17, .pure), (18, .pure), (19, .pure), (20, .pure), (21, .pure), (22, .pure), (23, .stable), (24, .pure), (25, .stable), (26, .loud), (27, .pure), (28, .pure), (29, .pure), (30, .pure), (31, .pure), (32, .pure), (33, .stable), (34, .pure), (35, .stable), (36, .loud), (37, .pure), (38, .pure), (39, .pure), (40, .pure), (41, .pure), (42, .pure), (43, .stable), (44, .pure), (45, .stable), (46, .loud), (47, .pure), (48, .pure), (49, .pure), (50, .pure), (51, .pure), (52, .pure), (53, .stable), (54, .pure), (55, .stable), (56, .loud), (57, .pure), (58, .pure), (59, .pure), (60, .pure), (61, .pure), (62, .pure), (63, .stable), (64, .pure), (65, .stable), (66, .loud), (67, .pure), (68, .pure)] mixed (by kernel_rfl) ?_
   intro abl VG
   have qK := Stp.same hO VG
   replace hO := qK.own
   refine GoQ.pure rfl (op_move rfl) rfl rfl ?_
   refine GoQ.pure rfl (op_nilCheck rfl) rfl rfl ?_
   refine GoQ.pure rfl (op_fieldAddr Try.underlying72 rfl ti29 rfl (by decide)) rfl rfl ?_
   refine GoQ.pure rfl (op_fieldAddr Try.underlying29 rfl ti3 rfl (by decide)) rfl rfl ?_
   refine GoQ.stable rfl (oblk (i := 0) 1 hO rfl rfl Try.underlying3 rfl rfl) rfl rfl ?_
   refine GoQ.pure rfl (op_fieldAddr Try.underlying29 rfl ti3 rfl (by decide)) rfl rfl ?_
   refine GoQ.stable rfl (oblk (i := 0) 0 hO rfl rfl Try.underlying3 rfl rfl) rfl rfl ?_
   by_cases Mg : k2_36 = e.Points
   ·replace H := ifp Mg H
    refine GoQ.pure rfl (fun w => opB (op_eql rfl rfl w) (decide_eq_true Mg)) rfl rfl ?_
    refine GoQ.pure rfl (op_move rfl) rfl rfl ?_
    refine GoQ.pure rfl (op_move rfl) rfl rfl ?_
    refine GoQ.pure rfl (op_nilCheck rfl) rfl rfl ?_
    refine GoQ.pure rfl (op_fieldAddr Try.underlying72 rfl ti29 rfl (by decide)) rfl rfl ?_
    refine GoQ.pure rfl (op_fieldAddr Try.underlying29 rfl ti3 rfl (by decide)) rfl rfl ?_
    refine GoQ.stable rfl (oblk (i := 8) 1 hO rfl rfl Try.underlying3 rfl rfl) rfl rfl ?_
    refine GoQ.pure rfl (op_fieldAddr Try.underlying29 rfl ti3 rfl (by decide)) rfl rfl ?_
    refine GoQ.stable rfl (oblk (i := 8) 0 hO rfl rfl Try.underlying3 rfl rfl) rfl rfl ?_
    by_cases Mh : k2_38 = e.Done
    ·replace H := ifp Mh H
     refine GoQ.pure rfl (fun w => opB (op_eql rfl rfl w) (decide_eq_true Mh)) rfl rfl ?_
     refine GoQ.pure rfl (op_pickT rfl rfl rfl) rfl rfl ?_
     refine GoQ.pure rfl (op_move rfl) rfl rfl ?_
     refine GoQ.pure rfl (op_move rfl) rfl rfl ?_
     refine GoQ.pure rfl (op_nilCheck rfl) rfl rfl ?_
     refine GoQ.pure rfl (op_fieldAddr Try.underlying72 rfl ti29 rfl (by decide)) rfl rfl ?_
     refine GoQ.pure rfl (op_fieldAddr Try.underlying29 rfl ti22 rfl (by decide)) rfl rfl ?_
     refine GoQ.stable rfl (oblk (i := 3) 1 hO rfl rfl Try.underlying22 rfl rfl) rfl rfl ?_
     refine GoQ.pure rfl (op_fieldAddr Try.underlying29 rfl ti22 rfl (by decide)) rfl rfl ?_
     refine GoQ.stable rfl (oblk (i := 3) 0 hO rfl rfl Try.underlying22 rfl rfl) rfl rfl ?_
     have Z5 := (uc.ch.trans qJ.ch).trans qK.ch
     replace eo := eo.ch Z5
     have hobt := rowlend 3 hO rfl eo
     obtain ⟨VH, Mi⟩ := hobt
     have hOc130 := hO.drop 3
     replace af := af.ch Z5
     refine GoQ.call rfl (op_call body69 (show ([.slice p48 n50 c49, .slice aC e.Elems.length aD, .func (.func 70) #[] #[]] : List Value) = [.slice p48 d_45.length c49, .slice aC e.Elems.length aD, .func (.func 70) #[] #[]] from by rw [← Mi]) (walk_slices_EqualFunc_int hOc130.lt VH (af.ch (Owns.dropCh _ _ 3)) H)) (fun v w hr => by obtain ⟨_, _, hs, _⟩ := hr; assumption) rfl rfl ?_
     rintro afP afQ ⟨r131, rfl, VI, H⟩
     have qL := Stp.same hO VI
     replace hO := qL.own
     refine GoQ.pure rfl (op_pickT rfl rfl rfl) rfl rfl ?_
     refine GoQ.pure rfl (op_move rfl) rfl rfl ?_
     cases r131
     ·replace H := ifn Bool.false_ne_true H
      refine GoQ.pass rfl rfl rfl ?_
      refine GoQ.pass rfl rfl rfl ?_
      refine GoQ.pass rfl rfl rfl ?_
      refine GoQ.pass rfl rfl rfl ?_
      refine GoQ.pass rfl rfl rfl ?_
      refine GoQ.pass rfl rfl rfl ?_
      refine GoQ.pass rfl rfl rfl ?_
      refine GoQ.pass rfl rfl rfl ?_
      refine GoQ.pure rfl (op_pickF rfl rfl rfl) rfl rfl ?_
      refine GoQ.pure rfl (op_move rfl) rfl rfl ?_
      refine GoQ.pass rfl rfl rfl ?_
      refine GoQ.pass rfl rfl rfl ?_
      refine GoQ.pass rfl rfl rfl ?_
      refine GoQ.pass rfl rfl rfl ?_
      refine GoQ.pass rfl rfl rfl ?_
      refine GoQ.pass rfl rfl rfl ?_
      refine GoQ.pass rfl rfl rfl ?_
      refine GoQ.pass rfl rfl rfl ?_
      refine GoQ.pure rfl (op_pickF rfl rfl rfl) rfl rfl ?_
      refine GoQ.pure rfl (op_move rfl) rfl rfl ?_
      refine GoQ.pass rfl rfl rfl ?_
      refine GoQ.pass rfl rfl rfl ?_
      refine GoQ.pass rfl rfl rfl ?_
      refine GoQ.pass rfl rfl rfl ?_
      refine GoQ.pass rfl rfl rfl ?_
      refine GoQ.pass rfl rfl rfl ?_
      refine GoQ.pass rfl rfl rfl ?_
      refine GoQ.pass rfl rfl rfl ?_
      refine GoQ.pure rfl (op_pickF rfl rfl rfl) rfl rfl ?_
      refine GoQ.pure rfl (op_move rfl) rfl rfl ?_
      refine GoQ.pass rfl rfl rfl ?_
      refine GoQ.pass rfl rfl rfl ?_
      refine GoQ.pass rfl rfl rfl ?_
      refine GoQ.pass rfl rfl rfl ?_
      refine GoQ.pass rfl rfl rfl ?_
      refine GoQ.pass rfl rfl rfl ?_
      refine GoQ.pass rfl rfl rfl ?_
      refine GoQ.pass rfl rfl rfl ?_
      refine GoQ.pure rfl (op_pickF rfl rfl rfl) rfl rfl ?_
      refine GoQ.pure rfl (op_assign rfl) rfl rfl ?_
      refine GoQ.nil ?_
      refine Go1.ret1V Try.func68 rfl (show _ = .bool false from rfl) ?_
      refine hR116 _ _ ?_
      refine za rfl (za rfl (zn ?_))
      replace hO := hO.drop 0
      have Z6 := qL.ch.trans (Owns.dropCh _ _ 0)
      replace eo := eo.ch Z6
      replace af := af.ch Z6
      have Z7 := (Z5.trans qL.ch).trans (Owns.dropCh _ _ 0)
      replace eP := eP.ch Z7
      replace eC := eC.ch Z7
      replace eF := eF.ch Z7
      replace eG := eG.ch Z7
      replace eH := eH.ch Z7
      replace eQ := eQ.ch Z7
      replace bE := bE.ch Z7
      replace b5 := b5.ch Z7
      replace ak := ak.ch Z7
      replace ae := ae.ch Z7
      replace aj := aj.ch Z7
      replace ag := ag.ch Z7
      replace ah := ah.ch Z7
      replace hB := ((((hB.trans uc.fr).trans qJ.fr).trans qK.fr).trans qL.fr).trans (Owns.dropFr _ _ 0)
      dsimp only [eS, eZ] at hB hO ak af ae aj ag ah eP eo eC eF eG eH eQ bE b5
      replace hO := hO.drop 11
      replace ak := ak.ch (Owns.dropCh _ _ 11)
      replace af := af.ch (Owns.dropCh _ _ 11)
      replace ae := ae.ch (Owns.dropCh _ _ 11)
      replace aj := aj.ch (Owns.dropCh _ _ 11)
      replace ag := ag.ch (Owns.dropCh _ _ 11)
      replace ah := ah.ch (Owns.dropCh _ _ 11)
      replace eP := eP.ch (Owns.dropCh _ _ 11)
      replace eo := eo.ch (Owns.dropCh _ _ 11)
      replace eC := eC.ch (Owns.dropCh _ _ 11)
      replace eF := eF.ch (Owns.dropCh _ _ 11)
      replace eG := eG.ch (Owns.dropCh _ _ 11)
      replace eH := eH.ch (Owns.dropCh _ _ 11)
      replace eQ := eQ.ch (Owns.dropCh _ _ 11)
      replace bE := bE.ch (Owns.dropCh _ _ 11)
      replace b5 := b5.ch (Owns.dropCh _ _ 11)
      replace hB := hB.trans (Owns.dropFr _ _ 11)
      dsimp only [eS, eZ] at hB hO ak af ae aj ag ah eP eo eC eF eG eH eQ bE b5
      refine Go1.ret2 Try.func53 rfl ?_
      exact Or.inr ⟨(⟨(⟨k2_36, b2_37, d_39, d_45, d_51, d_57, d_63, d_69, k2_38⟩ : Enum), m2_93, d_75, d_81, d_87⟩ : run), false, eW, n44, p42, c43, nT, n50, p48, c49, nU, n56, p54, c55, nV, n62, p60, c61, nW, n68, p66, c67, nX, n74, p72, c73, nY, ap, n80, p78, c79, n7, n86, p84, c85, gv, n92, p90, c91, gw, rfl, hB.same, hO, eP, eo, eC, eF, eG, eH, eQ, bE, b5, H⟩
     replace H := ifp rfl H
     refine GoQ.pure rfl (op_move rfl) rfl rfl ?_
     refine GoQ.pure rfl (op_nilCheck rfl) rfl rfl ?_
     refine GoQ.pure rfl (op_fieldAddr Try.underlying72 rfl ti29 rfl (by decide)) rfl rfl ?_
     refine GoQ.pure rfl (op_fieldAddr Try.underlying29 rfl ti26 rfl (by decide)) rfl rfl ?_
     refine GoQ.stable rfl (oblk (i := 4) 1 hO rfl rfl Try.underlying26 rfl rfl) rfl rfl ?_
     refine GoQ.pure rfl (op_fieldAddr Try.underlying29 rfl ti26 rfl (by decide)) rfl rfl ?_
     refine GoQ.stable rfl (oblk (i := 4) 0 hO rfl rfl Try.underlying26 rfl rfl) rfl rfl ?_
     replace eC := (eC.ch Z5).ch qL.ch
     have hobt := rowlend 4 hO rfl eC
     obtain ⟨Mj, I2⟩ := hobt
     have hOc139 := hO.drop 4
     replace ae := (ae.ch Z5).ch qL.ch
     refine GoQ.call rfl (op_call body70 (show ([.slice p54 n56 c55, .slice av e.Prefix.length aw] : List Value) = [.slice p54 d_51.length c55, .slice av e.Prefix.length aw] from by rw [← I2]) (walk_slices_Equal_int hOc139.lt Mj (ae.ch (Owns.dropCh _ _ 4)) H)) (fun v w hr => by obtain ⟨_, _, hs, _⟩ := hr; assumption) rfl rfl ?_
     rintro afR afS ⟨r140, rfl, VJ, H⟩
     have gl := Stp.same hO VJ
     replace hO := gl.own
     refine GoQ.pure rfl (op_pickT rfl rfl rfl) rfl rfl ?_
     refine GoQ.pure rfl (op_move rfl) rfl rfl ?_
     cases r140
     ·replace H := ifn Bool.false_ne_true H
      refine GoQ.pass rfl rfl rfl ?_
      refine GoQ.pass rfl rfl rfl ?_
      refine GoQ.pass rfl rfl rfl ?_
      refine GoQ.pass rfl rfl rfl ?_
      refine GoQ.pass rfl rfl rfl ?_
      refine GoQ.pass rfl rfl rfl ?_
      refine GoQ.pass rfl rfl rfl ?_
      refine GoQ.pass rfl rfl rfl ?_
      refine GoQ.pure rfl (op_pickF rfl rfl rfl) rfl rfl ?_
      refine GoQ.pure rfl (op_move rfl) rfl rfl ?_
      refine GoQ.pass rfl rfl rfl ?_
      refine GoQ.pass rfl rfl rfl ?_
      refine GoQ.pass rfl rfl rfl ?_
      refine GoQ.pass rfl rfl rfl ?_
      refine GoQ.pass rfl rfl rfl ?_
      refine GoQ.pass rfl rfl rfl ?_
      refine GoQ.pass rfl rfl rfl ?_
      refine GoQ.pass rfl rfl rfl ?_
      refine GoQ.pure rfl (op_pickF rfl rfl rfl) rfl rfl ?_
      refine GoQ.pure rfl (op_move rfl) rfl rfl ?_
      refine GoQ.pass rfl rfl rfl ?_
      refine GoQ.pass rfl rfl rfl ?_
      refine GoQ.pass rfl rfl rfl ?_
      refine GoQ.pass rfl rfl rfl ?_
      refine GoQ.pass rfl rfl rfl ?_
      refine GoQ.pass rfl rfl rfl ?_
      refine GoQ.pass rfl rfl rfl ?_
      refine GoQ.pass rfl rfl rfl ?_
      refine GoQ.pure rfl (op_pickF rfl rfl rfl) rfl rfl ?_
      refine GoQ.pure rfl (op_assign rfl) rfl rfl ?_
      refine GoQ.nil ?_
      refine Go1.ret1V Try.func68 rfl (show _ = .bool false from rfl) ?_
      refine hR116 _ _ ?_
      refine za rfl (za rfl (zn ?_))
      replace hO := hO.drop 0
      have Z8 := gl.ch.trans (Owns.dropCh _ _ 0)
      replace eC := eC.ch Z8
      replace ae := ae.ch Z8
      have Z9 := (qL.ch.trans gl.ch).trans (Owns.dropCh _ _ 0)
      replace eo := eo.ch Z9
      replace af := af.ch Z9
      have Z10 := ((Z5.trans qL.ch).trans gl.ch).trans (Owns.dropCh _ _ 0)
      replace eP := eP.ch Z10
      replace eF := eF.ch Z10
      replace eG := eG.ch Z10
      replace eH := eH.ch Z10
      replace eQ := eQ.ch Z10
      replace bE := bE.ch Z10
      replace b5 := b5.ch Z10
      replace ak := ak.ch Z10
      replace aj := aj.ch Z10
      replace ag := ag.ch Z10
      replace ah := ah.ch Z10
      replace hB := (((((hB.trans uc.fr).trans qJ.fr).trans qK.fr).trans qL.fr).trans gl.fr).trans (Owns.dropFr _ _ 0)
      dsimp only [eS, eZ] at hB hO ak af ae aj ag ah eP eo eC eF eG eH eQ bE b5
      replace hO := hO.drop 11
      replace ak := ak.ch (Owns.dropCh _ _ 11)
      replace af := af.ch (Owns.dropCh _ _ 11)
      replace ae := ae.ch (Owns.dropCh _ _ 11)
      replace aj := aj.ch (Owns.dropCh _ _ 11)
      replace ag := ag.ch (Owns.dropCh _ _ 11)
      replace ah := ah.ch (Owns.dropCh _ _ 11)
      replace eP := eP.ch (Owns.dropCh _ _ 11)
      replace eo := eo.ch (Owns.dropCh _ _ 11)
      replace eC := eC.ch (Owns.dropCh _ _ 11)
      replace eF := eF.ch (Owns.dropCh _ _ 11)
      replace eG := eG.ch (Owns.dropCh _ _ 11)
      replace eH := eH.ch (Owns.dropCh _ _ 11)
      replace eQ := eQ.ch (Owns.dropCh _ _ 11)
      replace bE := bE.ch (Owns.dropCh _ _ 11)
      replace b5 := b5.ch (Owns.dropCh _ _ 11)
      replace hB := hB.trans (Owns.dropFr _ _ 11)
      dsimp only [eS, eZ] at hB hO ak af ae aj ag ah eP eo eC eF eG eH eQ bE b5
      refine Go1.ret2 Try.func53 rfl ?_
      exact Or.inr ⟨(⟨(⟨k2_36, b2_37, d_39, d_45, d_51, d_57, d_63, d_69, k2_38⟩ : Enum), m2_93, d_75, d_81, d_87⟩ : run), false, eW, n44, p42, c43, nT, n50, p48, c49, nU, n56, p54, c55, nV, n62, p60, c61, nW, n68, p66, c67, nX, n74, p72, c73, nY, ap, n80, p78, c79, n7, n86, p84, c85, gv, n92, p90, c91, gw, rfl, hB.same, hO, eP, eo, eC, eF, eG, eH, eQ, bE, b5, H⟩
     replace H := ifp rfl H
     refine GoQ.pure rfl (op_move rfl) rfl rfl ?_
     refine GoQ.pure rfl (op_nilCheck rfl) rfl rfl ?_
     refine GoQ.pure rfl (op_fieldAddr Try.underlying72 rfl ti29 rfl (by decide)) rfl rfl ?_
     refine GoQ.pure rfl (op_fieldAddr Try.underlying29 rfl ti26 rfl (by decide)) rfl rfl ?_
     refine GoQ.stable rfl (oblk (i := 5) 1 hO rfl rfl Try.underlying26 rfl rfl) rfl rfl ?_
     refine GoQ.pure rfl (op_fieldAddr Try.underlying29 rfl ti26 rfl (by decide)) rfl rfl ?_
     refine GoQ.stable rfl (oblk (i := 5) 0 hO rfl rfl Try.underlying26 rfl rfl) rfl rfl ?_
     replace eF := ((eF.ch Z5).ch qL.ch).ch gl.ch
     have hobt := rowlend 5 hO rfl eF
     obtain ⟨VK, VL⟩ := hobt
     have hOc148 := hO.drop 5
     replace aj := ((aj.ch Z5).ch qL.ch).ch gl.ch
     refine GoQ.call rfl (op_call body70 (show ([.slice p60 n62 c61, .slice aY e.Last.length a7] : List Value) = [.slice p60 d_57.length c61, .slice aY e.Last.length a7] from by rw [← VL]) (walk_slices_Equal_int hOc148.lt VK (aj.ch (Owns.dropCh _ _ 5)) H)) (fun v w hr => by obtain ⟨_, _, hs, _⟩ := hr; assumption) rfl rfl ?_
     rintro afT aaT ⟨r149, rfl, VM, H⟩
     have dT := Stp.same hO VM
     replace hO := dT.own
     refine GoQ.pure rfl (op_pickT rfl rfl rfl) rfl rfl ?_
     refine GoQ.pure rfl (op_move rfl) rfl rfl ?_
     cases r149
     ·replace H := ifn Bool.false_ne_true H
      refine GoQ.pass rfl rfl rfl ?_
      refine GoQ.pass rfl rfl rfl ?_
      refine GoQ.pass rfl rfl rfl ?_
      refine GoQ.pass rfl rfl rfl ?_
      refine GoQ.pass rfl rfl rfl ?_
      refine GoQ.pass rfl rfl rfl ?_
      refine GoQ.pass rfl rfl rfl ?_
      refine GoQ.pass rfl rfl rfl ?_
      refine GoQ.pure rfl (op_pickF rfl rfl rfl) rfl rfl ?_
      refine GoQ.pure rfl (op_move rfl) rfl rfl ?_
      refine GoQ.pass rfl rfl rfl ?_
      refine GoQ.pass rfl rfl rfl ?_
      refine GoQ.pass rfl rfl rfl ?_
      refine GoQ.pass rfl rfl rfl ?_
      refine GoQ.pass rfl rfl rfl ?_
      refine GoQ.pass rfl rfl rfl ?_
      refine GoQ.pass rfl rfl rfl ?_
      refine GoQ.pass rfl rfl rfl ?_
      refine GoQ.pure rfl (op_pickF rfl rfl rfl) rfl rfl ?_
      refine GoQ.pure rfl (op_assign rfl) rfl rfl ?_
      refine GoQ.nil ?_
      refine Go1.ret1V Try.func68 rfl (show _ = .bool false from rfl) ?_
      refine hR116 _ _ ?_
      refine za rfl (za rfl (zn ?_))
      replace hO := hO.drop 0
      have Z11 := dT.ch.trans (Owns.dropCh _ _ 0)
      replace eF := eF.ch Z11
      replace aj := aj.ch Z11
      have Z12 := (gl.ch.trans dT.ch).trans (Owns.dropCh _ _ 0)
      replace eC := eC.ch Z12
      replace ae := ae.ch Z12
      have Z13 := ((qL.ch.trans gl.ch).trans dT.ch).trans (Owns.dropCh _ _ 0)
      replace eo := eo.ch Z13
      replace af := af.ch Z13
      have Z14 := (((Z5.trans qL.ch).trans gl.ch).trans dT.ch).trans (Owns.dropCh _ _ 0)
      replace eP := eP.ch Z14
      replace eG := eG.ch Z14
      replace eH := eH.ch Z14
      replace eQ := eQ.ch Z14
      replace bE := bE.ch Z14
      replace b5 := b5.ch Z14
      replace ak := ak.ch Z14
      replace ag := ag.ch Z14
      replace ah := ah.ch Z14
      replace hB := ((((((hB.trans uc.fr).trans qJ.fr).trans qK.fr).trans qL.fr).trans gl.fr).trans dT.fr).trans (Owns.dropFr _ _ 0)
      dsimp only [eS, eZ] at hB hO ak af ae aj ag ah eP eo eC eF eG eH eQ bE b5
      replace hO := hO.drop 11
      replace ak := ak.ch (Owns.dropCh _ _ 11)
      replace af := af.ch (Owns.dropCh _ _ 11)
      replace ae := ae.ch (Owns.dropCh _ _ 11)
      replace aj := aj.ch (Owns.dropCh _ _ 11)
      replace ag := ag.ch (Owns.dropCh _ _ 11)
      replace ah := ah.ch (Owns.dropCh _ _ 11)
      replace eP := eP.ch (Owns.dropCh _ _ 11)
      replace eo := eo.ch (Owns.dropCh _ _ 11)
      replace eC := eC.ch (Owns.dropCh _ _ 11)
      replace eF := eF.ch (Owns.dropCh _ _ 11)
      replace eG := eG.ch (Owns.dropCh _ _ 11)
      replace eH := eH.ch (Owns.dropCh _ _ 11)
      replace eQ := eQ.ch (Owns.dropCh _ _ 11)
      replace bE := bE.ch (Owns.dropCh _ _ 11)
      replace b5 := b5.ch (Owns.dropCh _ _ 11)
      replace hB := hB.trans (Owns.dropFr _ _ 11)
      dsimp only [eS, eZ] at hB hO ak af ae aj ag ah eP eo eC eF eG eH eQ bE b5
      refine Go1.ret2 Try.func53 rfl ?_
      exact Or.inr ⟨(⟨(⟨k2_36, b2_37, d_39, d_45, d_51, d_57, d_63, d_69, k2_38⟩ : Enum), m2_93, d_75, d_81, d_87⟩ : run), false, eW, n44, p42, c43, nT, n50, p48, c49, nU, n56, p54, c55, nV, n62, p60, c61, nW, n68, p66, c67, nX, n74, p72, c73, nY, ap, n80, p78, c79, n7, n86, p84, c85, gv, n92, p90, c91, gw, rfl, hB.same, hO, eP, eo, eC, eF, eG, eH, eQ, bE, b5, H⟩
     replace H := ifp rfl H
     refine GoQ.pure rfl (op_move rfl) rfl rfl ?_
     refine GoQ.pure rfl (op_nilCheck rfl) rfl rfl ?_
     refine GoQ.pure rfl (op_fieldAddr Try.underlying72 rfl ti29 rfl (by decide)) rfl rfl ?_
     refine GoQ.pure rfl (op_fieldAddr Try.underlying29 rfl ti22 rfl (by decide)) rfl rfl ?_
     refine GoQ.stable rfl (oblk (i := 6) 1 hO rfl rfl Try.underlying22 rfl rfl) rfl rfl ?_
     refine GoQ.pure rfl (op_fieldAddr Try.underlying29 rfl ti22 rfl (by decide)) rfl rfl ?_
     refine GoQ.stable rfl (oblk (i := 6) 0 hO rfl rfl Try.underlying22 rfl rfl) rfl rfl ?_
     have Z15 := ((Z5.trans qL.ch).trans gl.ch).trans dT.ch
     replace eG := eG.ch Z15
     have hobt := rowlend 6 hO rfl eG
     obtain ⟨VN, VO⟩ := hobt
     have hOc157 := hO.drop 6
     replace ag := ag.ch Z15
     refine GoQ.call rfl (op_call body69 (show ([.slice p66 n68 c67, .slice aE e.Right.length aF, .func (.func 70) #[] #[]] : List Value) = [.slice p66 d_63.length c67, .slice aE e.Right.length aF, .func (.func 70) #[] #[]] from by rw [← VO]) (walk_slices_EqualFunc_int hOc157.lt VN (ag.ch (Owns.dropCh _ _ 6)) H)) (fun v w hr => by obtain ⟨_, _, hs, _⟩ := hr; assumption) rfl rfl ?_
     rintro afU Rz ⟨r158, rfl, VP, H⟩
     have qM := Stp.same hO VP
     replace hO := qM.own
     refine GoQ.pure rfl (op_pickT rfl rfl rfl) rfl rfl ?_
     refine GoQ.pure rfl (op_move rfl) rfl rfl ?_
     cases r158
     ·replace H := ifn Bool.false_ne_true H
      refine GoQ.pass rfl rfl rfl ?_
      refine GoQ.pass rfl rfl rfl ?_
      refine GoQ.pass rfl rfl rfl ?_
      refine GoQ.pass rfl rfl rfl ?_
      refine GoQ.pass rfl rfl rfl ?_
      refine GoQ.pass rfl rfl rfl ?_
      refine GoQ.pass rfl rfl rfl ?_
      refine GoQ.pass rfl rfl rfl ?_
      refine GoQ.pure rfl (op_pickF rfl rfl rfl) rfl rfl ?_
      refine GoQ.pure rfl (op_assign rfl) rfl rfl ?_
      refine GoQ.nil ?_
      refine Go1.ret1V Try.func68 rfl (show _ = .bool false from rfl) ?_
      refine hR116 _ _ ?_
      refine za rfl (za rfl (zn ?_))
      replace hO := hO.drop 0
      have Z16 := qM.ch.trans (Owns.dropCh _ _ 0)
      replace eG := eG.ch Z16
      replace ag := ag.ch Z16
      have Z17 := (dT.ch.trans qM.ch).trans (Owns.dropCh _ _ 0)
      replace eF := eF.ch Z17
      replace aj := aj.ch Z17
      have Z18 := ((gl.ch.trans dT.ch).trans qM.ch).trans (Owns.dropCh _ _ 0)
      replace eC := eC.ch Z18
      replace ae := ae.ch Z18
      have Z19 := (((qL.ch.trans gl.ch).trans dT.ch).trans qM.ch).trans (Owns.dropCh _ _ 0)
      replace eo := eo.ch Z19
      replace af := af.ch Z19
      have Z20 := (Z15.trans qM.ch).trans (Owns.dropCh _ _ 0)
      replace eP := eP.ch Z20
      replace eH := eH.ch Z20
      replace eQ := eQ.ch Z20
      replace bE := bE.ch Z20
      replace b5 := b5.ch Z20
      replace ak := ak.ch Z20
      replace ah := ah.ch Z20
      replace hB := (((((((hB.trans uc.fr).trans qJ.fr).trans qK.fr).trans qL.fr).trans gl.fr).trans dT.fr).trans qM.fr).trans (Owns.dropFr _ _ 0)
      dsimp only [eS, eZ] at hB hO ak af ae aj ag ah eP eo eC eF eG eH eQ bE b5
      replace hO := hO.drop 11
      replace ak := ak.ch (Owns.dropCh _ _ 11)
      replace af := af.ch (Owns.dropCh _ _ 11)
      replace ae := ae.ch (Owns.dropCh _ _ 11)
      replace aj := aj.ch (Owns.dropCh _ _ 11)
      replace ag := ag.ch (Owns.dropCh _ _ 11)
      replace ah := ah.ch (Owns.dropCh _ _ 11)
      replace eP := eP.ch (Owns.dropCh _ _ 11)
      replace eo := eo.ch (Owns.dropCh _ _ 11)
      replace eC := eC.ch (Owns.dropCh _ _ 11)
      replace eF := eF.ch (Owns.dropCh _ _ 11)
      replace eG := eG.ch (Owns.dropCh _ _ 11)
      replace eH := eH.ch (Owns.dropCh _ _ 11)
      replace eQ := eQ.ch (Owns.dropCh _ _ 11)
      replace bE := bE.ch (Owns.dropCh _ _ 11)
      replace b5 := b5.ch (Owns.dropCh _ _ 11)
      replace hB := hB.trans (Owns.dropFr _ _ 11)
      dsimp only [eS, eZ] at hB hO ak af ae aj ag ah eP eo eC eF eG eH eQ bE b5
      refine Go1.ret2 Try.func53 rfl ?_
      exact Or.inr ⟨(⟨(⟨k2_36, b2_37, d_39, d_45, d_51, d_57, d_63, d_69, k2_38⟩ : Enum), m2_93, d_75, d_81, d_87⟩ : run), false, eW, n44, p42, c43, nT, n50, p48, c49, nU, n56, p54, c55, nV, n62, p60, c61, nW, n68, p66, c67, nX, n74, p72, c73, nY, ap, n80, p78, c79, n7, n86, p84, c85, gv, n92, p90, c91, gw, rfl, hB.same, hO, eP, eo, eC, eF, eG, eH, eQ, bE, b5, H⟩
     replace H := ifp rfl H
     refine GoQ.pure rfl (op_move rfl) rfl rfl ?_
     refine GoQ.pure rfl (op_nilCheck rfl) rfl rfl ?_
     refine GoQ.pure rfl (op_fieldAddr Try.underlying72 rfl ti29 rfl (by decide)) rfl rfl ?_
     refine GoQ.pure rfl (op_fieldAddr Try.underlying29 rfl ti27 rfl (by decide)) rfl rfl ?_
     refine GoQ.stable rfl (oblk (i := 7) 1 hO rfl rfl Try.underlying27 rfl rfl) rfl rfl ?_
     refine GoQ.pure rfl (op_fieldAddr Try.underlying29 rfl ti27 rfl (by decide)) rfl rfl ?_
     refine GoQ.stable rfl (oblk (i := 7) 0 hO rfl rfl Try.underlying27 rfl rfl) rfl rfl ?_
     replace eH := (eH.ch Z15).ch qM.ch
     have hobt := rowlend 7 hO rfl eH
     obtain ⟨VQ, VR⟩ := hobt
     have hOc166 := hO.drop 7
     replace ah := (ah.ch Z15).ch qM.ch
     refine GoQ.call rfl (op_call body71 (show ([.slice p72 n74 c73, .slice aG e.Rules.length aH] : List Value) = [.slice p72 d_69.length c73, .slice aG e.Rules.length aH] from by rw [← VR]) (walk_slices_Equal_api_Rule hOc166.lt VQ (ah.ch (Owns.dropCh _ _ 7)) H)) (fun v w hr => by obtain ⟨_, _, hs, _⟩ := hr; assumption) rfl rfl ?_
     rintro Y1 PK ⟨r167, rfl, Lg, H⟩
     have ft := Stp.same hO Lg
     replace hO := ft.own
     refine GoQ.pure rfl (op_pickT rfl rfl rfl) rfl rfl ?_
     refine GoQ.pure rfl (op_assign rfl) rfl rfl ?_
     refine GoQ.nil ?_
     refine Go1.ret1V Try.func68 rfl (show _ = .bool r167 from rfl) ?_
     refine hR116 _ _ ?_
     refine za rfl (za rfl (zn ?_))
     replace hO := hO.drop 0
     have Z21 := ft.ch.trans (Owns.dropCh _ _ 0)
     replace eH := eH.ch Z21
     replace ah := ah.ch Z21
     have Z22 := (qM.ch.trans ft.ch).trans (Owns.dropCh _ _ 0)
     replace eG := eG.ch Z22
     replace ag := ag.ch Z22
     have Z23 := ((dT.ch.trans qM.ch).trans ft.ch).trans (Owns.dropCh _ _ 0)
     replace eF := eF.ch Z23
     replace aj := aj.ch Z23
     have Z24 := (((gl.ch.trans dT.ch).trans qM.ch).trans ft.ch).trans (Owns.dropCh _ _ 0)
     replace eC := eC.ch Z24
     replace ae := ae.ch Z24
     have Z25 := ((((qL.ch.trans gl.ch).trans dT.ch).trans qM.ch).trans ft.ch).trans (Owns.dropCh _ _ 0)
     replace eo := eo.ch Z25
     replace af := af.ch Z25
     have Z26 := ((Z15.trans qM.ch).trans ft.ch).trans (Owns.dropCh _ _ 0)
     replace eP := eP.ch Z26
     replace eQ := eQ.ch Z26
     replace bE := bE.ch Z26
     replace b5 := b5.ch Z26
     replace ak := ak.ch Z26
     replace hB := ((((((((hB.trans uc.fr).trans qJ.fr).trans qK.fr).trans qL.fr).trans gl.fr).trans dT.fr).trans qM.fr).trans ft.fr).trans (Owns.dropFr _ _ 0)
     dsimp only [eS, eZ] at hB hO ak af ae aj ag ah eP eo eC eF eG eH eQ bE b5
     replace hO := hO.drop 11
     replace ak := ak.ch (Owns.dropCh _ _ 11)
     replace af := af.ch (Owns.dropCh _ _ 11)
     replace ae := ae.ch (Owns.dropCh _ _ 11)
     replace aj := aj.ch (Owns.dropCh _ _ 11)
     replace ag := ag.ch (Owns.dropCh _ _ 11)
     replace ah := ah.ch (Owns.dropCh _ _ 11)
     replace eP := eP.ch (Owns.dropCh _ _ 11)
     replace eo := eo.ch (Owns.dropCh _ _ 11)
     replace eC := eC.ch (Owns.dropCh _ _ 11)
     replace eF := eF.ch (Owns.dropCh _ _ 11)
     replace eG := eG.ch (Owns.dropCh _ _ 11)
     replace eH := eH.ch (Owns.dropCh _ _ 11)
     replace eQ := eQ.ch (Owns.dropCh _ _ 11)
     replace bE := bE.ch (Owns.dropCh _ _ 11)
     replace b5 := b5.ch (Owns.dropCh _ _ 11)
     replace hB := hB.trans (Owns.dropFr _ _ 11)
     dsimp only [eS, eZ] at hB hO ak af ae aj ag ah eP eo eC eF eG eH eQ bE b5
     refine Go1.ret2 Try.func53 rfl ?_
     exact Or.inr ⟨(⟨(⟨k2_36, b2_37, d_39, d_45, d_51, d_57, d_63, d_69, k2_38⟩ : Enum), m2_93, d_75, d_81, d_87⟩ : run), r167, eW, n44, p42, c43, nT, n50, p48, c49, nU, n56, p54, c55, nV, n62, p60, c61, nW, n68, p66, c67, nX, n74, p72, c73, nY, ap, n80, p78, c79, n7, n86, p84, c85, gv, n92, p90, c91, gw, rfl, hB.same, hO, eP, eo, eC, eF, eG, eH, eQ, bE, b5, H⟩
    replace H := ifn Mh H
    refine GoQ.pure rfl (fun w => opB (op_eql rfl rfl w) (decide_eq_false Mh)) rfl rfl ?_
    refine GoQ.pure rfl (op_pickT rfl rfl rfl) rfl rfl ?_
    refine GoQ.pure rfl (op_move rfl) rfl rfl ?_
    refine GoQ.pass rfl rfl rfl ?_
    refine GoQ.pass rfl rfl rfl ?_
    refine GoQ.pass rfl rfl rfl ?_
    refine GoQ.pass rfl rfl rfl ?_
    refine GoQ.pass rfl rfl rfl ?_
    refine GoQ.pass rfl rfl rfl ?_
    refine GoQ.pass rfl rfl rfl ?_
    refine GoQ.pass rfl rfl rfl ?_
    refine GoQ.pure rfl (op_pickF rfl rfl rfl) rfl rfl ?_
    refine GoQ.pure rfl (op_move rfl) rfl rfl ?_
    refine GoQ.pass rfl rfl rfl ?_
    refine GoQ.pass rfl rfl rfl ?_
    refine GoQ.pass rfl rfl rfl ?_
    refine GoQ.pass rfl rfl rfl ?_
    refine GoQ.pass rfl rfl rfl ?_
    refine GoQ.pass rfl rfl rfl ?_
    refine GoQ.pass rfl rfl rfl ?_
    refine GoQ.pass rfl rfl rfl ?_
    refine GoQ.pure rfl (op_pickF rfl rfl rfl) rfl rfl ?_
    refine GoQ.pure rfl (op_move rfl) rfl rfl ?_
    refine GoQ.pass rfl rfl rfl ?_
    refine GoQ.pass rfl rfl rfl ?_
    refine GoQ.pass rfl rfl rfl ?_
    refine GoQ.pass rfl rfl rfl ?_
    refine GoQ.pass rfl rfl rfl ?_
    refine GoQ.pass rfl rfl rfl ?_
    refine GoQ.pass rfl rfl rfl ?_
    refine GoQ.pass rfl rfl rfl ?_
    refine GoQ.pure rfl (op_pickF rfl rfl rfl) rfl rfl ?_
    refine GoQ.pure rfl (op_move rfl) rfl rfl ?_
    refine GoQ.pass rfl rfl rfl ?_
    refine GoQ.pass rfl rfl rfl ?_
    refine GoQ.pass rfl rfl rfl ?_
    refine GoQ.pass rfl rfl rfl ?_
    refine GoQ.pass rfl rfl rfl ?_
    refine GoQ.pass rfl rfl rfl ?_
    refine GoQ.pass rfl rfl rfl ?_
    refine GoQ.pass rfl rfl rfl ?_
    refine GoQ.pure rfl (op_pickF rfl rfl rfl) rfl rfl ?_
    refine GoQ.pure rfl (op_move rfl) rfl rfl ?_
    refine GoQ.pass rfl rfl rfl ?_
    refine GoQ.pass rfl rfl rfl ?_
    refine GoQ.pass rfl rfl rfl ?_
    refine GoQ.pass rfl rfl rfl ?_
    refine GoQ.pass rfl rfl rfl ?_
    refine GoQ.pass rfl rfl rfl ?_
    refine GoQ.pass rfl rfl rfl ?_
    refine GoQ.pass rfl rfl rfl ?_
    refine GoQ.pure rfl (op_pickF rfl rfl rfl) rfl rfl ?_
    refine GoQ.pure rfl (op_assign rfl) rfl rfl ?_
    refine GoQ.nil ?_
    refine Go1.ret1V Try.func68 rfl (show _ = .bool false from rfl) ?_
    refine hR116 _ _ ?_
    refine za rfl (za rfl (zn ?_))
    replace hO := hO.drop 0
    have Z27 := ((uc.ch.trans qJ.ch).trans qK.ch).trans (Owns.dropCh _ _ 0)
    replace eP := eP.ch Z27
    replace eo := eo.ch Z27
    replace eC := eC.ch Z27
    replace eF := eF.ch Z27
    replace eG := eG.ch Z27
    replace eH := eH.ch Z27
    replace eQ := eQ.ch Z27
    replace bE := bE.ch Z27
    replace b5 := b5.ch Z27
    replace ak := ak.ch Z27
    replace af := af.ch Z27
    replace ae := ae.ch Z27
    replace aj := aj.ch Z27
    replace ag := ag.ch Z27
    replace ah := ah.ch Z27
    replace hB := (((hB.trans uc.fr).trans qJ.fr).trans qK.fr).trans (Owns.dropFr _ _ 0)
    dsimp only [eS, eZ] at hB hO ak af ae aj ag ah eP eo eC eF eG eH eQ bE b5
    replace hO := hO.drop 11
    replace ak := ak.ch (Owns.dropCh _ _ 11)
    replace af := af.ch (Owns.dropCh _ _ 11)
    replace ae := ae.ch (Owns.dropCh _ _ 11)
    replace aj := aj.ch (Owns.dropCh _ _ 11)
    replace ag := ag.ch (Owns.dropCh _ _ 11)
    replace ah := ah.ch (Owns.dropCh _ _ 11)
    replace eP := eP.ch (Owns.dropCh _ _ 11)
    replace eo := eo.ch (Owns.dropCh _ _ 11)
    replace eC := eC.ch (Owns.dropCh _ _ 11)
    replace eF := eF.ch (Owns.dropCh _ _ 11)
    replace eG := eG.ch (Owns.dropCh _ _ 11)
    replace eH := eH.ch (Owns.dropCh _ _ 11)
    replace eQ := eQ.ch (Owns.dropCh _ _ 11)
    replace bE := bE.ch (Owns.dropCh _ _ 11)
    replace b5 := b5.ch (Owns.dropCh _ _ 11)
    replace hB := hB.trans (Owns.dropFr _ _ 11)
    dsimp only [eS, eZ] at hB hO ak af ae aj ag ah eP eo eC eF eG eH eQ bE b5
    refine Go1.ret2 Try.func53 rfl ?_
    exact Or.inr ⟨(⟨(⟨k2_36, b2_37, d_39, d_45, d_51, d_57, d_63, d_69, k2_38⟩ : Enum), m2_93, d_75, d_81, d_87⟩ : run), false, eW, n44, p42, c43, nT, n50, p48, c49, nU, n56, p54, c55, nV, n62, p60, c61, nW, n68, p66, c67, nX, n74, p72, c73, nY, ap, n80, p78, c79, n7, n86, p84, c85, gv, n92, p90, c91, gw, rfl, hB.same, hO, eP, eo, eC, eF, eG, eH, eQ, bE, b5, H⟩
   replace H := ifn Mg H
   refine GoQ.pure rfl (fun w => opB (op_eql rfl rfl w) (decide_eq_false Mg)) rfl rfl ?_
   refine GoQ.pure rfl (op_move rfl) rfl rfl ?_
   refine GoQ.pass rfl rfl rfl ?_
   refine GoQ.pass rfl rfl rfl ?_
   refine GoQ.pass rfl rfl rfl ?_
   refine GoQ.pass rfl rfl rfl ?_
   refine GoQ.pass rfl rfl rfl ?_
   refine GoQ.pass rfl rfl rfl ?_
   refine GoQ.pass rfl rfl rfl ?_
   refine GoQ.pass rfl rfl rfl ?_
   refine GoQ.pure rfl (op_pickF rfl rfl rfl) rfl rfl ?_
   refine GoQ.pure rfl (op_move rfl) rfl rfl ?_
   refine GoQ.pass rfl rfl rfl ?_
   refine GoQ.pass rfl rfl rfl ?_
   refine GoQ.pass rfl rfl rfl ?_
   refine GoQ.pass rfl rfl rfl ?_
   refine GoQ.pass rfl rfl rfl ?_
   refine GoQ.pass rfl rfl rfl ?_
   refine GoQ.pass rfl rfl rfl ?_
   refine GoQ.pass rfl rfl rfl ?_
   refine GoQ.pure rfl (op_pickF rfl rfl rfl) rfl rfl ?_
   refine GoQ.pure rfl (op_move rfl) rfl rfl ?_
   refine GoQ.pass rfl rfl rfl ?_
   refine GoQ.pass rfl rfl rfl ?_
   refine GoQ.pass rfl rfl rfl ?_
   refine GoQ.pass rfl rfl rfl ?_
   refine GoQ.pass rfl rfl rfl ?_
   refine GoQ.pass rfl rfl rfl ?_
   refine GoQ.pass rfl rfl rfl ?_
   refine GoQ.pass rfl rfl rfl ?_
   refine GoQ.pure rfl (op_pickF rfl rfl rfl) rfl rfl ?_
   refine GoQ.pure rfl (op_move rfl) rfl rfl ?_
   refine GoQ.pass rfl rfl rfl ?_
   refine GoQ.pass rfl rfl rfl ?_
   refine GoQ.pass rfl rfl rfl ?_
   refine GoQ.pass rfl rfl rfl ?_
   refine GoQ.pass rfl rfl rfl ?_
   refine GoQ.pass rfl rfl rfl ?_
   refine GoQ.pass rfl rfl rfl ?_
   refine GoQ.pass rfl rfl rfl ?_
   refine GoQ.pure rfl (op_pickF rfl rfl rfl) rfl rfl ?_
   refine GoQ.pure rfl (op_move rfl) rfl rfl ?_
   refine GoQ.pass rfl rfl rfl ?_
   refine GoQ.pass rfl rfl rfl ?_
   refine GoQ.pass rfl rfl rfl ?_
   refine GoQ.pass rfl rfl rfl ?_
   refine GoQ.pass rfl rfl rfl ?_
   refine GoQ.pass rfl rfl rfl ?_
   refine GoQ.pass rfl rfl rfl ?_
   refine GoQ.pass rfl rfl rfl ?_
   refine GoQ.pure rfl (op_pickF rfl rfl rfl) rfl rfl ?_
   refine GoQ.pure rfl (op_move rfl) rfl rfl ?_
   refine GoQ.pass rfl rfl rfl ?_
   refine GoQ.pass rfl rfl rfl ?_
   refine GoQ.pass rfl rfl rfl ?_
   refine GoQ.pass rfl rfl rfl ?_
   refine GoQ.pass rfl rfl rfl ?_
   refine GoQ.pass rfl rfl rfl ?_
   refine GoQ.pass rfl rfl rfl ?_
   refine GoQ.pass rfl rfl rfl ?_
   refine GoQ.pure rfl (op_pickF rfl rfl rfl) rfl rfl ?_
   refine GoQ.pure rfl (op_assign rfl) rfl rfl ?_
   refine GoQ.nil ?_
   refine Go1.ret1V Try.func68 rfl (show _ = .bool false from rfl) ?_
   refine hR116 _ _ ?_
   refine za rfl (za rfl (zn ?_))
   replace hO := hO.drop 0
   have Z28 := ((uc.ch.trans qJ.ch).trans qK.ch).trans (Owns.dropCh _ _ 0)
   replace eP := eP.ch Z28
   replace eo := eo.ch Z28
   replace eC := eC.ch Z28
   replace eF := eF.ch Z28
   replace eG := eG.ch Z28
   replace eH := eH.ch Z28
   replace eQ := eQ.ch Z28
   replace bE := bE.ch Z28
   replace b5 := b5.ch Z28
   replace ak := ak.ch Z28
   replace af := af.ch Z28
   replace ae := ae.ch Z28
   replace aj := aj.ch Z28
   replace ag := ag.ch Z28
   replace ah := ah.ch Z28
   replace hB := (((hB.trans uc.fr).trans qJ.fr).trans qK.fr).trans (Owns.dropFr _ _ 0)
   dsimp only [eS, eZ] at hB hO ak af ae aj ag ah eP eo eC eF eG eH eQ bE b5
   replace hO := hO.drop 11
   replace ak := ak.ch (Owns.dropCh _ _ 11)
   replace af := af.ch (Owns.dropCh _ _ 11)
   replace ae := ae.ch (Owns.dropCh _ _ 11)
   replace aj := aj.ch (Owns.dropCh _ _ 11)
   replace ag := ag.ch (Owns.dropCh _ _ 11)
   replace ah := ah.ch (Owns.dropCh _ _ 11)
   replace eP := eP.ch (Owns.dropCh _ _ 11)
   replace eo := eo.ch (Owns.dropCh _ _ 11)
   replace eC := eC.ch (Owns.dropCh _ _ 11)
   replace eF := eF.ch (Owns.dropCh _ _ 11)
   replace eG := eG.ch (Owns.dropCh _ _ 11)
   replace eH := eH.ch (Owns.dropCh _ _ 11)
   replace eQ := eQ.ch (Owns.dropCh _ _ 11)
   replace bE := bE.ch (Owns.dropCh _ _ 11)
   replace b5 := b5.ch (Owns.dropCh _ _ 11)
   replace hB := hB.trans (Owns.dropFr _ _ 11)
   dsimp only [eS, eZ] at hB hO ak af ae aj ag ah eP eo eC eF eG eH eQ bE b5
   refine Go1.ret2 Try.func53 rfl ?_
   exact Or.inr ⟨(⟨(⟨k2_36, b2_37, d_39, d_45, d_51, d_57, d_63, d_69, k2_38⟩ : Enum), m2_93, d_75, d_81, d_87⟩ : run), false, eW, n44, p42, c43, nT, n50, p48, c49, nU, n56, p54, c55, nV, n62, p60, c61, nW, n68, p66, c67, nX, n74, p72, c73, nY, ap, n80, p78, c79, n7, n86, p84, c85, gv, n92, p90, c91, gw, rfl, hB.same, hO, eP, eo, eC, eF, eG, eH, eQ, bE, b5, H⟩
  replace H := ifn h34 H
  refine zo (fun w => opB (op_neq rfl rfl w) (ndF h34)) (zn (zt rfl rfl (zq ?_)))
  refine Go1.cut [] trivial ?_
  intro σ _
  refine zr (za rfl (za rfl (zn ?_)))
  refine Go1.ret2 Try.func53 rfl ?_
  replace hB := (hB.trans cQ.fr).trans d9.fr
  exact Or.inl ⟨false, rfl, hB.same, H⟩
theorem body29 : Body Try.prog 29 := ⟨Try.f29, Try.func29, rfl, by kernel_rfl⟩
theorem walk_enumerate_Word {A : List Nat} {w0 : World} {a8 : Option Addr} {a9 : Nat} {aC : Option Addr} {aD : Nat} {av : Option Addr} {aw : Nat} {aY : Option Addr} {a7 : Nat} {aE : Option Addr} {aF : Nat} {aG : Option Addr} {aH : Nat} {e : Enum} {i : Int} (hA : ∀ b ∈ A, b < w0.heap.size) (ak : ISl (Rp.sl (Rp.int .i64)) A w0 a8 a9 e.Gens) (af : ISl (Rp.sl (Rp.int .i64)) A w0 aC aD e.Elems) (ae : ISl (Rp.int .i64) A w0 av aw e.Prefix) (aj : ISl (Rp.int .i64) A w0 aY a7 e.Last) (ag : ISl (Rp.sl (Rp.int .i64)) A w0 aE aF e.Right) (ah : ISl (rpRule) A w0 aG aH e.Rules) {K : Str → Prop} (H : enumerate_Word e i K) :
    CallsV Try.prog 29 #[.agg #[.int .i64 e.Points, .bool e.Monoid, .slice a8 e.Gens.length a9, .slice aC e.Elems.length aD, .slice av e.Prefix.length aw, .slice aY e.Last.length a7, .slice aE e.Right.length aF, .slice aG e.Rules.length aH, .int .i64 e.Done], .int .i64 i] w0 (fun v w' => ∃ (r0 : Str), v = .string (gstr r0) ∧ Same w0 w' ∧ r0.length ≤ mx ∧ K r0) := by
 refine CallsV.of (l := [.agg #[.int .i64 e.Points, .bool e.Monoid, .slice a8 e.Gens.length a9, .slice aC e.Elems.length aD, .slice av e.Prefix.length aw, .slice aY e.Last.length a7, .slice aE e.Right.length aF, .slice aG e.Rules.length aH, .int .i64 e.Done], .int .i64 i]) Try.func29 rfl Try.ntmps29 rfl ?_
 have hO := Owns.start hA
 have hB := Fr.refl (bl []) w0
 unfold enumerate_Word at H
 refine zq (zr ?_)
 have hobt := obox (t := 29) (v := .agg #[.int .i64 e.Points, .bool e.Monoid, .slice a8 e.Gens.length a9, .slice aC e.Elems.length aD, .slice av e.Prefix.length aw, .slice aY e.Last.length a7, .slice aE e.Right.length aF, .slice aG e.Rules.length aH, .int .i64 e.Done]) (cs := #[.int .i64 e.Points, .bool e.Monoid, .slice a8 e.Gens.length a9, .slice aC e.Elems.length aD, .slice av e.Prefix.length aw, .slice aY e.Last.length a7, .slice aE e.Right.length aF, .slice aG e.Rules.length aH, .int .i64 e.Done]) hO rfl
 obtain ⟨w1, B2, cQ, hs4, rh⟩ := hobt
 refine zg (rh rfl) ?_
 replace hO := cQ.own
 refine za rfl (zn (zq (zr (zs (oblkAgg (vs := [.int .i64 e.Points, .bool e.Monoid, .slice a8 e.Gens.length a9, .slice aC e.Elems.length aD, .slice av e.Prefix.length aw, .slice aY e.Last.length a7, .slice aE e.Right.length aF, .slice aG e.Rules.length aH, .int .i64 e.Done]) (i := 0) 0 hO rfl rfl Try.underlying29 rfl ti29 rfl) ?_))))
 have Z1 := (Ch.start A w0).trans cQ.ch
 replace ak := ak.ch Z1
 replace af := af.ch Z1
 replace ae := ae.ch Z1
 replace aj := aj.ch Z1
 replace ag := ag.ch Z1
 replace ah := ah.ch Z1
 refine GoR.call (op_call body53 rfl (walk_enumerate_replay (e := e) hO.lt ak af ae aj ag ah H)) rfl rfl ?_
 intro v9 w10 hcase13
 refine Or.elim hcase13 ?_ ?_
 ·refine exE fun r8 => andE fun hv14 => andE fun u3 => fun H => ?_
  subst hv14
  clear hcase13
  replace H := oElimN H
  have gq := Stp.same hO u3
  replace hO := gq.own
  refine zm rfl (zo (op_extract rfl rfl) (zo (op_extract rfl rfl) (za rfl (za rfl (zn ?_)))))
  refine zq (zq (zr (zm rfl ?_)))
  cases r8
  ·replace H := ifn Bool.false_ne_true H
   refine zo (op_not rfl) (zm rfl (zp (zp (zo (op_pickT rfl rfl rfl) (zm rfl ?_)))))
   refine zp (zp (zp (zp (zp (zp ?_)))))
   refine zp (zp (zo (op_pickT rfl rfl rfl) (zn (zt rfl rfl (zq ?_)))))
   refine Go1.cut [] trivial ?_
   intro σ _
   refine zr (za rfl (zn ?_))
   refine Go1.ret1 Try.func29 rfl ?_
   replace hB := (hB.trans cQ.fr).trans gq.fr
   exact ⟨([] : Str), rfl, hB.same, (by decide), H⟩
  replace H := ifp rfl H
  refine zo (op_not rfl) (zm rfl (zm rfl ?_))
  by_cases h16 : i < (0 : Int)
  ·replace H := ifp h16 H
   refine zo (fun w => opB (op_lss rfl rfl w) (decide_eq_true h16)) (zo (op_pickF rfl rfl rfl) (zm rfl (zp (zp (zp ?_)))))
   refine zp (zp (zp (zp (zp (zo (op_pickT rfl rfl rfl) ?_)))))
   refine zn (zt rfl rfl (zq (zr (za rfl (zn ?_)))))
   refine Go1.ret1 Try.func29 rfl ?_
   replace hB := (hB.trans cQ.fr).trans gq.fr
   exact ⟨([] : Str), rfl, hB.same, (by decide), H⟩
  replace H := ifn h16 H
  refine zo (fun w => opB (op_lss rfl rfl w) (decide_eq_false h16)) (zo (op_pickF rfl rfl rfl) (zm rfl (zm rfl (zm rfl ?_))))
  exact H.elim
 ·refine exE fun r7 => exE fun r8 => exE fun eW => exE fun lh => exE fun iw => exE fun iA => exE fun ra => exE fun j8 => exE fun gH => exE fun gI => exE fun qi => exE fun ji => exE fun gm => exE fun gn => exE fun po => exE fun li => exE fun iB => exE fun iC => exE fun rb => exE fun j9 => exE fun gJ => exE fun gK => exE fun qj => exE fun ka => exE fun gL => exE fun gM => exE fun qk => exE fun ap => exE fun x4 => exE fun x5 => exE fun x6 => exE fun wN => exE fun wO => exE fun wP => exE fun wQ => exE fun u4 => exE fun wR => exE fun wS => exE fun wT => exE fun u5 => andE fun hv17 => andE fun u3 => andE fun hN12 => andE fun cR => andE fun cp => andE fun bV => andE fun cf => andE fun bN => andE fun bC => andE fun cz => andE fun cD => andE fun cE => fun H => ?_
  subst hv17
  clear hcase13
  replace H := oElimS H
  have mO := Stp.more hO u3 hN12
  dsimp only [List.cons_append, List.nil_append] at mO
  replace hO := mO.own
  replace cR := cR.ch (Ch.assoc _ _ _ _)
  dsimp only [List.cons_append, List.nil_append] at cR
  replace cp := cp.ch (Ch.assoc _ _ _ _)
  dsimp only [List.cons_append, List.nil_append] at cp
  replace bV := bV.ch (Ch.assoc _ _ _ _)
  dsimp only [List.cons_append, List.nil_append] at bV
  replace cf := cf.ch (Ch.assoc _ _ _ _)
  dsimp only [List.cons_append, List.nil_append] at cf
  replace bN := bN.ch (Ch.assoc _ _ _ _)
  dsimp only [List.cons_append, List.nil_append] at bN
  replace bC := bC.ch (Ch.assoc _ _ _ _)
  dsimp only [List.cons_append, List.nil_append] at bC
  replace cz := cz.ch (Ch.assoc _ _ _ _)
  dsimp only [List.cons_append, List.nil_append] at cz
  replace cD := cD.ch (Ch.assoc _ _ _ _)
  dsimp only [List.cons_append, List.nil_append] at cD
  replace cE := cE.ch (Ch.assoc _ _ _ _)
  dsimp only [List.cons_append, List.nil_append] at cE
  refine zm rfl (zo (op_extract rfl rfl) (zo (op_extract rfl rfl) (za rfl (za rfl (zn ?_)))))
  refine zq (zq ?_)
  refine Go1.cut [(1, .int .i64 i), (5, .pointer (some ⟨eW, 0, none⟩)), (6, .bool r8)] ⟨rfl, rfl, rfl, trivial⟩ ?_
  intro σ _
  refine zr (zm rfl ?_)
  cases r8
  ·replace H := ifn Bool.false_ne_true H
   refine zo (op_not rfl) (zm rfl (zp (zp (zo (op_pickT rfl rfl rfl) (zm rfl ?_)))))
   refine zp (zp (zp (zp (zp (zp ?_)))))
   refine zp (zp (zo (op_pickT rfl rfl rfl) (zn (zt rfl rfl (zq ?_)))))
   refine zr (za rfl (zn ?_))
   refine Go1.ret1 Try.func29 rfl ?_
   replace hB := (hB.trans cQ.fr).trans mO.fr
   exact ⟨([] : Str), rfl, hB.same, (by decide), H⟩
  replace H := ifp rfl H
  refine zo (op_not rfl) (zm rfl (zm rfl ?_))
  by_cases h30 : i < (0 : Int)
  ·replace H := ifp h30 H
   refine zo (fun w => opB (op_lss rfl rfl w) (decide_eq_true h30)) (zo (op_pickF rfl rfl rfl) (zm rfl (zp (zp (zp ?_)))))
   refine zp (zp (zp (zp (zp (zo (op_pickT rfl rfl rfl) ?_)))))
   refine zn (zt rfl rfl (zq ?_))
   refine Go1.cut [] trivial ?_
   intro σ _
   refine zr (za rfl (zn ?_))
   refine Go1.ret1 Try.func29 rfl ?_
   replace hB := (hB.trans cQ.fr).trans mO.fr
   exact ⟨([] : Str), rfl, hB.same, (by decide), H⟩
  replace H := ifn h30 H
  refine zo (fun w => opB (op_lss rfl rfl w) (decide_eq_false h30)) (zo (op_pickF rfl rfl rfl) (zm rfl (zm rfl (zm rfl (zo (op_nilCheck rfl) ?_)))))
  refine zo (op_fieldAddr Try.underlying72 rfl ti29 rfl (by decide)) (zo (op_fieldAddr Try.underlying29 rfl ti22 rfl (by decide)) (zs (oblk (i := 3) 0 hO rfl rfl Try.underlying22 rfl rfl) (zo (op_lenN Try.underlying22 rfl (cp.neq hO 2 rfl)) ?_)))
  by_cases h31 : (r7.Enum.Elems.length : Int) ≤ i
  ·replace H := ifp h31 H
   refine zo (fun w => opB (op_geq rfl rfl w) (decide_eq_true h31)) (zo (op_pickF rfl rfl rfl) (zn (zt rfl rfl (zq (zr ?_)))))
   refine za rfl (zn ?_)
   refine Go1.ret1 Try.func29 rfl ?_
   replace hB := (hB.trans cQ.fr).trans mO.fr
   exact ⟨([] : Str), rfl, hB.same, (by decide), H⟩
  replace H := ifn h31 H
  refine zo (fun w => opB (op_geq rfl rfl w) (decide_eq_false h31)) (zo (op_pickF rfl rfl rfl) (zn (zf rfl rfl (zk (zq ?_)))))
  refine zr (zm rfl (zo (op_nilCheck rfl) (zo (op_fieldAddr Try.underlying72 rfl ti70 rfl (by decide)) (zs (oblk (i := 10) 0 hO rfl rfl Try.underlying70 rfl rfl) (zm rfl ?_)))))
  obtain ⟨h32, H⟩ := H
  obtain ⟨h33, H⟩ := H
  refine zo (op_index Try.underlying70 ti9 rfl rfl h32 (ltn (cz.neq hO 7 rfl) h33) (cz.psome hO 7 rfl h32 h33)) (zs (oldStr 7 hO rfl cz h32 h33 Try.underlying9 rfl rfl) ?_)
  have hle34 := Els.str_le cz h32 h33
  refine za rfl (zn ?_)
  refine Go1.ret1 Try.func29 rfl ?_
  replace hB := (hB.trans cQ.fr).trans mO.fr
  exact ⟨ix r7.words i, rfl, hB.same, hle34, H⟩
theorem body16 : Body Try.prog 16 := ⟨Try.f16, Try.func16, rfl, by kernel_rfl⟩
theorem walk_law12_awake {A : List Nat} {w0 : World} (hA : ∀ b ∈ A, b < w0.heap.size) {K : Bool → Prop} (H : law12_awake  K) :
    CallsV Try.prog 16 #[] w0 (fun v w' => ∃ (r0 : Bool), v = .bool r0 ∧ Same w0 w' ∧ K r0) := by
 refine CallsV.of (l := []) Try.func16 rfl Try.ntmps16 rfl ?_
 have hO := Owns.start hA
 have hB := Fr.refl (bl []) w0
 unfold law12_awake at H
 refine zq (zr (za rfl (zn (zq (zr ?_)))))
 have hobt := obuild (r := Rp.int .i64) (n := 2) (parts := [(0, .int .i64 (1 : Int)), (1, .int .i64 (0 : Int))]) (vs := [.int .i64 (1 : Int), .int .i64 (0 : Int)]) (xs := [(1 : Int), (0 : Int)]) rfl Try.underlying26 ti3 hO (by decide) (by kernel_rfl) (Els.cons rfl rfl (Els.cons rfl rfl (Els.nil _ _ _) (by simp [mx])) (by simp [mx])) rfl
 obtain ⟨w1, p2, cQ, hE4, hs5, abm⟩ := hobt
 refine zg (abm rfl) ?_
 replace hO := cQ.own
 have hobt := obuild (r := Rp.int .i64) (n := 2) (parts := [(0, .int .i64 (0 : Int)), (1, .int .i64 (0 : Int))]) (vs := [.int .i64 (0 : Int), .int .i64 (0 : Int)]) (xs := [(0 : Int), (0 : Int)]) rfl Try.underlying26 ti3 hO (by decide) (by kernel_rfl) (Els.cons rfl rfl (Els.cons rfl rfl (Els.nil _ _ _) (by simp [mx])) (by simp [mx])) rfl
 obtain ⟨w8, p9, yY, Oi, Nj, Ld⟩ := hobt
 refine zg (Ld rfl) ?_
 replace hO := yY.own
 replace hE4 := hE4.ch yY.ch
 have hobt := freeze 1 hO rfl hE4
 obtain ⟨hO1, abn, mE, abo⟩ := hobt
 replace hO := hO1; clear hO1
 replace Oi := Oi.ch abn
 have hobt := freeze 0 hO rfl Oi
 obtain ⟨hO1, abp, xL, abq⟩ := hobt
 replace hO := hO1; clear hO1
 replace mE := mE.ch abp
 have hobt := obuild (r := Rp.sl (Rp.int .i64)) (n := 2) (parts := [(0, .slice p2 2 2), (1, .slice p9 2 2)]) (vs := [.slice p2 2 2, .slice p9 2 2]) (xs := [[(1 : Int), (0 : Int)], [(0 : Int), (0 : Int)]]) rfl Try.underlying22 ti26 hO (by decide) (by kernel_rfl) (Els.cons rfl ⟨p2, 2, congrArg some (congrArg (fun nn => Value.slice p2 nn 2) abo), mE⟩ (Els.cons rfl ⟨p9, 2, congrArg some (congrArg (fun nn => Value.slice p9 nn 2) abq), xL⟩ (Els.nil _ _ _) (by simp [mx])) (by simp [mx])) rfl
 obtain ⟨w21, p22, iD, cH, JB, Le⟩ := hobt
 refine zg (Le rfl) ?_
 replace hO := iD.own
 have hobt := freeze 0 hO rfl cH
 obtain ⟨hO1, KN, Cr, Oj⟩ := hobt
 replace hO := hO1; clear hO1
 refine GoR.call (op_call body17 (show ([.slice p22 2 2, .bool true] : List Value) = [.slice p22 ([[(1 : Int), (0 : Int)], [(0 : Int), (0 : Int)]]).length 2, .bool true] from by rw [← Oj]) (walk_enumerate_Build hO.lt Cr H)) rfl rfl ?_
 rintro v36 w33 ⟨r31, r32, Gr, Gs, EC, ED, Cs, Ct, Gt, Gu, EE, EF, EG, EH, rfl, Ok, vQ, sd, sB, vR, uv, se, H⟩
 have vS := Stp.same hO Ok
 replace hO := vS.own
 refine zm rfl (zo (op_extract rfl rfl) (zo (op_extract rfl rfl) ?_))
 have hobt := oalloc (t := 29) (cs := #[.int .i64 (0 : Int), .bool false, .slice none 0 0, .slice none 0 0, .slice none 0 0, .slice none 0 0, .slice none 0 0, .slice none 0 0, .int .i64 (0 : Int)]) ti29 hO rfl
 obtain ⟨w38, B39, mQ, RA, VS⟩ := hobt
 refine GoR.op VS rfl rfl ?_
 replace hO := mQ.own
 have hobt := oblkStAgg (us := [.int .i64 r31.Points, .bool r31.Monoid, .slice Gr r31.Gens.length Gs, .slice EC r31.Elems.length ED, .slice Cs r31.Prefix.length Ct, .slice Gt r31.Last.length Gu, .slice EE r31.Right.length EF, .slice EG r31.Rules.length EH, .int .i64 r31.Done]) (o := 0) (cs' := #[.int .i64 r31.Points, .bool r31.Monoid, .slice Gr r31.Gens.length Gs, .slice EC r31.Elems.length ED, .slice Cs r31.Prefix.length Ct, .slice Gt r31.Last.length Gu, .slice EE r31.Right.length EF, .slice EG r31.Rules.length EH, .int .i64 r31.Done]) 0 hO rfl rfl (Nat.le_of_ble_eq_true rfl) rfl
 obtain ⟨w44, zP, VU⟩ := hobt
 refine zg (VU ti29 (by exact rfl) (by exact rfl) rfl) ?_
 replace hO := zP.own
 refine za rfl (zn (zq (zr (zm rfl ?_))))
 by_cases h47 : r32 = (0 : Int)
 ·replace H := ifp h47 H
  refine zo (fun w => opB (op_eql rfl rfl w) (decide_eq_true h47)) (zm rfl (zo (op_fieldAddr Try.underlying29 rfl ti22 rfl (by decide)) (zs (oblk (i := 3) 0 hO rfl rfl Try.underlying22 rfl rfl) (zo (op_len Try.underlying22 rfl) ?_))))
  replace sd := (sd.ch mQ.ch).ch zP.ch
  replace H := H sd.bd
  by_cases h48 : (r31.Elems.length : Int) = (4 : Int)
  ·replace H := ifp h48 H
   refine zo (fun w => opB (op_eql rfl rfl w) (decide_eq_true h48)) (zo (op_pickT rfl rfl rfl) (zm rfl (zo (op_fieldAddr Try.underlying29 rfl ti27 rfl (by decide)) (zs (oblk (i := 7) 0 hO rfl rfl Try.underlying27 rfl rfl) (zo (op_len Try.underlying27 rfl) ?_)))))
   replace se := (se.ch mQ.ch).ch zP.ch
   replace H := H se.bd
   by_cases h49 : (r31.Rules.length : Int) = (3 : Int)
   ·replace H := ifp h49 H
    refine zo (fun w => opB (op_eql rfl rfl w) (decide_eq_true h49)) (zo (op_pickT rfl rfl rfl) (zm rfl (zs (oblkAgg (vs := [.int .i64 r31.Points, .bool r31.Monoid, .slice Gr r31.Gens.length Gs, .slice EC r31.Elems.length ED, .slice Cs r31.Prefix.length Ct, .slice Gt r31.Last.length Gu, .slice EE r31.Right.length EF, .slice EG r31.Rules.length EH, .int .i64 r31.Done]) (i := 0) 0 hO rfl rfl Try.underlying29 rfl ti29 rfl) ?_)))
    have Z1 := mQ.ch.trans zP.ch
    replace vQ := vQ.ch Z1
    replace sB := sB.ch Z1
    replace vR := vR.ch Z1
    replace uv := uv.ch Z1
    refine GoR.call (op_call body29 rfl (walk_enumerate_Word (e := r31) hO.lt vQ sd sB vR uv se H)) rfl rfl ?_
    rintro v54 w51 ⟨r50, rfl, Ol, acV, H⟩
    have zQ := Stp.same hO Ol
    replace hO := zQ.own
    by_cases h56 : r50 = (([98, 97] : Str))
    ·replace H := ifp h56 H
     refine zo (fun w => opB (op_eqlS rfl rfl w) (decide_eq_true h56)) (zo (op_pickT rfl rfl rfl) (za rfl (zn ?_)))
     refine Go1.ret1 Try.func16 rfl ?_
     replace hB := (((((((((hB.trans cQ.fr).trans yY.fr).trans (Owns.dropFr _ _ 1)).trans (Owns.dropFr _ _ 0)).trans iD.fr).trans (Owns.dropFr _ _ 0)).trans vS.fr).trans mQ.fr).trans zP.fr).trans zQ.fr
     exact ⟨true, rfl, hB.same, H⟩
    replace H := ifn h56 H
    refine zo (fun w => opB (op_eqlS rfl rfl w) (decide_eq_false h56)) (zo (op_pickT rfl rfl rfl) (za rfl (zn ?_)))
    refine Go1.ret1 Try.func16 rfl ?_
    replace hB := (((((((((hB.trans cQ.fr).trans yY.fr).trans (Owns.dropFr _ _ 1)).trans (Owns.dropFr _ _ 0)).trans iD.fr).trans (Owns.dropFr _ _ 0)).trans vS.fr).trans mQ.fr).trans zP.fr).trans zQ.fr
    exact ⟨false, rfl, hB.same, H⟩
   replace H := ifn h49 H
   refine zo (fun w => opB (op_eql rfl rfl w) (decide_eq_false h49)) (zo (op_pickT rfl rfl rfl) (zm rfl (zp (zp (zp ?_)))))
   refine zo (op_pickF rfl rfl rfl) (za rfl (zn ?_))
   refine Go1.ret1 Try.func16 rfl ?_
   replace hB := ((((((((hB.trans cQ.fr).trans yY.fr).trans (Owns.dropFr _ _ 1)).trans (Owns.dropFr _ _ 0)).trans iD.fr).trans (Owns.dropFr _ _ 0)).trans vS.fr).trans mQ.fr).trans zP.fr
   exact ⟨false, rfl, hB.same, H⟩
  replace H := ifn h48 H
  refine zo (fun w => opB (op_eql rfl rfl w) (decide_eq_false h48)) (zo (op_pickT rfl rfl rfl) (zm rfl (zp (zp (zp ?_)))))
  refine zp (zo (op_pickF rfl rfl rfl) (zm rfl (zp (zp (zp ?_)))))
  refine zo (op_pickF rfl rfl rfl) (za rfl (zn ?_))
  refine Go1.ret1 Try.func16 rfl ?_
  replace hB := ((((((((hB.trans cQ.fr).trans yY.fr).trans (Owns.dropFr _ _ 1)).trans (Owns.dropFr _ _ 0)).trans iD.fr).trans (Owns.dropFr _ _ 0)).trans vS.fr).trans mQ.fr).trans zP.fr
  exact ⟨false, rfl, hB.same, H⟩
 replace H := ifn h47 H
 refine zo (fun w => opB (op_eql rfl rfl w) (decide_eq_false h47)) (zm rfl (zp (zp (zp (zp ?_)))))
 refine zo (op_pickF rfl rfl rfl) (zm rfl (zp (zp (zp (zp ?_)))))
 refine zo (op_pickF rfl rfl rfl) (zm rfl (zp (zp (zp (zo (op_pickF rfl rfl rfl) ?_)))))
 refine za rfl (zn ?_)
 refine Go1.ret1 Try.func16 rfl ?_
 replace hB := ((((((((hB.trans cQ.fr).trans yY.fr).trans (Owns.dropFr _ _ 1)).trans (Owns.dropFr _ _ 0)).trans iD.fr).trans (Owns.dropFr _ _ 0)).trans vS.fr).trans mQ.fr).trans zP.fr
 exact ⟨false, rfl, hB.same, H⟩
theorem body24 : Body Try.prog 24 := ⟨Try.f24, Try.func24, rfl, by kernel_rfl⟩
theorem walk_ref03_Copy {A : List Nat} {w0 : World} {p_a : Option Addr} {c_a : Nat} {a : List (List Int)} (hA : ∀ b ∈ A, b < w0.heap.size) (h_a : ISl (Rp.sl (Rp.int .i64)) A w0 p_a c_a a) {K : List (List Int) → Prop} (H : ref03_Copy a K) :
    CallsV Try.prog 24 #[.slice p_a a.length c_a] w0 (fun v w' => ∃ (r0 : List (List Int)), ∃ (Jk : Nat), ∃ (wU : Option Addr), ∃ (wV : Nat), ∃ (VV : Hd), v = .slice wU Jk wV ∧ Same w0 w' ∧ Owns w0.heap.size w' [t2 (Fl.int .i64) 26 3 wU Jk wV VV r0] A ∧ K r0) := by
 refine CallsV.of (l := [.slice p_a a.length c_a]) Try.func24 rfl Try.ntmps24 rfl ?_
 have hO := Owns.start hA
 have hB := Fr.refl (bl []) w0
 unfold ref03_Copy at H
 refine zq (zr (za rfl (zn (zq (zr ?_)))))
 refine za rfl (zn (zq (zq (zr (zm rfl ?_)))))
 refine zo (op_len Try.underlying22 rfl) ?_
 replace h_a := h_a.ch (Ch.start A w0)
 replace H := H h_a.bd
 refine zm rfl (zn (zb ?_))
 have Om := t2nil (e := 26) (e' := 3) (Fl.int .i64) hO
 replace hO := Om.own
 replace h_a := h_a.ch Om.ch
 replace hB := hB.trans Om.fr
 refine Go1.loopW (S := Nat × List (List Int)) (fun s σ w => match s with | (k1_4, out1_5) => ∃ (n8 : Nat), ∃ (p6 : Option Addr), ∃ (c7 : Nat), ∃ (hs9 : Hd), agrees σ [(3, .slice p6 n8 c7), (6, .slice p_a a.length c_a), (7, .int .i64 (a.length : Int)), (8, .int .i64 (k1_4 : Int))] ∧ (fun Z0 => Owns w0.heap.size w Z0 A ∧ ISl (Rp.sl (Rp.int .i64)) (bl Z0 ++ A) w p_a c_a a ∧ Fr (bl []) w0 (bl Z0) w) [t2 (Fl.int .i64) 26 3 p6 n8 c7 hs9 out1_5]) H ⟨0, none, 0, (fun _ => (none, 0)), ⟨rfl, rfl, rfl, rfl, trivial⟩, hO, h_a, hB⟩ ?_
 intro X1
 refine prE fun k1_4 => fun out1_5 => ?_
 intro H hX1 σ w3
 refine exE fun n8 => exE fun p6 => exE fun c7 => exE fun hs9 => andE fun hag => andE fun hO => andE fun h_a => fun hB => ?_
 dsimp only at H
 refine Go1.keep [(3, .slice p6 n8 c7), (6, .slice p_a a.length c_a), (7, .int .i64 (a.length : Int)), (8, .int .i64 (k1_4 : Int))] hag ?_
 refine zq (zr ?_)
 by_cases h10 : (k1_4 : Int) < (a.length : Int)
 ·replace H := ifp h10 H
  refine zo (fun w => opB (op_lss rfl rfl w) (decide_eq_true h10)) (zn (zq (zt rfl rfl (zk (zq ?_)))))
  refine zb (zq (zr ?_))
  obtain ⟨h11, H⟩ := H
  obtain ⟨h12, H⟩ := H
  refine zo (op_index Try.underlying22 ti26 rfl rfl h11 h12 (h_a.some_ h11 h12)) ?_
  have hobt := ldSl h_a h11 h12
  obtain ⟨p13, c14, mE, Oh⟩ := hobt
  refine zs (Oh Try.underlying26 rfl rfl) (za rfl (zn (zr (zm rfl ?_))))
  have hobt := obuild (r := Rp.int .i64) (n := 0) (parts := []) (vs := []) (xs := ([] : List Int)) rfl Try.underlying26 ti3 hO (by decide) (by kernel_rfl) (Els.nil _ _ _) rfl
  obtain ⟨w17, p18, rY, abr, afV, VW⟩ := hobt
  refine zg (VW rfl) ?_
  replace hO := rY.own
  refine zm rfl ?_
  obtain ⟨h24, H⟩ := H
  replace mE := mE.ch rY.ch
  have hobt := oapp Try.underlying26 ti3 rfl 0 hO rfl abr mE rfl h24 (by decide)
  obtain ⟨w25, p26, c27, afW, JX, cr, VX⟩ := hobt
  refine zg (VX (by exact rfl) (by exact rfl)) ?_
  replace hO := JX.own
  have hobt := t2build1 (Fl.int .i64) Try.underlying22 ti26 hO cr
  obtain ⟨w33, p34, e9, Gv⟩ := hobt
  refine zg (Gv rfl) ?_
  replace hO := e9.own
  have lK := Stp.front 1 hO rfl
  replace hO := lK.own
  have qm := Stp.front 1 hO rfl
  replace hO := qm.own
  obtain ⟨h40, H⟩ := H
  have hobt := t2cat Try.underlying22 ti26 hO h40 (by decide)
  obtain ⟨w41, p42, c43, mS, Mk⟩ := hobt
  refine zg (Mk (by exact rfl) (by exact rfl)) ?_
  replace hO := mS.own
  refine za rfl (zn ?_)
  refine Go1.inBlock ?_
  refine zr ?_
  have Z1 := ((((rY.ch.trans JX.ch).trans e9.ch).trans lK.ch).trans qm.ch).trans mS.ch
  replace h_a := h_a.ch Z1
  refine zo (op_add rfl rfl (wrap_i64 (natbd h10 h_a.bd))) (zm rfl (zn ?_))
  replace hB := (((((hB.trans rY.fr).trans JX.fr).trans e9.fr).trans lK.fr).trans qm.fr).trans mS.fr
  exact hX1 _ H _ _ ⟨n8 + 1, p42, c43, hcat hs9 out1_5.length ((fun _ => (p26, c27))), ⟨rfl, rfl, rfl, rfl, trivial⟩, hO, h_a, hB⟩
 replace H := ifn h10 H
 refine zo (fun w => opB (op_lss rfl rfl w) (decide_eq_false h10)) (zn (zq (zf rfl rfl ?_)))
 refine Go1.exit rfl ?_
 refine zq (zr (zm rfl (za rfl (zn ?_))))
 refine Go1.ret1 Try.func24 rfl ?_
 exact ⟨out1_5, n8, p6, c7, hs9, rfl, hB.same, hO, H⟩
theorem body54 : Body Try.prog 54 := ⟨Try.f54, Try.func54, rfl, by kernel_rfl⟩
theorem walk_ref03_Discrete {A : List Nat} {w0 : World} {n : Int} (hA : ∀ b ∈ A, b < w0.heap.size) {K : List Int → Prop} (H : ref03_Discrete n K) :
    CallsV Try.prog 54 #[.int .i64 n] w0 (fun v w' => ∃ (r0 : List Int), ∃ (wU : Option Addr), ∃ (wV : Nat), v = .slice wU r0.length wV ∧ Same w0 w' ∧ ISl (Rp.int .i64) A w' wU wV r0 ∧ K r0) := by
 refine CallsV.of (l := [.int .i64 n]) Try.func54 rfl Try.ntmps54 rfl ?_
 have hO := Owns.start hA
 have hB := Fr.refl (bl []) w0
 unfold ref03_Discrete at H
 refine zq (zr (za rfl (zn (zq (zr ?_)))))
 refine zm rfl ?_
 obtain ⟨h8, H⟩ := H
 obtain ⟨h9, H⟩ := H
 have hobt := omake (n := n) (r := Rp.int .i64) (d := (0 : Int)) Try.underlying26 ti3 (fun _ _ => rfl) rfl hO h8 h9 (by decide)
 obtain ⟨w1, p2, vs3, ou, hE5, hs6, Cn⟩ := hobt
 refine zg (Cn rfl rfl) ?_
 replace hO := ou.own
 refine za rfl (zn (zq (zq (zr (zm rfl ?_)))))
 refine zo (op_lenN Try.underlying26 rfl (hE5.neq hO 0 rfl)) (zm rfl (zn (zb ?_)))
 replace hB := hB.trans ou.fr
 refine Go1.loopW (S := Nat × List Int) (fun s σ w => match s with | (k1_12, p1_13) => ∃ (lO : List Value), agrees σ [(3, .slice p2 n.toNat n.toNat), (8, .int .i64 ((List.replicate n.toNat ((0 : Int))).length : Int)), (9, .int .i64 (k1_12 : Int))] ∧ (fun Z0 => Owns w0.heap.size w Z0 A ∧ Els (Rp.int .i64) (bl Z0 ++ A) w lO p1_13 ∧ Fr (bl []) w0 (bl Z0) w) [.row 3 1 p2 n.toNat n.toNat lO]) H ⟨vs3, ⟨rfl, rfl, rfl, trivial⟩, hO, hE5, hB⟩ ?_
 intro X1
 refine prE fun k1_12 => fun p1_13 => ?_
 intro H hX1 σ w11
 refine exE fun lO => andE fun hag => andE fun hO => andE fun bt => fun hB => ?_
 dsimp only at H
 refine Go1.keep [(3, .slice p2 n.toNat n.toNat), (8, .int .i64 ((List.replicate n.toNat ((0 : Int))).length : Int)), (9, .int .i64 (k1_12 : Int))] hag ?_
 refine zq (zr ?_)
 by_cases h16 : (k1_12 : Int) < ((List.replicate n.toNat ((0 : Int))).length : Int)
 ·replace H := ifp h16 H
  refine zo (fun w => opB (op_lss rfl rfl w) (decide_eq_true h16)) (zn (zq (zt rfl rfl (zk (zq ?_)))))
  refine zb (zq (zr (zm rfl (za rfl (zn ?_)))))
  refine zr (zm rfl (zm rfl (zm rfl ?_)))
  obtain ⟨h17, H⟩ := H
  obtain ⟨h18, H⟩ := H
  refine zo (op_index Try.underlying26 ti3 rfl rfl h17 (ltn (bt.neq hO 0 rfl) h18) (bt.psome hO 0 rfl h17 h18)) ?_
  have hobt := ost (r := Rp.int .i64) rfl 0 hO rfl bt h17 h18 (v := .int .i64 (k1_12 : Int)) (u := (k1_12 : Int)) rfl rfl
  obtain ⟨w19, abs, lL, abt, Ge⟩ := hobt
  refine zg (Ge Try.underlying3 rfl ti3 (by exact rfl) (by exact rfl)) ?_
  replace hO := lL.own
  refine zn ?_
  refine Go1.inBlock ?_
  refine zr ?_
  obtain ⟨h24, H⟩ := H
  refine zo (op_add rfl rfl (wrap_i64 h24)) (zm rfl (zn ?_))
  replace hB := hB.trans lL.fr
  exact hX1 _ H _ _ ⟨abs, ⟨rfl, rfl, rfl, trivial⟩, hO, abt, hB⟩
 replace H := ifn h16 H
 refine zo (fun w => opB (op_lss rfl rfl w) (decide_eq_false h16)) (zn (zq (zf rfl rfl ?_)))
 refine Go1.exit rfl ?_
 refine zq (zr (zm rfl (za rfl (zn ?_))))
 have hobt := freeze 0 hO rfl bt
 obtain ⟨hO1, afX, abu, On⟩ := hobt
 replace hO := hO1; clear hO1
 refine Go1.ret1 Try.func54 rfl ?_
 replace hB := hB.trans (Owns.dropFr _ _ 0)
 exact ⟨p1_13, p2, n.toNat, (congrArg (fun nn => Value.slice p2 nn n.toNat) On), hB.same, (abu.ch (Ch.weak _ _ _)), H⟩
theorem body34 : Body Try.prog 34 := ⟨Try.f34, Try.func34, rfl, by kernel_rfl⟩
theorem walk_ref03_Same {A : List Nat} {w0 : World} {p_a : Option Addr} {c_a : Nat} {p_b : Option Addr} {c_b : Nat} {a : List Int} {b : List Int} (hA : ∀ b ∈ A, b < w0.heap.size) (h_a : ISl (Rp.int .i64) A w0 p_a c_a a) (h_b : ISl (Rp.int .i64) A w0 p_b c_b b) {K : Bool → Prop} (H : ref03_Same a b K) :
    CallsV Try.prog 34 #[.slice p_a a.length c_a, .slice p_b b.length c_b] w0 (fun v w' => ∃ (r0 : Bool), v = .bool r0 ∧ Same w0 w' ∧ K r0) := by
 refine CallsV.of (l := [.slice p_a a.length c_a, .slice p_b b.length c_b]) Try.func34 rfl Try.ntmps34 rfl ?_
 have hO := Owns.start hA
 have hB := Fr.refl (bl []) w0
 unfold ref03_Same at H
 refine zq (zr (za rfl (zn (zq (zq ?_)))))
 refine zr (zm rfl (zo (op_len Try.underlying26 rfl) ?_))
 replace h_a := h_a.ch (Ch.start A w0)
 replace H := H h_a.bd
 refine zm rfl (zo (op_len Try.underlying26 rfl) ?_)
 replace h_b := h_b.ch (Ch.start A w0)
 replace H := H h_b.bd
 by_cases h1 : (a.length : Int) = (b.length : Int)
 ·replace H := ifp h1 H
  refine zo (fun w => opB (op_neq rfl rfl w) (ndT h1)) (zn (zf rfl rfl (zk (zq (zq ?_)))))
  refine zr (zm rfl (zo (op_len Try.underlying26 rfl) (zm rfl (zn (zb ?_)))))
  refine Go1.loopW (S := Nat) (fun s σ w => agrees σ [(0, .slice p_a a.length c_a), (1, .slice p_b b.length c_b), (12, .int .i64 (a.length : Int)), (13, .int .i64 (s : Int))] ∧ Owns w0.heap.size w [] A ∧ ISl (Rp.int .i64) (bl [] ++ A) w p_a c_a a ∧ ISl (Rp.int .i64) (bl [] ++ A) w p_b c_b b ∧ Fr (bl []) w0 (bl []) w) H ⟨⟨rfl, rfl, rfl, rfl, trivial⟩, hO, h_a, h_b, hB⟩ ?_
  intro X1 k1_3
  intro H hX1 σ w2
  refine andE fun hag => andE fun hO => andE fun h_a => andE fun h_b => fun hB => ?_
  refine Go1.keep [(0, .slice p_a a.length c_a), (1, .slice p_b b.length c_b), (12, .int .i64 (a.length : Int)), (13, .int .i64 (k1_3 : Int))] hag ?_
  refine zq (zr ?_)
  by_cases h4 : (k1_3 : Int) < (a.length : Int)
  ·replace H := ifp h4 H
   refine zo (fun w => opB (op_lss rfl rfl w) (decide_eq_true h4)) (zn (zq (zt rfl rfl (zk (zq ?_)))))
   refine zb (zq (zr (zm rfl (za rfl (zn ?_)))))
   refine zq ?_
   refine Go1.drawS 0 [(0, .pure), (1, .pure), (2, .pure), (3, .stable), (4, .pure), (5, .pure), (6, .pure), (7, .stable), (8, .pure)] mixed (by kernel_rfl) ?_
   intro w5 hs6
   have rV := Stp.same hO hs6
   replace hO := rV.own
   refine GoQ.pure rfl (op_move rfl) rfl rfl ?_
   refine GoQ.pure rfl (op_move rfl) rfl rfl ?_
   obtain ⟨h8, H⟩ := H
   obtain ⟨h9, H⟩ := H
   replace h_a := h_a.ch rV.ch
   refine GoQ.pure rfl (op_index Try.underlying26 ti3 rfl rfl h8 h9 (h_a.some_ h8 h9)) rfl rfl ?_
   refine GoQ.stable rfl (ldInt h_a h8 h9 Try.underlying3 rfl rfl) rfl rfl ?_
   refine GoQ.pure rfl (op_move rfl) rfl rfl ?_
   refine GoQ.pure rfl (op_move rfl) rfl rfl ?_
   obtain ⟨h10, H⟩ := H
   obtain ⟨h11, H⟩ := H
   replace h_b := h_b.ch rV.ch
   refine GoQ.pure rfl (op_index Try.underlying26 ti3 rfl rfl h10 h11 (h_b.some_ h10 h11)) rfl rfl ?_
   refine GoQ.stable rfl (ldInt h_b h10 h11 Try.underlying3 rfl rfl) rfl rfl ?_
   by_cases h12 : (ix a (k1_3 : Int)) = (ix b (k1_3 : Int))
   ·replace H := ifp h12 H
    refine GoQ.pure rfl (fun w => opB (op_neq rfl rfl w) (ndT h12)) rfl rfl ?_
    refine GoQ.nil ?_
    refine zf rfl rfl (zk ?_)
    refine Go1.inBlock ?_
    refine zr (zo (op_add rfl rfl (wrap_i64 (natbd h4 h_a.bd))) (zm rfl (zn ?_)))
    replace hB := hB.trans rV.fr
    exact hX1 _ H _ _ ⟨⟨rfl, rfl, rfl, rfl, trivial⟩, hO, h_a, h_b, hB⟩
   replace H := ifn h12 H
   refine GoQ.pure rfl (fun w => opB (op_neq rfl rfl w) (ndF h12)) rfl rfl ?_
   refine GoQ.nil ?_
   refine zt rfl rfl (zq (zr (za rfl (zn ?_))))
   refine Go1.ret1 Try.func34 rfl ?_
   replace hB := hB.trans rV.fr
   exact ⟨false, rfl, hB.same, H⟩
  replace H := ifn h4 H
  refine zo (fun w => opB (op_lss rfl rfl w) (decide_eq_false h4)) (zn (zq (zf rfl rfl ?_)))
  refine Go1.exit rfl ?_
  refine zq (zr (za rfl (zn ?_)))
  refine Go1.ret1 Try.func34 rfl ?_
  exact ⟨true, rfl, hB.same, H⟩
 replace H := ifn h1 H
 refine zo (fun w => opB (op_neq rfl rfl w) (ndF h1)) (zn (zt rfl rfl (zq (zr (za rfl ?_)))))
 refine zn ?_
 refine Go1.ret1 Try.func34 rfl ?_
 exact ⟨false, rfl, hB.same, H⟩
theorem body41 : Body Try.prog 41 := ⟨Try.f41, Try.func41, rfl, by kernel_rfl⟩
theorem walk_ref12_Find {A : List Nat} {w0 : World} {Ck : Option Addr} {Cl : Nat} {p_f : Option Addr} {c_f : Nat} {elems : List (List Int)} {f : List Int} (hA : ∀ b ∈ A, b < w0.heap.size) (ve : ISl (Rp.sl (Rp.int .i64)) A w0 Ck Cl elems) (h_f : ISl (Rp.int .i64) A w0 p_f c_f f) {K : Int → Prop} (H : ref12_Find elems f K) :
    CallsV Try.prog 41 #[.slice Ck elems.length Cl, .slice p_f f.length c_f] w0 (fun v w' => ∃ (r0 : Int), v = .int .i64 r0 ∧ Same w0 w' ∧ K r0) := by
 refine CallsV.of (l := [.slice Ck elems.length Cl, .slice p_f f.length c_f]) Try.func41 rfl Try.ntmps41 rfl ?_
 have hO := Owns.start hA
 have hB := Fr.refl (bl []) w0
 unfold ref12_Find at H
 refine zq (zr (za rfl (zn (zq (zq ?_)))))
 refine zr (zm rfl (zo (op_len Try.underlying22 rfl) ?_))
 replace ve := ve.ch (Ch.start A w0)
 replace H := H ve.bd
 refine zm rfl (zn (zb ?_))
 replace h_f := h_f.ch (Ch.start A w0)
 refine Go1.loopW (S := Nat) (fun s σ w => agrees σ [(0, .slice Ck elems.length Cl), (1, .slice p_f f.length c_f), (7, .int .i64 (elems.length : Int)), (8, .int .i64 (s : Int))] ∧ Owns w0.heap.size w [] A ∧ ISl (Rp.sl (Rp.int .i64)) (bl [] ++ A) w Ck Cl elems ∧ ISl (Rp.int .i64) (bl [] ++ A) w p_f c_f f ∧ Fr (bl []) w0 (bl []) w) H ⟨⟨rfl, rfl, rfl, rfl, trivial⟩, hO, ve, h_f, hB⟩ ?_
 intro X1 k1_2
 intro H hX1 σ w1
 refine andE fun hag => andE fun hO => andE fun ve => andE fun h_f => fun hB => ?_
 refine Go1.keep [(0, .slice Ck elems.length Cl), (1, .slice p_f f.length c_f), (7, .int .i64 (elems.length : Int)), (8, .int .i64 (k1_2 : Int))] hag ?_
 refine zq (zr ?_)
 by_cases h3 : (k1_2 : Int) < (elems.length : Int)
 ·replace H := ifp h3 H
  refine zo (fun w => opB (op_lss rfl rfl w) (decide_eq_true h3)) (zn (zq (zt rfl rfl (zk (zq ?_)))))
  refine zb (zq (zr (zm rfl (za rfl (zn ?_)))))
  refine zq (zr (zm rfl (zm rfl ?_)))
  obtain ⟨h4, H⟩ := H
  obtain ⟨h5, H⟩ := H
  refine zo (op_index Try.underlying22 ti26 rfl rfl h4 h5 (ve.some_ h4 h5)) ?_
  have hobt := ldSl ve h4 h5
  obtain ⟨p6, c7, hi8, hl9⟩ := hobt
  refine zs (hl9 Try.underlying26 rfl rfl) (zm rfl ?_)
  refine GoR.call (op_call body34 rfl (walk_ref03_Same hO.lt hi8 h_f H)) rfl rfl ?_
  rintro v14 w11 ⟨r10, rfl, Nj, H⟩
  have gq := Stp.same hO Nj
  replace hO := gq.own
  refine zn ?_
  cases r10
  ·replace H := ifn Bool.false_ne_true H
   refine zf rfl rfl (zk ?_)
   refine Go1.inBlock ?_
   refine zr ?_
   replace ve := ve.ch gq.ch
   refine zo (op_add rfl rfl (wrap_i64 (natbd h3 ve.bd))) (zm rfl (zn ?_))
   replace h_f := h_f.ch gq.ch
   replace hB := hB.trans gq.fr
   exact hX1 _ H _ _ ⟨⟨rfl, rfl, rfl, rfl, trivial⟩, hO, ve, h_f, hB⟩
  replace H := ifp rfl H
  refine zt rfl rfl (zq (zr (zm rfl (za rfl (zn ?_)))))
  refine Go1.ret1 Try.func41 rfl ?_
  replace hB := hB.trans gq.fr
  exact ⟨(k1_2 : Int), rfl, hB.same, H⟩
 replace H := ifn h3 H
 refine zo (fun w => opB (op_lss rfl rfl w) (decide_eq_false h3)) (zn (zq (zf rfl rfl ?_)))
 refine Go1.exit rfl ?_
 refine zq (zr (za rfl (zn ?_)))
 refine Go1.ret1 Try.func41 rfl ?_
 exact ⟨(-1 : Int), rfl, hB.same, H⟩
theorem body55 : Body Try.prog 55 := ⟨Try.f55, Try.func55, rfl, by kernel_rfl⟩
theorem walk_ref12_letter {A : List Nat} {w0 : World} {x : Int} (hA : ∀ b ∈ A, b < w0.heap.size) {K : Str → Prop} (H : ref12_letter x K) :
    CallsV Try.prog 55 #[.int .i64 x] w0 (fun v w' => ∃ (r0 : Str), v = .string (gstr r0) ∧ Same w0 w' ∧ r0.length ≤ mx ∧ K r0) := by
 refine CallsV.of (l := [.int .i64 x]) Try.func55 rfl Try.ntmps55 rfl ?_
 have hO := Owns.start hA
 have hB := Fr.refl (bl []) w0
 unfold ref12_letter at H
 refine zq (zr (za rfl (zn (zq (zr ?_)))))
 refine zm rfl ?_
 obtain ⟨h1, H⟩ := H
 refine zo (op_add rfl rfl (wrap_i64 h1)) (zo (op_conv Try.underlying3 Try.underlying5 rfl rfl) ?_)
 have hobt := obuild (r := Rp.int .u8) (n := 1) (parts := [(0, .int .u8 (IntKind.u8.wrap ((97 : Int) + x)))]) (vs := [.int .u8 (IntKind.u8.wrap ((97 : Int) + x))]) (xs := [(IntKind.u8.wrap ((97 : Int) + x))]) rfl Try.underlying84 ti5 hO (by decide) (by kernel_rfl) (Els.cons rfl rfl (Els.nil _ _ _) (by simp [mx])) rfl
 obtain ⟨w2, p3, ou, hE5, hs6, Cn⟩ := hobt
 refine zg (Cn rfl) ?_
 replace hO := ou.own
 have hle9 := byt_le hE5.bd
 refine zs (oldBytes 0 hO rfl hE5 Try.underlying84 Try.underlying5 Try.underlying9 rfl) (za rfl (zn ?_))
 refine Go1.ret1 Try.func55 rfl ?_
 replace hB := hB.trans ou.fr
 exact ⟨byt ([(IntKind.u8.wrap ((97 : Int) + x))]), rfl, hB.same, hle9, H⟩
theorem body40 : Body Try.prog 40 := ⟨Try.f40, Try.func40, rfl, by kernel_rfl⟩
theorem walk_ref12_Word {A : List Nat} {w0 : World} {a8 : Option Addr} {a9 : Nat} {aC : Option Addr} {aD : Nat} {av : Option Addr} {aw : Nat} {aY : Option Addr} {a7 : Nat} {aE : Option Addr} {aF : Nat} {aG : Option Addr} {aH : Nat} {e : Enum} {i : Int} (hA : ∀ b ∈ A, b < w0.heap.size) (ak : ISl (Rp.sl (Rp.int .i64)) A w0 a8 a9 e.Gens) (af : ISl (Rp.sl (Rp.int .i64)) A w0 aC aD e.Elems) (ae : ISl (Rp.int .i64) A w0 av aw e.Prefix) (aj : ISl (Rp.int .i64) A w0 aY a7 e.Last) (ag : ISl (Rp.sl (Rp.int .i64)) A w0 aE aF e.Right) (ah : ISl (rpRule) A w0 aG aH e.Rules) {K : Str → Prop} (H : ref12_Word e i K) :
    CallsV Try.prog 40 #[.agg #[.int .i64 e.Points, .bool e.Monoid, .slice a8 e.Gens.length a9, .slice aC e.Elems.length aD, .slice av e.Prefix.length aw, .slice aY e.Last.length a7, .slice aE e.Right.length aF, .slice aG e.Rules.length aH, .int .i64 e.Done], .int .i64 i] w0 (fun v w' => ∃ (r0 : Str), v = .string (gstr r0) ∧ Same w0 w' ∧ r0.length ≤ mx ∧ K r0) := by
 refine CallsV.of (l := [.agg #[.int .i64 e.Points, .bool e.Monoid, .slice a8 e.Gens.length a9, .slice aC e.Elems.length aD, .slice av e.Prefix.length aw, .slice aY e.Last.length a7, .slice aE e.Right.length aF, .slice aG e.Rules.length aH, .int .i64 e.Done], .int .i64 i]) Try.func40 rfl Try.ntmps40 rfl ?_
 have hO := Owns.start hA
 have hB := Fr.refl (bl []) w0
 unfold ref12_Word at H
 refine zq (zr ?_)
 have hobt := obox (t := 29) (v := .agg #[.int .i64 e.Points, .bool e.Monoid, .slice a8 e.Gens.length a9, .slice aC e.Elems.length aD, .slice av e.Prefix.length aw, .slice aY e.Last.length a7, .slice aE e.Right.length aF, .slice aG e.Rules.length aH, .int .i64 e.Done]) (cs := #[.int .i64 e.Points, .bool e.Monoid, .slice a8 e.Gens.length a9, .slice aC e.Elems.length aD, .slice av e.Prefix.length aw, .slice aY e.Last.length a7, .slice aE e.Right.length aF, .slice aG e.Rules.length aH, .int .i64 e.Done]) hO rfl
 obtain ⟨w1, B2, cQ, hs4, rh⟩ := hobt
 refine zg (rh rfl) ?_
 replace hO := cQ.own
 refine za rfl (zn (zq (zr (za rfl (zn ?_)))))
 refine zq (zb ?_)
 replace hB := hB.trans cQ.fr
 have Z1 := (Ch.start A w0).trans cQ.ch
 replace ak := ak.ch Z1
 replace af := af.ch Z1
 replace ae := ae.ch Z1
 replace aj := aj.ch Z1
 replace ag := ag.ch Z1
 replace ah := ah.ch Z1
 refine Go1.loopW (S := Int × Str) (fun s σ w => match s with | (i1_8, w1_9) => agrees σ [(1, .int .i64 i1_8), (2, .pointer (some ⟨B2, 0, none⟩)), (5, .string (gstr w1_9))] ∧ (fun Z0 => Owns w0.heap.size w Z0 A ∧ ISl (Rp.sl (Rp.int .i64)) (bl Z0 ++ A) w a8 a9 e.Gens ∧ ISl (Rp.sl (Rp.int .i64)) (bl Z0 ++ A) w aC aD e.Elems ∧ ISl (Rp.int .i64) (bl Z0 ++ A) w av aw e.Prefix ∧ ISl (Rp.int .i64) (bl Z0 ++ A) w aY a7 e.Last ∧ ISl (Rp.sl (Rp.int .i64)) (bl Z0 ++ A) w aE aF e.Right ∧ ISl (rpRule) (bl Z0 ++ A) w aG aH e.Rules ∧ w1_9.length ≤ mx ∧ Fr (bl []) w0 (bl Z0) w) [.blk B2 (.cells #[.int .i64 e.Points, .bool e.Monoid, .slice a8 e.Gens.length a9, .slice aC e.Elems.length aD, .slice av e.Prefix.length aw, .slice aY e.Last.length a7, .slice aE e.Right.length aF, .slice aG e.Rules.length aH, .int .i64 e.Done] 29 (0, 0))]) H ⟨⟨rfl, rfl, rfl, trivial⟩, hO, ak, af, ae, aj, ag, ah, (by decide), hB⟩ ?_
 intro X1
 refine prE fun i1_8 => fun w1_9 => ?_
 intro H hX1 σ w7
 refine andE fun hag => andE fun hO => andE fun ak => andE fun af => andE fun ae => andE fun aj => andE fun ag => andE fun ah => andE fun hle_w1_9 => fun hB => ?_
 dsimp only at H
 refine Go1.keep [(1, .int .i64 i1_8), (2, .pointer (some ⟨B2, 0, none⟩)), (5, .string (gstr w1_9))] hag ?_
 refine zq (zq (zr (zm rfl ?_)))
 by_cases h10 : (0 : Int) ≤ i1_8
 ·replace H := ifp h10 H
  refine zo (fun w => opB (op_geq rfl rfl w) (decide_eq_true h10)) (zm rfl (zo (op_fieldAddr Try.underlying29 rfl ti26 rfl (by decide)) (zs (oblk (i := 5) 0 hO rfl rfl Try.underlying26 rfl rfl) (zm rfl ?_))))
  obtain ⟨h11, H⟩ := H
  obtain ⟨h12, H⟩ := H
  refine zo (op_index Try.underlying26 ti3 rfl rfl h11 h12 (aj.some_ h11 h12)) (zs (ldInt aj h11 h12 Try.underlying3 rfl rfl) ?_)
  by_cases h13 : (0 : Int) ≤ (ix e.Last i1_8)
  ·replace H := ifp h13 H
   refine zo (fun w => opB (op_geq rfl rfl w) (decide_eq_true h13)) (zo (op_pickT rfl rfl rfl) (zn (zt rfl rfl (zk (zb ?_)))))
   refine zq (zr (zo (op_fieldAddr Try.underlying29 rfl ti26 rfl (by decide)) (zs (oblk (i := 5) 0 hO rfl rfl Try.underlying26 rfl rfl) (zm rfl ?_))))
   obtain ⟨h14, H⟩ := H
   obtain ⟨h15, H⟩ := H
   refine zo (op_index Try.underlying26 ti3 rfl rfl h14 h15 (aj.some_ h14 h15)) (zs (ldInt aj h14 h15 Try.underlying3 rfl rfl) ?_)
   refine GoR.call (op_call body55 rfl (walk_ref12_letter hO.lt H)) rfl rfl ?_
   rintro v20 w17 ⟨r16, rfl, KO, acW, H⟩
   have lL := Stp.same hO KO
   replace hO := lL.own
   refine zm rfl ?_
   obtain ⟨h22, H⟩ := H
   refine zo (op_addS rfl rfl h22) (za rfl (zn ?_))
   refine Go1.cut [(1, .int .i64 i1_8), (2, .pointer (some ⟨B2, 0, none⟩)), (5, .string (gstr (r16 ++ w1_9)))] ⟨rfl, rfl, rfl, trivial⟩ ?_
   intro σ _
   refine zr (zo (op_fieldAddr Try.underlying29 rfl ti26 rfl (by decide)) (zs (oblk (i := 4) 0 hO rfl rfl Try.underlying26 rfl rfl) (zm rfl ?_)))
   obtain ⟨h23, H⟩ := H
   obtain ⟨h24, H⟩ := H
   replace ae := ae.ch lL.ch
   refine zo (op_index Try.underlying26 ti3 rfl rfl h23 h24 (ae.some_ h23 h24)) (zs (ldInt ae h23 h24 Try.underlying3 rfl rfl) (za rfl (zn ?_)))
   refine Go1.inBlock ?_
   replace ak := ak.ch lL.ch
   replace af := af.ch lL.ch
   replace aj := aj.ch lL.ch
   replace ag := ag.ch lL.ch
   replace ah := ah.ch lL.ch
   replace hB := hB.trans lL.fr
   exact hX1 _ H _ _ ⟨⟨rfl, rfl, rfl, trivial⟩, hO, ak, af, ae, aj, ag, ah, (lenApp h22), hB⟩
  replace H := ifn h13 H
  refine zo (fun w => opB (op_geq rfl rfl w) (decide_eq_false h13)) (zo (op_pickT rfl rfl rfl) (zn (zf rfl rfl ?_)))
  refine Go1.exit rfl ?_
  refine zq (zr (zm rfl (za rfl (zn ?_))))
  refine Go1.ret1 Try.func40 rfl ?_
  exact ⟨w1_9, rfl, hB.same, hle_w1_9, H⟩
 replace H := ifn h10 H
 refine zo (fun w => opB (op_geq rfl rfl w) (decide_eq_false h10)) (zm rfl (zp (zp (zp (zp ?_)))))
 refine zp (zp (zo (op_pickF rfl rfl rfl) (zn (zf rfl rfl ?_))))
 refine Go1.exit rfl ?_
 refine zq (zr (zm rfl (za rfl (zn ?_))))
 refine Go1.ret1 Try.func40 rfl ?_
 exact ⟨w1_9, rfl, hB.same, hle_w1_9, H⟩
end Sg
