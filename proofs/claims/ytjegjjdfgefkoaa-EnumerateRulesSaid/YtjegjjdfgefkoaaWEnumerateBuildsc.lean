/- The walks: each call keeps to its plain transformer. Printed by walkgen.py. -/
import Derived.Test.YtjegjjdfgefkoaaTi
import Derived.Test.YtjegjjdfgefkoaaWEnumerateBuilds
import Derived.Test.YtjegjjdfgefkoaaWEnumerateBuildsb
namespace Sg
open Go Go.RowKit Go.Proofs
set_option linter.unusedVariables false
set_option linter.unusedSimpArgs false
set_option maxRecDepth 100000
set_option maxHeartbeats 4000000
theorem body68 : Body Try.prog 68 := ⟨Try.f68, Try.func68, rfl, by kernel_rfl⟩
theorem body53 : Body Try.prog 53 := ⟨Try.f53, Try.func53, rfl, by kernel_rfl⟩
theorem walk_enumerate_replay {A : List Nat} {w0 : World} {a5 : Option Addr} {a6 : Nat} {aA : Option Addr} {aB : Nat} {ao : Option Addr} {ap : Nat} {aX : Option Addr} {aY : Nat} {aC : Option Addr} {aD : Nat} {aE : Option Addr} {aF : Nat} {e : Enum} (hA : ∀ b ∈ A, b < w0.heap.size) (ah : ISl (Rp.sl (Rp.int .i64)) A w0 a5 a6 e.Gens) (ae : ISl (Rp.sl (Rp.int .i64)) A w0 aA aB e.Elems) (ad : ISl (Rp.int .i64) A w0 ao ap e.Prefix) (ai : ISl (Rp.int .i64) A w0 aX aY e.Last) (af : ISl (Rp.sl (Rp.int .i64)) A w0 aC aD e.Right) (ag : ISl (rpRule) A w0 aE aF e.Rules) {K : Option run → Bool → Prop} (H : enumerate_replay e K) :
    CallsV Try.prog 53 #[.agg #[.int .i64 e.Points, .bool e.Monoid, .slice a5 e.Gens.length a6, .slice aA e.Elems.length aB, .slice ao e.Prefix.length ap, .slice aX e.Last.length aY, .slice aC e.Right.length aD, .slice aE e.Rules.length aF, .int .i64 e.Done]] w0 (fun v w' => (∃ (r1 : Bool), v = .tuple #[.pointer none, .bool r1] ∧ Same w0 w' ∧ K none r1) ∨ (∃ (q : run), ∃ (r1 : Bool), ∃ (b_q : Nat), ∃ (aR : Nat), ∃ (aS : Option Addr), ∃ (aT : Nat), ∃ (bI : List Value), ∃ (aH : Nat), ∃ (aI : Option Addr), ∃ (aJ : Nat), ∃ (bD : List Value), ∃ (au : Nat), ∃ (av : Option Addr), ∃ (aw : Nat), ∃ (bw : List Value), ∃ (aU : Nat), ∃ (aV : Option Addr), ∃ (aW : Nat), ∃ (bK : List Value), ∃ (aK : Nat), ∃ (aL : Option Addr), ∃ (aM : Nat), ∃ (bE : List Value), ∃ (aN : Nat), ∃ (aO : Option Addr), ∃ (aP : Nat), ∃ (bF : List Value), ∃ (b7 : Nat), ∃ (bx : Nat), ∃ (bz : Option Addr), ∃ (bA : Nat), ∃ (cB : List Value), ∃ (bm : Nat), ∃ (bn : Option Addr), ∃ (bo : Nat), ∃ (cl : List Value), ∃ (bp : Nat), ∃ (bq : Option Addr), ∃ (bt : Nat), ∃ (co : List Value), v = .tuple #[.pointer (some ⟨b_q, 0, none⟩), .bool r1] ∧ Same w0 w' ∧ Owns w0.heap.size w' [.blk b_q (.cells #[.int .i64 q.Enum.Points, .bool q.Enum.Monoid, .slice aS aR aT, .slice aI aH aJ, .slice av au aw, .slice aV aU aW, .slice aL aK aM, .slice aO aN aP, .int .i64 q.Enum.Done, .map (some b7), .slice bz bx bA, .slice bn bm bo, .slice bq bp bt] 72 (0, 0)), .row 26 1 aS aR aT bI, .row 26 1 aI aH aJ bD, .row 3 1 av au aw bw, .row 3 1 aV aU aW bK, .row 26 1 aL aK aM bE, .row 39 2 aO aN aP bF, .row 9 1 bz bx bA cB, .row 3 1 bn bm bo cl, .row 3 1 bq bp bt co, .any (mapE (fun a : List UInt8 => Value.string (gstr a)) (fun a : Int => Value.int .i64 a) b7 q.number)] A ∧ Els (Rp.sl (Rp.int .i64)) (bl [.blk b_q (.cells #[.int .i64 q.Enum.Points, .bool q.Enum.Monoid, .slice aS aR aT, .slice aI aH aJ, .slice av au aw, .slice aV aU aW, .slice aL aK aM, .slice aO aN aP, .int .i64 q.Enum.Done, .map (some b7), .slice bz bx bA, .slice bn bm bo, .slice bq bp bt] 72 (0, 0)), .row 26 1 aS aR aT bI, .row 26 1 aI aH aJ bD, .row 3 1 av au aw bw, .row 3 1 aV aU aW bK, .row 26 1 aL aK aM bE, .row 39 2 aO aN aP bF, .row 9 1 bz bx bA cB, .row 3 1 bn bm bo cl, .row 3 1 bq bp bt co, .any (mapE (fun a : List UInt8 => Value.string (gstr a)) (fun a : Int => Value.int .i64 a) b7 q.number)] ++ A) w' bI q.Enum.Gens ∧ Els (Rp.sl (Rp.int .i64)) (bl [.blk b_q (.cells #[.int .i64 q.Enum.Points, .bool q.Enum.Monoid, .slice aS aR aT, .slice aI aH aJ, .slice av au aw, .slice aV aU aW, .slice aL aK aM, .slice aO aN aP, .int .i64 q.Enum.Done, .map (some b7), .slice bz bx bA, .slice bn bm bo, .slice bq bp bt] 72 (0, 0)), .row 26 1 aS aR aT bI, .row 26 1 aI aH aJ bD, .row 3 1 av au aw bw, .row 3 1 aV aU aW bK, .row 26 1 aL aK aM bE, .row 39 2 aO aN aP bF, .row 9 1 bz bx bA cB, .row 3 1 bn bm bo cl, .row 3 1 bq bp bt co, .any (mapE (fun a : List UInt8 => Value.string (gstr a)) (fun a : Int => Value.int .i64 a) b7 q.number)] ++ A) w' bD q.Enum.Elems ∧ Els (Rp.int .i64) (bl [.blk b_q (.cells #[.int .i64 q.Enum.Points, .bool q.Enum.Monoid, .slice aS aR aT, .slice aI aH aJ, .slice av au aw, .slice aV aU aW, .slice aL aK aM, .slice aO aN aP, .int .i64 q.Enum.Done, .map (some b7), .slice bz bx bA, .slice bn bm bo, .slice bq bp bt] 72 (0, 0)), .row 26 1 aS aR aT bI, .row 26 1 aI aH aJ bD, .row 3 1 av au aw bw, .row 3 1 aV aU aW bK, .row 26 1 aL aK aM bE, .row 39 2 aO aN aP bF, .row 9 1 bz bx bA cB, .row 3 1 bn bm bo cl, .row 3 1 bq bp bt co, .any (mapE (fun a : List UInt8 => Value.string (gstr a)) (fun a : Int => Value.int .i64 a) b7 q.number)] ++ A) w' bw q.Enum.Prefix ∧ Els (Rp.int .i64) (bl [.blk b_q (.cells #[.int .i64 q.Enum.Points, .bool q.Enum.Monoid, .slice aS aR aT, .slice aI aH aJ, .slice av au aw, .slice aV aU aW, .slice aL aK aM, .slice aO aN aP, .int .i64 q.Enum.Done, .map (some b7), .slice bz bx bA, .slice bn bm bo, .slice bq bp bt] 72 (0, 0)), .row 26 1 aS aR aT bI, .row 26 1 aI aH aJ bD, .row 3 1 av au aw bw, .row 3 1 aV aU aW bK, .row 26 1 aL aK aM bE, .row 39 2 aO aN aP bF, .row 9 1 bz bx bA cB, .row 3 1 bn bm bo cl, .row 3 1 bq bp bt co, .any (mapE (fun a : List UInt8 => Value.string (gstr a)) (fun a : Int => Value.int .i64 a) b7 q.number)] ++ A) w' bK q.Enum.Last ∧ Els (Rp.sl (Rp.int .i64)) (bl [.blk b_q (.cells #[.int .i64 q.Enum.Points, .bool q.Enum.Monoid, .slice aS aR aT, .slice aI aH aJ, .slice av au aw, .slice aV aU aW, .slice aL aK aM, .slice aO aN aP, .int .i64 q.Enum.Done, .map (some b7), .slice bz bx bA, .slice bn bm bo, .slice bq bp bt] 72 (0, 0)), .row 26 1 aS aR aT bI, .row 26 1 aI aH aJ bD, .row 3 1 av au aw bw, .row 3 1 aV aU aW bK, .row 26 1 aL aK aM bE, .row 39 2 aO aN aP bF, .row 9 1 bz bx bA cB, .row 3 1 bn bm bo cl, .row 3 1 bq bp bt co, .any (mapE (fun a : List UInt8 => Value.string (gstr a)) (fun a : Int => Value.int .i64 a) b7 q.number)] ++ A) w' bE q.Enum.Right ∧ Els (rpRule) (bl [.blk b_q (.cells #[.int .i64 q.Enum.Points, .bool q.Enum.Monoid, .slice aS aR aT, .slice aI aH aJ, .slice av au aw, .slice aV aU aW, .slice aL aK aM, .slice aO aN aP, .int .i64 q.Enum.Done, .map (some b7), .slice bz bx bA, .slice bn bm bo, .slice bq bp bt] 72 (0, 0)), .row 26 1 aS aR aT bI, .row 26 1 aI aH aJ bD, .row 3 1 av au aw bw, .row 3 1 aV aU aW bK, .row 26 1 aL aK aM bE, .row 39 2 aO aN aP bF, .row 9 1 bz bx bA cB, .row 3 1 bn bm bo cl, .row 3 1 bq bp bt co, .any (mapE (fun a : List UInt8 => Value.string (gstr a)) (fun a : Int => Value.int .i64 a) b7 q.number)] ++ A) w' bF q.Enum.Rules ∧ Els (Rp.str) (bl [.blk b_q (.cells #[.int .i64 q.Enum.Points, .bool q.Enum.Monoid, .slice aS aR aT, .slice aI aH aJ, .slice av au aw, .slice aV aU aW, .slice aL aK aM, .slice aO aN aP, .int .i64 q.Enum.Done, .map (some b7), .slice bz bx bA, .slice bn bm bo, .slice bq bp bt] 72 (0, 0)), .row 26 1 aS aR aT bI, .row 26 1 aI aH aJ bD, .row 3 1 av au aw bw, .row 3 1 aV aU aW bK, .row 26 1 aL aK aM bE, .row 39 2 aO aN aP bF, .row 9 1 bz bx bA cB, .row 3 1 bn bm bo cl, .row 3 1 bq bp bt co, .any (mapE (fun a : List UInt8 => Value.string (gstr a)) (fun a : Int => Value.int .i64 a) b7 q.number)] ++ A) w' cB q.words ∧ Els (Rp.int .i64) (bl [.blk b_q (.cells #[.int .i64 q.Enum.Points, .bool q.Enum.Monoid, .slice aS aR aT, .slice aI aH aJ, .slice av au aw, .slice aV aU aW, .slice aL aK aM, .slice aO aN aP, .int .i64 q.Enum.Done, .map (some b7), .slice bz bx bA, .slice bn bm bo, .slice bq bp bt] 72 (0, 0)), .row 26 1 aS aR aT bI, .row 26 1 aI aH aJ bD, .row 3 1 av au aw bw, .row 3 1 aV aU aW bK, .row 26 1 aL aK aM bE, .row 39 2 aO aN aP bF, .row 9 1 bz bx bA cB, .row 3 1 bn bm bo cl, .row 3 1 bq bp bt co, .any (mapE (fun a : List UInt8 => Value.string (gstr a)) (fun a : Int => Value.int .i64 a) b7 q.number)] ++ A) w' cl q.behind ∧ Els (Rp.int .i64) (bl [.blk b_q (.cells #[.int .i64 q.Enum.Points, .bool q.Enum.Monoid, .slice aS aR aT, .slice aI aH aJ, .slice av au aw, .slice aV aU aW, .slice aL aK aM, .slice aO aN aP, .int .i64 q.Enum.Done, .map (some b7), .slice bz bx bA, .slice bn bm bo, .slice bq bp bt] 72 (0, 0)), .row 26 1 aS aR aT bI, .row 26 1 aI aH aJ bD, .row 3 1 av au aw bw, .row 3 1 aV aU aW bK, .row 26 1 aL aK aM bE, .row 39 2 aO aN aP bF, .row 9 1 bz bx bA cB, .row 3 1 bn bm bo cl, .row 3 1 bq bp bt co, .any (mapE (fun a : List UInt8 => Value.string (gstr a)) (fun a : Int => Value.int .i64 a) b7 q.number)] ++ A) w' co q.single ∧ K (some q) r1)) := by
 refine CallsV.of (l := [.agg #[.int .i64 e.Points, .bool e.Monoid, .slice a5 e.Gens.length a6, .slice aA e.Elems.length aB, .slice ao e.Prefix.length ap, .slice aX e.Last.length aY, .slice aC e.Right.length aD, .slice aE e.Rules.length aF, .int .i64 e.Done]]) Try.func53 rfl Try.ntmps53 rfl ?_
 have hO := Owns.start hA
 have hB := Fr.refl (bl []) w0
 unfold enumerate_replay at H
 replace ah := ah.ch (Ch.start A w0)
 replace ae := ae.ch (Ch.start A w0)
 replace ad := ad.ch (Ch.start A w0)
 replace ai := ai.ch (Ch.start A w0)
 replace af := af.ch (Ch.start A w0)
 replace ag := ag.ch (Ch.start A w0)
 refine Go1.seq ?_
 refine Go1.region ?_
 have hobt := obox (t := 29) (v := .agg #[.int .i64 e.Points, .bool e.Monoid, .slice a5 e.Gens.length a6, .slice aA e.Elems.length aB, .slice ao e.Prefix.length ap, .slice aX e.Last.length aY, .slice aC e.Right.length aD, .slice aE e.Rules.length aF, .int .i64 e.Done]) (cs := #[.int .i64 e.Points, .bool e.Monoid, .slice a5 e.Gens.length a6, .slice aA e.Elems.length aB, .slice ao e.Prefix.length ap, .slice aX e.Last.length aY, .slice aC e.Right.length aD, .slice aE e.Rules.length aF, .int .i64 e.Done]) hO rfl
 obtain ⟨w1, B2, g6, hs4, uU⟩ := hobt
 refine GoR.op (uU rfl) rfl rfl ?_
 replace hO := g6.own
 replace ah := ah.ch g6.ch
 replace ae := ae.ch g6.ch
 replace ad := ad.ch g6.ch
 replace ai := ai.ch g6.ch
 replace af := af.ch g6.ch
 replace ag := ag.ch g6.ch
 replace hB := hB.trans g6.fr
 refine GoR.op ((op_assign rfl) _) rfl rfl ?_
 refine GoR.op ((op_assign rfl) _) rfl rfl ?_
 refine GoR.nil ?_
 refine Go1.seq ?_
 refine Go1.region ?_
 refine GoR.op ((op_fieldAddr Try.underlying29 rfl ti22 rfl (by decide)) _) rfl rfl ?_
 refine GoR.op ((oblk (i := 2) 0 hO rfl rfl Try.underlying22 rfl rfl) _ (Same.refl _)) rfl rfl ?_
 refine GoR.op ((op_fieldAddr Try.underlying29 rfl ti4 rfl (by decide)) _) rfl rfl ?_
 by_cases h7 : e.Monoid = true
 ·replace H := ifp h7 H
  refine GoR.op (opB ((oblk (i := 1) 0 hO rfl rfl Try.underlying4 rfl rfl) _ (Same.refl _)) (h7)) rfl rfl ?_
  refine GoR.call (op_call body49 rfl (walk_enumerate_begin hO.lt ah H)) rfl rfl ?_
  intro v10 w11 hcase14
  refine Or.elim hcase14 ?_ ?_
  ·refine exE fun r9 => andE fun hv15 => andE fun wB => fun H => ?_
   subst hv15
   clear hcase14
   replace H := oElimN H
   have sR := Stp.same hO wB
   replace hO := sR.own
   replace ah := ah.ch sR.ch
   replace ae := ae.ch sR.ch
   replace ad := ad.ch sR.ch
   replace ai := ai.ch sR.ch
   replace af := af.ch sR.ch
   replace ag := ag.ch sR.ch
   replace hB := hB.trans sR.fr
   refine GoR.op ((op_move rfl) _) rfl rfl ?_
   refine GoR.op ((op_extract rfl rfl) _) rfl rfl ?_
   refine GoR.op ((op_extract rfl rfl) _) rfl rfl ?_
   refine GoR.op ((op_assign rfl) _) rfl rfl ?_
   refine GoR.op ((op_assign rfl) _) rfl rfl ?_
   refine GoR.nil ?_
   refine Go1.seq ?_
   refine Go1.seq ?_
   refine Go1.region ?_
   refine GoR.op ((op_move rfl) _) rfl rfl ?_
   by_cases h17 : r9 = (0 : Int)
   ·replace H := ifp h17 H
    refine GoR.op ((fun w => opB (op_neq rfl rfl w) (ndT h17)) _) rfl rfl ?_
    refine GoR.nil ?_
    refine Go1.condF rfl rfl ?_
    refine Go1.skip ?_
    refine Go1.seq ?_
    refine Go1.block ?_
    refine Go1.loopW (S := Unit) (fun s σ w => agrees σ [(1, .pointer (some ⟨B2, 0, none⟩)), (4, .pointer none)] ∧ Owns w0.heap.size w [.blk B2 (.cells #[.int .i64 e.Points, .bool e.Monoid, .slice a5 e.Gens.length a6, .slice aA e.Elems.length aB, .slice ao e.Prefix.length ap, .slice aX e.Last.length aY, .slice aC e.Right.length aD, .slice aE e.Rules.length aF, .int .i64 e.Done] 29 (0, 0))] A ∧ ISl (Rp.sl (Rp.int .i64)) (bl [.blk B2 (.cells #[.int .i64 e.Points, .bool e.Monoid, .slice a5 e.Gens.length a6, .slice aA e.Elems.length aB, .slice ao e.Prefix.length ap, .slice aX e.Last.length aY, .slice aC e.Right.length aD, .slice aE e.Rules.length aF, .int .i64 e.Done] 29 (0, 0))] ++ A) w a5 a6 e.Gens ∧ ISl (Rp.sl (Rp.int .i64)) (bl [.blk B2 (.cells #[.int .i64 e.Points, .bool e.Monoid, .slice a5 e.Gens.length a6, .slice aA e.Elems.length aB, .slice ao e.Prefix.length ap, .slice aX e.Last.length aY, .slice aC e.Right.length aD, .slice aE e.Rules.length aF, .int .i64 e.Done] 29 (0, 0))] ++ A) w aA aB e.Elems ∧ ISl (Rp.int .i64) (bl [.blk B2 (.cells #[.int .i64 e.Points, .bool e.Monoid, .slice a5 e.Gens.length a6, .slice aA e.Elems.length aB, .slice ao e.Prefix.length ap, .slice aX e.Last.length aY, .slice aC e.Right.length aD, .slice aE e.Rules.length aF, .int .i64 e.Done] 29 (0, 0))] ++ A) w ao ap e.Prefix ∧ ISl (Rp.int .i64) (bl [.blk B2 (.cells #[.int .i64 e.Points, .bool e.Monoid, .slice a5 e.Gens.length a6, .slice aA e.Elems.length aB, .slice ao e.Prefix.length ap, .slice aX e.Last.length aY, .slice aC e.Right.length aD, .slice aE e.Rules.length aF, .int .i64 e.Done] 29 (0, 0))] ++ A) w aX aY e.Last ∧ ISl (Rp.sl (Rp.int .i64)) (bl [.blk B2 (.cells #[.int .i64 e.Points, .bool e.Monoid, .slice a5 e.Gens.length a6, .slice aA e.Elems.length aB, .slice ao e.Prefix.length ap, .slice aX e.Last.length aY, .slice aC e.Right.length aD, .slice aE e.Rules.length aF, .int .i64 e.Done] 29 (0, 0))] ++ A) w aC aD e.Right ∧ ISl (rpRule) (bl [.blk B2 (.cells #[.int .i64 e.Points, .bool e.Monoid, .slice a5 e.Gens.length a6, .slice aA e.Elems.length aB, .slice ao e.Prefix.length ap, .slice aX e.Last.length aY, .slice aC e.Right.length aD, .slice aE e.Rules.length aF, .int .i64 e.Done] 29 (0, 0))] ++ A) w aE aF e.Rules ∧ Fr (bl []) w0 (bl [.blk B2 (.cells #[.int .i64 e.Points, .bool e.Monoid, .slice a5 e.Gens.length a6, .slice aA e.Elems.length aB, .slice ao e.Prefix.length ap, .slice aX e.Last.length aY, .slice aC e.Right.length aD, .slice aE e.Rules.length aF, .int .i64 e.Done] 29 (0, 0))]) w) H ⟨⟨rfl, rfl, trivial⟩, hO, ah, ae, ad, ai, af, ag, hB⟩ ?_
    intro X1 _
    intro H hX1 σ w18
    refine andE fun hag => andE fun hO => andE fun ah => andE fun ae => andE fun ad => andE fun ai => andE fun af => andE fun ag => fun hB => ?_
    refine Go1.keep [(1, .pointer (some ⟨B2, 0, none⟩)), (4, .pointer none)] hag ?_
    refine Go1.seq ?_
    refine Go1.seq ?_
    refine Go1.drawS 0 [(0, .pure), (1, .pure), (2, .pure), (3, .pure), (4, .stable), (5, .pure), (6, .stable), (7, .pure)] mixed (by kernel_rfl) ?_
    intro w19 zF
    have kg := Stp.same hO zF
    replace hO := kg.own
    replace ah := ah.ch kg.ch
    replace ae := ae.ch kg.ch
    replace ad := ad.ch kg.ch
    replace ai := ai.ch kg.ch
    replace af := af.ch kg.ch
    replace ag := ag.ch kg.ch
    replace hB := hB.trans kg.fr
    refine GoQ.pure rfl (op_move rfl) rfl rfl ?_
    exact H.elim
   replace H := ifn h17 H
   refine GoR.op ((fun w => opB (op_neq rfl rfl w) (ndF h17)) _) rfl rfl ?_
   refine GoR.nil ?_
   refine Go1.condT rfl rfl ?_
   refine Go1.seq ?_
   refine Go1.region ?_
   refine GoR.op ((op_assign rfl) _) rfl rfl ?_
   refine GoR.op ((op_assign rfl) _) rfl rfl ?_
   refine GoR.nil ?_
   refine Go1.ret2 Try.func53 rfl ?_
   exact Or.inl ⟨false, rfl, hB.same, H⟩
  ·refine exE fun r8 => exE fun r9 => exE fun gH => exE fun vS => exE fun vT => exE fun vU => exE fun vo => exE fun vp => exE fun vq => exE fun vr => exE fun uV => exE fun uW => exE fun uX => exE fun uY => exE fun uo => exE fun vV => exE fun vW => exE fun vX => exE fun vt => exE fun vu => exE fun vw => exE fun vy => exE fun uZ => exE fun vz => exE fun vA => exE fun vB => exE fun u0 => exE fun bk => exE fun yb => exE fun yc => exE fun yd => exE fun w7 => exE fun xa => exE fun xb => exE fun xc => exE fun wR => exE fun xd => exE fun xe => exE fun xg => exE fun wS => andE fun hv22 => andE fun wB => andE fun hN13 => andE fun pq => andE fun nW => andE fun mZ => andE fun pr => andE fun nX => andE fun nY => andE fun rQ => andE fun q7 => andE fun q8 => fun H => ?_
   subst hv22
   clear hcase14
   replace H := oElimS H
   have ie := Stp.more hO wB hN13
   dsimp only [List.cons_append, List.nil_append] at ie
   replace hO := ie.own
   replace ah := ah.ch ie.ch
   replace ae := ae.ch ie.ch
   replace ad := ad.ch ie.ch
   replace ai := ai.ch ie.ch
   replace af := af.ch ie.ch
   replace ag := ag.ch ie.ch
   replace hB := hB.trans ie.fr
   replace pq := pq.ch (Ch.assoc _ _ _ _)
   dsimp only [List.cons_append, List.nil_append] at pq
   replace nW := nW.ch (Ch.assoc _ _ _ _)
   dsimp only [List.cons_append, List.nil_append] at nW
   replace mZ := mZ.ch (Ch.assoc _ _ _ _)
   dsimp only [List.cons_append, List.nil_append] at mZ
   replace pr := pr.ch (Ch.assoc _ _ _ _)
   dsimp only [List.cons_append, List.nil_append] at pr
   replace nX := nX.ch (Ch.assoc _ _ _ _)
   dsimp only [List.cons_append, List.nil_append] at nX
   replace nY := nY.ch (Ch.assoc _ _ _ _)
   dsimp only [List.cons_append, List.nil_append] at nY
   replace rQ := rQ.ch (Ch.assoc _ _ _ _)
   dsimp only [List.cons_append, List.nil_append] at rQ
   replace q7 := q7.ch (Ch.assoc _ _ _ _)
   dsimp only [List.cons_append, List.nil_append] at q7
   replace q8 := q8.ch (Ch.assoc _ _ _ _)
   dsimp only [List.cons_append, List.nil_append] at q8
   refine GoR.op ((op_move rfl) _) rfl rfl ?_
   refine GoR.op ((op_extract rfl rfl) _) rfl rfl ?_
   refine GoR.op ((op_extract rfl rfl) _) rfl rfl ?_
   refine GoR.op ((op_assign rfl) _) rfl rfl ?_
   refine GoR.op ((op_assign rfl) _) rfl rfl ?_
   refine GoR.nil ?_
   refine Go1.seq ?_
   refine Go1.seq ?_
   refine Go1.region ?_
   refine GoR.op ((op_move rfl) _) rfl rfl ?_
   by_cases h35 : r9 = (0 : Int)
   ·replace H := ifp h35 H
    refine GoR.op ((fun w => opB (op_neq rfl rfl w) (ndT h35)) _) rfl rfl ?_
    refine GoR.nil ?_
    refine Go1.condF rfl rfl ?_
    refine Go1.skip ?_
    refine Go1.seq ?_
    refine Go1.block ?_
    refine Go1.loopW (S := Int × Bool × Int × List (List Int) × List (List Int) × List Int × List Int × List (List Int) × List Rule × List Str × List Int × List Int × (List (Str × Int))) (fun s σ w => match s with | (k2_37, b2_38, k2_39, d_40, d_46, d_52, d_58, d_64, d_70, d_76, d_82, d_88, m2_94) => ∃ (n45 : Nat), ∃ (p43 : Option Addr), ∃ (c44 : Nat), ∃ (dH : List Value), ∃ (n51 : Nat), ∃ (p49 : Option Addr), ∃ (c50 : Nat), ∃ (dI : List Value), ∃ (n57 : Nat), ∃ (p55 : Option Addr), ∃ (c56 : Nat), ∃ (iO : List Value), ∃ (n63 : Nat), ∃ (p61 : Option Addr), ∃ (c62 : Nat), ∃ (iP : List Value), ∃ (n69 : Nat), ∃ (p67 : Option Addr), ∃ (c68 : Nat), ∃ (iQ : List Value), ∃ (n75 : Nat), ∃ (p73 : Option Addr), ∃ (c74 : Nat), ∃ (iR : List Value), ∃ (n81 : Nat), ∃ (p79 : Option Addr), ∃ (c80 : Nat), ∃ (iS : List Value), ∃ (n87 : Nat), ∃ (p85 : Option Addr), ∃ (c86 : Nat), ∃ (iT : List Value), ∃ (n93 : Nat), ∃ (p91 : Option Addr), ∃ (c92 : Nat), ∃ (iU : List Value), agrees σ [(1, .pointer (some ⟨B2, 0, none⟩)), (4, .pointer (some ⟨gH, 0, none⟩))] ∧ Owns w0.heap.size w [.blk gH (.cells #[.int .i64 k2_37, .bool b2_38, .slice p43 n45 c44, .slice p49 n51 c50, .slice p55 n57 c56, .slice p61 n63 c62, .slice p67 n69 c68, .slice p73 n75 c74, .int .i64 k2_39, .map (some bk), .slice p79 n81 c80, .slice p85 n87 c86, .slice p91 n93 c92] 72 (0, 0)), .row 26 1 p43 n45 c44 dH, .row 26 1 p49 n51 c50 dI, .row 3 1 p55 n57 c56 iO, .row 3 1 p61 n63 c62 iP, .row 26 1 p67 n69 c68 iQ, .row 39 2 p73 n75 c74 iR, .row 9 1 p79 n81 c80 iS, .row 3 1 p85 n87 c86 iT, .row 3 1 p91 n93 c92 iU, .any (mapE (fun a : List UInt8 => Value.string (gstr a)) (fun a : Int => Value.int .i64 a) bk m2_94), .blk B2 (.cells #[.int .i64 e.Points, .bool e.Monoid, .slice a5 e.Gens.length a6, .slice aA e.Elems.length aB, .slice ao e.Prefix.length ap, .slice aX e.Last.length aY, .slice aC e.Right.length aD, .slice aE e.Rules.length aF, .int .i64 e.Done] 29 (0, 0))] A ∧ Els (Rp.sl (Rp.int .i64)) (bl [.blk gH (.cells #[.int .i64 k2_37, .bool b2_38, .slice p43 n45 c44, .slice p49 n51 c50, .slice p55 n57 c56, .slice p61 n63 c62, .slice p67 n69 c68, .slice p73 n75 c74, .int .i64 k2_39, .map (some bk), .slice p79 n81 c80, .slice p85 n87 c86, .slice p91 n93 c92] 72 (0, 0)), .row 26 1 p43 n45 c44 dH, .row 26 1 p49 n51 c50 dI, .row 3 1 p55 n57 c56 iO, .row 3 1 p61 n63 c62 iP, .row 26 1 p67 n69 c68 iQ, .row 39 2 p73 n75 c74 iR, .row 9 1 p79 n81 c80 iS, .row 3 1 p85 n87 c86 iT, .row 3 1 p91 n93 c92 iU, .any (mapE (fun a : List UInt8 => Value.string (gstr a)) (fun a : Int => Value.int .i64 a) bk m2_94), .blk B2 (.cells #[.int .i64 e.Points, .bool e.Monoid, .slice a5 e.Gens.length a6, .slice aA e.Elems.length aB, .slice ao e.Prefix.length ap, .slice aX e.Last.length aY, .slice aC e.Right.length aD, .slice aE e.Rules.length aF, .int .i64 e.Done] 29 (0, 0))] ++ A) w dH d_40 ∧ Els (Rp.sl (Rp.int .i64)) (bl [.blk gH (.cells #[.int .i64 k2_37, .bool b2_38, .slice p43 n45 c44, .slice p49 n51 c50, .slice p55 n57 c56, .slice p61 n63 c62, .slice p67 n69 c68, .slice p73 n75 c74, .int .i64 k2_39, .map (some bk), .slice p79 n81 c80, .slice p85 n87 c86, .slice p91 n93 c92] 72 (0, 0)), .row 26 1 p43 n45 c44 dH, .row 26 1 p49 n51 c50 dI, .row 3 1 p55 n57 c56 iO, .row 3 1 p61 n63 c62 iP, .row 26 1 p67 n69 c68 iQ, .row 39 2 p73 n75 c74 iR, .row 9 1 p79 n81 c80 iS, .row 3 1 p85 n87 c86 iT, .row 3 1 p91 n93 c92 iU, .any (mapE (fun a : List UInt8 => Value.string (gstr a)) (fun a : Int => Value.int .i64 a) bk m2_94), .blk B2 (.cells #[.int .i64 e.Points, .bool e.Monoid, .slice a5 e.Gens.length a6, .slice aA e.Elems.length aB, .slice ao e.Prefix.length ap, .slice aX e.Last.length aY, .slice aC e.Right.length aD, .slice aE e.Rules.length aF, .int .i64 e.Done] 29 (0, 0))] ++ A) w dI d_46 ∧ Els (Rp.int .i64) (bl [.blk gH (.cells #[.int .i64 k2_37, .bool b2_38, .slice p43 n45 c44, .slice p49 n51 c50, .slice p55 n57 c56, .slice p61 n63 c62, .slice p67 n69 c68, .slice p73 n75 c74, .int .i64 k2_39, .map (some bk), .slice p79 n81 c80, .slice p85 n87 c86, .slice p91 n93 c92] 72 (0, 0)), .row 26 1 p43 n45 c44 dH, .row 26 1 p49 n51 c50 dI, .row 3 1 p55 n57 c56 iO, .row 3 1 p61 n63 c62 iP, .row 26 1 p67 n69 c68 iQ, .row 39 2 p73 n75 c74 iR, .row 9 1 p79 n81 c80 iS, .row 3 1 p85 n87 c86 iT, .row 3 1 p91 n93 c92 iU, .any (mapE (fun a : List UInt8 => Value.string (gstr a)) (fun a : Int => Value.int .i64 a) bk m2_94), .blk B2 (.cells #[.int .i64 e.Points, .bool e.Monoid, .slice a5 e.Gens.length a6, .slice aA e.Elems.length aB, .slice ao e.Prefix.length ap, .slice aX e.Last.length aY, .slice aC e.Right.length aD, .slice aE e.Rules.length aF, .int .i64 e.Done] 29 (0, 0))] ++ A) w iO d_52 ∧ Els (Rp.int .i64) (bl [.blk gH (.cells #[.int .i64 k2_37, .bool b2_38, .slice p43 n45 c44, .slice p49 n51 c50, .slice p55 n57 c56, .slice p61 n63 c62, .slice p67 n69 c68, .slice p73 n75 c74, .int .i64 k2_39, .map (some bk), .slice p79 n81 c80, .slice p85 n87 c86, .slice p91 n93 c92] 72 (0, 0)), .row 26 1 p43 n45 c44 dH, .row 26 1 p49 n51 c50 dI, .row 3 1 p55 n57 c56 iO, .row 3 1 p61 n63 c62 iP, .row 26 1 p67 n69 c68 iQ, .row 39 2 p73 n75 c74 iR, .row 9 1 p79 n81 c80 iS, .row 3 1 p85 n87 c86 iT, .row 3 1 p91 n93 c92 iU, .any (mapE (fun a : List UInt8 => Value.string (gstr a)) (fun a : Int => Value.int .i64 a) bk m2_94), .blk B2 (.cells #[.int .i64 e.Points, .bool e.Monoid, .slice a5 e.Gens.length a6, .slice aA e.Elems.length aB, .slice ao e.Prefix.length ap, .slice aX e.Last.length aY, .slice aC e.Right.length aD, .slice aE e.Rules.length aF, .int .i64 e.Done] 29 (0, 0))] ++ A) w iP d_58 ∧ Els (Rp.sl (Rp.int .i64)) (bl [.blk gH (.cells #[.int .i64 k2_37, .bool b2_38, .slice p43 n45 c44, .slice p49 n51 c50, .slice p55 n57 c56, .slice p61 n63 c62, .slice p67 n69 c68, .slice p73 n75 c74, .int .i64 k2_39, .map (some bk), .slice p79 n81 c80, .slice p85 n87 c86, .slice p91 n93 c92] 72 (0, 0)), .row 26 1 p43 n45 c44 dH, .row 26 1 p49 n51 c50 dI, .row 3 1 p55 n57 c56 iO, .row 3 1 p61 n63 c62 iP, .row 26 1 p67 n69 c68 iQ, .row 39 2 p73 n75 c74 iR, .row 9 1 p79 n81 c80 iS, .row 3 1 p85 n87 c86 iT, .row 3 1 p91 n93 c92 iU, .any (mapE (fun a : List UInt8 => Value.string (gstr a)) (fun a : Int => Value.int .i64 a) bk m2_94), .blk B2 (.cells #[.int .i64 e.Points, .bool e.Monoid, .slice a5 e.Gens.length a6, .slice aA e.Elems.length aB, .slice ao e.Prefix.length ap, .slice aX e.Last.length aY, .slice aC e.Right.length aD, .slice aE e.Rules.length aF, .int .i64 e.Done] 29 (0, 0))] ++ A) w iQ d_64 ∧ Els (rpRule) (bl [.blk gH (.cells #[.int .i64 k2_37, .bool b2_38, .slice p43 n45 c44, .slice p49 n51 c50, .slice p55 n57 c56, .slice p61 n63 c62, .slice p67 n69 c68, .slice p73 n75 c74, .int .i64 k2_39, .map (some bk), .slice p79 n81 c80, .slice p85 n87 c86, .slice p91 n93 c92] 72 (0, 0)), .row 26 1 p43 n45 c44 dH, .row 26 1 p49 n51 c50 dI, .row 3 1 p55 n57 c56 iO, .row 3 1 p61 n63 c62 iP, .row 26 1 p67 n69 c68 iQ, .row 39 2 p73 n75 c74 iR, .row 9 1 p79 n81 c80 iS, .row 3 1 p85 n87 c86 iT, .row 3 1 p91 n93 c92 iU, .any (mapE (fun a : List UInt8 => Value.string (gstr a)) (fun a : Int => Value.int .i64 a) bk m2_94), .blk B2 (.cells #[.int .i64 e.Points, .bool e.Monoid, .slice a5 e.Gens.length a6, .slice aA e.Elems.length aB, .slice ao e.Prefix.length ap, .slice aX e.Last.length aY, .slice aC e.Right.length aD, .slice aE e.Rules.length aF, .int .i64 e.Done] 29 (0, 0))] ++ A) w iR d_70 ∧ Els (Rp.str) (bl [.blk gH (.cells #[.int .i64 k2_37, .bool b2_38, .slice p43 n45 c44, .slice p49 n51 c50, .slice p55 n57 c56, .slice p61 n63 c62, .slice p67 n69 c68, .slice p73 n75 c74, .int .i64 k2_39, .map (some bk), .slice p79 n81 c80, .slice p85 n87 c86, .slice p91 n93 c92] 72 (0, 0)), .row 26 1 p43 n45 c44 dH, .row 26 1 p49 n51 c50 dI, .row 3 1 p55 n57 c56 iO, .row 3 1 p61 n63 c62 iP, .row 26 1 p67 n69 c68 iQ, .row 39 2 p73 n75 c74 iR, .row 9 1 p79 n81 c80 iS, .row 3 1 p85 n87 c86 iT, .row 3 1 p91 n93 c92 iU, .any (mapE (fun a : List UInt8 => Value.string (gstr a)) (fun a : Int => Value.int .i64 a) bk m2_94), .blk B2 (.cells #[.int .i64 e.Points, .bool e.Monoid, .slice a5 e.Gens.length a6, .slice aA e.Elems.length aB, .slice ao e.Prefix.length ap, .slice aX e.Last.length aY, .slice aC e.Right.length aD, .slice aE e.Rules.length aF, .int .i64 e.Done] 29 (0, 0))] ++ A) w iS d_76 ∧ Els (Rp.int .i64) (bl [.blk gH (.cells #[.int .i64 k2_37, .bool b2_38, .slice p43 n45 c44, .slice p49 n51 c50, .slice p55 n57 c56, .slice p61 n63 c62, .slice p67 n69 c68, .slice p73 n75 c74, .int .i64 k2_39, .map (some bk), .slice p79 n81 c80, .slice p85 n87 c86, .slice p91 n93 c92] 72 (0, 0)), .row 26 1 p43 n45 c44 dH, .row 26 1 p49 n51 c50 dI, .row 3 1 p55 n57 c56 iO, .row 3 1 p61 n63 c62 iP, .row 26 1 p67 n69 c68 iQ, .row 39 2 p73 n75 c74 iR, .row 9 1 p79 n81 c80 iS, .row 3 1 p85 n87 c86 iT, .row 3 1 p91 n93 c92 iU, .any (mapE (fun a : List UInt8 => Value.string (gstr a)) (fun a : Int => Value.int .i64 a) bk m2_94), .blk B2 (.cells #[.int .i64 e.Points, .bool e.Monoid, .slice a5 e.Gens.length a6, .slice aA e.Elems.length aB, .slice ao e.Prefix.length ap, .slice aX e.Last.length aY, .slice aC e.Right.length aD, .slice aE e.Rules.length aF, .int .i64 e.Done] 29 (0, 0))] ++ A) w iT d_82 ∧ Els (Rp.int .i64) (bl [.blk gH (.cells #[.int .i64 k2_37, .bool b2_38, .slice p43 n45 c44, .slice p49 n51 c50, .slice p55 n57 c56, .slice p61 n63 c62, .slice p67 n69 c68, .slice p73 n75 c74, .int .i64 k2_39, .map (some bk), .slice p79 n81 c80, .slice p85 n87 c86, .slice p91 n93 c92] 72 (0, 0)), .row 26 1 p43 n45 c44 dH, .row 26 1 p49 n51 c50 dI, .row 3 1 p55 n57 c56 iO, .row 3 1 p61 n63 c62 iP, .row 26 1 p67 n69 c68 iQ, .row 39 2 p73 n75 c74 iR, .row 9 1 p79 n81 c80 iS, .row 3 1 p85 n87 c86 iT, .row 3 1 p91 n93 c92 iU, .any (mapE (fun a : List UInt8 => Value.string (gstr a)) (fun a : Int => Value.int .i64 a) bk m2_94), .blk B2 (.cells #[.int .i64 e.Points, .bool e.Monoid, .slice a5 e.Gens.length a6, .slice aA e.Elems.length aB, .slice ao e.Prefix.length ap, .slice aX e.Last.length aY, .slice aC e.Right.length aD, .slice aE e.Rules.length aF, .int .i64 e.Done] 29 (0, 0))] ++ A) w iU d_88 ∧ ISl (Rp.sl (Rp.int .i64)) (bl [.blk gH (.cells #[.int .i64 k2_37, .bool b2_38, .slice p43 n45 c44, .slice p49 n51 c50, .slice p55 n57 c56, .slice p61 n63 c62, .slice p67 n69 c68, .slice p73 n75 c74, .int .i64 k2_39, .map (some bk), .slice p79 n81 c80, .slice p85 n87 c86, .slice p91 n93 c92] 72 (0, 0)), .row 26 1 p43 n45 c44 dH, .row 26 1 p49 n51 c50 dI, .row 3 1 p55 n57 c56 iO, .row 3 1 p61 n63 c62 iP, .row 26 1 p67 n69 c68 iQ, .row 39 2 p73 n75 c74 iR, .row 9 1 p79 n81 c80 iS, .row 3 1 p85 n87 c86 iT, .row 3 1 p91 n93 c92 iU, .any (mapE (fun a : List UInt8 => Value.string (gstr a)) (fun a : Int => Value.int .i64 a) bk m2_94), .blk B2 (.cells #[.int .i64 e.Points, .bool e.Monoid, .slice a5 e.Gens.length a6, .slice aA e.Elems.length aB, .slice ao e.Prefix.length ap, .slice aX e.Last.length aY, .slice aC e.Right.length aD, .slice aE e.Rules.length aF, .int .i64 e.Done] 29 (0, 0))] ++ A) w a5 a6 e.Gens ∧ ISl (Rp.sl (Rp.int .i64)) (bl [.blk gH (.cells #[.int .i64 k2_37, .bool b2_38, .slice p43 n45 c44, .slice p49 n51 c50, .slice p55 n57 c56, .slice p61 n63 c62, .slice p67 n69 c68, .slice p73 n75 c74, .int .i64 k2_39, .map (some bk), .slice p79 n81 c80, .slice p85 n87 c86, .slice p91 n93 c92] 72 (0, 0)), .row 26 1 p43 n45 c44 dH, .row 26 1 p49 n51 c50 dI, .row 3 1 p55 n57 c56 iO, .row 3 1 p61 n63 c62 iP, .row 26 1 p67 n69 c68 iQ, .row 39 2 p73 n75 c74 iR, .row 9 1 p79 n81 c80 iS, .row 3 1 p85 n87 c86 iT, .row 3 1 p91 n93 c92 iU, .any (mapE (fun a : List UInt8 => Value.string (gstr a)) (fun a : Int => Value.int .i64 a) bk m2_94), .blk B2 (.cells #[.int .i64 e.Points, .bool e.Monoid, .slice a5 e.Gens.length a6, .slice aA e.Elems.length aB, .slice ao e.Prefix.length ap, .slice aX e.Last.length aY, .slice aC e.Right.length aD, .slice aE e.Rules.length aF, .int .i64 e.Done] 29 (0, 0))] ++ A) w aA aB e.Elems ∧ ISl (Rp.int .i64) (bl [.blk gH (.cells #[.int .i64 k2_37, .bool b2_38, .slice p43 n45 c44, .slice p49 n51 c50, .slice p55 n57 c56, .slice p61 n63 c62, .slice p67 n69 c68, .slice p73 n75 c74, .int .i64 k2_39, .map (some bk), .slice p79 n81 c80, .slice p85 n87 c86, .slice p91 n93 c92] 72 (0, 0)), .row 26 1 p43 n45 c44 dH, .row 26 1 p49 n51 c50 dI, .row 3 1 p55 n57 c56 iO, .row 3 1 p61 n63 c62 iP, .row 26 1 p67 n69 c68 iQ, .row 39 2 p73 n75 c74 iR, .row 9 1 p79 n81 c80 iS, .row 3 1 p85 n87 c86 iT, .row 3 1 p91 n93 c92 iU, .any (mapE (fun a : List UInt8 => Value.string (gstr a)) (fun a : Int => Value.int .i64 a) bk m2_94), .blk B2 (.cells #[.int .i64 e.Points, .bool e.Monoid, .slice a5 e.Gens.length a6, .slice aA e.Elems.length aB, .slice ao e.Prefix.length ap, .slice aX e.Last.length aY, .slice aC e.Right.length aD, .slice aE e.Rules.length aF, .int .i64 e.Done] 29 (0, 0))] ++ A) w ao ap e.Prefix ∧ ISl (Rp.int .i64) (bl [.blk gH (.cells #[.int .i64 k2_37, .bool b2_38, .slice p43 n45 c44, .slice p49 n51 c50, .slice p55 n57 c56, .slice p61 n63 c62, .slice p67 n69 c68, .slice p73 n75 c74, .int .i64 k2_39, .map (some bk), .slice p79 n81 c80, .slice p85 n87 c86, .slice p91 n93 c92] 72 (0, 0)), .row 26 1 p43 n45 c44 dH, .row 26 1 p49 n51 c50 dI, .row 3 1 p55 n57 c56 iO, .row 3 1 p61 n63 c62 iP, .row 26 1 p67 n69 c68 iQ, .row 39 2 p73 n75 c74 iR, .row 9 1 p79 n81 c80 iS, .row 3 1 p85 n87 c86 iT, .row 3 1 p91 n93 c92 iU, .any (mapE (fun a : List UInt8 => Value.string (gstr a)) (fun a : Int => Value.int .i64 a) bk m2_94), .blk B2 (.cells #[.int .i64 e.Points, .bool e.Monoid, .slice a5 e.Gens.length a6, .slice aA e.Elems.length aB, .slice ao e.Prefix.length ap, .slice aX e.Last.length aY, .slice aC e.Right.length aD, .slice aE e.Rules.length aF, .int .i64 e.Done] 29 (0, 0))] ++ A) w aX aY e.Last ∧ ISl (Rp.sl (Rp.int .i64)) (bl [.blk gH (.cells #[.int .i64 k2_37, .bool b2_38, .slice p43 n45 c44, .slice p49 n51 c50, .slice p55 n57 c56, .slice p61 n63 c62, .slice p67 n69 c68, .slice p73 n75 c74, .int .i64 k2_39, .map (some bk), .slice p79 n81 c80, .slice p85 n87 c86, .slice p91 n93 c92] 72 (0, 0)), .row 26 1 p43 n45 c44 dH, .row 26 1 p49 n51 c50 dI, .row 3 1 p55 n57 c56 iO, .row 3 1 p61 n63 c62 iP, .row 26 1 p67 n69 c68 iQ, .row 39 2 p73 n75 c74 iR, .row 9 1 p79 n81 c80 iS, .row 3 1 p85 n87 c86 iT, .row 3 1 p91 n93 c92 iU, .any (mapE (fun a : List UInt8 => Value.string (gstr a)) (fun a : Int => Value.int .i64 a) bk m2_94), .blk B2 (.cells #[.int .i64 e.Points, .bool e.Monoid, .slice a5 e.Gens.length a6, .slice aA e.Elems.length aB, .slice ao e.Prefix.length ap, .slice aX e.Last.length aY, .slice aC e.Right.length aD, .slice aE e.Rules.length aF, .int .i64 e.Done] 29 (0, 0))] ++ A) w aC aD e.Right ∧ ISl (rpRule) (bl [.blk gH (.cells #[.int .i64 k2_37, .bool b2_38, .slice p43 n45 c44, .slice p49 n51 c50, .slice p55 n57 c56, .slice p61 n63 c62, .slice p67 n69 c68, .slice p73 n75 c74, .int .i64 k2_39, .map (some bk), .slice p79 n81 c80, .slice p85 n87 c86, .slice p91 n93 c92] 72 (0, 0)), .row 26 1 p43 n45 c44 dH, .row 26 1 p49 n51 c50 dI, .row 3 1 p55 n57 c56 iO, .row 3 1 p61 n63 c62 iP, .row 26 1 p67 n69 c68 iQ, .row 39 2 p73 n75 c74 iR, .row 9 1 p79 n81 c80 iS, .row 3 1 p85 n87 c86 iT, .row 3 1 p91 n93 c92 iU, .any (mapE (fun a : List UInt8 => Value.string (gstr a)) (fun a : Int => Value.int .i64 a) bk m2_94), .blk B2 (.cells #[.int .i64 e.Points, .bool e.Monoid, .slice a5 e.Gens.length a6, .slice aA e.Elems.length aB, .slice ao e.Prefix.length ap, .slice aX e.Last.length aY, .slice aC e.Right.length aD, .slice aE e.Rules.length aF, .int .i64 e.Done] 29 (0, 0))] ++ A) w aE aF e.Rules ∧ Fr (bl []) w0 (bl [.blk gH (.cells #[.int .i64 k2_37, .bool b2_38, .slice p43 n45 c44, .slice p49 n51 c50, .slice p55 n57 c56, .slice p61 n63 c62, .slice p67 n69 c68, .slice p73 n75 c74, .int .i64 k2_39, .map (some bk), .slice p79 n81 c80, .slice p85 n87 c86, .slice p91 n93 c92] 72 (0, 0)), .row 26 1 p43 n45 c44 dH, .row 26 1 p49 n51 c50 dI, .row 3 1 p55 n57 c56 iO, .row 3 1 p61 n63 c62 iP, .row 26 1 p67 n69 c68 iQ, .row 39 2 p73 n75 c74 iR, .row 9 1 p79 n81 c80 iS, .row 3 1 p85 n87 c86 iT, .row 3 1 p91 n93 c92 iU, .any (mapE (fun a : List UInt8 => Value.string (gstr a)) (fun a : Int => Value.int .i64 a) bk m2_94), .blk B2 (.cells #[.int .i64 e.Points, .bool e.Monoid, .slice a5 e.Gens.length a6, .slice aA e.Elems.length aB, .slice ao e.Prefix.length ap, .slice aX e.Last.length aY, .slice aC e.Right.length aD, .slice aE e.Rules.length aF, .int .i64 e.Done] 29 (0, 0))]) w) H ⟨vS, vT, vU, vo, vp, vq, vr, uV, uW, uX, uY, uo, vV, vW, vX, vt, vu, vw, vy, uZ, vz, vA, vB, u0, yb, yc, yd, w7, xa, xb, xc, wR, xd, xe, xg, wS, ⟨rfl, rfl, trivial⟩, hO, pq, nW, mZ, pr, nX, nY, rQ, q7, q8, ah, ae, ad, ai, af, ag, hB⟩ ?_
    intro X2
    refine prE fun k2_37 => prE fun b2_38 => prE fun k2_39 => prE fun d_40 => prE fun d_46 => prE fun d_52 => prE fun d_58 => prE fun d_64 => prE fun d_70 => prE fun d_76 => prE fun d_82 => prE fun d_88 => fun m2_94 => ?_
    intro H hX2 σ w36
    refine exE fun n45 => exE fun p43 => exE fun c44 => exE fun dH => exE fun n51 => exE fun p49 => exE fun c50 => exE fun dI => exE fun n57 => exE fun p55 => exE fun c56 => exE fun iO => exE fun n63 => exE fun p61 => exE fun c62 => exE fun iP => exE fun n69 => exE fun p67 => exE fun c68 => exE fun iQ => exE fun n75 => exE fun p73 => exE fun c74 => exE fun iR => exE fun n81 => exE fun p79 => exE fun c80 => exE fun iS => exE fun n87 => exE fun p85 => exE fun c86 => exE fun iT => exE fun n93 => exE fun p91 => exE fun c92 => exE fun iU => andE fun hag => andE fun hO => andE fun aQ => andE fun aG => andE fun dg => andE fun dh => andE fun di => andE fun dj => andE fun dk => andE fun dl => andE fun cW => andE fun ah => andE fun ae => andE fun ad => andE fun ai => andE fun af => andE fun ag => fun hB => ?_
    dsimp only at H
    refine Go1.keep [(1, .pointer (some ⟨B2, 0, none⟩)), (4, .pointer (some ⟨gH, 0, none⟩))] hag ?_
    refine Go1.seq ?_
    refine Go1.seq ?_
    refine Go1.drawS 0 [(0, .pure), (1, .pure), (2, .pure), (3, .pure), (4, .stable), (5, .pure), (6, .stable), (7, .pure)] mixed (by kernel_rfl) ?_
    intro w95 Hj
    have fu := Stp.same hO Hj
    replace aQ := aQ.ch fu.ch
    replace aG := aG.ch fu.ch
    replace dg := dg.ch fu.ch
    replace dh := dh.ch fu.ch
    replace di := di.ch fu.ch
    replace dj := dj.ch fu.ch
    replace dk := dk.ch fu.ch
    replace dl := dl.ch fu.ch
    replace cW := cW.ch fu.ch
    replace hO := fu.own
    replace ah := ah.ch fu.ch
    replace ae := ae.ch fu.ch
    replace ad := ad.ch fu.ch
    replace ai := ai.ch fu.ch
    replace af := af.ch fu.ch
    replace ag := ag.ch fu.ch
    replace hB := hB.trans fu.fr
    refine GoQ.pure rfl (op_move rfl) rfl rfl ?_
    refine GoQ.pure rfl (op_nilCheck rfl) rfl rfl ?_
    refine GoQ.pure rfl (op_fieldAddr Try.underlying72 rfl ti29 rfl (by decide)) rfl rfl ?_
    refine GoQ.pure rfl (op_fieldAddr Try.underlying29 rfl ti3 rfl (by decide)) rfl rfl ?_
    refine GoQ.stable rfl (oblk (i := 8) 0 hO rfl rfl Try.underlying3 rfl rfl) rfl rfl ?_
    refine GoQ.pure rfl (op_fieldAddr Try.underlying29 rfl ti3 rfl (by decide)) rfl rfl ?_
    refine GoQ.stable rfl (oblk (i := 8) 11 hO rfl rfl Try.underlying3 rfl rfl) rfl rfl ?_
    by_cases h98 : k2_39 < e.Done
    ·replace H := ifp h98 H
     refine GoQ.pure rfl (fun w => opB (op_lss rfl rfl w) (decide_eq_true h98)) rfl rfl ?_
     refine GoQ.nil ?_
     refine Go1.condT rfl rfl ?_
     refine Go1.skip ?_
     refine Go1.block ?_
     refine Go1.seq ?_
     refine Go1.region ?_
     refine GoR.op ((op_move rfl) _) rfl rfl ?_
     refine GoR.inl (vs := [.pointer (some ⟨gH, 0, none⟩)]) (caps := []) rfl rfl body50 Try.func50 rfl Try.ntmps50 rfl rfl rfl ?_
     intro RhR99 hR99
     refine Go1.seq ?_
     refine Go1.region ?_
     refine GoR.op ((op_assign rfl) _) rfl rfl ?_
     refine GoR.nil ?_
     refine Go1.seq ?_
     refine Go1.drawS 0 [(0, .pure), (1, .pure), (2, .pure), (3, .pure), (4, .stable), (5, .pure), (6, .pure), (7, .pure), (8, .pure), (9, .stable), (10, .pure), (11, .pure), (12, .pure)] mixed (by kernel_rfl) ?_
     intro wT E3
     have kG := Stp.same hO E3
     replace aQ := aQ.ch kG.ch
     replace aG := aG.ch kG.ch
     replace dg := dg.ch kG.ch
     replace dh := dh.ch kG.ch
     replace di := di.ch kG.ch
     replace dj := dj.ch kG.ch
     replace dk := dk.ch kG.ch
     replace dl := dl.ch kG.ch
     replace cW := cW.ch kG.ch
     replace hO := kG.own
     replace ah := ah.ch kG.ch
     replace ae := ae.ch kG.ch
     replace ad := ad.ch kG.ch
     replace ai := ai.ch kG.ch
     replace af := af.ch kG.ch
     replace ag := ag.ch kG.ch
     replace hB := hB.trans kG.fr
     refine GoQ.pure rfl (op_move rfl) rfl rfl ?_
     refine GoQ.pure rfl (op_nilCheck rfl) rfl rfl ?_
     refine GoQ.pure rfl (op_fieldAddr Try.underlying72 rfl ti29 rfl (by decide)) rfl rfl ?_
     refine GoQ.pure rfl (op_fieldAddr Try.underlying29 rfl ti3 rfl (by decide)) rfl rfl ?_
     refine GoQ.stable rfl (oblk (i := 8) 0 hO rfl rfl Try.underlying3 rfl rfl) rfl rfl ?_
     refine GoQ.pure rfl (op_move rfl) rfl rfl ?_
     refine GoQ.pure rfl (op_nilCheck rfl) rfl rfl ?_
     refine GoQ.pure rfl (op_fieldAddr Try.underlying72 rfl ti29 rfl (by decide)) rfl rfl ?_
     refine GoQ.pure rfl (op_fieldAddr Try.underlying29 rfl ti22 rfl (by decide)) rfl rfl ?_
     refine GoQ.stable rfl (oblk (i := 3) 0 hO rfl rfl Try.underlying22 rfl rfl) rfl rfl ?_
     refine GoQ.pure rfl (op_lenN Try.underlying22 rfl (aG.neq hO 2 rfl)) rfl rfl ?_
     by_cases ye : k2_39 = (d_46.length : Int)
     ·replace H := ifp ye H
      refine GoQ.pure rfl (fun w => opB (op_eql rfl rfl w) (decide_eq_true ye)) rfl rfl ?_
      refine GoQ.pure rfl (op_assign rfl) rfl rfl ?_
      refine GoQ.nil ?_
      refine Go1.ret1V Try.func50 rfl (show _ = .bool true from rfl) ?_
      refine hR99 _ _ ?_
      refine GoR.op ((op_move rfl) _) rfl rfl ?_
      refine GoR.pass rfl rfl ?_
      refine GoR.pass rfl rfl ?_
      refine GoR.pass rfl rfl ?_
      refine GoR.op ((op_pickT rfl rfl rfl) _) rfl rfl ?_
      refine GoR.nil ?_
      refine Go1.condT rfl rfl ?_
      refine Go1.seq ?_
      refine Go1.cut [] trivial ?_
      intro σ _
      refine Go1.region ?_
      refine GoR.op ((op_assign rfl) _) rfl rfl ?_
      refine GoR.op ((op_assign rfl) _) rfl rfl ?_
      refine GoR.nil ?_
      refine Go1.ret2 Try.func53 rfl ?_
      exact Or.inl ⟨false, rfl, hB.same, H⟩
     replace H := ifn ye H
     refine GoQ.pure rfl (fun w => opB (op_eql rfl rfl w) (decide_eq_false ye)) rfl rfl ?_
     refine GoQ.pure rfl (op_assign rfl) rfl rfl ?_
     refine GoQ.nil ?_
     refine Go1.ret1V Try.func50 rfl (show _ = .bool false from rfl) ?_
     refine hR99 _ _ ?_
     refine GoR.op ((op_move rfl) _) rfl rfl ?_
     refine GoR.op ((op_move rfl) _) rfl rfl ?_
     have zW : Owns w0.heap.size wT ([.blk gH (.cells #[.int .i64 k2_37, .bool b2_38, .slice p43 n45 c44, .slice p49 n51 c50, .slice p55 n57 c56, .slice p61 n63 c62, .slice p67 n69 c68, .slice p73 n75 c74, .int .i64 k2_39, .map (some bk), .slice p79 n81 c80, .slice p85 n87 c86, .slice p91 n93 c92] 72 (0, 0)), .row 26 1 p43 n45 c44 dH, .row 26 1 p49 n51 c50 dI, .row 3 1 p55 n57 c56 iO, .row 3 1 p61 n63 c62 iP, .row 26 1 p67 n69 c68 iQ, .row 39 2 p73 n75 c74 iR, .row 9 1 p79 n81 c80 iS, .row 3 1 p85 n87 c86 iT, .row 3 1 p91 n93 c92 iU, .any (mapE (fun a : List UInt8 => Value.string (gstr a)) (fun a : Int => Value.int .i64 a) bk m2_94)] ++ [.blk B2 (.cells #[.int .i64 e.Points, .bool e.Monoid, .slice a5 e.Gens.length a6, .slice aA e.Elems.length aB, .slice ao e.Prefix.length ap, .slice aX e.Last.length aY, .slice aC e.Right.length aD, .slice aE e.Rules.length aF, .int .i64 e.Done] 29 (0, 0))]) A := hO
     have E4 := Owns.split zW
     have hca106 : Ch (bl [.blk gH (.cells #[.int .i64 k2_37, .bool b2_38, .slice p43 n45 c44, .slice p49 n51 c50, .slice p55 n57 c56, .slice p61 n63 c62, .slice p67 n69 c68, .slice p73 n75 c74, .int .i64 k2_39, .map (some bk), .slice p79 n81 c80, .slice p85 n87 c86, .slice p91 n93 c92] 72 (0, 0)), .row 26 1 p43 n45 c44 dH, .row 26 1 p49 n51 c50 dI, .row 3 1 p55 n57 c56 iO, .row 3 1 p61 n63 c62 iP, .row 26 1 p67 n69 c68 iQ, .row 39 2 p73 n75 c74 iR, .row 9 1 p79 n81 c80 iS, .row 3 1 p85 n87 c86 iT, .row 3 1 p91 n93 c92 iU, .any (mapE (fun a : List UInt8 => Value.string (gstr a)) (fun a : Int => Value.int .i64 a) bk m2_94), .blk B2 (.cells #[.int .i64 e.Points, .bool e.Monoid, .slice a5 e.Gens.length a6, .slice aA e.Elems.length aB, .slice ao e.Prefix.length ap, .slice aX e.Last.length aY, .slice aC e.Right.length aD, .slice aE e.Rules.length aF, .int .i64 e.Done] 29 (0, 0))] ++ A) wT (bl [.blk gH (.cells #[.int .i64 k2_37, .bool b2_38, .slice p43 n45 c44, .slice p49 n51 c50, .slice p55 n57 c56, .slice p61 n63 c62, .slice p67 n69 c68, .slice p73 n75 c74, .int .i64 k2_39, .map (some bk), .slice p79 n81 c80, .slice p85 n87 c86, .slice p91 n93 c92] 72 (0, 0)), .row 26 1 p43 n45 c44 dH, .row 26 1 p49 n51 c50 dI, .row 3 1 p55 n57 c56 iO, .row 3 1 p61 n63 c62 iP, .row 26 1 p67 n69 c68 iQ, .row 39 2 p73 n75 c74 iR, .row 9 1 p79 n81 c80 iS, .row 3 1 p85 n87 c86 iT, .row 3 1 p91 n93 c92 iU, .any (mapE (fun a : List UInt8 => Value.string (gstr a)) (fun a : Int => Value.int .i64 a) bk m2_94)] ++ (bl [.blk B2 (.cells #[.int .i64 e.Points, .bool e.Monoid, .slice a5 e.Gens.length a6, .slice aA e.Elems.length aB, .slice ao e.Prefix.length ap, .slice aX e.Last.length aY, .slice aC e.Right.length aD, .slice aE e.Rules.length aF, .int .i64 e.Done] 29 (0, 0))] ++ A)) wT := Ch.assoc' [.blk gH (.cells #[.int .i64 k2_37, .bool b2_38, .slice p43 n45 c44, .slice p49 n51 c50, .slice p55 n57 c56, .slice p61 n63 c62, .slice p67 n69 c68, .slice p73 n75 c74, .int .i64 k2_39, .map (some bk), .slice p79 n81 c80, .slice p85 n87 c86, .slice p91 n93 c92] 72 (0, 0)), .row 26 1 p43 n45 c44 dH, .row 26 1 p49 n51 c50 dI, .row 3 1 p55 n57 c56 iO, .row 3 1 p61 n63 c62 iP, .row 26 1 p67 n69 c68 iQ, .row 39 2 p73 n75 c74 iR, .row 9 1 p79 n81 c80 iS, .row 3 1 p85 n87 c86 iT, .row 3 1 p91 n93 c92 iU, .any (mapE (fun a : List UInt8 => Value.string (gstr a)) (fun a : Int => Value.int .i64 a) bk m2_94)] [.blk B2 (.cells #[.int .i64 e.Points, .bool e.Monoid, .slice a5 e.Gens.length a6, .slice aA e.Elems.length aB, .slice ao e.Prefix.length ap, .slice aX e.Last.length aY, .slice aC e.Right.length aD, .slice aE e.Rules.length aF, .int .i64 e.Done] 29 (0, 0))] A wT
     refine GoR.call (op_call body51 rfl (walk_enumerate_run_process (a0 := (⟨(⟨k2_37, b2_38, d_40, d_46, d_52, d_58, d_64, d_70, k2_39⟩ : Enum), m2_94, d_76, d_82, d_88⟩ : run)) E4 (aQ.ch hca106) (aG.ch hca106) (dg.ch hca106) (dh.ch hca106) (di.ch hca106) (dj.ch hca106) (dk.ch hca106) (dl.ch hca106) (cW.ch hca106) H)) rfl rfl ?_
     intro LB vG
     refine exE fun r107 => exE fun q108 => exE fun gh => exE fun gi => exE fun gj => exE fun lL => exE fun fG => exE fun fH => exE fun fI => exE fun kI => exE fun ff => exE fun fh => exE fun fk => exE fun j6 => exE fun gk => exE fun gl => exE fun gm => exE fun lM => exE fun fJ => exE fun fK => exE fun fL => exE fun kK => exE fun fM => exE fun fN => exE fun fO => exE fun kM => exE fun jB => exE fun jC => exE fun jD => exE fun oQ => exE fun iq => exE fun ir => exE fun iu => exE fun nr => exE fun iv => exE fun iw => exE fun iA => exE fun ns => andE fun hv114 => andE fun hN111 => andE fun qd => andE fun pK => andE fun o3 => andE fun qe => andE fun pM => andE fun pN => andE fun sg => andE fun rC => andE fun rD => andE fun hF112 => fun H => ?_
     subst hv114
     have sa : Stp w0.heap.size A wT [.blk gH (.cells #[.int .i64 k2_37, .bool b2_38, .slice p43 n45 c44, .slice p49 n51 c50, .slice p55 n57 c56, .slice p61 n63 c62, .slice p67 n69 c68, .slice p73 n75 c74, .int .i64 k2_39, .map (some bk), .slice p79 n81 c80, .slice p85 n87 c86, .slice p91 n93 c92] 72 (0, 0)), .row 26 1 p43 n45 c44 dH, .row 26 1 p49 n51 c50 dI, .row 3 1 p55 n57 c56 iO, .row 3 1 p61 n63 c62 iP, .row 26 1 p67 n69 c68 iQ, .row 39 2 p73 n75 c74 iR, .row 9 1 p79 n81 c80 iS, .row 3 1 p85 n87 c86 iT, .row 3 1 p91 n93 c92 iU, .any (mapE (fun a : List UInt8 => Value.string (gstr a)) (fun a : Int => Value.int .i64 a) bk m2_94), .blk B2 (.cells #[.int .i64 e.Points, .bool e.Monoid, .slice a5 e.Gens.length a6, .slice aA e.Elems.length aB, .slice ao e.Prefix.length ap, .slice aX e.Last.length aY, .slice aC e.Right.length aD, .slice aE e.Rules.length aF, .int .i64 e.Done] 29 (0, 0))] vG [.blk gH (.cells #[.int .i64 q108.Enum.Points, .bool q108.Enum.Monoid, .slice gi gh gj, .slice fH fG fI, .slice fh ff fk, .slice gl gk gm, .slice fK fJ fL, .slice fN fM fO, .int .i64 q108.Enum.Done, .map (some bk), .slice jC jB jD, .slice ir iq iu, .slice iw iv iA] 72 (0, 0)), .row 26 1 gi gh gj lL, .row 26 1 fH fG fI kI, .row 3 1 fh ff fk j6, .row 3 1 gl gk gm lM, .row 26 1 fK fJ fL kK, .row 39 2 fN fM fO kM, .row 9 1 jC jB jD oQ, .row 3 1 ir iq iu nr, .row 3 1 iw iv iA ns, .any (mapE (fun a : List UInt8 => Value.string (gstr a)) (fun a : Int => Value.int .i64 a) bk q108.number), .blk B2 (.cells #[.int .i64 e.Points, .bool e.Monoid, .slice a5 e.Gens.length a6, .slice aA e.Elems.length aB, .slice ao e.Prefix.length ap, .slice aX e.Last.length aY, .slice aC e.Right.length aD, .slice aE e.Rules.length aF, .int .i64 e.Done] 29 (0, 0))] := Stp.join zW hN111 hF112
     replace hO := sa.own
     replace ah := ah.ch sa.ch
     replace ae := ae.ch sa.ch
     replace ad := ad.ch sa.ch
     replace ai := ai.ch sa.ch
     replace af := af.ch sa.ch
     replace ag := ag.ch sa.ch
     replace hB := hB.trans sa.fr
     have hca115 : Ch (bl [.blk gH (.cells #[.int .i64 q108.Enum.Points, .bool q108.Enum.Monoid, .slice gi gh gj, .slice fH fG fI, .slice fh ff fk, .slice gl gk gm, .slice fK fJ fL, .slice fN fM fO, .int .i64 q108.Enum.Done, .map (some bk), .slice jC jB jD, .slice ir iq iu, .slice iw iv iA] 72 (0, 0)), .row 26 1 gi gh gj lL, .row 26 1 fH fG fI kI, .row 3 1 fh ff fk j6, .row 3 1 gl gk gm lM, .row 26 1 fK fJ fL kK, .row 39 2 fN fM fO kM, .row 9 1 jC jB jD oQ, .row 3 1 ir iq iu nr, .row 3 1 iw iv iA ns, .any (mapE (fun a : List UInt8 => Value.string (gstr a)) (fun a : Int => Value.int .i64 a) bk q108.number)] ++ (bl [.blk B2 (.cells #[.int .i64 e.Points, .bool e.Monoid, .slice a5 e.Gens.length a6, .slice aA e.Elems.length aB, .slice ao e.Prefix.length ap, .slice aX e.Last.length aY, .slice aC e.Right.length aD, .slice aE e.Rules.length aF, .int .i64 e.Done] 29 (0, 0))] ++ A)) vG (bl [.blk gH (.cells #[.int .i64 q108.Enum.Points, .bool q108.Enum.Monoid, .slice gi gh gj, .slice fH fG fI, .slice fh ff fk, .slice gl gk gm, .slice fK fJ fL, .slice fN fM fO, .int .i64 q108.Enum.Done, .map (some bk), .slice jC jB jD, .slice ir iq iu, .slice iw iv iA] 72 (0, 0)), .row 26 1 gi gh gj lL, .row 26 1 fH fG fI kI, .row 3 1 fh ff fk j6, .row 3 1 gl gk gm lM, .row 26 1 fK fJ fL kK, .row 39 2 fN fM fO kM, .row 9 1 jC jB jD oQ, .row 3 1 ir iq iu nr, .row 3 1 iw iv iA ns, .any (mapE (fun a : List UInt8 => Value.string (gstr a)) (fun a : Int => Value.int .i64 a) bk q108.number), .blk B2 (.cells #[.int .i64 e.Points, .bool e.Monoid, .slice a5 e.Gens.length a6, .slice aA e.Elems.length aB, .slice ao e.Prefix.length ap, .slice aX e.Last.length aY, .slice aC e.Right.length aD, .slice aE e.Rules.length aF, .int .i64 e.Done] 29 (0, 0))] ++ A) vG := Ch.assoc [.blk gH (.cells #[.int .i64 q108.Enum.Points, .bool q108.Enum.Monoid, .slice gi gh gj, .slice fH fG fI, .slice fh ff fk, .slice gl gk gm, .slice fK fJ fL, .slice fN fM fO, .int .i64 q108.Enum.Done, .map (some bk), .slice jC jB jD, .slice ir iq iu, .slice iw iv iA] 72 (0, 0)), .row 26 1 gi gh gj lL, .row 26 1 fH fG fI kI, .row 3 1 fh ff fk j6, .row 3 1 gl gk gm lM, .row 26 1 fK fJ fL kK, .row 39 2 fN fM fO kM, .row 9 1 jC jB jD oQ, .row 3 1 ir iq iu nr, .row 3 1 iw iv iA ns, .any (mapE (fun a : List UInt8 => Value.string (gstr a)) (fun a : Int => Value.int .i64 a) bk q108.number)] [.blk B2 (.cells #[.int .i64 e.Points, .bool e.Monoid, .slice a5 e.Gens.length a6, .slice aA e.Elems.length aB, .slice ao e.Prefix.length ap, .slice aX e.Last.length aY, .slice aC e.Right.length aD, .slice aE e.Rules.length aF, .int .i64 e.Done] 29 (0, 0))] A vG
     replace qd := qd.ch hca115
     replace pK := pK.ch hca115
     replace o3 := o3.ch hca115
     replace qe := qe.ch hca115
     replace pM := pM.ch hca115
     replace pN := pN.ch hca115
     replace sg := sg.ch hca115
     replace rC := rC.ch hca115
     replace rD := rD.ch hca115
     by_cases tB : r107 = (0 : Int)
     ·replace H := ifp tB H
      refine GoR.op ((fun w => opB (op_neq rfl rfl w) (ndT tB)) _) rfl rfl ?_
      refine GoR.op ((op_pickF rfl rfl rfl) _) rfl rfl ?_
      refine GoR.nil ?_
      refine Go1.condF rfl rfl ?_
      refine Go1.skip ?_
      refine Go1.inBlock ?_
      exact hX2 _ H _ _ ⟨gh, gi, gj, lL, fG, fH, fI, kI, ff, fh, fk, j6, gk, gl, gm, lM, fJ, fK, fL, kK, fM, fN, fO, kM, jB, jC, jD, oQ, iq, ir, iu, nr, iv, iw, iA, ns, ⟨rfl, rfl, trivial⟩, hO, qd, pK, o3, qe, pM, pN, sg, rC, rD, ah, ae, ad, ai, af, ag, hB⟩
     replace H := ifn tB H
     refine GoR.op ((fun w => opB (op_neq rfl rfl w) (ndF tB)) _) rfl rfl ?_
     refine GoR.op ((op_pickF rfl rfl rfl) _) rfl rfl ?_
     refine GoR.nil ?_
     refine Go1.condT rfl rfl ?_
     refine Go1.seq ?_
     refine Go1.region ?_
     refine GoR.op ((op_assign rfl) _) rfl rfl ?_
     refine GoR.op ((op_assign rfl) _) rfl rfl ?_
     refine GoR.nil ?_
     refine Go1.ret2 Try.func53 rfl ?_
     exact Or.inl ⟨false, rfl, hB.same, H⟩
    replace H := ifn h98 H
    refine GoQ.pure rfl (fun w => opB (op_lss rfl rfl w) (decide_eq_false h98)) rfl rfl ?_
    refine GoQ.nil ?_
    refine Go1.condF rfl rfl ?_
    refine Go1.exit rfl ?_
    refine Go1.seq ?_
    refine Go1.region ?_
    refine GoR.op ((op_move rfl) _) rfl rfl ?_
    refine GoR.op ((op_move rfl) _) rfl rfl ?_
    refine GoR.op ((oblkAgg (vs := [.int .i64 e.Points, .bool e.Monoid, .slice a5 e.Gens.length a6, .slice aA e.Elems.length aB, .slice ao e.Prefix.length ap, .slice aX e.Last.length aY, .slice aC e.Right.length aD, .slice aE e.Rules.length aF, .int .i64 e.Done]) (i := 0) 11 hO rfl rfl Try.underlying29 rfl ti29 rfl) _ (Same.refl _)) rfl rfl ?_
    refine GoR.inl (vs := [.pointer (some ⟨gH, 0, none⟩), .agg #[.int .i64 e.Points, .bool e.Monoid, .slice a5 e.Gens.length a6, .slice aA e.Elems.length aB, .slice ao e.Prefix.length ap, .slice aX e.Last.length aY, .slice aC e.Right.length aD, .slice aE e.Rules.length aF, .int .i64 e.Done]]) (caps := []) rfl rfl body68 Try.func68 rfl Try.ntmps68 rfl rfl rfl ?_
    intro RhR117 hR117
    refine Go1.seq ?_
    refine Go1.region ?_
    have hobt := obox (t := 29) (v := .agg #[.int .i64 e.Points, .bool e.Monoid, .slice a5 e.Gens.length a6, .slice aA e.Elems.length aB, .slice ao e.Prefix.length ap, .slice aX e.Last.length aY, .slice aC e.Right.length aD, .slice aE e.Rules.length aF, .int .i64 e.Done]) (cs := #[.int .i64 e.Points, .bool e.Monoid, .slice a5 e.Gens.length a6, .slice aA e.Elems.length aB, .slice ao e.Prefix.length ap, .slice aX e.Last.length aY, .slice aC e.Right.length aD, .slice aE e.Rules.length aF, .int .i64 e.Done]) hO rfl
    obtain ⟨LD, B119, kN, Iw, wU⟩ := hobt
    refine GoR.op (wU rfl) rfl rfl ?_
    replace aQ := aQ.ch kN.ch
    replace aG := aG.ch kN.ch
    replace dg := dg.ch kN.ch
    replace dh := dh.ch kN.ch
    replace di := di.ch kN.ch
    replace dj := dj.ch kN.ch
    replace dk := dk.ch kN.ch
    replace dl := dl.ch kN.ch
    replace cW := cW.ch kN.ch
    replace hO := kN.own
    replace ah := ah.ch kN.ch
    replace ae := ae.ch kN.ch
    replace ad := ad.ch kN.ch
    replace ai := ai.ch kN.ch
    replace af := af.ch kN.ch
    replace ag := ag.ch kN.ch
    replace hB := hB.trans kN.fr
    refine GoR.op ((op_assign rfl) _) rfl rfl ?_
    refine GoR.nil ?_
    refine Go1.seq ?_
    refine Go1.drawS 0 [(0, .pure), (1, .pure), (2, .pure), (3, .pure), (4, .stable), (5, .pure), (6, .stable), (7, .pure), (8, .pure), (9, .pure), (10, .pure), (11, .pure), (12, .pure), (13, .stable), (14, .pure), (15, .stable), (16, .pure), (17, .pure), (18, .pure), (19, .pure), (20, .pure), (21, .pure), (22, .pure), (23, .stable), (24, .pure), (25, .stable), (26, .loud), (27, .pure), (28, .pure), (29, .pure), (30, .pure), (31, .pure), (32, .pure), (33, .stable), (34, .pure), (35, .stable), (36, .loud), (37, .pure), (38, .pure), (39, .pure), (40, .pure), (41, .pure), (42, .pure), (43, .stable), (44, .pure), (45, .stable), (46, .loud), (47, .pure), (48, .pure), (49, .pure), (50, .pure), (51, .pure), (52, .pure), (53, .stable), (54, .pure), (55, .stable), (56, .loud), (57, .pure), (58, .pure), (59, .pure), (60, .pure), (61, .pure), (62, .pure), (63, .stable), (64, .pure), (65, .stable), (66, .loud), (67, .pure), (68, .pure)] mixed (by kernel_rfl) ?_
    intro LE E5
    have kO := Stp.same hO E5
    replace aQ := aQ.ch kO.ch
    replace aG := aG.ch kO.ch
    replace dg := dg.ch kO.ch
    replace dh := dh.ch kO.ch
    replace di := di.ch kO.ch
    replace dj := dj.ch kO.ch
    replace dk := dk.ch kO.ch
    replace dl := dl.ch kO.ch
    replace cW := cW.ch kO.ch
    replace hO := kO.own
    replace ah := ah.ch kO.ch
    replace ae := ae.ch kO.ch
    replace ad := ad.ch kO.ch
    replace ai := ai.ch kO.ch
    replace af := af.ch kO.ch
    replace ag := ag.ch kO.ch
    replace hB := hB.trans kO.fr
    refine GoQ.pure rfl (op_move rfl) rfl rfl ?_
    refine GoQ.pure rfl (op_nilCheck rfl) rfl rfl ?_
    refine GoQ.pure rfl (op_fieldAddr Try.underlying72 rfl ti29 rfl (by decide)) rfl rfl ?_
    refine GoQ.pure rfl (op_fieldAddr Try.underlying29 rfl ti3 rfl (by decide)) rfl rfl ?_
    refine GoQ.stable rfl (oblk (i := 0) 1 hO rfl rfl Try.underlying3 rfl rfl) rfl rfl ?_
    refine GoQ.pure rfl (op_fieldAddr Try.underlying29 rfl ti3 rfl (by decide)) rfl rfl ?_
    refine GoQ.stable rfl (oblk (i := 0) 0 hO rfl rfl Try.underlying3 rfl rfl) rfl rfl ?_
    by_cases yf : k2_37 = e.Points
    ·replace H := ifp yf H
     refine GoQ.pure rfl (fun w => opB (op_eql rfl rfl w) (decide_eq_true yf)) rfl rfl ?_
     refine GoQ.pure rfl (op_move rfl) rfl rfl ?_
     refine GoQ.pure rfl (op_move rfl) rfl rfl ?_
     refine GoQ.pure rfl (op_nilCheck rfl) rfl rfl ?_
     refine GoQ.pure rfl (op_fieldAddr Try.underlying72 rfl ti29 rfl (by decide)) rfl rfl ?_
     refine GoQ.pure rfl (op_fieldAddr Try.underlying29 rfl ti3 rfl (by decide)) rfl rfl ?_
     refine GoQ.stable rfl (oblk (i := 8) 1 hO rfl rfl Try.underlying3 rfl rfl) rfl rfl ?_
     refine GoQ.pure rfl (op_fieldAddr Try.underlying29 rfl ti3 rfl (by decide)) rfl rfl ?_
     refine GoQ.stable rfl (oblk (i := 8) 0 hO rfl rfl Try.underlying3 rfl rfl) rfl rfl ?_
     by_cases yg : k2_39 = e.Done
     ·replace H := ifp yg H
      refine GoQ.pure rfl (fun w => opB (op_eql rfl rfl w) (decide_eq_true yg)) rfl rfl ?_
      refine GoQ.pure rfl (op_pickT rfl rfl rfl) rfl rfl ?_
      refine GoQ.pure rfl (op_move rfl) rfl rfl ?_
      refine GoQ.pure rfl (op_move rfl) rfl rfl ?_
      refine GoQ.pure rfl (op_nilCheck rfl) rfl rfl ?_
      refine GoQ.pure rfl (op_fieldAddr Try.underlying72 rfl ti29 rfl (by decide)) rfl rfl ?_
      refine GoQ.pure rfl (op_fieldAddr Try.underlying29 rfl ti22 rfl (by decide)) rfl rfl ?_
      refine GoQ.stable rfl (oblk (i := 3) 1 hO rfl rfl Try.underlying22 rfl rfl) rfl rfl ?_
      refine GoQ.pure rfl (op_fieldAddr Try.underlying29 rfl ti22 rfl (by decide)) rfl rfl ?_
      refine GoQ.stable rfl (oblk (i := 3) 0 hO rfl rfl Try.underlying22 rfl rfl) rfl rfl ?_
      have hobt := rowlend 3 hO rfl aG
      obtain ⟨E6, E7⟩ := hobt
      have hOc131 := hO.drop 3
      refine GoQ.call rfl (op_call body69 (show ([.slice p49 n51 c50, .slice aA e.Elems.length aB, .func (.func 70) #[] #[]] : List Value) = [.slice p49 d_46.length c50, .slice aA e.Elems.length aB, .func (.func 70) #[] #[]] from by rw [← E7]) (walk_slices_EqualFunc_int hOc131.lt E6 (ae.ch (Owns.dropCh _ _ 3)) H)) (fun v w hr => by obtain ⟨_, _, hs, _⟩ := hr; assumption) rfl rfl ?_
      rintro LF LG ⟨r132, rfl, E8, H⟩
      have kP := Stp.same hO E8
      replace aQ := aQ.ch kP.ch
      replace aG := aG.ch kP.ch
      replace dg := dg.ch kP.ch
      replace dh := dh.ch kP.ch
      replace di := di.ch kP.ch
      replace dj := dj.ch kP.ch
      replace dk := dk.ch kP.ch
      replace dl := dl.ch kP.ch
      replace cW := cW.ch kP.ch
      replace hO := kP.own
      replace ah := ah.ch kP.ch
      replace ae := ae.ch kP.ch
      replace ad := ad.ch kP.ch
      replace ai := ai.ch kP.ch
      replace af := af.ch kP.ch
      replace ag := ag.ch kP.ch
      replace hB := hB.trans kP.fr
      refine GoQ.pure rfl (op_pickT rfl rfl rfl) rfl rfl ?_
      refine GoQ.pure rfl (op_move rfl) rfl rfl ?_
      cases r132
      ·replace H := ifn Bool.false_ne_true H
       refine GoQ.pass rfl rfl rfl ?_
       refine GoQ.pass rfl rfl rfl ?_
       refine GoQ.pass rfl rfl rfl ?_
       refine GoQ.pass rfl rfl rfl ?_
       refine GoQ.pass rfl rfl rfl ?_
       refine GoQ.pass rfl rfl rfl ?_
       refine GoQ.pass rfl rfl rfl ?_
       refine GoQ.pass rfl rfl rfl ?_
       refine GoQ.pure rfl (op_pickF rfl rfl rfl) rfl rfl ?_
       refine GoQ.pure rfl (op_move rfl) rfl rfl ?_
       refine GoQ.pass rfl rfl rfl ?_
       refine GoQ.pass rfl rfl rfl ?_
       refine GoQ.pass rfl rfl rfl ?_
       refine GoQ.pass rfl rfl rfl ?_
       refine GoQ.pass rfl rfl rfl ?_
       refine GoQ.pass rfl rfl rfl ?_
       refine GoQ.pass rfl rfl rfl ?_
       refine GoQ.pass rfl rfl rfl ?_
       refine GoQ.pure rfl (op_pickF rfl rfl rfl) rfl rfl ?_
       refine GoQ.pure rfl (op_move rfl) rfl rfl ?_
       refine GoQ.pass rfl rfl rfl ?_
       refine GoQ.pass rfl rfl rfl ?_
       refine GoQ.pass rfl rfl rfl ?_
       refine GoQ.pass rfl rfl rfl ?_
       refine GoQ.pass rfl rfl rfl ?_
       refine GoQ.pass rfl rfl rfl ?_
       refine GoQ.pass rfl rfl rfl ?_
       refine GoQ.pass rfl rfl rfl ?_
       refine GoQ.pure rfl (op_pickF rfl rfl rfl) rfl rfl ?_
       refine GoQ.pure rfl (op_move rfl) rfl rfl ?_
       refine GoQ.pass rfl rfl rfl ?_
       refine GoQ.pass rfl rfl rfl ?_
       refine GoQ.pass rfl rfl rfl ?_
       refine GoQ.pass rfl rfl rfl ?_
       refine GoQ.pass rfl rfl rfl ?_
       refine GoQ.pass rfl rfl rfl ?_
       refine GoQ.pass rfl rfl rfl ?_
       refine GoQ.pass rfl rfl rfl ?_
       refine GoQ.pure rfl (op_pickF rfl rfl rfl) rfl rfl ?_
       refine GoQ.pure rfl (op_assign rfl) rfl rfl ?_
       refine GoQ.nil ?_
       refine Go1.ret1V Try.func68 rfl (show _ = .bool false from rfl) ?_
       refine hR117 _ _ ?_
       refine GoR.op ((op_assign rfl) _) rfl rfl ?_
       refine GoR.op ((op_assign rfl) _) rfl rfl ?_
       refine GoR.nil ?_
       replace ah := ah.ch (Owns.dropCh _ _ 0)
       replace ae := ae.ch (Owns.dropCh _ _ 0)
       replace ad := ad.ch (Owns.dropCh _ _ 0)
       replace ai := ai.ch (Owns.dropCh _ _ 0)
       replace af := af.ch (Owns.dropCh _ _ 0)
       replace ag := ag.ch (Owns.dropCh _ _ 0)
       replace aQ := aQ.ch (Owns.dropCh _ _ 0)
       replace aG := aG.ch (Owns.dropCh _ _ 0)
       replace dg := dg.ch (Owns.dropCh _ _ 0)
       replace dh := dh.ch (Owns.dropCh _ _ 0)
       replace di := di.ch (Owns.dropCh _ _ 0)
       replace dj := dj.ch (Owns.dropCh _ _ 0)
       replace dk := dk.ch (Owns.dropCh _ _ 0)
       replace dl := dl.ch (Owns.dropCh _ _ 0)
       replace cW := cW.ch (Owns.dropCh _ _ 0)
       replace hB := hB.trans (Owns.dropFr _ _ 0)
       replace hO := hO.drop 0
       dsimp only [eS, eZ] at hB hO ah ae ad ai af ag aQ aG dg dh di dj dk dl cW
       replace ah := ah.ch (Owns.dropCh _ _ 11)
       replace ae := ae.ch (Owns.dropCh _ _ 11)
       replace ad := ad.ch (Owns.dropCh _ _ 11)
       replace ai := ai.ch (Owns.dropCh _ _ 11)
       replace af := af.ch (Owns.dropCh _ _ 11)
       replace ag := ag.ch (Owns.dropCh _ _ 11)
       replace aQ := aQ.ch (Owns.dropCh _ _ 11)
       replace aG := aG.ch (Owns.dropCh _ _ 11)
       replace dg := dg.ch (Owns.dropCh _ _ 11)
       replace dh := dh.ch (Owns.dropCh _ _ 11)
       replace di := di.ch (Owns.dropCh _ _ 11)
       replace dj := dj.ch (Owns.dropCh _ _ 11)
       replace dk := dk.ch (Owns.dropCh _ _ 11)
       replace dl := dl.ch (Owns.dropCh _ _ 11)
       replace cW := cW.ch (Owns.dropCh _ _ 11)
       replace hB := hB.trans (Owns.dropFr _ _ 11)
       replace hO := hO.drop 11
       dsimp only [eS, eZ] at hB hO ah ae ad ai af ag aQ aG dg dh di dj dk dl cW
       refine Go1.ret2 Try.func53 rfl ?_
       exact Or.inr ⟨(⟨(⟨k2_37, b2_38, d_40, d_46, d_52, d_58, d_64, d_70, k2_39⟩ : Enum), m2_94, d_76, d_82, d_88⟩ : run), false, gH, n45, p43, c44, dH, n51, p49, c50, dI, n57, p55, c56, iO, n63, p61, c62, iP, n69, p67, c68, iQ, n75, p73, c74, iR, bk, n81, p79, c80, iS, n87, p85, c86, iT, n93, p91, c92, iU, rfl, hB.same, hO, aQ, aG, dg, dh, di, dj, dk, dl, cW, H⟩
      replace H := ifp rfl H
      refine GoQ.pure rfl (op_move rfl) rfl rfl ?_
      refine GoQ.pure rfl (op_nilCheck rfl) rfl rfl ?_
      refine GoQ.pure rfl (op_fieldAddr Try.underlying72 rfl ti29 rfl (by decide)) rfl rfl ?_
      refine GoQ.pure rfl (op_fieldAddr Try.underlying29 rfl ti26 rfl (by decide)) rfl rfl ?_
      refine GoQ.stable rfl (oblk (i := 4) 1 hO rfl rfl Try.underlying26 rfl rfl) rfl rfl ?_
      refine GoQ.pure rfl (op_fieldAddr Try.underlying29 rfl ti26 rfl (by decide)) rfl rfl ?_
      refine GoQ.stable rfl (oblk (i := 4) 0 hO rfl rfl Try.underlying26 rfl rfl) rfl rfl ?_
      have hobt := rowlend 4 hO rfl dg
      obtain ⟨E9, Fa⟩ := hobt
      have hOc140 := hO.drop 4
      refine GoQ.call rfl (op_call body70 (show ([.slice p55 n57 c56, .slice ao e.Prefix.length ap] : List Value) = [.slice p55 d_52.length c56, .slice ao e.Prefix.length ap] from by rw [← Fa]) (walk_slices_Equal_int hOc140.lt E9 (ad.ch (Owns.dropCh _ _ 4)) H)) (fun v w hr => by obtain ⟨_, _, hs, _⟩ := hr; assumption) rfl rfl ?_
      rintro LH Hk ⟨r141, rfl, Fb, H⟩
      have kQ := Stp.same hO Fb
      replace aQ := aQ.ch kQ.ch
      replace aG := aG.ch kQ.ch
      replace dg := dg.ch kQ.ch
      replace dh := dh.ch kQ.ch
      replace di := di.ch kQ.ch
      replace dj := dj.ch kQ.ch
      replace dk := dk.ch kQ.ch
      replace dl := dl.ch kQ.ch
      replace cW := cW.ch kQ.ch
      replace hO := kQ.own
      replace ah := ah.ch kQ.ch
      replace ae := ae.ch kQ.ch
      replace ad := ad.ch kQ.ch
      replace ai := ai.ch kQ.ch
      replace af := af.ch kQ.ch
      replace ag := ag.ch kQ.ch
      replace hB := hB.trans kQ.fr
      refine GoQ.pure rfl (op_pickT rfl rfl rfl) rfl rfl ?_
      refine GoQ.pure rfl (op_move rfl) rfl rfl ?_
      cases r141
      ·replace H := ifn Bool.false_ne_true H
       refine GoQ.pass rfl rfl rfl ?_
       refine GoQ.pass rfl rfl rfl ?_
       refine GoQ.pass rfl rfl rfl ?_
       refine GoQ.pass rfl rfl rfl ?_
       refine GoQ.pass rfl rfl rfl ?_
       refine GoQ.pass rfl rfl rfl ?_
       refine GoQ.pass rfl rfl rfl ?_
       refine GoQ.pass rfl rfl rfl ?_
       refine GoQ.pure rfl (op_pickF rfl rfl rfl) rfl rfl ?_
       refine GoQ.pure rfl (op_move rfl) rfl rfl ?_
       refine GoQ.pass rfl rfl rfl ?_
       refine GoQ.pass rfl rfl rfl ?_
       refine GoQ.pass rfl rfl rfl ?_
       refine GoQ.pass rfl rfl rfl ?_
       refine GoQ.pass rfl rfl rfl ?_
       refine GoQ.pass rfl rfl rfl ?_
       refine GoQ.pass rfl rfl rfl ?_
       refine GoQ.pass rfl rfl rfl ?_
       refine GoQ.pure rfl (op_pickF rfl rfl rfl) rfl rfl ?_
       refine GoQ.pure rfl (op_move rfl) rfl rfl ?_
       refine GoQ.pass rfl rfl rfl ?_
       refine GoQ.pass rfl rfl rfl ?_
       refine GoQ.pass rfl rfl rfl ?_
       refine GoQ.pass rfl rfl rfl ?_
       refine GoQ.pass rfl rfl rfl ?_
       refine GoQ.pass rfl rfl rfl ?_
       refine GoQ.pass rfl rfl rfl ?_
       refine GoQ.pass rfl rfl rfl ?_
       refine GoQ.pure rfl (op_pickF rfl rfl rfl) rfl rfl ?_
       refine GoQ.pure rfl (op_assign rfl) rfl rfl ?_
       refine GoQ.nil ?_
       refine Go1.ret1V Try.func68 rfl (show _ = .bool false from rfl) ?_
       refine hR117 _ _ ?_
       refine GoR.op ((op_assign rfl) _) rfl rfl ?_
       refine GoR.op ((op_assign rfl) _) rfl rfl ?_
       refine GoR.nil ?_
       replace ah := ah.ch (Owns.dropCh _ _ 0)
       replace ae := ae.ch (Owns.dropCh _ _ 0)
       replace ad := ad.ch (Owns.dropCh _ _ 0)
       replace ai := ai.ch (Owns.dropCh _ _ 0)
       replace af := af.ch (Owns.dropCh _ _ 0)
       replace ag := ag.ch (Owns.dropCh _ _ 0)
       replace aQ := aQ.ch (Owns.dropCh _ _ 0)
       replace aG := aG.ch (Owns.dropCh _ _ 0)
       replace dg := dg.ch (Owns.dropCh _ _ 0)
       replace dh := dh.ch (Owns.dropCh _ _ 0)
       replace di := di.ch (Owns.dropCh _ _ 0)
       replace dj := dj.ch (Owns.dropCh _ _ 0)
       replace dk := dk.ch (Owns.dropCh _ _ 0)
       replace dl := dl.ch (Owns.dropCh _ _ 0)
       replace cW := cW.ch (Owns.dropCh _ _ 0)
       replace hB := hB.trans (Owns.dropFr _ _ 0)
       replace hO := hO.drop 0
       dsimp only [eS, eZ] at hB hO ah ae ad ai af ag aQ aG dg dh di dj dk dl cW
       replace ah := ah.ch (Owns.dropCh _ _ 11)
       replace ae := ae.ch (Owns.dropCh _ _ 11)
       replace ad := ad.ch (Owns.dropCh _ _ 11)
       replace ai := ai.ch (Owns.dropCh _ _ 11)
       replace af := af.ch (Owns.dropCh _ _ 11)
       replace ag := ag.ch (Owns.dropCh _ _ 11)
       replace aQ := aQ.ch (Owns.dropCh _ _ 11)
       replace aG := aG.ch (Owns.dropCh _ _ 11)
       replace dg := dg.ch (Owns.dropCh _ _ 11)
       replace dh := dh.ch (Owns.dropCh _ _ 11)
       replace di := di.ch (Owns.dropCh _ _ 11)
       replace dj := dj.ch (Owns.dropCh _ _ 11)
       replace dk := dk.ch (Owns.dropCh _ _ 11)
       replace dl := dl.ch (Owns.dropCh _ _ 11)
       replace cW := cW.ch (Owns.dropCh _ _ 11)
       replace hB := hB.trans (Owns.dropFr _ _ 11)
       replace hO := hO.drop 11
       dsimp only [eS, eZ] at hB hO ah ae ad ai af ag aQ aG dg dh di dj dk dl cW
       refine Go1.ret2 Try.func53 rfl ?_
       exact Or.inr ⟨(⟨(⟨k2_37, b2_38, d_40, d_46, d_52, d_58, d_64, d_70, k2_39⟩ : Enum), m2_94, d_76, d_82, d_88⟩ : run), false, gH, n45, p43, c44, dH, n51, p49, c50, dI, n57, p55, c56, iO, n63, p61, c62, iP, n69, p67, c68, iQ, n75, p73, c74, iR, bk, n81, p79, c80, iS, n87, p85, c86, iT, n93, p91, c92, iU, rfl, hB.same, hO, aQ, aG, dg, dh, di, dj, dk, dl, cW, H⟩
      replace H := ifp rfl H
      refine GoQ.pure rfl (op_move rfl) rfl rfl ?_
      refine GoQ.pure rfl (op_nilCheck rfl) rfl rfl ?_
      refine GoQ.pure rfl (op_fieldAddr Try.underlying72 rfl ti29 rfl (by decide)) rfl rfl ?_
      refine GoQ.pure rfl (op_fieldAddr Try.underlying29 rfl ti26 rfl (by decide)) rfl rfl ?_
      refine GoQ.stable rfl (oblk (i := 5) 1 hO rfl rfl Try.underlying26 rfl rfl) rfl rfl ?_
      refine GoQ.pure rfl (op_fieldAddr Try.underlying29 rfl ti26 rfl (by decide)) rfl rfl ?_
      refine GoQ.stable rfl (oblk (i := 5) 0 hO rfl rfl Try.underlying26 rfl rfl) rfl rfl ?_
      have hobt := rowlend 5 hO rfl dh
      obtain ⟨Fc, Fd⟩ := hobt
      have hOc149 := hO.drop 5
      refine GoQ.call rfl (op_call body70 (show ([.slice p61 n63 c62, .slice aX e.Last.length aY] : List Value) = [.slice p61 d_58.length c62, .slice aX e.Last.length aY] from by rw [← Fd]) (walk_slices_Equal_int hOc149.lt Fc (ai.ch (Owns.dropCh _ _ 5)) H)) (fun v w hr => by obtain ⟨_, _, hs, _⟩ := hr; assumption) rfl rfl ?_
      rintro LI LJ ⟨r150, rfl, Fe, H⟩
      have kS := Stp.same hO Fe
      replace aQ := aQ.ch kS.ch
      replace aG := aG.ch kS.ch
      replace dg := dg.ch kS.ch
      replace dh := dh.ch kS.ch
      replace di := di.ch kS.ch
      replace dj := dj.ch kS.ch
      replace dk := dk.ch kS.ch
      replace dl := dl.ch kS.ch
      replace cW := cW.ch kS.ch
      replace hO := kS.own
      replace ah := ah.ch kS.ch
      replace ae := ae.ch kS.ch
      replace ad := ad.ch kS.ch
      replace ai := ai.ch kS.ch
      replace af := af.ch kS.ch
      replace ag := ag.ch kS.ch
      replace hB := hB.trans kS.fr
      refine GoQ.pure rfl (op_pickT rfl rfl rfl) rfl rfl ?_
      refine GoQ.pure rfl (op_move rfl) rfl rfl ?_
      cases r150
      ·replace H := ifn Bool.false_ne_true H
       refine GoQ.pass rfl rfl rfl ?_
       refine GoQ.pass rfl rfl rfl ?_
       refine GoQ.pass rfl rfl rfl ?_
       refine GoQ.pass rfl rfl rfl ?_
       refine GoQ.pass rfl rfl rfl ?_
       refine GoQ.pass rfl rfl rfl ?_
       refine GoQ.pass rfl rfl rfl ?_
       refine GoQ.pass rfl rfl rfl ?_
       refine GoQ.pure rfl (op_pickF rfl rfl rfl) rfl rfl ?_
       refine GoQ.pure rfl (op_move rfl) rfl rfl ?_
       refine GoQ.pass rfl rfl rfl ?_
       refine GoQ.pass rfl rfl rfl ?_
       refine GoQ.pass rfl rfl rfl ?_
       refine GoQ.pass rfl rfl rfl ?_
       refine GoQ.pass rfl rfl rfl ?_
       refine GoQ.pass rfl rfl rfl ?_
       refine GoQ.pass rfl rfl rfl ?_
       refine GoQ.pass rfl rfl rfl ?_
       refine GoQ.pure rfl (op_pickF rfl rfl rfl) rfl rfl ?_
       refine GoQ.pure rfl (op_assign rfl) rfl rfl ?_
       refine GoQ.nil ?_
       refine Go1.ret1V Try.func68 rfl (show _ = .bool false from rfl) ?_
       refine hR117 _ _ ?_
       refine GoR.op ((op_assign rfl) _) rfl rfl ?_
       refine GoR.op ((op_assign rfl) _) rfl rfl ?_
       refine GoR.nil ?_
       replace ah := ah.ch (Owns.dropCh _ _ 0)
       replace ae := ae.ch (Owns.dropCh _ _ 0)
       replace ad := ad.ch (Owns.dropCh _ _ 0)
       replace ai := ai.ch (Owns.dropCh _ _ 0)
       replace af := af.ch (Owns.dropCh _ _ 0)
       replace ag := ag.ch (Owns.dropCh _ _ 0)
       replace aQ := aQ.ch (Owns.dropCh _ _ 0)
       replace aG := aG.ch (Owns.dropCh _ _ 0)
       replace dg := dg.ch (Owns.dropCh _ _ 0)
       replace dh := dh.ch (Owns.dropCh _ _ 0)
       replace di := di.ch (Owns.dropCh _ _ 0)
       replace dj := dj.ch (Owns.dropCh _ _ 0)
       replace dk := dk.ch (Owns.dropCh _ _ 0)
       replace dl := dl.ch (Owns.dropCh _ _ 0)
       replace cW := cW.ch (Owns.dropCh _ _ 0)
       replace hB := hB.trans (Owns.dropFr _ _ 0)
       replace hO := hO.drop 0
       dsimp only [eS, eZ] at hB hO ah ae ad ai af ag aQ aG dg dh di dj dk dl cW
       replace ah := ah.ch (Owns.dropCh _ _ 11)
       replace ae := ae.ch (Owns.dropCh _ _ 11)
       replace ad := ad.ch (Owns.dropCh _ _ 11)
       replace ai := ai.ch (Owns.dropCh _ _ 11)
       replace af := af.ch (Owns.dropCh _ _ 11)
       replace ag := ag.ch (Owns.dropCh _ _ 11)
       replace aQ := aQ.ch (Owns.dropCh _ _ 11)
       replace aG := aG.ch (Owns.dropCh _ _ 11)
       replace dg := dg.ch (Owns.dropCh _ _ 11)
       replace dh := dh.ch (Owns.dropCh _ _ 11)
       replace di := di.ch (Owns.dropCh _ _ 11)
       replace dj := dj.ch (Owns.dropCh _ _ 11)
       replace dk := dk.ch (Owns.dropCh _ _ 11)
       replace dl := dl.ch (Owns.dropCh _ _ 11)
       replace cW := cW.ch (Owns.dropCh _ _ 11)
       replace hB := hB.trans (Owns.dropFr _ _ 11)
       replace hO := hO.drop 11
       dsimp only [eS, eZ] at hB hO ah ae ad ai af ag aQ aG dg dh di dj dk dl cW
       refine Go1.ret2 Try.func53 rfl ?_
       exact Or.inr ⟨(⟨(⟨k2_37, b2_38, d_40, d_46, d_52, d_58, d_64, d_70, k2_39⟩ : Enum), m2_94, d_76, d_82, d_88⟩ : run), false, gH, n45, p43, c44, dH, n51, p49, c50, dI, n57, p55, c56, iO, n63, p61, c62, iP, n69, p67, c68, iQ, n75, p73, c74, iR, bk, n81, p79, c80, iS, n87, p85, c86, iT, n93, p91, c92, iU, rfl, hB.same, hO, aQ, aG, dg, dh, di, dj, dk, dl, cW, H⟩
      replace H := ifp rfl H
      refine GoQ.pure rfl (op_move rfl) rfl rfl ?_
      refine GoQ.pure rfl (op_nilCheck rfl) rfl rfl ?_
      refine GoQ.pure rfl (op_fieldAddr Try.underlying72 rfl ti29 rfl (by decide)) rfl rfl ?_
      refine GoQ.pure rfl (op_fieldAddr Try.underlying29 rfl ti22 rfl (by decide)) rfl rfl ?_
      refine GoQ.stable rfl (oblk (i := 6) 1 hO rfl rfl Try.underlying22 rfl rfl) rfl rfl ?_
      refine GoQ.pure rfl (op_fieldAddr Try.underlying29 rfl ti22 rfl (by decide)) rfl rfl ?_
      refine GoQ.stable rfl (oblk (i := 6) 0 hO rfl rfl Try.underlying22 rfl rfl) rfl rfl ?_
      have hobt := rowlend 6 hO rfl di
      obtain ⟨Ff, Fg⟩ := hobt
      have hOc158 := hO.drop 6
      refine GoQ.call rfl (op_call body69 (show ([.slice p67 n69 c68, .slice aC e.Right.length aD, .func (.func 70) #[] #[]] : List Value) = [.slice p67 d_64.length c68, .slice aC e.Right.length aD, .func (.func 70) #[] #[]] from by rw [← Fg]) (walk_slices_EqualFunc_int hOc158.lt Ff (af.ch (Owns.dropCh _ _ 6)) H)) (fun v w hr => by obtain ⟨_, _, hs, _⟩ := hr; assumption) rfl rfl ?_
      rintro LK LM ⟨r159, rfl, Fh, H⟩
      have kT := Stp.same hO Fh
      replace aQ := aQ.ch kT.ch
      replace aG := aG.ch kT.ch
      replace dg := dg.ch kT.ch
      replace dh := dh.ch kT.ch
      replace di := di.ch kT.ch
      replace dj := dj.ch kT.ch
      replace dk := dk.ch kT.ch
      replace dl := dl.ch kT.ch
      replace cW := cW.ch kT.ch
      replace hO := kT.own
      replace ah := ah.ch kT.ch
      replace ae := ae.ch kT.ch
      replace ad := ad.ch kT.ch
      replace ai := ai.ch kT.ch
      replace af := af.ch kT.ch
      replace ag := ag.ch kT.ch
      replace hB := hB.trans kT.fr
      refine GoQ.pure rfl (op_pickT rfl rfl rfl) rfl rfl ?_
      refine GoQ.pure rfl (op_move rfl) rfl rfl ?_
      cases r159
      ·replace H := ifn Bool.false_ne_true H
       refine GoQ.pass rfl rfl rfl ?_
       refine GoQ.pass rfl rfl rfl ?_
       refine GoQ.pass rfl rfl rfl ?_
       refine GoQ.pass rfl rfl rfl ?_
       refine GoQ.pass rfl rfl rfl ?_
       refine GoQ.pass rfl rfl rfl ?_
       refine GoQ.pass rfl rfl rfl ?_
       refine GoQ.pass rfl rfl rfl ?_
       refine GoQ.pure rfl (op_pickF rfl rfl rfl) rfl rfl ?_
       refine GoQ.pure rfl (op_assign rfl) rfl rfl ?_
       refine GoQ.nil ?_
       refine Go1.ret1V Try.func68 rfl (show _ = .bool false from rfl) ?_
       refine hR117 _ _ ?_
       refine GoR.op ((op_assign rfl) _) rfl rfl ?_
       refine GoR.op ((op_assign rfl) _) rfl rfl ?_
       refine GoR.nil ?_
       replace ah := ah.ch (Owns.dropCh _ _ 0)
       replace ae := ae.ch (Owns.dropCh _ _ 0)
       replace ad := ad.ch (Owns.dropCh _ _ 0)
       replace ai := ai.ch (Owns.dropCh _ _ 0)
       replace af := af.ch (Owns.dropCh _ _ 0)
       replace ag := ag.ch (Owns.dropCh _ _ 0)
       replace aQ := aQ.ch (Owns.dropCh _ _ 0)
       replace aG := aG.ch (Owns.dropCh _ _ 0)
       replace dg := dg.ch (Owns.dropCh _ _ 0)
       replace dh := dh.ch (Owns.dropCh _ _ 0)
       replace di := di.ch (Owns.dropCh _ _ 0)
       replace dj := dj.ch (Owns.dropCh _ _ 0)
       replace dk := dk.ch (Owns.dropCh _ _ 0)
       replace dl := dl.ch (Owns.dropCh _ _ 0)
       replace cW := cW.ch (Owns.dropCh _ _ 0)
       replace hB := hB.trans (Owns.dropFr _ _ 0)
       replace hO := hO.drop 0
       dsimp only [eS, eZ] at hB hO ah ae ad ai af ag aQ aG dg dh di dj dk dl cW
       replace ah := ah.ch (Owns.dropCh _ _ 11)
       replace ae := ae.ch (Owns.dropCh _ _ 11)
       replace ad := ad.ch (Owns.dropCh _ _ 11)
       replace ai := ai.ch (Owns.dropCh _ _ 11)
       replace af := af.ch (Owns.dropCh _ _ 11)
       replace ag := ag.ch (Owns.dropCh _ _ 11)
       replace aQ := aQ.ch (Owns.dropCh _ _ 11)
       replace aG := aG.ch (Owns.dropCh _ _ 11)
       replace dg := dg.ch (Owns.dropCh _ _ 11)
       replace dh := dh.ch (Owns.dropCh _ _ 11)
       replace di := di.ch (Owns.dropCh _ _ 11)
       replace dj := dj.ch (Owns.dropCh _ _ 11)
       replace dk := dk.ch (Owns.dropCh _ _ 11)
       replace dl := dl.ch (Owns.dropCh _ _ 11)
       replace cW := cW.ch (Owns.dropCh _ _ 11)
       replace hB := hB.trans (Owns.dropFr _ _ 11)
       replace hO := hO.drop 11
       dsimp only [eS, eZ] at hB hO ah ae ad ai af ag aQ aG dg dh di dj dk dl cW
       refine Go1.ret2 Try.func53 rfl ?_
       exact Or.inr ⟨(⟨(⟨k2_37, b2_38, d_40, d_46, d_52, d_58, d_64, d_70, k2_39⟩ : Enum), m2_94, d_76, d_82, d_88⟩ : run), false, gH, n45, p43, c44, dH, n51, p49, c50, dI, n57, p55, c56, iO, n63, p61, c62, iP, n69, p67, c68, iQ, n75, p73, c74, iR, bk, n81, p79, c80, iS, n87, p85, c86, iT, n93, p91, c92, iU, rfl, hB.same, hO, aQ, aG, dg, dh, di, dj, dk, dl, cW, H⟩
      replace H := ifp rfl H
      refine GoQ.pure rfl (op_move rfl) rfl rfl ?_
      refine GoQ.pure rfl (op_nilCheck rfl) rfl rfl ?_
      refine GoQ.pure rfl (op_fieldAddr Try.underlying72 rfl ti29 rfl (by decide)) rfl rfl ?_
      refine GoQ.pure rfl (op_fieldAddr Try.underlying29 rfl ti27 rfl (by decide)) rfl rfl ?_
      refine GoQ.stable rfl (oblk (i := 7) 1 hO rfl rfl Try.underlying27 rfl rfl) rfl rfl ?_
      refine GoQ.pure rfl (op_fieldAddr Try.underlying29 rfl ti27 rfl (by decide)) rfl rfl ?_
      refine GoQ.stable rfl (oblk (i := 7) 0 hO rfl rfl Try.underlying27 rfl rfl) rfl rfl ?_
      have hobt := rowlend 7 hO rfl dj
      obtain ⟨Fi, Fj⟩ := hobt
      have hOc167 := hO.drop 7
      refine GoQ.call rfl (op_call body71 (show ([.slice p73 n75 c74, .slice aE e.Rules.length aF] : List Value) = [.slice p73 d_70.length c74, .slice aE e.Rules.length aF] from by rw [← Fj]) (walk_slices_Equal_api_Rule hOc167.lt Fi (ag.ch (Owns.dropCh _ _ 7)) H)) (fun v w hr => by obtain ⟨_, _, hs, _⟩ := hr; assumption) rfl rfl ?_
      rintro LN LO ⟨r168, rfl, Fk, H⟩
      have kU := Stp.same hO Fk
      replace aQ := aQ.ch kU.ch
      replace aG := aG.ch kU.ch
      replace dg := dg.ch kU.ch
      replace dh := dh.ch kU.ch
      replace di := di.ch kU.ch
      replace dj := dj.ch kU.ch
      replace dk := dk.ch kU.ch
      replace dl := dl.ch kU.ch
      replace cW := cW.ch kU.ch
      replace hO := kU.own
      replace ah := ah.ch kU.ch
      replace ae := ae.ch kU.ch
      replace ad := ad.ch kU.ch
      replace ai := ai.ch kU.ch
      replace af := af.ch kU.ch
      replace ag := ag.ch kU.ch
      replace hB := hB.trans kU.fr
      refine GoQ.pure rfl (op_pickT rfl rfl rfl) rfl rfl ?_
      refine GoQ.pure rfl (op_assign rfl) rfl rfl ?_
      refine GoQ.nil ?_
      refine Go1.ret1V Try.func68 rfl (show _ = .bool r168 from rfl) ?_
      refine hR117 _ _ ?_
      refine GoR.op ((op_assign rfl) _) rfl rfl ?_
      refine GoR.op ((op_assign rfl) _) rfl rfl ?_
      refine GoR.nil ?_
      replace ah := ah.ch (Owns.dropCh _ _ 0)
      replace ae := ae.ch (Owns.dropCh _ _ 0)
      replace ad := ad.ch (Owns.dropCh _ _ 0)
      replace ai := ai.ch (Owns.dropCh _ _ 0)
      replace af := af.ch (Owns.dropCh _ _ 0)
      replace ag := ag.ch (Owns.dropCh _ _ 0)
      replace aQ := aQ.ch (Owns.dropCh _ _ 0)
      replace aG := aG.ch (Owns.dropCh _ _ 0)
      replace dg := dg.ch (Owns.dropCh _ _ 0)
      replace dh := dh.ch (Owns.dropCh _ _ 0)
      replace di := di.ch (Owns.dropCh _ _ 0)
      replace dj := dj.ch (Owns.dropCh _ _ 0)
      replace dk := dk.ch (Owns.dropCh _ _ 0)
      replace dl := dl.ch (Owns.dropCh _ _ 0)
      replace cW := cW.ch (Owns.dropCh _ _ 0)
      replace hB := hB.trans (Owns.dropFr _ _ 0)
      replace hO := hO.drop 0
      dsimp only [eS, eZ] at hB hO ah ae ad ai af ag aQ aG dg dh di dj dk dl cW
      replace ah := ah.ch (Owns.dropCh _ _ 11)
      replace ae := ae.ch (Owns.dropCh _ _ 11)
      replace ad := ad.ch (Owns.dropCh _ _ 11)
      replace ai := ai.ch (Owns.dropCh _ _ 11)
      replace af := af.ch (Owns.dropCh _ _ 11)
      replace ag := ag.ch (Owns.dropCh _ _ 11)
      replace aQ := aQ.ch (Owns.dropCh _ _ 11)
      replace aG := aG.ch (Owns.dropCh _ _ 11)
      replace dg := dg.ch (Owns.dropCh _ _ 11)
      replace dh := dh.ch (Owns.dropCh _ _ 11)
      replace di := di.ch (Owns.dropCh _ _ 11)
      replace dj := dj.ch (Owns.dropCh _ _ 11)
      replace dk := dk.ch (Owns.dropCh _ _ 11)
      replace dl := dl.ch (Owns.dropCh _ _ 11)
      replace cW := cW.ch (Owns.dropCh _ _ 11)
      replace hB := hB.trans (Owns.dropFr _ _ 11)
      replace hO := hO.drop 11
      dsimp only [eS, eZ] at hB hO ah ae ad ai af ag aQ aG dg dh di dj dk dl cW
      refine Go1.ret2 Try.func53 rfl ?_
      exact Or.inr ⟨(⟨(⟨k2_37, b2_38, d_40, d_46, d_52, d_58, d_64, d_70, k2_39⟩ : Enum), m2_94, d_76, d_82, d_88⟩ : run), r168, gH, n45, p43, c44, dH, n51, p49, c50, dI, n57, p55, c56, iO, n63, p61, c62, iP, n69, p67, c68, iQ, n75, p73, c74, iR, bk, n81, p79, c80, iS, n87, p85, c86, iT, n93, p91, c92, iU, rfl, hB.same, hO, aQ, aG, dg, dh, di, dj, dk, dl, cW, H⟩
     replace H := ifn yg H
     refine GoQ.pure rfl (fun w => opB (op_eql rfl rfl w) (decide_eq_false yg)) rfl rfl ?_
     refine GoQ.pure rfl (op_pickT rfl rfl rfl) rfl rfl ?_
     refine GoQ.pure rfl (op_move rfl) rfl rfl ?_
     refine GoQ.pass rfl rfl rfl ?_
     refine GoQ.pass rfl rfl rfl ?_
     refine GoQ.pass rfl rfl rfl ?_
     refine GoQ.pass rfl rfl rfl ?_
     refine GoQ.pass rfl rfl rfl ?_
     refine GoQ.pass rfl rfl rfl ?_
     refine GoQ.pass rfl rfl rfl ?_
     refine GoQ.pass rfl rfl rfl ?_
     refine GoQ.pure rfl (op_pickF rfl rfl rfl) rfl rfl ?_
     refine GoQ.pure rfl (op_move rfl) rfl rfl ?_
     refine GoQ.pass rfl rfl rfl ?_
     refine GoQ.pass rfl rfl rfl ?_
     refine GoQ.pass rfl rfl rfl ?_
     refine GoQ.pass rfl rfl rfl ?_
     refine GoQ.pass rfl rfl rfl ?_
     refine GoQ.pass rfl rfl rfl ?_
     refine GoQ.pass rfl rfl rfl ?_
     refine GoQ.pass rfl rfl rfl ?_
     refine GoQ.pure rfl (op_pickF rfl rfl rfl) rfl rfl ?_
     refine GoQ.pure rfl (op_move rfl) rfl rfl ?_
     refine GoQ.pass rfl rfl rfl ?_
     refine GoQ.pass rfl rfl rfl ?_
     refine GoQ.pass rfl rfl rfl ?_
     refine GoQ.pass rfl rfl rfl ?_
     refine GoQ.pass rfl rfl rfl ?_
     refine GoQ.pass rfl rfl rfl ?_
     refine GoQ.pass rfl rfl rfl ?_
     refine GoQ.pass rfl rfl rfl ?_
     refine GoQ.pure rfl (op_pickF rfl rfl rfl) rfl rfl ?_
     refine GoQ.pure rfl (op_move rfl) rfl rfl ?_
     refine GoQ.pass rfl rfl rfl ?_
     refine GoQ.pass rfl rfl rfl ?_
     refine GoQ.pass rfl rfl rfl ?_
     refine GoQ.pass rfl rfl rfl ?_
     refine GoQ.pass rfl rfl rfl ?_
     refine GoQ.pass rfl rfl rfl ?_
     refine GoQ.pass rfl rfl rfl ?_
     refine GoQ.pass rfl rfl rfl ?_
     refine GoQ.pure rfl (op_pickF rfl rfl rfl) rfl rfl ?_
     refine GoQ.pure rfl (op_move rfl) rfl rfl ?_
     refine GoQ.pass rfl rfl rfl ?_
     refine GoQ.pass rfl rfl rfl ?_
     refine GoQ.pass rfl rfl rfl ?_
     refine GoQ.pass rfl rfl rfl ?_
     refine GoQ.pass rfl rfl rfl ?_
     refine GoQ.pass rfl rfl rfl ?_
     refine GoQ.pass rfl rfl rfl ?_
     refine GoQ.pass rfl rfl rfl ?_
     refine GoQ.pure rfl (op_pickF rfl rfl rfl) rfl rfl ?_
     refine GoQ.pure rfl (op_assign rfl) rfl rfl ?_
     refine GoQ.nil ?_
     refine Go1.ret1V Try.func68 rfl (show _ = .bool false from rfl) ?_
     refine hR117 _ _ ?_
     refine GoR.op ((op_assign rfl) _) rfl rfl ?_
     refine GoR.op ((op_assign rfl) _) rfl rfl ?_
     refine GoR.nil ?_
     replace ah := ah.ch (Owns.dropCh _ _ 0)
     replace ae := ae.ch (Owns.dropCh _ _ 0)
     replace ad := ad.ch (Owns.dropCh _ _ 0)
     replace ai := ai.ch (Owns.dropCh _ _ 0)
     replace af := af.ch (Owns.dropCh _ _ 0)
     replace ag := ag.ch (Owns.dropCh _ _ 0)
     replace aQ := aQ.ch (Owns.dropCh _ _ 0)
     replace aG := aG.ch (Owns.dropCh _ _ 0)
     replace dg := dg.ch (Owns.dropCh _ _ 0)
     replace dh := dh.ch (Owns.dropCh _ _ 0)
     replace di := di.ch (Owns.dropCh _ _ 0)
     replace dj := dj.ch (Owns.dropCh _ _ 0)
     replace dk := dk.ch (Owns.dropCh _ _ 0)
     replace dl := dl.ch (Owns.dropCh _ _ 0)
     replace cW := cW.ch (Owns.dropCh _ _ 0)
     replace hB := hB.trans (Owns.dropFr _ _ 0)
     replace hO := hO.drop 0
     dsimp only [eS, eZ] at hB hO ah ae ad ai af ag aQ aG dg dh di dj dk dl cW
     replace ah := ah.ch (Owns.dropCh _ _ 11)
     replace ae := ae.ch (Owns.dropCh _ _ 11)
     replace ad := ad.ch (Owns.dropCh _ _ 11)
     replace ai := ai.ch (Owns.dropCh _ _ 11)
     replace af := af.ch (Owns.dropCh _ _ 11)
     replace ag := ag.ch (Owns.dropCh _ _ 11)
     replace aQ := aQ.ch (Owns.dropCh _ _ 11)
     replace aG := aG.ch (Owns.dropCh _ _ 11)
     replace dg := dg.ch (Owns.dropCh _ _ 11)
     replace dh := dh.ch (Owns.dropCh _ _ 11)
     replace di := di.ch (Owns.dropCh _ _ 11)
     replace dj := dj.ch (Owns.dropCh _ _ 11)
     replace dk := dk.ch (Owns.dropCh _ _ 11)
     replace dl := dl.ch (Owns.dropCh _ _ 11)
     replace cW := cW.ch (Owns.dropCh _ _ 11)
     replace hB := hB.trans (Owns.dropFr _ _ 11)
     replace hO := hO.drop 11
     dsimp only [eS, eZ] at hB hO ah ae ad ai af ag aQ aG dg dh di dj dk dl cW
     refine Go1.ret2 Try.func53 rfl ?_
     exact Or.inr ⟨(⟨(⟨k2_37, b2_38, d_40, d_46, d_52, d_58, d_64, d_70, k2_39⟩ : Enum), m2_94, d_76, d_82, d_88⟩ : run), false, gH, n45, p43, c44, dH, n51, p49, c50, dI, n57, p55, c56, iO, n63, p61, c62, iP, n69, p67, c68, iQ, n75, p73, c74, iR, bk, n81, p79, c80, iS, n87, p85, c86, iT, n93, p91, c92, iU, rfl, hB.same, hO, aQ, aG, dg, dh, di, dj, dk, dl, cW, H⟩
    replace H := ifn yf H
    refine GoQ.pure rfl (fun w => opB (op_eql rfl rfl w) (decide_eq_false yf)) rfl rfl ?_
    refine GoQ.pure rfl (op_move rfl) rfl rfl ?_
    refine GoQ.pass rfl rfl rfl ?_
    refine GoQ.pass rfl rfl rfl ?_
    refine GoQ.pass rfl rfl rfl ?_
    refine GoQ.pass rfl rfl rfl ?_
    refine GoQ.pass rfl rfl rfl ?_
    refine GoQ.pass rfl rfl rfl ?_
    refine GoQ.pass rfl rfl rfl ?_
    refine GoQ.pass rfl rfl rfl ?_
    refine GoQ.pure rfl (op_pickF rfl rfl rfl) rfl rfl ?_
    refine GoQ.pure rfl (op_move rfl) rfl rfl ?_
    refine GoQ.pass rfl rfl rfl ?_
    refine GoQ.pass rfl rfl rfl ?_
    refine GoQ.pass rfl rfl rfl ?_
    refine GoQ.pass rfl rfl rfl ?_
    refine GoQ.pass rfl rfl rfl ?_
    refine GoQ.pass rfl rfl rfl ?_
    refine GoQ.pass rfl rfl rfl ?_
    refine GoQ.pass rfl rfl rfl ?_
    refine GoQ.pure rfl (op_pickF rfl rfl rfl) rfl rfl ?_
    refine GoQ.pure rfl (op_move rfl) rfl rfl ?_
    refine GoQ.pass rfl rfl rfl ?_
    refine GoQ.pass rfl rfl rfl ?_
    refine GoQ.pass rfl rfl rfl ?_
    refine GoQ.pass rfl rfl rfl ?_
    refine GoQ.pass rfl rfl rfl ?_
    refine GoQ.pass rfl rfl rfl ?_
    refine GoQ.pass rfl rfl rfl ?_
    refine GoQ.pass rfl rfl rfl ?_
    refine GoQ.pure rfl (op_pickF rfl rfl rfl) rfl rfl ?_
    refine GoQ.pure rfl (op_move rfl) rfl rfl ?_
    refine GoQ.pass rfl rfl rfl ?_
    refine GoQ.pass rfl rfl rfl ?_
    refine GoQ.pass rfl rfl rfl ?_
    refine GoQ.pass rfl rfl rfl ?_
    refine GoQ.pass rfl rfl rfl ?_
    refine GoQ.pass rfl rfl rfl ?_
    refine GoQ.pass rfl rfl rfl ?_
    refine GoQ.pass rfl rfl rfl ?_
    refine GoQ.pure rfl (op_pickF rfl rfl rfl) rfl rfl ?_
    refine GoQ.pure rfl (op_move rfl) rfl rfl ?_
    refine GoQ.pass rfl rfl rfl ?_
    refine GoQ.pass rfl rfl rfl ?_
    refine GoQ.pass rfl rfl rfl ?_
    refine GoQ.pass rfl rfl rfl ?_
    refine GoQ.pass rfl rfl rfl ?_
    refine GoQ.pass rfl rfl rfl ?_
    refine GoQ.pass rfl rfl rfl ?_
    refine GoQ.pass rfl rfl rfl ?_
    refine GoQ.pure rfl (op_pickF rfl rfl rfl) rfl rfl ?_
    refine GoQ.pure rfl (op_move rfl) rfl rfl ?_
    refine GoQ.pass rfl rfl rfl ?_
    refine GoQ.pass rfl rfl rfl ?_
    refine GoQ.pass rfl rfl rfl ?_
    refine GoQ.pass rfl rfl rfl ?_
    refine GoQ.pass rfl rfl rfl ?_
    refine GoQ.pass rfl rfl rfl ?_
    refine GoQ.pass rfl rfl rfl ?_
    refine GoQ.pass rfl rfl rfl ?_
    refine GoQ.pure rfl (op_pickF rfl rfl rfl) rfl rfl ?_
    refine GoQ.pure rfl (op_assign rfl) rfl rfl ?_
    refine GoQ.nil ?_
    refine Go1.ret1V Try.func68 rfl (show _ = .bool false from rfl) ?_
    refine hR117 _ _ ?_
    refine GoR.op ((op_assign rfl) _) rfl rfl ?_
    refine GoR.op ((op_assign rfl) _) rfl rfl ?_
    refine GoR.nil ?_
    replace ah := ah.ch (Owns.dropCh _ _ 0)
    replace ae := ae.ch (Owns.dropCh _ _ 0)
    replace ad := ad.ch (Owns.dropCh _ _ 0)
    replace ai := ai.ch (Owns.dropCh _ _ 0)
    replace af := af.ch (Owns.dropCh _ _ 0)
    replace ag := ag.ch (Owns.dropCh _ _ 0)
    replace aQ := aQ.ch (Owns.dropCh _ _ 0)
    replace aG := aG.ch (Owns.dropCh _ _ 0)
    replace dg := dg.ch (Owns.dropCh _ _ 0)
    replace dh := dh.ch (Owns.dropCh _ _ 0)
    replace di := di.ch (Owns.dropCh _ _ 0)
    replace dj := dj.ch (Owns.dropCh _ _ 0)
    replace dk := dk.ch (Owns.dropCh _ _ 0)
    replace dl := dl.ch (Owns.dropCh _ _ 0)
    replace cW := cW.ch (Owns.dropCh _ _ 0)
    replace hB := hB.trans (Owns.dropFr _ _ 0)
    replace hO := hO.drop 0
    dsimp only [eS, eZ] at hB hO ah ae ad ai af ag aQ aG dg dh di dj dk dl cW
    replace ah := ah.ch (Owns.dropCh _ _ 11)
    replace ae := ae.ch (Owns.dropCh _ _ 11)
    replace ad := ad.ch (Owns.dropCh _ _ 11)
    replace ai := ai.ch (Owns.dropCh _ _ 11)
    replace af := af.ch (Owns.dropCh _ _ 11)
    replace ag := ag.ch (Owns.dropCh _ _ 11)
    replace aQ := aQ.ch (Owns.dropCh _ _ 11)
    replace aG := aG.ch (Owns.dropCh _ _ 11)
    replace dg := dg.ch (Owns.dropCh _ _ 11)
    replace dh := dh.ch (Owns.dropCh _ _ 11)
    replace di := di.ch (Owns.dropCh _ _ 11)
    replace dj := dj.ch (Owns.dropCh _ _ 11)
    replace dk := dk.ch (Owns.dropCh _ _ 11)
    replace dl := dl.ch (Owns.dropCh _ _ 11)
    replace cW := cW.ch (Owns.dropCh _ _ 11)
    replace hB := hB.trans (Owns.dropFr _ _ 11)
    replace hO := hO.drop 11
    dsimp only [eS, eZ] at hB hO ah ae ad ai af ag aQ aG dg dh di dj dk dl cW
    refine Go1.ret2 Try.func53 rfl ?_
    exact Or.inr ⟨(⟨(⟨k2_37, b2_38, d_40, d_46, d_52, d_58, d_64, d_70, k2_39⟩ : Enum), m2_94, d_76, d_82, d_88⟩ : run), false, gH, n45, p43, c44, dH, n51, p49, c50, dI, n57, p55, c56, iO, n63, p61, c62, iP, n69, p67, c68, iQ, n75, p73, c74, iR, bk, n81, p79, c80, iS, n87, p85, c86, iT, n93, p91, c92, iU, rfl, hB.same, hO, aQ, aG, dg, dh, di, dj, dk, dl, cW, H⟩
   replace H := ifn h35 H
   refine GoR.op ((fun w => opB (op_neq rfl rfl w) (ndF h35)) _) rfl rfl ?_
   refine GoR.nil ?_
   refine Go1.condT rfl rfl ?_
   refine Go1.seq ?_
   refine Go1.cut [] trivial ?_
   intro σ _
   refine Go1.region ?_
   refine GoR.op ((op_assign rfl) _) rfl rfl ?_
   refine GoR.op ((op_assign rfl) _) rfl rfl ?_
   refine GoR.nil ?_
   refine Go1.ret2 Try.func53 rfl ?_
   exact Or.inl ⟨false, rfl, hB.same, H⟩
 replace H := ifn h7 H
 refine GoR.op (opB ((oblk (i := 1) 0 hO rfl rfl Try.underlying4 rfl rfl) _ (Same.refl _)) (Bool.eq_false_iff.2 h7)) rfl rfl ?_
 refine GoR.call (op_call body49 rfl (walk_enumerate_begin hO.lt ah H)) rfl rfl ?_
 intro LP LQ hcase180
 refine Or.elim hcase180 ?_ ?_
 ·refine exE fun r175 => andE fun hv181 => andE fun yh => fun H => ?_
  subst hv181
  clear hcase180
  replace H := oElimN H
  have iW := Stp.same hO yh
  replace hO := iW.own
  replace ah := ah.ch iW.ch
  replace ae := ae.ch iW.ch
  replace ad := ad.ch iW.ch
  replace ai := ai.ch iW.ch
  replace af := af.ch iW.ch
  replace ag := ag.ch iW.ch
  replace hB := hB.trans iW.fr
  refine GoR.op ((op_move rfl) _) rfl rfl ?_
  refine GoR.op ((op_extract rfl rfl) _) rfl rfl ?_
  refine GoR.op ((op_extract rfl rfl) _) rfl rfl ?_
  refine GoR.op ((op_assign rfl) _) rfl rfl ?_
  refine GoR.op ((op_assign rfl) _) rfl rfl ?_
  refine GoR.nil ?_
  refine Go1.seq ?_
  refine Go1.seq ?_
  refine Go1.region ?_
  refine GoR.op ((op_move rfl) _) rfl rfl ?_
  by_cases yi : r175 = (0 : Int)
  ·replace H := ifp yi H
   refine GoR.op ((fun w => opB (op_neq rfl rfl w) (ndT yi)) _) rfl rfl ?_
   refine GoR.nil ?_
   refine Go1.condF rfl rfl ?_
   refine Go1.skip ?_
   refine Go1.seq ?_
   refine Go1.block ?_
   refine Go1.loopW (S := Unit) (fun s σ w => agrees σ [(1, .pointer (some ⟨B2, 0, none⟩)), (4, .pointer none)] ∧ Owns w0.heap.size w [.blk B2 (.cells #[.int .i64 e.Points, .bool e.Monoid, .slice a5 e.Gens.length a6, .slice aA e.Elems.length aB, .slice ao e.Prefix.length ap, .slice aX e.Last.length aY, .slice aC e.Right.length aD, .slice aE e.Rules.length aF, .int .i64 e.Done] 29 (0, 0))] A ∧ ISl (Rp.sl (Rp.int .i64)) (bl [.blk B2 (.cells #[.int .i64 e.Points, .bool e.Monoid, .slice a5 e.Gens.length a6, .slice aA e.Elems.length aB, .slice ao e.Prefix.length ap, .slice aX e.Last.length aY, .slice aC e.Right.length aD, .slice aE e.Rules.length aF, .int .i64 e.Done] 29 (0, 0))] ++ A) w a5 a6 e.Gens ∧ ISl (Rp.sl (Rp.int .i64)) (bl [.blk B2 (.cells #[.int .i64 e.Points, .bool e.Monoid, .slice a5 e.Gens.length a6, .slice aA e.Elems.length aB, .slice ao e.Prefix.length ap, .slice aX e.Last.length aY, .slice aC e.Right.length aD, .slice aE e.Rules.length aF, .int .i64 e.Done] 29 (0, 0))] ++ A) w aA aB e.Elems ∧ ISl (Rp.int .i64) (bl [.blk B2 (.cells #[.int .i64 e.Points, .bool e.Monoid, .slice a5 e.Gens.length a6, .slice aA e.Elems.length aB, .slice ao e.Prefix.length ap, .slice aX e.Last.length aY, .slice aC e.Right.length aD, .slice aE e.Rules.length aF, .int .i64 e.Done] 29 (0, 0))] ++ A) w ao ap e.Prefix ∧ ISl (Rp.int .i64) (bl [.blk B2 (.cells #[.int .i64 e.Points, .bool e.Monoid, .slice a5 e.Gens.length a6, .slice aA e.Elems.length aB, .slice ao e.Prefix.length ap, .slice aX e.Last.length aY, .slice aC e.Right.length aD, .slice aE e.Rules.length aF, .int .i64 e.Done] 29 (0, 0))] ++ A) w aX aY e.Last ∧ ISl (Rp.sl (Rp.int .i64)) (bl [.blk B2 (.cells #[.int .i64 e.Points, .bool e.Monoid, .slice a5 e.Gens.length a6, .slice aA e.Elems.length aB, .slice ao e.Prefix.length ap, .slice aX e.Last.length aY, .slice aC e.Right.length aD, .slice aE e.Rules.length aF, .int .i64 e.Done] 29 (0, 0))] ++ A) w aC aD e.Right ∧ ISl (rpRule) (bl [.blk B2 (.cells #[.int .i64 e.Points, .bool e.Monoid, .slice a5 e.Gens.length a6, .slice aA e.Elems.length aB, .slice ao e.Prefix.length ap, .slice aX e.Last.length aY, .slice aC e.Right.length aD, .slice aE e.Rules.length aF, .int .i64 e.Done] 29 (0, 0))] ++ A) w aE aF e.Rules ∧ Fr (bl []) w0 (bl [.blk B2 (.cells #[.int .i64 e.Points, .bool e.Monoid, .slice a5 e.Gens.length a6, .slice aA e.Elems.length aB, .slice ao e.Prefix.length ap, .slice aX e.Last.length aY, .slice aC e.Right.length aD, .slice aE e.Rules.length aF, .int .i64 e.Done] 29 (0, 0))]) w) H ⟨⟨rfl, rfl, trivial⟩, hO, ah, ae, ad, ai, af, ag, hB⟩ ?_
   intro X3 _
   intro H hX3 σ LS
   refine andE fun hag => andE fun hO => andE fun ah => andE fun ae => andE fun ad => andE fun ai => andE fun af => andE fun ag => fun hB => ?_
   refine Go1.keep [(1, .pointer (some ⟨B2, 0, none⟩)), (4, .pointer none)] hag ?_
   refine Go1.seq ?_
   refine Go1.seq ?_
   refine Go1.drawS 0 [(0, .pure), (1, .pure), (2, .pure), (3, .pure), (4, .stable), (5, .pure), (6, .stable), (7, .pure)] mixed (by kernel_rfl) ?_
   intro LT xU
   have sb := Stp.same hO xU
   replace hO := sb.own
   replace ah := ah.ch sb.ch
   replace ae := ae.ch sb.ch
   replace ad := ad.ch sb.ch
   replace ai := ai.ch sb.ch
   replace af := af.ch sb.ch
   replace ag := ag.ch sb.ch
   replace hB := hB.trans sb.fr
   refine GoQ.pure rfl (op_move rfl) rfl rfl ?_
   exact H.elim
  replace H := ifn yi H
  refine GoR.op ((fun w => opB (op_neq rfl rfl w) (ndF yi)) _) rfl rfl ?_
  refine GoR.nil ?_
  refine Go1.condT rfl rfl ?_
  refine Go1.seq ?_
  refine Go1.region ?_
  refine GoR.op ((op_assign rfl) _) rfl rfl ?_
  refine GoR.op ((op_assign rfl) _) rfl rfl ?_
  refine GoR.nil ?_
  refine Go1.ret2 Try.func53 rfl ?_
  exact Or.inl ⟨false, rfl, hB.same, H⟩
 ·refine exE fun r174 => exE fun r175 => exE fun dE => exE fun u3 => exE fun u4 => exE fun u5 => exE fun uq => exE fun ur => exE fun ut => exE fun uu => exE fun t3 => exE fun t4 => exE fun t5 => exE fun t6 => exE fun tM => exE fun u6 => exE fun u7 => exE fun u9 => exE fun uv => exE fun uw => exE fun ux => exE fun uy => exE fun t7 => exE fun uz => exE fun uA => exE fun uB => exE fun t8 => exE fun a7 => exE fun wV => exE fun wW => exE fun wX => exE fun wc => exE fun we => exE fun wg => exE fun wh => exE fun vY => exE fun wi => exE fun wj => exE fun wk => exE fun vZ => andE fun hv188 => andE fun yh => andE fun hN179 => andE fun m0 => andE fun mG => andE fun mp => andE fun m3 => andE fun mH => andE fun mI => andE fun qw => andE fun pX => andE fun pY => fun H => ?_
  subst hv188
  clear hcase180
  replace H := oElimS H
  have q9 := Stp.more hO yh hN179
  dsimp only [List.cons_append, List.nil_append] at q9
  replace hO := q9.own
  replace ah := ah.ch q9.ch
  replace ae := ae.ch q9.ch
  replace ad := ad.ch q9.ch
  replace ai := ai.ch q9.ch
  replace af := af.ch q9.ch
  replace ag := ag.ch q9.ch
  replace hB := hB.trans q9.fr
  replace m0 := m0.ch (Ch.assoc _ _ _ _)
  dsimp only [List.cons_append, List.nil_append] at m0
  replace mG := mG.ch (Ch.assoc _ _ _ _)
  dsimp only [List.cons_append, List.nil_append] at mG
  replace mp := mp.ch (Ch.assoc _ _ _ _)
  dsimp only [List.cons_append, List.nil_append] at mp
  replace m3 := m3.ch (Ch.assoc _ _ _ _)
  dsimp only [List.cons_append, List.nil_append] at m3
  replace mH := mH.ch (Ch.assoc _ _ _ _)
  dsimp only [List.cons_append, List.nil_append] at mH
  replace mI := mI.ch (Ch.assoc _ _ _ _)
  dsimp only [List.cons_append, List.nil_append] at mI
  replace qw := qw.ch (Ch.assoc _ _ _ _)
  dsimp only [List.cons_append, List.nil_append] at qw
  replace pX := pX.ch (Ch.assoc _ _ _ _)
  dsimp only [List.cons_append, List.nil_append] at pX
  replace pY := pY.ch (Ch.assoc _ _ _ _)
  dsimp only [List.cons_append, List.nil_append] at pY
  refine GoR.op ((op_move rfl) _) rfl rfl ?_
  refine GoR.op ((op_extract rfl rfl) _) rfl rfl ?_
  refine GoR.op ((op_extract rfl rfl) _) rfl rfl ?_
  refine GoR.op ((op_assign rfl) _) rfl rfl ?_
  refine GoR.op ((op_assign rfl) _) rfl rfl ?_
  refine GoR.nil ?_
  refine Go1.seq ?_
  refine Go1.seq ?_
  refine Go1.region ?_
  refine GoR.op ((op_move rfl) _) rfl rfl ?_
  by_cases yj : r175 = (0 : Int)
  ·replace H := ifp yj H
   refine GoR.op ((fun w => opB (op_neq rfl rfl w) (ndT yj)) _) rfl rfl ?_
   refine GoR.nil ?_
   refine Go1.condF rfl rfl ?_
   refine Go1.skip ?_
   refine Go1.seq ?_
   refine Go1.block ?_
   refine Go1.loopW (S := Int × Bool × Int × List (List Int) × List (List Int) × List Int × List Int × List (List Int) × List Rule × List Str × List Int × List Int × (List (Str × Int))) (fun s σ w => match s with | (k4_203, b4_204, k4_205, d_206, d_212, d_218, d_224, d_230, d_236, d_242, d_248, d_254, m4_260) => ∃ (d4 : Nat), ∃ (d5 : Option Addr), ∃ (d6 : Nat), ∃ (fv : List Value), ∃ (dU : Nat), ∃ (dJ : Option Addr), ∃ (dK : Nat), ∃ (gn : List Value), ∃ (dV : Nat), ∃ (dM : Option Addr), ∃ (dN : Nat), ∃ (gp : List Value), ∃ (dW : Nat), ∃ (dO : Option Addr), ∃ (dP : Nat), ∃ (gq : List Value), ∃ (dX : Nat), ∃ (dQ : Option Addr), ∃ (dR : Nat), ∃ (gr : List Value), ∃ (dY : Nat), ∃ (dS : Option Addr), ∃ (dT : Nat), ∃ (gs : List Value), ∃ (d7 : Nat), ∃ (d8 : Option Addr), ∃ (d9 : Nat), ∃ (gt : List Value), ∃ (eg : Nat), ∃ (eh : Option Addr), ∃ (en : Nat), ∃ (gu : List Value), ∃ (eo : Nat), ∃ (er : Option Addr), ∃ (et : Nat), ∃ (gv : List Value), agrees σ [(1, .pointer (some ⟨B2, 0, none⟩)), (4, .pointer (some ⟨dE, 0, none⟩))] ∧ Owns w0.heap.size w [.blk dE (.cells #[.int .i64 k4_203, .bool b4_204, .slice d5 d4 d6, .slice dJ dU dK, .slice dM dV dN, .slice dO dW dP, .slice dQ dX dR, .slice dS dY dT, .int .i64 k4_205, .map (some a7), .slice d8 d7 d9, .slice eh eg en, .slice er eo et] 72 (0, 0)), .row 26 1 d5 d4 d6 fv, .row 26 1 dJ dU dK gn, .row 3 1 dM dV dN gp, .row 3 1 dO dW dP gq, .row 26 1 dQ dX dR gr, .row 39 2 dS dY dT gs, .row 9 1 d8 d7 d9 gt, .row 3 1 eh eg en gu, .row 3 1 er eo et gv, .any (mapE (fun a : List UInt8 => Value.string (gstr a)) (fun a : Int => Value.int .i64 a) a7 m4_260), .blk B2 (.cells #[.int .i64 e.Points, .bool e.Monoid, .slice a5 e.Gens.length a6, .slice aA e.Elems.length aB, .slice ao e.Prefix.length ap, .slice aX e.Last.length aY, .slice aC e.Right.length aD, .slice aE e.Rules.length aF, .int .i64 e.Done] 29 (0, 0))] A ∧ Els (Rp.sl (Rp.int .i64)) (bl [.blk dE (.cells #[.int .i64 k4_203, .bool b4_204, .slice d5 d4 d6, .slice dJ dU dK, .slice dM dV dN, .slice dO dW dP, .slice dQ dX dR, .slice dS dY dT, .int .i64 k4_205, .map (some a7), .slice d8 d7 d9, .slice eh eg en, .slice er eo et] 72 (0, 0)), .row 26 1 d5 d4 d6 fv, .row 26 1 dJ dU dK gn, .row 3 1 dM dV dN gp, .row 3 1 dO dW dP gq, .row 26 1 dQ dX dR gr, .row 39 2 dS dY dT gs, .row 9 1 d8 d7 d9 gt, .row 3 1 eh eg en gu, .row 3 1 er eo et gv, .any (mapE (fun a : List UInt8 => Value.string (gstr a)) (fun a : Int => Value.int .i64 a) a7 m4_260), .blk B2 (.cells #[.int .i64 e.Points, .bool e.Monoid, .slice a5 e.Gens.length a6, .slice aA e.Elems.length aB, .slice ao e.Prefix.length ap, .slice aX e.Last.length aY, .slice aC e.Right.length aD, .slice aE e.Rules.length aF, .int .i64 e.Done] 29 (0, 0))] ++ A) w fv d_206 ∧ Els (Rp.sl (Rp.int .i64)) (bl [.blk dE (.cells #[.int .i64 k4_203, .bool b4_204, .slice d5 d4 d6, .slice dJ dU dK, .slice dM dV dN, .slice dO dW dP, .slice dQ dX dR, .slice dS dY dT, .int .i64 k4_205, .map (some a7), .slice d8 d7 d9, .slice eh eg en, .slice er eo et] 72 (0, 0)), .row 26 1 d5 d4 d6 fv, .row 26 1 dJ dU dK gn, .row 3 1 dM dV dN gp, .row 3 1 dO dW dP gq, .row 26 1 dQ dX dR gr, .row 39 2 dS dY dT gs, .row 9 1 d8 d7 d9 gt, .row 3 1 eh eg en gu, .row 3 1 er eo et gv, .any (mapE (fun a : List UInt8 => Value.string (gstr a)) (fun a : Int => Value.int .i64 a) a7 m4_260), .blk B2 (.cells #[.int .i64 e.Points, .bool e.Monoid, .slice a5 e.Gens.length a6, .slice aA e.Elems.length aB, .slice ao e.Prefix.length ap, .slice aX e.Last.length aY, .slice aC e.Right.length aD, .slice aE e.Rules.length aF, .int .i64 e.Done] 29 (0, 0))] ++ A) w gn d_212 ∧ Els (Rp.int .i64) (bl [.blk dE (.cells #[.int .i64 k4_203, .bool b4_204, .slice d5 d4 d6, .slice dJ dU dK, .slice dM dV dN, .slice dO dW dP, .slice dQ dX dR, .slice dS dY dT, .int .i64 k4_205, .map (some a7), .slice d8 d7 d9, .slice eh eg en, .slice er eo et] 72 (0, 0)), .row 26 1 d5 d4 d6 fv, .row 26 1 dJ dU dK gn, .row 3 1 dM dV dN gp, .row 3 1 dO dW dP gq, .row 26 1 dQ dX dR gr, .row 39 2 dS dY dT gs, .row 9 1 d8 d7 d9 gt, .row 3 1 eh eg en gu, .row 3 1 er eo et gv, .any (mapE (fun a : List UInt8 => Value.string (gstr a)) (fun a : Int => Value.int .i64 a) a7 m4_260), .blk B2 (.cells #[.int .i64 e.Points, .bool e.Monoid, .slice a5 e.Gens.length a6, .slice aA e.Elems.length aB, .slice ao e.Prefix.length ap, .slice aX e.Last.length aY, .slice aC e.Right.length aD, .slice aE e.Rules.length aF, .int .i64 e.Done] 29 (0, 0))] ++ A) w gp d_218 ∧ Els (Rp.int .i64) (bl [.blk dE (.cells #[.int .i64 k4_203, .bool b4_204, .slice d5 d4 d6, .slice dJ dU dK, .slice dM dV dN, .slice dO dW dP, .slice dQ dX dR, .slice dS dY dT, .int .i64 k4_205, .map (some a7), .slice d8 d7 d9, .slice eh eg en, .slice er eo et] 72 (0, 0)), .row 26 1 d5 d4 d6 fv, .row 26 1 dJ dU dK gn, .row 3 1 dM dV dN gp, .row 3 1 dO dW dP gq, .row 26 1 dQ dX dR gr, .row 39 2 dS dY dT gs, .row 9 1 d8 d7 d9 gt, .row 3 1 eh eg en gu, .row 3 1 er eo et gv, .any (mapE (fun a : List UInt8 => Value.string (gstr a)) (fun a : Int => Value.int .i64 a) a7 m4_260), .blk B2 (.cells #[.int .i64 e.Points, .bool e.Monoid, .slice a5 e.Gens.length a6, .slice aA e.Elems.length aB, .slice ao e.Prefix.length ap, .slice aX e.Last.length aY, .slice aC e.Right.length aD, .slice aE e.Rules.length aF, .int .i64 e.Done] 29 (0, 0))] ++ A) w gq d_224 ∧ Els (Rp.sl (Rp.int .i64)) (bl [.blk dE (.cells #[.int .i64 k4_203, .bool b4_204, .slice d5 d4 d6, .slice dJ dU dK, .slice dM dV dN, .slice dO dW dP, .slice dQ dX dR, .slice dS dY dT, .int .i64 k4_205, .map (some a7), .slice d8 d7 d9, .slice eh eg en, .slice er eo et] 72 (0, 0)), .row 26 1 d5 d4 d6 fv, .row 26 1 dJ dU dK gn, .row 3 1 dM dV dN gp, .row 3 1 dO dW dP gq, .row 26 1 dQ dX dR gr, .row 39 2 dS dY dT gs, .row 9 1 d8 d7 d9 gt, .row 3 1 eh eg en gu, .row 3 1 er eo et gv, .any (mapE (fun a : List UInt8 => Value.string (gstr a)) (fun a : Int => Value.int .i64 a) a7 m4_260), .blk B2 (.cells #[.int .i64 e.Points, .bool e.Monoid, .slice a5 e.Gens.length a6, .slice aA e.Elems.length aB, .slice ao e.Prefix.length ap, .slice aX e.Last.length aY, .slice aC e.Right.length aD, .slice aE e.Rules.length aF, .int .i64 e.Done] 29 (0, 0))] ++ A) w gr d_230 ∧ Els (rpRule) (bl [.blk dE (.cells #[.int .i64 k4_203, .bool b4_204, .slice d5 d4 d6, .slice dJ dU dK, .slice dM dV dN, .slice dO dW dP, .slice dQ dX dR, .slice dS dY dT, .int .i64 k4_205, .map (some a7), .slice d8 d7 d9, .slice eh eg en, .slice er eo et] 72 (0, 0)), .row 26 1 d5 d4 d6 fv, .row 26 1 dJ dU dK gn, .row 3 1 dM dV dN gp, .row 3 1 dO dW dP gq, .row 26 1 dQ dX dR gr, .row 39 2 dS dY dT gs, .row 9 1 d8 d7 d9 gt, .row 3 1 eh eg en gu, .row 3 1 er eo et gv, .any (mapE (fun a : List UInt8 => Value.string (gstr a)) (fun a : Int => Value.int .i64 a) a7 m4_260), .blk B2 (.cells #[.int .i64 e.Points, .bool e.Monoid, .slice a5 e.Gens.length a6, .slice aA e.Elems.length aB, .slice ao e.Prefix.length ap, .slice aX e.Last.length aY, .slice aC e.Right.length aD, .slice aE e.Rules.length aF, .int .i64 e.Done] 29 (0, 0))] ++ A) w gs d_236 ∧ Els (Rp.str) (bl [.blk dE (.cells #[.int .i64 k4_203, .bool b4_204, .slice d5 d4 d6, .slice dJ dU dK, .slice dM dV dN, .slice dO dW dP, .slice dQ dX dR, .slice dS dY dT, .int .i64 k4_205, .map (some a7), .slice d8 d7 d9, .slice eh eg en, .slice er eo et] 72 (0, 0)), .row 26 1 d5 d4 d6 fv, .row 26 1 dJ dU dK gn, .row 3 1 dM dV dN gp, .row 3 1 dO dW dP gq, .row 26 1 dQ dX dR gr, .row 39 2 dS dY dT gs, .row 9 1 d8 d7 d9 gt, .row 3 1 eh eg en gu, .row 3 1 er eo et gv, .any (mapE (fun a : List UInt8 => Value.string (gstr a)) (fun a : Int => Value.int .i64 a) a7 m4_260), .blk B2 (.cells #[.int .i64 e.Points, .bool e.Monoid, .slice a5 e.Gens.length a6, .slice aA e.Elems.length aB, .slice ao e.Prefix.length ap, .slice aX e.Last.length aY, .slice aC e.Right.length aD, .slice aE e.Rules.length aF, .int .i64 e.Done] 29 (0, 0))] ++ A) w gt d_242 ∧ Els (Rp.int .i64) (bl [.blk dE (.cells #[.int .i64 k4_203, .bool b4_204, .slice d5 d4 d6, .slice dJ dU dK, .slice dM dV dN, .slice dO dW dP, .slice dQ dX dR, .slice dS dY dT, .int .i64 k4_205, .map (some a7), .slice d8 d7 d9, .slice eh eg en, .slice er eo et] 72 (0, 0)), .row 26 1 d5 d4 d6 fv, .row 26 1 dJ dU dK gn, .row 3 1 dM dV dN gp, .row 3 1 dO dW dP gq, .row 26 1 dQ dX dR gr, .row 39 2 dS dY dT gs, .row 9 1 d8 d7 d9 gt, .row 3 1 eh eg en gu, .row 3 1 er eo et gv, .any (mapE (fun a : List UInt8 => Value.string (gstr a)) (fun a : Int => Value.int .i64 a) a7 m4_260), .blk B2 (.cells #[.int .i64 e.Points, .bool e.Monoid, .slice a5 e.Gens.length a6, .slice aA e.Elems.length aB, .slice ao e.Prefix.length ap, .slice aX e.Last.length aY, .slice aC e.Right.length aD, .slice aE e.Rules.length aF, .int .i64 e.Done] 29 (0, 0))] ++ A) w gu d_248 ∧ Els (Rp.int .i64) (bl [.blk dE (.cells #[.int .i64 k4_203, .bool b4_204, .slice d5 d4 d6, .slice dJ dU dK, .slice dM dV dN, .slice dO dW dP, .slice dQ dX dR, .slice dS dY dT, .int .i64 k4_205, .map (some a7), .slice d8 d7 d9, .slice eh eg en, .slice er eo et] 72 (0, 0)), .row 26 1 d5 d4 d6 fv, .row 26 1 dJ dU dK gn, .row 3 1 dM dV dN gp, .row 3 1 dO dW dP gq, .row 26 1 dQ dX dR gr, .row 39 2 dS dY dT gs, .row 9 1 d8 d7 d9 gt, .row 3 1 eh eg en gu, .row 3 1 er eo et gv, .any (mapE (fun a : List UInt8 => Value.string (gstr a)) (fun a : Int => Value.int .i64 a) a7 m4_260), .blk B2 (.cells #[.int .i64 e.Points, .bool e.Monoid, .slice a5 e.Gens.length a6, .slice aA e.Elems.length aB, .slice ao e.Prefix.length ap, .slice aX e.Last.length aY, .slice aC e.Right.length aD, .slice aE e.Rules.length aF, .int .i64 e.Done] 29 (0, 0))] ++ A) w gv d_254 ∧ ISl (Rp.sl (Rp.int .i64)) (bl [.blk dE (.cells #[.int .i64 k4_203, .bool b4_204, .slice d5 d4 d6, .slice dJ dU dK, .slice dM dV dN, .slice dO dW dP, .slice dQ dX dR, .slice dS dY dT, .int .i64 k4_205, .map (some a7), .slice d8 d7 d9, .slice eh eg en, .slice er eo et] 72 (0, 0)), .row 26 1 d5 d4 d6 fv, .row 26 1 dJ dU dK gn, .row 3 1 dM dV dN gp, .row 3 1 dO dW dP gq, .row 26 1 dQ dX dR gr, .row 39 2 dS dY dT gs, .row 9 1 d8 d7 d9 gt, .row 3 1 eh eg en gu, .row 3 1 er eo et gv, .any (mapE (fun a : List UInt8 => Value.string (gstr a)) (fun a : Int => Value.int .i64 a) a7 m4_260), .blk B2 (.cells #[.int .i64 e.Points, .bool e.Monoid, .slice a5 e.Gens.length a6, .slice aA e.Elems.length aB, .slice ao e.Prefix.length ap, .slice aX e.Last.length aY, .slice aC e.Right.length aD, .slice aE e.Rules.length aF, .int .i64 e.Done] 29 (0, 0))] ++ A) w a5 a6 e.Gens ∧ ISl (Rp.sl (Rp.int .i64)) (bl [.blk dE (.cells #[.int .i64 k4_203, .bool b4_204, .slice d5 d4 d6, .slice dJ dU dK, .slice dM dV dN, .slice dO dW dP, .slice dQ dX dR, .slice dS dY dT, .int .i64 k4_205, .map (some a7), .slice d8 d7 d9, .slice eh eg en, .slice er eo et] 72 (0, 0)), .row 26 1 d5 d4 d6 fv, .row 26 1 dJ dU dK gn, .row 3 1 dM dV dN gp, .row 3 1 dO dW dP gq, .row 26 1 dQ dX dR gr, .row 39 2 dS dY dT gs, .row 9 1 d8 d7 d9 gt, .row 3 1 eh eg en gu, .row 3 1 er eo et gv, .any (mapE (fun a : List UInt8 => Value.string (gstr a)) (fun a : Int => Value.int .i64 a) a7 m4_260), .blk B2 (.cells #[.int .i64 e.Points, .bool e.Monoid, .slice a5 e.Gens.length a6, .slice aA e.Elems.length aB, .slice ao e.Prefix.length ap, .slice aX e.Last.length aY, .slice aC e.Right.length aD, .slice aE e.Rules.length aF, .int .i64 e.Done] 29 (0, 0))] ++ A) w aA aB e.Elems ∧ ISl (Rp.int .i64) (bl [.blk dE (.cells #[.int .i64 k4_203, .bool b4_204, .slice d5 d4 d6, .slice dJ dU dK, .slice dM dV dN, .slice dO dW dP, .slice dQ dX dR, .slice dS dY dT, .int .i64 k4_205, .map (some a7), .slice d8 d7 d9, .slice eh eg en, .slice er eo et] 72 (0, 0)), .row 26 1 d5 d4 d6 fv, .row 26 1 dJ dU dK gn, .row 3 1 dM dV dN gp, .row 3 1 dO dW dP gq, .row 26 1 dQ dX dR gr, .row 39 2 dS dY dT gs, .row 9 1 d8 d7 d9 gt, .row 3 1 eh eg en gu, .row 3 1 er eo et gv, .any (mapE (fun a : List UInt8 => Value.string (gstr a)) (fun a : Int => Value.int .i64 a) a7 m4_260), .blk B2 (.cells #[.int .i64 e.Points, .bool e.Monoid, .slice a5 e.Gens.length a6, .slice aA e.Elems.length aB, .slice ao e.Prefix.length ap, .slice aX e.Last.length aY, .slice aC e.Right.length aD, .slice aE e.Rules.length aF, .int .i64 e.Done] 29 (0, 0))] ++ A) w ao ap e.Prefix ∧ ISl (Rp.int .i64) (bl [.blk dE (.cells #[.int .i64 k4_203, .bool b4_204, .slice d5 d4 d6, .slice dJ dU dK, .slice dM dV dN, .slice dO dW dP, .slice dQ dX dR, .slice dS dY dT, .int .i64 k4_205, .map (some a7), .slice d8 d7 d9, .slice eh eg en, .slice er eo et] 72 (0, 0)), .row 26 1 d5 d4 d6 fv, .row 26 1 dJ dU dK gn, .row 3 1 dM dV dN gp, .row 3 1 dO dW dP gq, .row 26 1 dQ dX dR gr, .row 39 2 dS dY dT gs, .row 9 1 d8 d7 d9 gt, .row 3 1 eh eg en gu, .row 3 1 er eo et gv, .any (mapE (fun a : List UInt8 => Value.string (gstr a)) (fun a : Int => Value.int .i64 a) a7 m4_260), .blk B2 (.cells #[.int .i64 e.Points, .bool e.Monoid, .slice a5 e.Gens.length a6, .slice aA e.Elems.length aB, .slice ao e.Prefix.length ap, .slice aX e.Last.length aY, .slice aC e.Right.length aD, .slice aE e.Rules.length aF, .int .i64 e.Done] 29 (0, 0))] ++ A) w aX aY e.Last ∧ ISl (Rp.sl (Rp.int .i64)) (bl [.blk dE (.cells #[.int .i64 k4_203, .bool b4_204, .slice d5 d4 d6, .slice dJ dU dK, .slice dM dV dN, .slice dO dW dP, .slice dQ dX dR, .slice dS dY dT, .int .i64 k4_205, .map (some a7), .slice d8 d7 d9, .slice eh eg en, .slice er eo et] 72 (0, 0)), .row 26 1 d5 d4 d6 fv, .row 26 1 dJ dU dK gn, .row 3 1 dM dV dN gp, .row 3 1 dO dW dP gq, .row 26 1 dQ dX dR gr, .row 39 2 dS dY dT gs, .row 9 1 d8 d7 d9 gt, .row 3 1 eh eg en gu, .row 3 1 er eo et gv, .any (mapE (fun a : List UInt8 => Value.string (gstr a)) (fun a : Int => Value.int .i64 a) a7 m4_260), .blk B2 (.cells #[.int .i64 e.Points, .bool e.Monoid, .slice a5 e.Gens.length a6, .slice aA e.Elems.length aB, .slice ao e.Prefix.length ap, .slice aX e.Last.length aY, .slice aC e.Right.length aD, .slice aE e.Rules.length aF, .int .i64 e.Done] 29 (0, 0))] ++ A) w aC aD e.Right ∧ ISl (rpRule) (bl [.blk dE (.cells #[.int .i64 k4_203, .bool b4_204, .slice d5 d4 d6, .slice dJ dU dK, .slice dM dV dN, .slice dO dW dP, .slice dQ dX dR, .slice dS dY dT, .int .i64 k4_205, .map (some a7), .slice d8 d7 d9, .slice eh eg en, .slice er eo et] 72 (0, 0)), .row 26 1 d5 d4 d6 fv, .row 26 1 dJ dU dK gn, .row 3 1 dM dV dN gp, .row 3 1 dO dW dP gq, .row 26 1 dQ dX dR gr, .row 39 2 dS dY dT gs, .row 9 1 d8 d7 d9 gt, .row 3 1 eh eg en gu, .row 3 1 er eo et gv, .any (mapE (fun a : List UInt8 => Value.string (gstr a)) (fun a : Int => Value.int .i64 a) a7 m4_260), .blk B2 (.cells #[.int .i64 e.Points, .bool e.Monoid, .slice a5 e.Gens.length a6, .slice aA e.Elems.length aB, .slice ao e.Prefix.length ap, .slice aX e.Last.length aY, .slice aC e.Right.length aD, .slice aE e.Rules.length aF, .int .i64 e.Done] 29 (0, 0))] ++ A) w aE aF e.Rules ∧ Fr (bl []) w0 (bl [.blk dE (.cells #[.int .i64 k4_203, .bool b4_204, .slice d5 d4 d6, .slice dJ dU dK, .slice dM dV dN, .slice dO dW dP, .slice dQ dX dR, .slice dS dY dT, .int .i64 k4_205, .map (some a7), .slice d8 d7 d9, .slice eh eg en, .slice er eo et] 72 (0, 0)), .row 26 1 d5 d4 d6 fv, .row 26 1 dJ dU dK gn, .row 3 1 dM dV dN gp, .row 3 1 dO dW dP gq, .row 26 1 dQ dX dR gr, .row 39 2 dS dY dT gs, .row 9 1 d8 d7 d9 gt, .row 3 1 eh eg en gu, .row 3 1 er eo et gv, .any (mapE (fun a : List UInt8 => Value.string (gstr a)) (fun a : Int => Value.int .i64 a) a7 m4_260), .blk B2 (.cells #[.int .i64 e.Points, .bool e.Monoid, .slice a5 e.Gens.length a6, .slice aA e.Elems.length aB, .slice ao e.Prefix.length ap, .slice aX e.Last.length aY, .slice aC e.Right.length aD, .slice aE e.Rules.length aF, .int .i64 e.Done] 29 (0, 0))]) w) H ⟨u3, u4, u5, uq, ur, ut, uu, t3, t4, t5, t6, tM, u6, u7, u9, uv, uw, ux, uy, t7, uz, uA, uB, t8, wV, wW, wX, wc, we, wg, wh, vY, wi, wj, wk, vZ, ⟨rfl, rfl, trivial⟩, hO, m0, mG, mp, m3, mH, mI, qw, pX, pY, ah, ae, ad, ai, af, ag, hB⟩ ?_
   intro X4
   refine prE fun k4_203 => prE fun b4_204 => prE fun k4_205 => prE fun d_206 => prE fun d_212 => prE fun d_218 => prE fun d_224 => prE fun d_230 => prE fun d_236 => prE fun d_242 => prE fun d_248 => prE fun d_254 => fun m4_260 => ?_
   intro H hX4 σ Ge
   refine exE fun d4 => exE fun d5 => exE fun d6 => exE fun fv => exE fun dU => exE fun dJ => exE fun dK => exE fun gn => exE fun dV => exE fun dM => exE fun dN => exE fun gp => exE fun dW => exE fun dO => exE fun dP => exE fun gq => exE fun dX => exE fun dQ => exE fun dR => exE fun gr => exE fun dY => exE fun dS => exE fun dT => exE fun gs => exE fun d7 => exE fun d8 => exE fun d9 => exE fun gt => exE fun eg => exE fun eh => exE fun en => exE fun gu => exE fun eo => exE fun er => exE fun et => exE fun gv => andE fun hag => andE fun hO => andE fun cQ => andE fun cG => andE fun cI => andE fun cJ => andE fun cK => andE fun cL => andE fun cR => andE fun cS => andE fun cT => andE fun ah => andE fun ae => andE fun ad => andE fun ai => andE fun af => andE fun ag => fun hB => ?_
   dsimp only at H
   refine Go1.keep [(1, .pointer (some ⟨B2, 0, none⟩)), (4, .pointer (some ⟨dE, 0, none⟩))] hag ?_
   refine Go1.seq ?_
   refine Go1.seq ?_
   refine Go1.drawS 0 [(0, .pure), (1, .pure), (2, .pure), (3, .pure), (4, .stable), (5, .pure), (6, .stable), (7, .pure)] mixed (by kernel_rfl) ?_
   intro LU Fm
   have kV := Stp.same hO Fm
   replace cQ := cQ.ch kV.ch
   replace cG := cG.ch kV.ch
   replace cI := cI.ch kV.ch
   replace cJ := cJ.ch kV.ch
   replace cK := cK.ch kV.ch
   replace cL := cL.ch kV.ch
   replace cR := cR.ch kV.ch
   replace cS := cS.ch kV.ch
   replace cT := cT.ch kV.ch
   replace hO := kV.own
   replace ah := ah.ch kV.ch
   replace ae := ae.ch kV.ch
   replace ad := ad.ch kV.ch
   replace ai := ai.ch kV.ch
   replace af := af.ch kV.ch
   replace ag := ag.ch kV.ch
   replace hB := hB.trans kV.fr
   refine GoQ.pure rfl (op_move rfl) rfl rfl ?_
   refine GoQ.pure rfl (op_nilCheck rfl) rfl rfl ?_
   refine GoQ.pure rfl (op_fieldAddr Try.underlying72 rfl ti29 rfl (by decide)) rfl rfl ?_
   refine GoQ.pure rfl (op_fieldAddr Try.underlying29 rfl ti3 rfl (by decide)) rfl rfl ?_
   refine GoQ.stable rfl (oblk (i := 8) 0 hO rfl rfl Try.underlying3 rfl rfl) rfl rfl ?_
   refine GoQ.pure rfl (op_fieldAddr Try.underlying29 rfl ti3 rfl (by decide)) rfl rfl ?_
   refine GoQ.stable rfl (oblk (i := 8) 11 hO rfl rfl Try.underlying3 rfl rfl) rfl rfl ?_
   by_cases yk : k4_205 < e.Done
   ·replace H := ifp yk H
    refine GoQ.pure rfl (fun w => opB (op_lss rfl rfl w) (decide_eq_true yk)) rfl rfl ?_
    refine GoQ.nil ?_
    refine Go1.condT rfl rfl ?_
    refine Go1.skip ?_
    refine Go1.block ?_
    refine Go1.seq ?_
    refine Go1.region ?_
    refine GoR.op ((op_move rfl) _) rfl rfl ?_
    refine GoR.inl (vs := [.pointer (some ⟨dE, 0, none⟩)]) (caps := []) rfl rfl body50 Try.func50 rfl Try.ntmps50 rfl rfl rfl ?_
    intro RhR265 hR265
    refine Go1.seq ?_
    refine Go1.region ?_
    refine GoR.op ((op_assign rfl) _) rfl rfl ?_
    refine GoR.nil ?_
    refine Go1.seq ?_
    refine Go1.drawS 0 [(0, .pure), (1, .pure), (2, .pure), (3, .pure), (4, .stable), (5, .pure), (6, .pure), (7, .pure), (8, .pure), (9, .stable), (10, .pure), (11, .pure), (12, .pure)] mixed (by kernel_rfl) ?_
    intro wY Fn
    have kW := Stp.same hO Fn
    replace cQ := cQ.ch kW.ch
    replace cG := cG.ch kW.ch
    replace cI := cI.ch kW.ch
    replace cJ := cJ.ch kW.ch
    replace cK := cK.ch kW.ch
    replace cL := cL.ch kW.ch
    replace cR := cR.ch kW.ch
    replace cS := cS.ch kW.ch
    replace cT := cT.ch kW.ch
    replace hO := kW.own
    replace ah := ah.ch kW.ch
    replace ae := ae.ch kW.ch
    replace ad := ad.ch kW.ch
    replace ai := ai.ch kW.ch
    replace af := af.ch kW.ch
    replace ag := ag.ch kW.ch
    replace hB := hB.trans kW.fr
    refine GoQ.pure rfl (op_move rfl) rfl rfl ?_
    refine GoQ.pure rfl (op_nilCheck rfl) rfl rfl ?_
    refine GoQ.pure rfl (op_fieldAddr Try.underlying72 rfl ti29 rfl (by decide)) rfl rfl ?_
    refine GoQ.pure rfl (op_fieldAddr Try.underlying29 rfl ti3 rfl (by decide)) rfl rfl ?_
    refine GoQ.stable rfl (oblk (i := 8) 0 hO rfl rfl Try.underlying3 rfl rfl) rfl rfl ?_
    refine GoQ.pure rfl (op_move rfl) rfl rfl ?_
    refine GoQ.pure rfl (op_nilCheck rfl) rfl rfl ?_
    refine GoQ.pure rfl (op_fieldAddr Try.underlying72 rfl ti29 rfl (by decide)) rfl rfl ?_
    refine GoQ.pure rfl (op_fieldAddr Try.underlying29 rfl ti22 rfl (by decide)) rfl rfl ?_
    refine GoQ.stable rfl (oblk (i := 3) 0 hO rfl rfl Try.underlying22 rfl rfl) rfl rfl ?_
    refine GoQ.pure rfl (op_lenN Try.underlying22 rfl (cG.neq hO 2 rfl)) rfl rfl ?_
    by_cases yl : k4_205 = (d_212.length : Int)
    ·replace H := ifp yl H
     refine GoQ.pure rfl (fun w => opB (op_eql rfl rfl w) (decide_eq_true yl)) rfl rfl ?_
     refine GoQ.pure rfl (op_assign rfl) rfl rfl ?_
     refine GoQ.nil ?_
     refine Go1.ret1V Try.func50 rfl (show _ = .bool true from rfl) ?_
     refine hR265 _ _ ?_
     refine GoR.op ((op_move rfl) _) rfl rfl ?_
     refine GoR.pass rfl rfl ?_
     refine GoR.pass rfl rfl ?_
     refine GoR.pass rfl rfl ?_
     refine GoR.op ((op_pickT rfl rfl rfl) _) rfl rfl ?_
     refine GoR.nil ?_
     refine Go1.condT rfl rfl ?_
     refine Go1.seq ?_
     refine Go1.cut [] trivial ?_
     intro σ _
     refine Go1.region ?_
     refine GoR.op ((op_assign rfl) _) rfl rfl ?_
     refine GoR.op ((op_assign rfl) _) rfl rfl ?_
     refine GoR.nil ?_
     refine Go1.ret2 Try.func53 rfl ?_
     exact Or.inl ⟨false, rfl, hB.same, H⟩
    replace H := ifn yl H
    refine GoQ.pure rfl (fun w => opB (op_eql rfl rfl w) (decide_eq_false yl)) rfl rfl ?_
    refine GoQ.pure rfl (op_assign rfl) rfl rfl ?_
    refine GoQ.nil ?_
    refine Go1.ret1V Try.func50 rfl (show _ = .bool false from rfl) ?_
    refine hR265 _ _ ?_
    refine GoR.op ((op_move rfl) _) rfl rfl ?_
    refine GoR.op ((op_move rfl) _) rfl rfl ?_
    have zX : Owns w0.heap.size wY ([.blk dE (.cells #[.int .i64 k4_203, .bool b4_204, .slice d5 d4 d6, .slice dJ dU dK, .slice dM dV dN, .slice dO dW dP, .slice dQ dX dR, .slice dS dY dT, .int .i64 k4_205, .map (some a7), .slice d8 d7 d9, .slice eh eg en, .slice er eo et] 72 (0, 0)), .row 26 1 d5 d4 d6 fv, .row 26 1 dJ dU dK gn, .row 3 1 dM dV dN gp, .row 3 1 dO dW dP gq, .row 26 1 dQ dX dR gr, .row 39 2 dS dY dT gs, .row 9 1 d8 d7 d9 gt, .row 3 1 eh eg en gu, .row 3 1 er eo et gv, .any (mapE (fun a : List UInt8 => Value.string (gstr a)) (fun a : Int => Value.int .i64 a) a7 m4_260)] ++ [.blk B2 (.cells #[.int .i64 e.Points, .bool e.Monoid, .slice a5 e.Gens.length a6, .slice aA e.Elems.length aB, .slice ao e.Prefix.length ap, .slice aX e.Last.length aY, .slice aC e.Right.length aD, .slice aE e.Rules.length aF, .int .i64 e.Done] 29 (0, 0))]) A := hO
    have Fo := Owns.split zX
    have hca272 : Ch (bl [.blk dE (.cells #[.int .i64 k4_203, .bool b4_204, .slice d5 d4 d6, .slice dJ dU dK, .slice dM dV dN, .slice dO dW dP, .slice dQ dX dR, .slice dS dY dT, .int .i64 k4_205, .map (some a7), .slice d8 d7 d9, .slice eh eg en, .slice er eo et] 72 (0, 0)), .row 26 1 d5 d4 d6 fv, .row 26 1 dJ dU dK gn, .row 3 1 dM dV dN gp, .row 3 1 dO dW dP gq, .row 26 1 dQ dX dR gr, .row 39 2 dS dY dT gs, .row 9 1 d8 d7 d9 gt, .row 3 1 eh eg en gu, .row 3 1 er eo et gv, .any (mapE (fun a : List UInt8 => Value.string (gstr a)) (fun a : Int => Value.int .i64 a) a7 m4_260), .blk B2 (.cells #[.int .i64 e.Points, .bool e.Monoid, .slice a5 e.Gens.length a6, .slice aA e.Elems.length aB, .slice ao e.Prefix.length ap, .slice aX e.Last.length aY, .slice aC e.Right.length aD, .slice aE e.Rules.length aF, .int .i64 e.Done] 29 (0, 0))] ++ A) wY (bl [.blk dE (.cells #[.int .i64 k4_203, .bool b4_204, .slice d5 d4 d6, .slice dJ dU dK, .slice dM dV dN, .slice dO dW dP, .slice dQ dX dR, .slice dS dY dT, .int .i64 k4_205, .map (some a7), .slice d8 d7 d9, .slice eh eg en, .slice er eo et] 72 (0, 0)), .row 26 1 d5 d4 d6 fv, .row 26 1 dJ dU dK gn, .row 3 1 dM dV dN gp, .row 3 1 dO dW dP gq, .row 26 1 dQ dX dR gr, .row 39 2 dS dY dT gs, .row 9 1 d8 d7 d9 gt, .row 3 1 eh eg en gu, .row 3 1 er eo et gv, .any (mapE (fun a : List UInt8 => Value.string (gstr a)) (fun a : Int => Value.int .i64 a) a7 m4_260)] ++ (bl [.blk B2 (.cells #[.int .i64 e.Points, .bool e.Monoid, .slice a5 e.Gens.length a6, .slice aA e.Elems.length aB, .slice ao e.Prefix.length ap, .slice aX e.Last.length aY, .slice aC e.Right.length aD, .slice aE e.Rules.length aF, .int .i64 e.Done] 29 (0, 0))] ++ A)) wY := Ch.assoc' [.blk dE (.cells #[.int .i64 k4_203, .bool b4_204, .slice d5 d4 d6, .slice dJ dU dK, .slice dM dV dN, .slice dO dW dP, .slice dQ dX dR, .slice dS dY dT, .int .i64 k4_205, .map (some a7), .slice d8 d7 d9, .slice eh eg en, .slice er eo et] 72 (0, 0)), .row 26 1 d5 d4 d6 fv, .row 26 1 dJ dU dK gn, .row 3 1 dM dV dN gp, .row 3 1 dO dW dP gq, .row 26 1 dQ dX dR gr, .row 39 2 dS dY dT gs, .row 9 1 d8 d7 d9 gt, .row 3 1 eh eg en gu, .row 3 1 er eo et gv, .any (mapE (fun a : List UInt8 => Value.string (gstr a)) (fun a : Int => Value.int .i64 a) a7 m4_260)] [.blk B2 (.cells #[.int .i64 e.Points, .bool e.Monoid, .slice a5 e.Gens.length a6, .slice aA e.Elems.length aB, .slice ao e.Prefix.length ap, .slice aX e.Last.length aY, .slice aC e.Right.length aD, .slice aE e.Rules.length aF, .int .i64 e.Done] 29 (0, 0))] A wY
    refine GoR.call (op_call body51 rfl (walk_enumerate_run_process (a0 := (⟨(⟨k4_203, b4_204, d_206, d_212, d_218, d_224, d_230, d_236, k4_205⟩ : Enum), m4_260, d_242, d_248, d_254⟩ : run)) Fo (cQ.ch hca272) (cG.ch hca272) (cI.ch hca272) (cJ.ch hca272) (cK.ch hca272) (cL.ch hca272) (cR.ch hca272) (cS.ch hca272) (cT.ch hca272) H)) rfl rfl ?_
    intro LV ym
    refine exE fun r273 => exE fun q274 => exE fun gw => exE fun gx => exE fun gy => exE fun lN => exE fun fP => exE fun fQ => exE fun fR => exE fun kX => exE fun fm => exE fun fo => exE fun fq => exE fun j7 => exE fun gz => exE fun gA => exE fun gB => exE fun lO => exE fun fS => exE fun fT => exE fun fU => exE fun kY => exE fun fV => exE fun fW => exE fun fX => exE fun kZ => exE fun jE => exE fun jF => exE fun jG => exE fun oR => exE fun iB => exE fun iC => exE fun iD => exE fun nt => exE fun iE => exE fun iF => exE fun iG => exE fun nu => andE fun hv280 => andE fun hN277 => andE fun qf => andE fun pO => andE fun o4 => andE fun qg => andE fun pP => andE fun pQ => andE fun si => andE fun rE => andE fun rF => andE fun hF278 => fun H => ?_
    subst hv280
    have sc : Stp w0.heap.size A wY [.blk dE (.cells #[.int .i64 k4_203, .bool b4_204, .slice d5 d4 d6, .slice dJ dU dK, .slice dM dV dN, .slice dO dW dP, .slice dQ dX dR, .slice dS dY dT, .int .i64 k4_205, .map (some a7), .slice d8 d7 d9, .slice eh eg en, .slice er eo et] 72 (0, 0)), .row 26 1 d5 d4 d6 fv, .row 26 1 dJ dU dK gn, .row 3 1 dM dV dN gp, .row 3 1 dO dW dP gq, .row 26 1 dQ dX dR gr, .row 39 2 dS dY dT gs, .row 9 1 d8 d7 d9 gt, .row 3 1 eh eg en gu, .row 3 1 er eo et gv, .any (mapE (fun a : List UInt8 => Value.string (gstr a)) (fun a : Int => Value.int .i64 a) a7 m4_260), .blk B2 (.cells #[.int .i64 e.Points, .bool e.Monoid, .slice a5 e.Gens.length a6, .slice aA e.Elems.length aB, .slice ao e.Prefix.length ap, .slice aX e.Last.length aY, .slice aC e.Right.length aD, .slice aE e.Rules.length aF, .int .i64 e.Done] 29 (0, 0))] ym [.blk dE (.cells #[.int .i64 q274.Enum.Points, .bool q274.Enum.Monoid, .slice gx gw gy, .slice fQ fP fR, .slice fo fm fq, .slice gA gz gB, .slice fT fS fU, .slice fW fV fX, .int .i64 q274.Enum.Done, .map (some a7), .slice jF jE jG, .slice iC iB iD, .slice iF iE iG] 72 (0, 0)), .row 26 1 gx gw gy lN, .row 26 1 fQ fP fR kX, .row 3 1 fo fm fq j7, .row 3 1 gA gz gB lO, .row 26 1 fT fS fU kY, .row 39 2 fW fV fX kZ, .row 9 1 jF jE jG oR, .row 3 1 iC iB iD nt, .row 3 1 iF iE iG nu, .any (mapE (fun a : List UInt8 => Value.string (gstr a)) (fun a : Int => Value.int .i64 a) a7 q274.number), .blk B2 (.cells #[.int .i64 e.Points, .bool e.Monoid, .slice a5 e.Gens.length a6, .slice aA e.Elems.length aB, .slice ao e.Prefix.length ap, .slice aX e.Last.length aY, .slice aC e.Right.length aD, .slice aE e.Rules.length aF, .int .i64 e.Done] 29 (0, 0))] := Stp.join zX hN277 hF278
    replace hO := sc.own
    replace ah := ah.ch sc.ch
    replace ae := ae.ch sc.ch
    replace ad := ad.ch sc.ch
    replace ai := ai.ch sc.ch
    replace af := af.ch sc.ch
    replace ag := ag.ch sc.ch
    replace hB := hB.trans sc.fr
    have hca281 : Ch (bl [.blk dE (.cells #[.int .i64 q274.Enum.Points, .bool q274.Enum.Monoid, .slice gx gw gy, .slice fQ fP fR, .slice fo fm fq, .slice gA gz gB, .slice fT fS fU, .slice fW fV fX, .int .i64 q274.Enum.Done, .map (some a7), .slice jF jE jG, .slice iC iB iD, .slice iF iE iG] 72 (0, 0)), .row 26 1 gx gw gy lN, .row 26 1 fQ fP fR kX, .row 3 1 fo fm fq j7, .row 3 1 gA gz gB lO, .row 26 1 fT fS fU kY, .row 39 2 fW fV fX kZ, .row 9 1 jF jE jG oR, .row 3 1 iC iB iD nt, .row 3 1 iF iE iG nu, .any (mapE (fun a : List UInt8 => Value.string (gstr a)) (fun a : Int => Value.int .i64 a) a7 q274.number)] ++ (bl [.blk B2 (.cells #[.int .i64 e.Points, .bool e.Monoid, .slice a5 e.Gens.length a6, .slice aA e.Elems.length aB, .slice ao e.Prefix.length ap, .slice aX e.Last.length aY, .slice aC e.Right.length aD, .slice aE e.Rules.length aF, .int .i64 e.Done] 29 (0, 0))] ++ A)) ym (bl [.blk dE (.cells #[.int .i64 q274.Enum.Points, .bool q274.Enum.Monoid, .slice gx gw gy, .slice fQ fP fR, .slice fo fm fq, .slice gA gz gB, .slice fT fS fU, .slice fW fV fX, .int .i64 q274.Enum.Done, .map (some a7), .slice jF jE jG, .slice iC iB iD, .slice iF iE iG] 72 (0, 0)), .row 26 1 gx gw gy lN, .row 26 1 fQ fP fR kX, .row 3 1 fo fm fq j7, .row 3 1 gA gz gB lO, .row 26 1 fT fS fU kY, .row 39 2 fW fV fX kZ, .row 9 1 jF jE jG oR, .row 3 1 iC iB iD nt, .row 3 1 iF iE iG nu, .any (mapE (fun a : List UInt8 => Value.string (gstr a)) (fun a : Int => Value.int .i64 a) a7 q274.number), .blk B2 (.cells #[.int .i64 e.Points, .bool e.Monoid, .slice a5 e.Gens.length a6, .slice aA e.Elems.length aB, .slice ao e.Prefix.length ap, .slice aX e.Last.length aY, .slice aC e.Right.length aD, .slice aE e.Rules.length aF, .int .i64 e.Done] 29 (0, 0))] ++ A) ym := Ch.assoc [.blk dE (.cells #[.int .i64 q274.Enum.Points, .bool q274.Enum.Monoid, .slice gx gw gy, .slice fQ fP fR, .slice fo fm fq, .slice gA gz gB, .slice fT fS fU, .slice fW fV fX, .int .i64 q274.Enum.Done, .map (some a7), .slice jF jE jG, .slice iC iB iD, .slice iF iE iG] 72 (0, 0)), .row 26 1 gx gw gy lN, .row 26 1 fQ fP fR kX, .row 3 1 fo fm fq j7, .row 3 1 gA gz gB lO, .row 26 1 fT fS fU kY, .row 39 2 fW fV fX kZ, .row 9 1 jF jE jG oR, .row 3 1 iC iB iD nt, .row 3 1 iF iE iG nu, .any (mapE (fun a : List UInt8 => Value.string (gstr a)) (fun a : Int => Value.int .i64 a) a7 q274.number)] [.blk B2 (.cells #[.int .i64 e.Points, .bool e.Monoid, .slice a5 e.Gens.length a6, .slice aA e.Elems.length aB, .slice ao e.Prefix.length ap, .slice aX e.Last.length aY, .slice aC e.Right.length aD, .slice aE e.Rules.length aF, .int .i64 e.Done] 29 (0, 0))] A ym
    replace qf := qf.ch hca281
    replace pO := pO.ch hca281
    replace o4 := o4.ch hca281
    replace qg := qg.ch hca281
    replace pP := pP.ch hca281
    replace pQ := pQ.ch hca281
    replace si := si.ch hca281
    replace rE := rE.ch hca281
    replace rF := rF.ch hca281
    by_cases yn : r273 = (0 : Int)
    ·replace H := ifp yn H
     refine GoR.op ((fun w => opB (op_neq rfl rfl w) (ndT yn)) _) rfl rfl ?_
     refine GoR.op ((op_pickF rfl rfl rfl) _) rfl rfl ?_
     refine GoR.nil ?_
     refine Go1.condF rfl rfl ?_
     refine Go1.skip ?_
     refine Go1.inBlock ?_
     exact hX4 _ H _ _ ⟨gw, gx, gy, lN, fP, fQ, fR, kX, fm, fo, fq, j7, gz, gA, gB, lO, fS, fT, fU, kY, fV, fW, fX, kZ, jE, jF, jG, oR, iB, iC, iD, nt, iE, iF, iG, nu, ⟨rfl, rfl, trivial⟩, hO, qf, pO, o4, qg, pP, pQ, si, rE, rF, ah, ae, ad, ai, af, ag, hB⟩
    replace H := ifn yn H
    refine GoR.op ((fun w => opB (op_neq rfl rfl w) (ndF yn)) _) rfl rfl ?_
    refine GoR.op ((op_pickF rfl rfl rfl) _) rfl rfl ?_
    refine GoR.nil ?_
    refine Go1.condT rfl rfl ?_
    refine Go1.seq ?_
    refine Go1.region ?_
    refine GoR.op ((op_assign rfl) _) rfl rfl ?_
    refine GoR.op ((op_assign rfl) _) rfl rfl ?_
    refine GoR.nil ?_
    refine Go1.ret2 Try.func53 rfl ?_
    exact Or.inl ⟨false, rfl, hB.same, H⟩
   replace H := ifn yk H
   refine GoQ.pure rfl (fun w => opB (op_lss rfl rfl w) (decide_eq_false yk)) rfl rfl ?_
   refine GoQ.nil ?_
   refine Go1.condF rfl rfl ?_
   refine Go1.exit rfl ?_
   refine Go1.seq ?_
   refine Go1.region ?_
   refine GoR.op ((op_move rfl) _) rfl rfl ?_
   refine GoR.op ((op_move rfl) _) rfl rfl ?_
   refine GoR.op ((oblkAgg (vs := [.int .i64 e.Points, .bool e.Monoid, .slice a5 e.Gens.length a6, .slice aA e.Elems.length aB, .slice ao e.Prefix.length ap, .slice aX e.Last.length aY, .slice aC e.Right.length aD, .slice aE e.Rules.length aF, .int .i64 e.Done]) (i := 0) 11 hO rfl rfl Try.underlying29 rfl ti29 rfl) _ (Same.refl _)) rfl rfl ?_
   refine GoR.inl (vs := [.pointer (some ⟨dE, 0, none⟩), .agg #[.int .i64 e.Points, .bool e.Monoid, .slice a5 e.Gens.length a6, .slice aA e.Elems.length aB, .slice ao e.Prefix.length ap, .slice aX e.Last.length aY, .slice aC e.Right.length aD, .slice aE e.Rules.length aF, .int .i64 e.Done]]) (caps := []) rfl rfl body68 Try.func68 rfl Try.ntmps68 rfl rfl rfl ?_
   intro RhR283 hR283
   refine Go1.seq ?_
   refine Go1.region ?_
   have hobt := obox (t := 29) (v := .agg #[.int .i64 e.Points, .bool e.Monoid, .slice a5 e.Gens.length a6, .slice aA e.Elems.length aB, .slice ao e.Prefix.length ap, .slice aX e.Last.length aY, .slice aC e.Right.length aD, .slice aE e.Rules.length aF, .int .i64 e.Done]) (cs := #[.int .i64 e.Points, .bool e.Monoid, .slice a5 e.Gens.length a6, .slice aA e.Elems.length aB, .slice ao e.Prefix.length ap, .slice aX e.Last.length aY, .slice aC e.Right.length aD, .slice aE e.Rules.length aF, .int .i64 e.Done]) hO rfl
   obtain ⟨Gj, B285, k8, Ix, Cc⟩ := hobt
   refine GoR.op (Cc rfl) rfl rfl ?_
   replace cQ := cQ.ch k8.ch
   replace cG := cG.ch k8.ch
   replace cI := cI.ch k8.ch
   replace cJ := cJ.ch k8.ch
   replace cK := cK.ch k8.ch
   replace cL := cL.ch k8.ch
   replace cR := cR.ch k8.ch
   replace cS := cS.ch k8.ch
   replace cT := cT.ch k8.ch
   replace hO := k8.own
   replace ah := ah.ch k8.ch
   replace ae := ae.ch k8.ch
   replace ad := ad.ch k8.ch
   replace ai := ai.ch k8.ch
   replace af := af.ch k8.ch
   replace ag := ag.ch k8.ch
   replace hB := hB.trans k8.fr
   refine GoR.op ((op_assign rfl) _) rfl rfl ?_
   refine GoR.nil ?_
   refine Go1.seq ?_
   refine Go1.drawS 0 [(0, .pure), (1, .pure), (2, .pure), (3, .pure), (4, .stable), (5, .pure), (6, .stable), (7, .pure), (8, .pure), (9, .pure), (10, .pure), (11, .pure), (12, .pure), (13, .stable), (14, .pure), (15, .stable), (16, .pure), (17, .pure), (18, .pure), (19, .pure), (20, .pure), (21, .pure), (22, .pure), (23, .stable), (24, .pure), (25, .stable), (26, .loud), (27, .pure), (28, .pure), (29, .pure), (30, .pure), (31, .pure), (32, .pure), (33, .stable), (34, .pure), (35, .stable), (36, .loud), (37, .pure), (38, .pure), (39, .pure), (40, .pure), (41, .pure), (42, .pure), (43, .stable), (44, .pure), (45, .stable), (46, .loud), (47, .pure), (48, .pure), (49, .pure), (50, .pure), (51, .pure), (52, .pure), (53, .stable), (54, .pure), (55, .stable), (56, .loud), (57, .pure), (58, .pure), (59, .pure), (60, .pure), (61, .pure), (62, .pure), (63, .stable), (64, .pure), (65, .stable), (66, .loud), (67, .pure), (68, .pure)] mixed (by kernel_rfl) ?_
   intro LW Fp
   have k9 := Stp.same hO Fp
   replace cQ := cQ.ch k9.ch
   replace cG := cG.ch k9.ch
   replace cI := cI.ch k9.ch
   replace cJ := cJ.ch k9.ch
   replace cK := cK.ch k9.ch
   replace cL := cL.ch k9.ch
   replace cR := cR.ch k9.ch
   replace cS := cS.ch k9.ch
   replace cT := cT.ch k9.ch
   replace hO := k9.own
   replace ah := ah.ch k9.ch
   replace ae := ae.ch k9.ch
   replace ad := ad.ch k9.ch
   replace ai := ai.ch k9.ch
   replace af := af.ch k9.ch
   replace ag := ag.ch k9.ch
   replace hB := hB.trans k9.fr
   refine GoQ.pure rfl (op_move rfl) rfl rfl ?_
   refine GoQ.pure rfl (op_nilCheck rfl) rfl rfl ?_
   refine GoQ.pure rfl (op_fieldAddr Try.underlying72 rfl ti29 rfl (by decide)) rfl rfl ?_
   refine GoQ.pure rfl (op_fieldAddr Try.underlying29 rfl ti3 rfl (by decide)) rfl rfl ?_
   refine GoQ.stable rfl (oblk (i := 0) 1 hO rfl rfl Try.underlying3 rfl rfl) rfl rfl ?_
   refine GoQ.pure rfl (op_fieldAddr Try.underlying29 rfl ti3 rfl (by decide)) rfl rfl ?_
   refine GoQ.stable rfl (oblk (i := 0) 0 hO rfl rfl Try.underlying3 rfl rfl) rfl rfl ?_
   by_cases yo : k4_203 = e.Points
   ·replace H := ifp yo H
    refine GoQ.pure rfl (fun w => opB (op_eql rfl rfl w) (decide_eq_true yo)) rfl rfl ?_
    refine GoQ.pure rfl (op_move rfl) rfl rfl ?_
    refine GoQ.pure rfl (op_move rfl) rfl rfl ?_
    refine GoQ.pure rfl (op_nilCheck rfl) rfl rfl ?_
    refine GoQ.pure rfl (op_fieldAddr Try.underlying72 rfl ti29 rfl (by decide)) rfl rfl ?_
    refine GoQ.pure rfl (op_fieldAddr Try.underlying29 rfl ti3 rfl (by decide)) rfl rfl ?_
    refine GoQ.stable rfl (oblk (i := 8) 1 hO rfl rfl Try.underlying3 rfl rfl) rfl rfl ?_
    refine GoQ.pure rfl (op_fieldAddr Try.underlying29 rfl ti3 rfl (by decide)) rfl rfl ?_
    refine GoQ.stable rfl (oblk (i := 8) 0 hO rfl rfl Try.underlying3 rfl rfl) rfl rfl ?_
    by_cases yp : k4_205 = e.Done
    ·replace H := ifp yp H
     refine GoQ.pure rfl (fun w => opB (op_eql rfl rfl w) (decide_eq_true yp)) rfl rfl ?_
     refine GoQ.pure rfl (op_pickT rfl rfl rfl) rfl rfl ?_
     refine GoQ.pure rfl (op_move rfl) rfl rfl ?_
     refine GoQ.pure rfl (op_move rfl) rfl rfl ?_
     refine GoQ.pure rfl (op_nilCheck rfl) rfl rfl ?_
     refine GoQ.pure rfl (op_fieldAddr Try.underlying72 rfl ti29 rfl (by decide)) rfl rfl ?_
     refine GoQ.pure rfl (op_fieldAddr Try.underlying29 rfl ti22 rfl (by decide)) rfl rfl ?_
     refine GoQ.stable rfl (oblk (i := 3) 1 hO rfl rfl Try.underlying22 rfl rfl) rfl rfl ?_
     refine GoQ.pure rfl (op_fieldAddr Try.underlying29 rfl ti22 rfl (by decide)) rfl rfl ?_
     refine GoQ.stable rfl (oblk (i := 3) 0 hO rfl rfl Try.underlying22 rfl rfl) rfl rfl ?_
     have hobt := rowlend 3 hO rfl cG
     obtain ⟨Fq, Fs⟩ := hobt
     have hOc297 := hO.drop 3
     refine GoQ.call rfl (op_call body69 (show ([.slice dJ dU dK, .slice aA e.Elems.length aB, .func (.func 70) #[] #[]] : List Value) = [.slice dJ d_212.length dK, .slice aA e.Elems.length aB, .func (.func 70) #[] #[]] from by rw [← Fs]) (walk_slices_EqualFunc_int hOc297.lt Fq (ae.ch (Owns.dropCh _ _ 3)) H)) (fun v w hr => by obtain ⟨_, _, hs, _⟩ := hr; assumption) rfl rfl ?_
     rintro LX LY ⟨r298, rfl, zR, H⟩
     have la := Stp.same hO zR
     replace cQ := cQ.ch la.ch
     replace cG := cG.ch la.ch
     replace cI := cI.ch la.ch
     replace cJ := cJ.ch la.ch
     replace cK := cK.ch la.ch
     replace cL := cL.ch la.ch
     replace cR := cR.ch la.ch
     replace cS := cS.ch la.ch
     replace cT := cT.ch la.ch
     replace hO := la.own
     replace ah := ah.ch la.ch
     replace ae := ae.ch la.ch
     replace ad := ad.ch la.ch
     replace ai := ai.ch la.ch
     replace af := af.ch la.ch
     replace ag := ag.ch la.ch
     replace hB := hB.trans la.fr
     refine GoQ.pure rfl (op_pickT rfl rfl rfl) rfl rfl ?_
     refine GoQ.pure rfl (op_move rfl) rfl rfl ?_
     cases r298
     ·replace H := ifn Bool.false_ne_true H
      refine GoQ.pass rfl rfl rfl ?_
      refine GoQ.pass rfl rfl rfl ?_
      refine GoQ.pass rfl rfl rfl ?_
      refine GoQ.pass rfl rfl rfl ?_
      refine GoQ.pass rfl rfl rfl ?_
      refine GoQ.pass rfl rfl rfl ?_
      refine GoQ.pass rfl rfl rfl ?_
      refine GoQ.pass rfl rfl rfl ?_
      refine GoQ.pure rfl (op_pickF rfl rfl rfl) rfl rfl ?_
      refine GoQ.pure rfl (op_move rfl) rfl rfl ?_
      refine GoQ.pass rfl rfl rfl ?_
      refine GoQ.pass rfl rfl rfl ?_
      refine GoQ.pass rfl rfl rfl ?_
      refine GoQ.pass rfl rfl rfl ?_
      refine GoQ.pass rfl rfl rfl ?_
      refine GoQ.pass rfl rfl rfl ?_
      refine GoQ.pass rfl rfl rfl ?_
      refine GoQ.pass rfl rfl rfl ?_
      refine GoQ.pure rfl (op_pickF rfl rfl rfl) rfl rfl ?_
      refine GoQ.pure rfl (op_move rfl) rfl rfl ?_
      refine GoQ.pass rfl rfl rfl ?_
      refine GoQ.pass rfl rfl rfl ?_
      refine GoQ.pass rfl rfl rfl ?_
      refine GoQ.pass rfl rfl rfl ?_
      refine GoQ.pass rfl rfl rfl ?_
      refine GoQ.pass rfl rfl rfl ?_
      refine GoQ.pass rfl rfl rfl ?_
      refine GoQ.pass rfl rfl rfl ?_
      refine GoQ.pure rfl (op_pickF rfl rfl rfl) rfl rfl ?_
      refine GoQ.pure rfl (op_move rfl) rfl rfl ?_
      refine GoQ.pass rfl rfl rfl ?_
      refine GoQ.pass rfl rfl rfl ?_
      refine GoQ.pass rfl rfl rfl ?_
      refine GoQ.pass rfl rfl rfl ?_
      refine GoQ.pass rfl rfl rfl ?_
      refine GoQ.pass rfl rfl rfl ?_
      refine GoQ.pass rfl rfl rfl ?_
      refine GoQ.pass rfl rfl rfl ?_
      refine GoQ.pure rfl (op_pickF rfl rfl rfl) rfl rfl ?_
      refine GoQ.pure rfl (op_assign rfl) rfl rfl ?_
      refine GoQ.nil ?_
      refine Go1.ret1V Try.func68 rfl (show _ = .bool false from rfl) ?_
      refine hR283 _ _ ?_
      refine GoR.op ((op_assign rfl) _) rfl rfl ?_
      refine GoR.op ((op_assign rfl) _) rfl rfl ?_
      refine GoR.nil ?_
      replace ah := ah.ch (Owns.dropCh _ _ 0)
      replace ae := ae.ch (Owns.dropCh _ _ 0)
      replace ad := ad.ch (Owns.dropCh _ _ 0)
      replace ai := ai.ch (Owns.dropCh _ _ 0)
      replace af := af.ch (Owns.dropCh _ _ 0)
      replace ag := ag.ch (Owns.dropCh _ _ 0)
      replace cQ := cQ.ch (Owns.dropCh _ _ 0)
      replace cG := cG.ch (Owns.dropCh _ _ 0)
      replace cI := cI.ch (Owns.dropCh _ _ 0)
      replace cJ := cJ.ch (Owns.dropCh _ _ 0)
      replace cK := cK.ch (Owns.dropCh _ _ 0)
      replace cL := cL.ch (Owns.dropCh _ _ 0)
      replace cR := cR.ch (Owns.dropCh _ _ 0)
      replace cS := cS.ch (Owns.dropCh _ _ 0)
      replace cT := cT.ch (Owns.dropCh _ _ 0)
      replace hB := hB.trans (Owns.dropFr _ _ 0)
      replace hO := hO.drop 0
      dsimp only [eS, eZ] at hB hO ah ae ad ai af ag cQ cG cI cJ cK cL cR cS cT
      replace ah := ah.ch (Owns.dropCh _ _ 11)
      replace ae := ae.ch (Owns.dropCh _ _ 11)
      replace ad := ad.ch (Owns.dropCh _ _ 11)
      replace ai := ai.ch (Owns.dropCh _ _ 11)
      replace af := af.ch (Owns.dropCh _ _ 11)
      replace ag := ag.ch (Owns.dropCh _ _ 11)
      replace cQ := cQ.ch (Owns.dropCh _ _ 11)
      replace cG := cG.ch (Owns.dropCh _ _ 11)
      replace cI := cI.ch (Owns.dropCh _ _ 11)
      replace cJ := cJ.ch (Owns.dropCh _ _ 11)
      replace cK := cK.ch (Owns.dropCh _ _ 11)
      replace cL := cL.ch (Owns.dropCh _ _ 11)
      replace cR := cR.ch (Owns.dropCh _ _ 11)
      replace cS := cS.ch (Owns.dropCh _ _ 11)
      replace cT := cT.ch (Owns.dropCh _ _ 11)
      replace hB := hB.trans (Owns.dropFr _ _ 11)
      replace hO := hO.drop 11
      dsimp only [eS, eZ] at hB hO ah ae ad ai af ag cQ cG cI cJ cK cL cR cS cT
      refine Go1.ret2 Try.func53 rfl ?_
      exact Or.inr ⟨(⟨(⟨k4_203, b4_204, d_206, d_212, d_218, d_224, d_230, d_236, k4_205⟩ : Enum), m4_260, d_242, d_248, d_254⟩ : run), false, dE, d4, d5, d6, fv, dU, dJ, dK, gn, dV, dM, dN, gp, dW, dO, dP, gq, dX, dQ, dR, gr, dY, dS, dT, gs, a7, d7, d8, d9, gt, eg, eh, en, gu, eo, er, et, gv, rfl, hB.same, hO, cQ, cG, cI, cJ, cK, cL, cR, cS, cT, H⟩
     replace H := ifp rfl H
     refine GoQ.pure rfl (op_move rfl) rfl rfl ?_
     refine GoQ.pure rfl (op_nilCheck rfl) rfl rfl ?_
     refine GoQ.pure rfl (op_fieldAddr Try.underlying72 rfl ti29 rfl (by decide)) rfl rfl ?_
     refine GoQ.pure rfl (op_fieldAddr Try.underlying29 rfl ti26 rfl (by decide)) rfl rfl ?_
     refine GoQ.stable rfl (oblk (i := 4) 1 hO rfl rfl Try.underlying26 rfl rfl) rfl rfl ?_
     refine GoQ.pure rfl (op_fieldAddr Try.underlying29 rfl ti26 rfl (by decide)) rfl rfl ?_
     refine GoQ.stable rfl (oblk (i := 4) 0 hO rfl rfl Try.underlying26 rfl rfl) rfl rfl ?_
     have hobt := rowlend 4 hO rfl cI
     obtain ⟨Ft, Fu⟩ := hobt
     have hOc306 := hO.drop 4
     refine GoQ.call rfl (op_call body70 (show ([.slice dM dV dN, .slice ao e.Prefix.length ap] : List Value) = [.slice dM d_218.length dN, .slice ao e.Prefix.length ap] from by rw [← Fu]) (walk_slices_Equal_int hOc306.lt Ft (ad.ch (Owns.dropCh _ _ 4)) H)) (fun v w hr => by obtain ⟨_, _, hs, _⟩ := hr; assumption) rfl rfl ?_
     rintro LZ L1 ⟨r307, rfl, Fv, H⟩
     have lb := Stp.same hO Fv
     replace cQ := cQ.ch lb.ch
     replace cG := cG.ch lb.ch
     replace cI := cI.ch lb.ch
     replace cJ := cJ.ch lb.ch
     replace cK := cK.ch lb.ch
     replace cL := cL.ch lb.ch
     replace cR := cR.ch lb.ch
     replace cS := cS.ch lb.ch
     replace cT := cT.ch lb.ch
     replace hO := lb.own
     replace ah := ah.ch lb.ch
     replace ae := ae.ch lb.ch
     replace ad := ad.ch lb.ch
     replace ai := ai.ch lb.ch
     replace af := af.ch lb.ch
     replace ag := ag.ch lb.ch
     replace hB := hB.trans lb.fr
     refine GoQ.pure rfl (op_pickT rfl rfl rfl) rfl rfl ?_
     refine GoQ.pure rfl (op_move rfl) rfl rfl ?_
     cases r307
     ·replace H := ifn Bool.false_ne_true H
      refine GoQ.pass rfl rfl rfl ?_
      refine GoQ.pass rfl rfl rfl ?_
      refine GoQ.pass rfl rfl rfl ?_
      refine GoQ.pass rfl rfl rfl ?_
      refine GoQ.pass rfl rfl rfl ?_
      refine GoQ.pass rfl rfl rfl ?_
      refine GoQ.pass rfl rfl rfl ?_
      refine GoQ.pass rfl rfl rfl ?_
      refine GoQ.pure rfl (op_pickF rfl rfl rfl) rfl rfl ?_
      refine GoQ.pure rfl (op_move rfl) rfl rfl ?_
      refine GoQ.pass rfl rfl rfl ?_
      refine GoQ.pass rfl rfl rfl ?_
      refine GoQ.pass rfl rfl rfl ?_
      refine GoQ.pass rfl rfl rfl ?_
      refine GoQ.pass rfl rfl rfl ?_
      refine GoQ.pass rfl rfl rfl ?_
      refine GoQ.pass rfl rfl rfl ?_
      refine GoQ.pass rfl rfl rfl ?_
      refine GoQ.pure rfl (op_pickF rfl rfl rfl) rfl rfl ?_
      refine GoQ.pure rfl (op_move rfl) rfl rfl ?_
      refine GoQ.pass rfl rfl rfl ?_
      refine GoQ.pass rfl rfl rfl ?_
      refine GoQ.pass rfl rfl rfl ?_
      refine GoQ.pass rfl rfl rfl ?_
      refine GoQ.pass rfl rfl rfl ?_
      refine GoQ.pass rfl rfl rfl ?_
      refine GoQ.pass rfl rfl rfl ?_
      refine GoQ.pass rfl rfl rfl ?_
      refine GoQ.pure rfl (op_pickF rfl rfl rfl) rfl rfl ?_
      refine GoQ.pure rfl (op_assign rfl) rfl rfl ?_
      refine GoQ.nil ?_
      refine Go1.ret1V Try.func68 rfl (show _ = .bool false from rfl) ?_
      refine hR283 _ _ ?_
      refine GoR.op ((op_assign rfl) _) rfl rfl ?_
      refine GoR.op ((op_assign rfl) _) rfl rfl ?_
      refine GoR.nil ?_
      replace ah := ah.ch (Owns.dropCh _ _ 0)
      replace ae := ae.ch (Owns.dropCh _ _ 0)
      replace ad := ad.ch (Owns.dropCh _ _ 0)
      replace ai := ai.ch (Owns.dropCh _ _ 0)
      replace af := af.ch (Owns.dropCh _ _ 0)
      replace ag := ag.ch (Owns.dropCh _ _ 0)
      replace cQ := cQ.ch (Owns.dropCh _ _ 0)
      replace cG := cG.ch (Owns.dropCh _ _ 0)
      replace cI := cI.ch (Owns.dropCh _ _ 0)
      replace cJ := cJ.ch (Owns.dropCh _ _ 0)
      replace cK := cK.ch (Owns.dropCh _ _ 0)
      replace cL := cL.ch (Owns.dropCh _ _ 0)
      replace cR := cR.ch (Owns.dropCh _ _ 0)
      replace cS := cS.ch (Owns.dropCh _ _ 0)
      replace cT := cT.ch (Owns.dropCh _ _ 0)
      replace hB := hB.trans (Owns.dropFr _ _ 0)
      replace hO := hO.drop 0
      dsimp only [eS, eZ] at hB hO ah ae ad ai af ag cQ cG cI cJ cK cL cR cS cT
      replace ah := ah.ch (Owns.dropCh _ _ 11)
      replace ae := ae.ch (Owns.dropCh _ _ 11)
      replace ad := ad.ch (Owns.dropCh _ _ 11)
      replace ai := ai.ch (Owns.dropCh _ _ 11)
      replace af := af.ch (Owns.dropCh _ _ 11)
      replace ag := ag.ch (Owns.dropCh _ _ 11)
      replace cQ := cQ.ch (Owns.dropCh _ _ 11)
      replace cG := cG.ch (Owns.dropCh _ _ 11)
      replace cI := cI.ch (Owns.dropCh _ _ 11)
      replace cJ := cJ.ch (Owns.dropCh _ _ 11)
      replace cK := cK.ch (Owns.dropCh _ _ 11)
      replace cL := cL.ch (Owns.dropCh _ _ 11)
      replace cR := cR.ch (Owns.dropCh _ _ 11)
      replace cS := cS.ch (Owns.dropCh _ _ 11)
      replace cT := cT.ch (Owns.dropCh _ _ 11)
      replace hB := hB.trans (Owns.dropFr _ _ 11)
      replace hO := hO.drop 11
      dsimp only [eS, eZ] at hB hO ah ae ad ai af ag cQ cG cI cJ cK cL cR cS cT
      refine Go1.ret2 Try.func53 rfl ?_
      exact Or.inr ⟨(⟨(⟨k4_203, b4_204, d_206, d_212, d_218, d_224, d_230, d_236, k4_205⟩ : Enum), m4_260, d_242, d_248, d_254⟩ : run), false, dE, d4, d5, d6, fv, dU, dJ, dK, gn, dV, dM, dN, gp, dW, dO, dP, gq, dX, dQ, dR, gr, dY, dS, dT, gs, a7, d7, d8, d9, gt, eg, eh, en, gu, eo, er, et, gv, rfl, hB.same, hO, cQ, cG, cI, cJ, cK, cL, cR, cS, cT, H⟩
     replace H := ifp rfl H
     refine GoQ.pure rfl (op_move rfl) rfl rfl ?_
     refine GoQ.pure rfl (op_nilCheck rfl) rfl rfl ?_
     refine GoQ.pure rfl (op_fieldAddr Try.underlying72 rfl ti29 rfl (by decide)) rfl rfl ?_
     refine GoQ.pure rfl (op_fieldAddr Try.underlying29 rfl ti26 rfl (by decide)) rfl rfl ?_
     refine GoQ.stable rfl (oblk (i := 5) 1 hO rfl rfl Try.underlying26 rfl rfl) rfl rfl ?_
     refine GoQ.pure rfl (op_fieldAddr Try.underlying29 rfl ti26 rfl (by decide)) rfl rfl ?_
     refine GoQ.stable rfl (oblk (i := 5) 0 hO rfl rfl Try.underlying26 rfl rfl) rfl rfl ?_
     have hobt := rowlend 5 hO rfl cJ
     obtain ⟨Fw, Fx⟩ := hobt
     have hOc315 := hO.drop 5
     refine GoQ.call rfl (op_call body70 (show ([.slice dO dW dP, .slice aX e.Last.length aY] : List Value) = [.slice dO d_224.length dP, .slice aX e.Last.length aY] from by rw [← Fx]) (walk_slices_Equal_int hOc315.lt Fw (ai.ch (Owns.dropCh _ _ 5)) H)) (fun v w hr => by obtain ⟨_, _, hs, _⟩ := hr; assumption) rfl rfl ?_
     rintro L5 Gl ⟨r316, rfl, Fy, H⟩
     have ld := Stp.same hO Fy
     replace cQ := cQ.ch ld.ch
     replace cG := cG.ch ld.ch
     replace cI := cI.ch ld.ch
     replace cJ := cJ.ch ld.ch
     replace cK := cK.ch ld.ch
     replace cL := cL.ch ld.ch
     replace cR := cR.ch ld.ch
     replace cS := cS.ch ld.ch
     replace cT := cT.ch ld.ch
     replace hO := ld.own
     replace ah := ah.ch ld.ch
     replace ae := ae.ch ld.ch
     replace ad := ad.ch ld.ch
     replace ai := ai.ch ld.ch
     replace af := af.ch ld.ch
     replace ag := ag.ch ld.ch
     replace hB := hB.trans ld.fr
     refine GoQ.pure rfl (op_pickT rfl rfl rfl) rfl rfl ?_
     refine GoQ.pure rfl (op_move rfl) rfl rfl ?_
     cases r316
     ·replace H := ifn Bool.false_ne_true H
      refine GoQ.pass rfl rfl rfl ?_
      refine GoQ.pass rfl rfl rfl ?_
      refine GoQ.pass rfl rfl rfl ?_
      refine GoQ.pass rfl rfl rfl ?_
      refine GoQ.pass rfl rfl rfl ?_
      refine GoQ.pass rfl rfl rfl ?_
      refine GoQ.pass rfl rfl rfl ?_
      refine GoQ.pass rfl rfl rfl ?_
      refine GoQ.pure rfl (op_pickF rfl rfl rfl) rfl rfl ?_
      refine GoQ.pure rfl (op_move rfl) rfl rfl ?_
      refine GoQ.pass rfl rfl rfl ?_
      refine GoQ.pass rfl rfl rfl ?_
      refine GoQ.pass rfl rfl rfl ?_
      refine GoQ.pass rfl rfl rfl ?_
      refine GoQ.pass rfl rfl rfl ?_
      refine GoQ.pass rfl rfl rfl ?_
      refine GoQ.pass rfl rfl rfl ?_
      refine GoQ.pass rfl rfl rfl ?_
      refine GoQ.pure rfl (op_pickF rfl rfl rfl) rfl rfl ?_
      refine GoQ.pure rfl (op_assign rfl) rfl rfl ?_
      refine GoQ.nil ?_
      refine Go1.ret1V Try.func68 rfl (show _ = .bool false from rfl) ?_
      refine hR283 _ _ ?_
      refine GoR.op ((op_assign rfl) _) rfl rfl ?_
      refine GoR.op ((op_assign rfl) _) rfl rfl ?_
      refine GoR.nil ?_
      replace ah := ah.ch (Owns.dropCh _ _ 0)
      replace ae := ae.ch (Owns.dropCh _ _ 0)
      replace ad := ad.ch (Owns.dropCh _ _ 0)
      replace ai := ai.ch (Owns.dropCh _ _ 0)
      replace af := af.ch (Owns.dropCh _ _ 0)
      replace ag := ag.ch (Owns.dropCh _ _ 0)
      replace cQ := cQ.ch (Owns.dropCh _ _ 0)
      replace cG := cG.ch (Owns.dropCh _ _ 0)
      replace cI := cI.ch (Owns.dropCh _ _ 0)
      replace cJ := cJ.ch (Owns.dropCh _ _ 0)
      replace cK := cK.ch (Owns.dropCh _ _ 0)
      replace cL := cL.ch (Owns.dropCh _ _ 0)
      replace cR := cR.ch (Owns.dropCh _ _ 0)
      replace cS := cS.ch (Owns.dropCh _ _ 0)
      replace cT := cT.ch (Owns.dropCh _ _ 0)
      replace hB := hB.trans (Owns.dropFr _ _ 0)
      replace hO := hO.drop 0
      dsimp only [eS, eZ] at hB hO ah ae ad ai af ag cQ cG cI cJ cK cL cR cS cT
      replace ah := ah.ch (Owns.dropCh _ _ 11)
      replace ae := ae.ch (Owns.dropCh _ _ 11)
      replace ad := ad.ch (Owns.dropCh _ _ 11)
      replace ai := ai.ch (Owns.dropCh _ _ 11)
      replace af := af.ch (Owns.dropCh _ _ 11)
      replace ag := ag.ch (Owns.dropCh _ _ 11)
      replace cQ := cQ.ch (Owns.dropCh _ _ 11)
      replace cG := cG.ch (Owns.dropCh _ _ 11)
      replace cI := cI.ch (Owns.dropCh _ _ 11)
      replace cJ := cJ.ch (Owns.dropCh _ _ 11)
      replace cK := cK.ch (Owns.dropCh _ _ 11)
      replace cL := cL.ch (Owns.dropCh _ _ 11)
      replace cR := cR.ch (Owns.dropCh _ _ 11)
      replace cS := cS.ch (Owns.dropCh _ _ 11)
      replace cT := cT.ch (Owns.dropCh _ _ 11)
      replace hB := hB.trans (Owns.dropFr _ _ 11)
      replace hO := hO.drop 11
      dsimp only [eS, eZ] at hB hO ah ae ad ai af ag cQ cG cI cJ cK cL cR cS cT
      refine Go1.ret2 Try.func53 rfl ?_
      exact Or.inr ⟨(⟨(⟨k4_203, b4_204, d_206, d_212, d_218, d_224, d_230, d_236, k4_205⟩ : Enum), m4_260, d_242, d_248, d_254⟩ : run), false, dE, d4, d5, d6, fv, dU, dJ, dK, gn, dV, dM, dN, gp, dW, dO, dP, gq, dX, dQ, dR, gr, dY, dS, dT, gs, a7, d7, d8, d9, gt, eg, eh, en, gu, eo, er, et, gv, rfl, hB.same, hO, cQ, cG, cI, cJ, cK, cL, cR, cS, cT, H⟩
     replace H := ifp rfl H
     refine GoQ.pure rfl (op_move rfl) rfl rfl ?_
     refine GoQ.pure rfl (op_nilCheck rfl) rfl rfl ?_
     refine GoQ.pure rfl (op_fieldAddr Try.underlying72 rfl ti29 rfl (by decide)) rfl rfl ?_
     refine GoQ.pure rfl (op_fieldAddr Try.underlying29 rfl ti22 rfl (by decide)) rfl rfl ?_
     refine GoQ.stable rfl (oblk (i := 6) 1 hO rfl rfl Try.underlying22 rfl rfl) rfl rfl ?_
     refine GoQ.pure rfl (op_fieldAddr Try.underlying29 rfl ti22 rfl (by decide)) rfl rfl ?_
     refine GoQ.stable rfl (oblk (i := 6) 0 hO rfl rfl Try.underlying22 rfl rfl) rfl rfl ?_
     have hobt := rowlend 6 hO rfl cK
     obtain ⟨Fz, FA⟩ := hobt
     have hOc324 := hO.drop 6
     refine GoQ.call rfl (op_call body69 (show ([.slice dQ dX dR, .slice aC e.Right.length aD, .func (.func 70) #[] #[]] : List Value) = [.slice dQ d_230.length dR, .slice aC e.Right.length aD, .func (.func 70) #[] #[]] from by rw [← FA]) (walk_slices_EqualFunc_int hOc324.lt Fz (af.ch (Owns.dropCh _ _ 6)) H)) (fun v w hr => by obtain ⟨_, _, hs, _⟩ := hr; assumption) rfl rfl ?_
     rintro L6 L7 ⟨r325, rfl, FB, H⟩
     have lg := Stp.same hO FB
     replace cQ := cQ.ch lg.ch
     replace cG := cG.ch lg.ch
     replace cI := cI.ch lg.ch
     replace cJ := cJ.ch lg.ch
     replace cK := cK.ch lg.ch
     replace cL := cL.ch lg.ch
     replace cR := cR.ch lg.ch
     replace cS := cS.ch lg.ch
     replace cT := cT.ch lg.ch
     replace hO := lg.own
     replace ah := ah.ch lg.ch
     replace ae := ae.ch lg.ch
     replace ad := ad.ch lg.ch
     replace ai := ai.ch lg.ch
     replace af := af.ch lg.ch
     replace ag := ag.ch lg.ch
     replace hB := hB.trans lg.fr
     refine GoQ.pure rfl (op_pickT rfl rfl rfl) rfl rfl ?_
     refine GoQ.pure rfl (op_move rfl) rfl rfl ?_
     cases r325
     ·replace H := ifn Bool.false_ne_true H
      refine GoQ.pass rfl rfl rfl ?_
      refine GoQ.pass rfl rfl rfl ?_
      refine GoQ.pass rfl rfl rfl ?_
      refine GoQ.pass rfl rfl rfl ?_
      refine GoQ.pass rfl rfl rfl ?_
      refine GoQ.pass rfl rfl rfl ?_
      refine GoQ.pass rfl rfl rfl ?_
      refine GoQ.pass rfl rfl rfl ?_
      refine GoQ.pure rfl (op_pickF rfl rfl rfl) rfl rfl ?_
      refine GoQ.pure rfl (op_assign rfl) rfl rfl ?_
      refine GoQ.nil ?_
      refine Go1.ret1V Try.func68 rfl (show _ = .bool false from rfl) ?_
      refine hR283 _ _ ?_
      refine GoR.op ((op_assign rfl) _) rfl rfl ?_
      refine GoR.op ((op_assign rfl) _) rfl rfl ?_
      refine GoR.nil ?_
      replace ah := ah.ch (Owns.dropCh _ _ 0)
      replace ae := ae.ch (Owns.dropCh _ _ 0)
      replace ad := ad.ch (Owns.dropCh _ _ 0)
      replace ai := ai.ch (Owns.dropCh _ _ 0)
      replace af := af.ch (Owns.dropCh _ _ 0)
      replace ag := ag.ch (Owns.dropCh _ _ 0)
      replace cQ := cQ.ch (Owns.dropCh _ _ 0)
      replace cG := cG.ch (Owns.dropCh _ _ 0)
      replace cI := cI.ch (Owns.dropCh _ _ 0)
      replace cJ := cJ.ch (Owns.dropCh _ _ 0)
      replace cK := cK.ch (Owns.dropCh _ _ 0)
      replace cL := cL.ch (Owns.dropCh _ _ 0)
      replace cR := cR.ch (Owns.dropCh _ _ 0)
      replace cS := cS.ch (Owns.dropCh _ _ 0)
      replace cT := cT.ch (Owns.dropCh _ _ 0)
      replace hB := hB.trans (Owns.dropFr _ _ 0)
      replace hO := hO.drop 0
      dsimp only [eS, eZ] at hB hO ah ae ad ai af ag cQ cG cI cJ cK cL cR cS cT
      replace ah := ah.ch (Owns.dropCh _ _ 11)
      replace ae := ae.ch (Owns.dropCh _ _ 11)
      replace ad := ad.ch (Owns.dropCh _ _ 11)
      replace ai := ai.ch (Owns.dropCh _ _ 11)
      replace af := af.ch (Owns.dropCh _ _ 11)
      replace ag := ag.ch (Owns.dropCh _ _ 11)
      replace cQ := cQ.ch (Owns.dropCh _ _ 11)
      replace cG := cG.ch (Owns.dropCh _ _ 11)
      replace cI := cI.ch (Owns.dropCh _ _ 11)
      replace cJ := cJ.ch (Owns.dropCh _ _ 11)
      replace cK := cK.ch (Owns.dropCh _ _ 11)
      replace cL := cL.ch (Owns.dropCh _ _ 11)
      replace cR := cR.ch (Owns.dropCh _ _ 11)
      replace cS := cS.ch (Owns.dropCh _ _ 11)
      replace cT := cT.ch (Owns.dropCh _ _ 11)
      replace hB := hB.trans (Owns.dropFr _ _ 11)
      replace hO := hO.drop 11
      dsimp only [eS, eZ] at hB hO ah ae ad ai af ag cQ cG cI cJ cK cL cR cS cT
      refine Go1.ret2 Try.func53 rfl ?_
      exact Or.inr ⟨(⟨(⟨k4_203, b4_204, d_206, d_212, d_218, d_224, d_230, d_236, k4_205⟩ : Enum), m4_260, d_242, d_248, d_254⟩ : run), false, dE, d4, d5, d6, fv, dU, dJ, dK, gn, dV, dM, dN, gp, dW, dO, dP, gq, dX, dQ, dR, gr, dY, dS, dT, gs, a7, d7, d8, d9, gt, eg, eh, en, gu, eo, er, et, gv, rfl, hB.same, hO, cQ, cG, cI, cJ, cK, cL, cR, cS, cT, H⟩
     replace H := ifp rfl H
     refine GoQ.pure rfl (op_move rfl) rfl rfl ?_
     refine GoQ.pure rfl (op_nilCheck rfl) rfl rfl ?_
     refine GoQ.pure rfl (op_fieldAddr Try.underlying72 rfl ti29 rfl (by decide)) rfl rfl ?_
     refine GoQ.pure rfl (op_fieldAddr Try.underlying29 rfl ti27 rfl (by decide)) rfl rfl ?_
     refine GoQ.stable rfl (oblk (i := 7) 1 hO rfl rfl Try.underlying27 rfl rfl) rfl rfl ?_
     refine GoQ.pure rfl (op_fieldAddr Try.underlying29 rfl ti27 rfl (by decide)) rfl rfl ?_
     refine GoQ.stable rfl (oblk (i := 7) 0 hO rfl rfl Try.underlying27 rfl rfl) rfl rfl ?_
     have hobt := rowlend 7 hO rfl cL
     obtain ⟨FC, FD⟩ := hobt
     have hOc333 := hO.drop 7
     refine GoQ.call rfl (op_call body71 (show ([.slice dS dY dT, .slice aE e.Rules.length aF] : List Value) = [.slice dS d_236.length dT, .slice aE e.Rules.length aF] from by rw [← FD]) (walk_slices_Equal_api_Rule hOc333.lt FC (ag.ch (Owns.dropCh _ _ 7)) H)) (fun v w hr => by obtain ⟨_, _, hs, _⟩ := hr; assumption) rfl rfl ?_
     rintro L8 L9 ⟨r334, rfl, FE, H⟩
     have lh := Stp.same hO FE
     replace cQ := cQ.ch lh.ch
     replace cG := cG.ch lh.ch
     replace cI := cI.ch lh.ch
     replace cJ := cJ.ch lh.ch
     replace cK := cK.ch lh.ch
     replace cL := cL.ch lh.ch
     replace cR := cR.ch lh.ch
     replace cS := cS.ch lh.ch
     replace cT := cT.ch lh.ch
     replace hO := lh.own
     replace ah := ah.ch lh.ch
     replace ae := ae.ch lh.ch
     replace ad := ad.ch lh.ch
     replace ai := ai.ch lh.ch
     replace af := af.ch lh.ch
     replace ag := ag.ch lh.ch
     replace hB := hB.trans lh.fr
     refine GoQ.pure rfl (op_pickT rfl rfl rfl) rfl rfl ?_
     refine GoQ.pure rfl (op_assign rfl) rfl rfl ?_
     refine GoQ.nil ?_
     refine Go1.ret1V Try.func68 rfl (show _ = .bool r334 from rfl) ?_
     refine hR283 _ _ ?_
     refine GoR.op ((op_assign rfl) _) rfl rfl ?_
     refine GoR.op ((op_assign rfl) _) rfl rfl ?_
     refine GoR.nil ?_
     replace ah := ah.ch (Owns.dropCh _ _ 0)
     replace ae := ae.ch (Owns.dropCh _ _ 0)
     replace ad := ad.ch (Owns.dropCh _ _ 0)
     replace ai := ai.ch (Owns.dropCh _ _ 0)
     replace af := af.ch (Owns.dropCh _ _ 0)
     replace ag := ag.ch (Owns.dropCh _ _ 0)
     replace cQ := cQ.ch (Owns.dropCh _ _ 0)
     replace cG := cG.ch (Owns.dropCh _ _ 0)
     replace cI := cI.ch (Owns.dropCh _ _ 0)
     replace cJ := cJ.ch (Owns.dropCh _ _ 0)
     replace cK := cK.ch (Owns.dropCh _ _ 0)
     replace cL := cL.ch (Owns.dropCh _ _ 0)
     replace cR := cR.ch (Owns.dropCh _ _ 0)
     replace cS := cS.ch (Owns.dropCh _ _ 0)
     replace cT := cT.ch (Owns.dropCh _ _ 0)
     replace hB := hB.trans (Owns.dropFr _ _ 0)
     replace hO := hO.drop 0
     dsimp only [eS, eZ] at hB hO ah ae ad ai af ag cQ cG cI cJ cK cL cR cS cT
     replace ah := ah.ch (Owns.dropCh _ _ 11)
     replace ae := ae.ch (Owns.dropCh _ _ 11)
     replace ad := ad.ch (Owns.dropCh _ _ 11)
     replace ai := ai.ch (Owns.dropCh _ _ 11)
     replace af := af.ch (Owns.dropCh _ _ 11)
     replace ag := ag.ch (Owns.dropCh _ _ 11)
     replace cQ := cQ.ch (Owns.dropCh _ _ 11)
     replace cG := cG.ch (Owns.dropCh _ _ 11)
     replace cI := cI.ch (Owns.dropCh _ _ 11)
     replace cJ := cJ.ch (Owns.dropCh _ _ 11)
     replace cK := cK.ch (Owns.dropCh _ _ 11)
     replace cL := cL.ch (Owns.dropCh _ _ 11)
     replace cR := cR.ch (Owns.dropCh _ _ 11)
     replace cS := cS.ch (Owns.dropCh _ _ 11)
     replace cT := cT.ch (Owns.dropCh _ _ 11)
     replace hB := hB.trans (Owns.dropFr _ _ 11)
     replace hO := hO.drop 11
     dsimp only [eS, eZ] at hB hO ah ae ad ai af ag cQ cG cI cJ cK cL cR cS cT
     refine Go1.ret2 Try.func53 rfl ?_
     exact Or.inr ⟨(⟨(⟨k4_203, b4_204, d_206, d_212, d_218, d_224, d_230, d_236, k4_205⟩ : Enum), m4_260, d_242, d_248, d_254⟩ : run), r334, dE, d4, d5, d6, fv, dU, dJ, dK, gn, dV, dM, dN, gp, dW, dO, dP, gq, dX, dQ, dR, gr, dY, dS, dT, gs, a7, d7, d8, d9, gt, eg, eh, en, gu, eo, er, et, gv, rfl, hB.same, hO, cQ, cG, cI, cJ, cK, cL, cR, cS, cT, H⟩
    replace H := ifn yp H
    refine GoQ.pure rfl (fun w => opB (op_eql rfl rfl w) (decide_eq_false yp)) rfl rfl ?_
    refine GoQ.pure rfl (op_pickT rfl rfl rfl) rfl rfl ?_
    refine GoQ.pure rfl (op_move rfl) rfl rfl ?_
    refine GoQ.pass rfl rfl rfl ?_
    refine GoQ.pass rfl rfl rfl ?_
    refine GoQ.pass rfl rfl rfl ?_
    refine GoQ.pass rfl rfl rfl ?_
    refine GoQ.pass rfl rfl rfl ?_
    refine GoQ.pass rfl rfl rfl ?_
    refine GoQ.pass rfl rfl rfl ?_
    refine GoQ.pass rfl rfl rfl ?_
    refine GoQ.pure rfl (op_pickF rfl rfl rfl) rfl rfl ?_
    refine GoQ.pure rfl (op_move rfl) rfl rfl ?_
    refine GoQ.pass rfl rfl rfl ?_
    refine GoQ.pass rfl rfl rfl ?_
    refine GoQ.pass rfl rfl rfl ?_
    refine GoQ.pass rfl rfl rfl ?_
    refine GoQ.pass rfl rfl rfl ?_
    refine GoQ.pass rfl rfl rfl ?_
    refine GoQ.pass rfl rfl rfl ?_
    refine GoQ.pass rfl rfl rfl ?_
    refine GoQ.pure rfl (op_pickF rfl rfl rfl) rfl rfl ?_
    refine GoQ.pure rfl (op_move rfl) rfl rfl ?_
    refine GoQ.pass rfl rfl rfl ?_
    refine GoQ.pass rfl rfl rfl ?_
    refine GoQ.pass rfl rfl rfl ?_
    refine GoQ.pass rfl rfl rfl ?_
    refine GoQ.pass rfl rfl rfl ?_
    refine GoQ.pass rfl rfl rfl ?_
    refine GoQ.pass rfl rfl rfl ?_
    refine GoQ.pass rfl rfl rfl ?_
    refine GoQ.pure rfl (op_pickF rfl rfl rfl) rfl rfl ?_
    refine GoQ.pure rfl (op_move rfl) rfl rfl ?_
    refine GoQ.pass rfl rfl rfl ?_
    refine GoQ.pass rfl rfl rfl ?_
    refine GoQ.pass rfl rfl rfl ?_
    refine GoQ.pass rfl rfl rfl ?_
    refine GoQ.pass rfl rfl rfl ?_
    refine GoQ.pass rfl rfl rfl ?_
    refine GoQ.pass rfl rfl rfl ?_
    refine GoQ.pass rfl rfl rfl ?_
    refine GoQ.pure rfl (op_pickF rfl rfl rfl) rfl rfl ?_
    refine GoQ.pure rfl (op_move rfl) rfl rfl ?_
    refine GoQ.pass rfl rfl rfl ?_
    refine GoQ.pass rfl rfl rfl ?_
    refine GoQ.pass rfl rfl rfl ?_
    refine GoQ.pass rfl rfl rfl ?_
    refine GoQ.pass rfl rfl rfl ?_
    refine GoQ.pass rfl rfl rfl ?_
    refine GoQ.pass rfl rfl rfl ?_
    refine GoQ.pass rfl rfl rfl ?_
    refine GoQ.pure rfl (op_pickF rfl rfl rfl) rfl rfl ?_
    refine GoQ.pure rfl (op_assign rfl) rfl rfl ?_
    refine GoQ.nil ?_
    refine Go1.ret1V Try.func68 rfl (show _ = .bool false from rfl) ?_
    refine hR283 _ _ ?_
    refine GoR.op ((op_assign rfl) _) rfl rfl ?_
    refine GoR.op ((op_assign rfl) _) rfl rfl ?_
    refine GoR.nil ?_
    replace ah := ah.ch (Owns.dropCh _ _ 0)
    replace ae := ae.ch (Owns.dropCh _ _ 0)
    replace ad := ad.ch (Owns.dropCh _ _ 0)
    replace ai := ai.ch (Owns.dropCh _ _ 0)
    replace af := af.ch (Owns.dropCh _ _ 0)
    replace ag := ag.ch (Owns.dropCh _ _ 0)
    replace cQ := cQ.ch (Owns.dropCh _ _ 0)
    replace cG := cG.ch (Owns.dropCh _ _ 0)
    replace cI := cI.ch (Owns.dropCh _ _ 0)
    replace cJ := cJ.ch (Owns.dropCh _ _ 0)
    replace cK := cK.ch (Owns.dropCh _ _ 0)
    replace cL := cL.ch (Owns.dropCh _ _ 0)
    replace cR := cR.ch (Owns.dropCh _ _ 0)
    replace cS := cS.ch (Owns.dropCh _ _ 0)
    replace cT := cT.ch (Owns.dropCh _ _ 0)
    replace hB := hB.trans (Owns.dropFr _ _ 0)
    replace hO := hO.drop 0
    dsimp only [eS, eZ] at hB hO ah ae ad ai af ag cQ cG cI cJ cK cL cR cS cT
    replace ah := ah.ch (Owns.dropCh _ _ 11)
    replace ae := ae.ch (Owns.dropCh _ _ 11)
    replace ad := ad.ch (Owns.dropCh _ _ 11)
    replace ai := ai.ch (Owns.dropCh _ _ 11)
    replace af := af.ch (Owns.dropCh _ _ 11)
    replace ag := ag.ch (Owns.dropCh _ _ 11)
    replace cQ := cQ.ch (Owns.dropCh _ _ 11)
    replace cG := cG.ch (Owns.dropCh _ _ 11)
    replace cI := cI.ch (Owns.dropCh _ _ 11)
    replace cJ := cJ.ch (Owns.dropCh _ _ 11)
    replace cK := cK.ch (Owns.dropCh _ _ 11)
    replace cL := cL.ch (Owns.dropCh _ _ 11)
    replace cR := cR.ch (Owns.dropCh _ _ 11)
    replace cS := cS.ch (Owns.dropCh _ _ 11)
    replace cT := cT.ch (Owns.dropCh _ _ 11)
    replace hB := hB.trans (Owns.dropFr _ _ 11)
    replace hO := hO.drop 11
    dsimp only [eS, eZ] at hB hO ah ae ad ai af ag cQ cG cI cJ cK cL cR cS cT
    refine Go1.ret2 Try.func53 rfl ?_
    exact Or.inr ⟨(⟨(⟨k4_203, b4_204, d_206, d_212, d_218, d_224, d_230, d_236, k4_205⟩ : Enum), m4_260, d_242, d_248, d_254⟩ : run), false, dE, d4, d5, d6, fv, dU, dJ, dK, gn, dV, dM, dN, gp, dW, dO, dP, gq, dX, dQ, dR, gr, dY, dS, dT, gs, a7, d7, d8, d9, gt, eg, eh, en, gu, eo, er, et, gv, rfl, hB.same, hO, cQ, cG, cI, cJ, cK, cL, cR, cS, cT, H⟩
   replace H := ifn yo H
   refine GoQ.pure rfl (fun w => opB (op_eql rfl rfl w) (decide_eq_false yo)) rfl rfl ?_
   refine GoQ.pure rfl (op_move rfl) rfl rfl ?_
   refine GoQ.pass rfl rfl rfl ?_
   refine GoQ.pass rfl rfl rfl ?_
   refine GoQ.pass rfl rfl rfl ?_
   refine GoQ.pass rfl rfl rfl ?_
   refine GoQ.pass rfl rfl rfl ?_
   refine GoQ.pass rfl rfl rfl ?_
   refine GoQ.pass rfl rfl rfl ?_
   refine GoQ.pass rfl rfl rfl ?_
   refine GoQ.pure rfl (op_pickF rfl rfl rfl) rfl rfl ?_
   refine GoQ.pure rfl (op_move rfl) rfl rfl ?_
   refine GoQ.pass rfl rfl rfl ?_
   refine GoQ.pass rfl rfl rfl ?_
   refine GoQ.pass rfl rfl rfl ?_
   refine GoQ.pass rfl rfl rfl ?_
   refine GoQ.pass rfl rfl rfl ?_
   refine GoQ.pass rfl rfl rfl ?_
   refine GoQ.pass rfl rfl rfl ?_
   refine GoQ.pass rfl rfl rfl ?_
   refine GoQ.pure rfl (op_pickF rfl rfl rfl) rfl rfl ?_
   refine GoQ.pure rfl (op_move rfl) rfl rfl ?_
   refine GoQ.pass rfl rfl rfl ?_
   refine GoQ.pass rfl rfl rfl ?_
   refine GoQ.pass rfl rfl rfl ?_
   refine GoQ.pass rfl rfl rfl ?_
   refine GoQ.pass rfl rfl rfl ?_
   refine GoQ.pass rfl rfl rfl ?_
   refine GoQ.pass rfl rfl rfl ?_
   refine GoQ.pass rfl rfl rfl ?_
   refine GoQ.pure rfl (op_pickF rfl rfl rfl) rfl rfl ?_
   refine GoQ.pure rfl (op_move rfl) rfl rfl ?_
   refine GoQ.pass rfl rfl rfl ?_
   refine GoQ.pass rfl rfl rfl ?_
   refine GoQ.pass rfl rfl rfl ?_
   refine GoQ.pass rfl rfl rfl ?_
   refine GoQ.pass rfl rfl rfl ?_
   refine GoQ.pass rfl rfl rfl ?_
   refine GoQ.pass rfl rfl rfl ?_
   refine GoQ.pass rfl rfl rfl ?_
   refine GoQ.pure rfl (op_pickF rfl rfl rfl) rfl rfl ?_
   refine GoQ.pure rfl (op_move rfl) rfl rfl ?_
   refine GoQ.pass rfl rfl rfl ?_
   refine GoQ.pass rfl rfl rfl ?_
   refine GoQ.pass rfl rfl rfl ?_
   refine GoQ.pass rfl rfl rfl ?_
   refine GoQ.pass rfl rfl rfl ?_
   refine GoQ.pass rfl rfl rfl ?_
   refine GoQ.pass rfl rfl rfl ?_
   refine GoQ.pass rfl rfl rfl ?_
   refine GoQ.pure rfl (op_pickF rfl rfl rfl) rfl rfl ?_
   refine GoQ.pure rfl (op_move rfl) rfl rfl ?_
   refine GoQ.pass rfl rfl rfl ?_
   refine GoQ.pass rfl rfl rfl ?_
   refine GoQ.pass rfl rfl rfl ?_
   refine GoQ.pass rfl rfl rfl ?_
   refine GoQ.pass rfl rfl rfl ?_
   refine GoQ.pass rfl rfl rfl ?_
   refine GoQ.pass rfl rfl rfl ?_
   refine GoQ.pass rfl rfl rfl ?_
   refine GoQ.pure rfl (op_pickF rfl rfl rfl) rfl rfl ?_
   refine GoQ.pure rfl (op_assign rfl) rfl rfl ?_
   refine GoQ.nil ?_
   refine Go1.ret1V Try.func68 rfl (show _ = .bool false from rfl) ?_
   refine hR283 _ _ ?_
   refine GoR.op ((op_assign rfl) _) rfl rfl ?_
   refine GoR.op ((op_assign rfl) _) rfl rfl ?_
   refine GoR.nil ?_
   replace ah := ah.ch (Owns.dropCh _ _ 0)
   replace ae := ae.ch (Owns.dropCh _ _ 0)
   replace ad := ad.ch (Owns.dropCh _ _ 0)
   replace ai := ai.ch (Owns.dropCh _ _ 0)
   replace af := af.ch (Owns.dropCh _ _ 0)
   replace ag := ag.ch (Owns.dropCh _ _ 0)
   replace cQ := cQ.ch (Owns.dropCh _ _ 0)
   replace cG := cG.ch (Owns.dropCh _ _ 0)
   replace cI := cI.ch (Owns.dropCh _ _ 0)
   replace cJ := cJ.ch (Owns.dropCh _ _ 0)
   replace cK := cK.ch (Owns.dropCh _ _ 0)
   replace cL := cL.ch (Owns.dropCh _ _ 0)
   replace cR := cR.ch (Owns.dropCh _ _ 0)
   replace cS := cS.ch (Owns.dropCh _ _ 0)
   replace cT := cT.ch (Owns.dropCh _ _ 0)
   replace hB := hB.trans (Owns.dropFr _ _ 0)
   replace hO := hO.drop 0
   dsimp only [eS, eZ] at hB hO ah ae ad ai af ag cQ cG cI cJ cK cL cR cS cT
   replace ah := ah.ch (Owns.dropCh _ _ 11)
   replace ae := ae.ch (Owns.dropCh _ _ 11)
   replace ad := ad.ch (Owns.dropCh _ _ 11)
   replace ai := ai.ch (Owns.dropCh _ _ 11)
   replace af := af.ch (Owns.dropCh _ _ 11)
   replace ag := ag.ch (Owns.dropCh _ _ 11)
   replace cQ := cQ.ch (Owns.dropCh _ _ 11)
   replace cG := cG.ch (Owns.dropCh _ _ 11)
   replace cI := cI.ch (Owns.dropCh _ _ 11)
   replace cJ := cJ.ch (Owns.dropCh _ _ 11)
   replace cK := cK.ch (Owns.dropCh _ _ 11)
   replace cL := cL.ch (Owns.dropCh _ _ 11)
   replace cR := cR.ch (Owns.dropCh _ _ 11)
   replace cS := cS.ch (Owns.dropCh _ _ 11)
   replace cT := cT.ch (Owns.dropCh _ _ 11)
   replace hB := hB.trans (Owns.dropFr _ _ 11)
   replace hO := hO.drop 11
   dsimp only [eS, eZ] at hB hO ah ae ad ai af ag cQ cG cI cJ cK cL cR cS cT
   refine Go1.ret2 Try.func53 rfl ?_
   exact Or.inr ⟨(⟨(⟨k4_203, b4_204, d_206, d_212, d_218, d_224, d_230, d_236, k4_205⟩ : Enum), m4_260, d_242, d_248, d_254⟩ : run), false, dE, d4, d5, d6, fv, dU, dJ, dK, gn, dV, dM, dN, gp, dW, dO, dP, gq, dX, dQ, dR, gr, dY, dS, dT, gs, a7, d7, d8, d9, gt, eg, eh, en, gu, eo, er, et, gv, rfl, hB.same, hO, cQ, cG, cI, cJ, cK, cL, cR, cS, cT, H⟩
  replace H := ifn yj H
  refine GoR.op ((fun w => opB (op_neq rfl rfl w) (ndF yj)) _) rfl rfl ?_
  refine GoR.nil ?_
  refine Go1.condT rfl rfl ?_
  refine Go1.seq ?_
  refine Go1.cut [] trivial ?_
  intro σ _
  refine Go1.region ?_
  refine GoR.op ((op_assign rfl) _) rfl rfl ?_
  refine GoR.op ((op_assign rfl) _) rfl rfl ?_
  refine GoR.nil ?_
  refine Go1.ret2 Try.func53 rfl ?_
  exact Or.inl ⟨false, rfl, hB.same, H⟩
theorem body29 : Body Try.prog 29 := ⟨Try.f29, Try.func29, rfl, by kernel_rfl⟩
theorem walk_enumerate_Word {A : List Nat} {w0 : World} {a5 : Option Addr} {a6 : Nat} {aA : Option Addr} {aB : Nat} {ao : Option Addr} {ap : Nat} {aX : Option Addr} {aY : Nat} {aC : Option Addr} {aD : Nat} {aE : Option Addr} {aF : Nat} {e : Enum} {i : Int} (hA : ∀ b ∈ A, b < w0.heap.size) (ah : ISl (Rp.sl (Rp.int .i64)) A w0 a5 a6 e.Gens) (ae : ISl (Rp.sl (Rp.int .i64)) A w0 aA aB e.Elems) (ad : ISl (Rp.int .i64) A w0 ao ap e.Prefix) (ai : ISl (Rp.int .i64) A w0 aX aY e.Last) (af : ISl (Rp.sl (Rp.int .i64)) A w0 aC aD e.Right) (ag : ISl (rpRule) A w0 aE aF e.Rules) {K : Str → Prop} (H : enumerate_Word e i K) :
    CallsV Try.prog 29 #[.agg #[.int .i64 e.Points, .bool e.Monoid, .slice a5 e.Gens.length a6, .slice aA e.Elems.length aB, .slice ao e.Prefix.length ap, .slice aX e.Last.length aY, .slice aC e.Right.length aD, .slice aE e.Rules.length aF, .int .i64 e.Done], .int .i64 i] w0 (fun v w' => ∃ (r0 : Str), v = .string (gstr r0) ∧ Same w0 w' ∧ r0.length ≤ mx ∧ K r0) := by
 refine CallsV.of (l := [.agg #[.int .i64 e.Points, .bool e.Monoid, .slice a5 e.Gens.length a6, .slice aA e.Elems.length aB, .slice ao e.Prefix.length ap, .slice aX e.Last.length aY, .slice aC e.Right.length aD, .slice aE e.Rules.length aF, .int .i64 e.Done], .int .i64 i]) Try.func29 rfl Try.ntmps29 rfl ?_
 have hO := Owns.start hA
 have hB := Fr.refl (bl []) w0
 unfold enumerate_Word at H
 replace ah := ah.ch (Ch.start A w0)
 replace ae := ae.ch (Ch.start A w0)
 replace ad := ad.ch (Ch.start A w0)
 replace ai := ai.ch (Ch.start A w0)
 replace af := af.ch (Ch.start A w0)
 replace ag := ag.ch (Ch.start A w0)
 refine Go1.seq ?_
 refine Go1.region ?_
 have hobt := obox (t := 29) (v := .agg #[.int .i64 e.Points, .bool e.Monoid, .slice a5 e.Gens.length a6, .slice aA e.Elems.length aB, .slice ao e.Prefix.length ap, .slice aX e.Last.length aY, .slice aC e.Right.length aD, .slice aE e.Rules.length aF, .int .i64 e.Done]) (cs := #[.int .i64 e.Points, .bool e.Monoid, .slice a5 e.Gens.length a6, .slice aA e.Elems.length aB, .slice ao e.Prefix.length ap, .slice aX e.Last.length aY, .slice aC e.Right.length aD, .slice aE e.Rules.length aF, .int .i64 e.Done]) hO rfl
 obtain ⟨w1, B2, g6, hs4, uU⟩ := hobt
 refine GoR.op (uU rfl) rfl rfl ?_
 replace hO := g6.own
 replace ah := ah.ch g6.ch
 replace ae := ae.ch g6.ch
 replace ad := ad.ch g6.ch
 replace ai := ai.ch g6.ch
 replace af := af.ch g6.ch
 replace ag := ag.ch g6.ch
 replace hB := hB.trans g6.fr
 refine GoR.op ((op_assign rfl) _) rfl rfl ?_
 refine GoR.nil ?_
 refine Go1.seq ?_
 refine Go1.region ?_
 refine GoR.op ((oblkAgg (vs := [.int .i64 e.Points, .bool e.Monoid, .slice a5 e.Gens.length a6, .slice aA e.Elems.length aB, .slice ao e.Prefix.length ap, .slice aX e.Last.length aY, .slice aC e.Right.length aD, .slice aE e.Rules.length aF, .int .i64 e.Done]) (i := 0) 0 hO rfl rfl Try.underlying29 rfl ti29 rfl) _ (Same.refl _)) rfl rfl ?_
 refine GoR.call (op_call body53 rfl (walk_enumerate_replay (e := e) hO.lt ah ae ad ai af ag H)) rfl rfl ?_
 intro v9 w10 hcase13
 refine Or.elim hcase13 ?_ ?_
 ·refine exE fun r8 => andE fun hv14 => andE fun sD => fun H => ?_
  subst hv14
  clear hcase13
  replace H := oElimN H
  have jQ := Stp.same hO sD
  replace hO := jQ.own
  replace ah := ah.ch jQ.ch
  replace ae := ae.ch jQ.ch
  replace ad := ad.ch jQ.ch
  replace ai := ai.ch jQ.ch
  replace af := af.ch jQ.ch
  replace ag := ag.ch jQ.ch
  replace hB := hB.trans jQ.fr
  refine GoR.op ((op_move rfl) _) rfl rfl ?_
  refine GoR.op ((op_extract rfl rfl) _) rfl rfl ?_
  refine GoR.op ((op_extract rfl rfl) _) rfl rfl ?_
  refine GoR.op ((op_assign rfl) _) rfl rfl ?_
  refine GoR.op ((op_assign rfl) _) rfl rfl ?_
  refine GoR.nil ?_
  refine Go1.seq ?_
  refine Go1.seq ?_
  refine Go1.region ?_
  refine GoR.op ((op_move rfl) _) rfl rfl ?_
  cases r8
  ·replace H := ifn Bool.false_ne_true H
   refine GoR.op ((op_not rfl) _) rfl rfl ?_
   refine GoR.op ((op_move rfl) _) rfl rfl ?_
   refine GoR.pass rfl rfl ?_
   refine GoR.pass rfl rfl ?_
   refine GoR.op ((op_pickT rfl rfl rfl) _) rfl rfl ?_
   refine GoR.op ((op_move rfl) _) rfl rfl ?_
   refine GoR.pass rfl rfl ?_
   refine GoR.pass rfl rfl ?_
   refine GoR.pass rfl rfl ?_
   refine GoR.pass rfl rfl ?_
   refine GoR.pass rfl rfl ?_
   refine GoR.pass rfl rfl ?_
   refine GoR.pass rfl rfl ?_
   refine GoR.pass rfl rfl ?_
   refine GoR.op ((op_pickT rfl rfl rfl) _) rfl rfl ?_
   refine GoR.nil ?_
   refine Go1.condT rfl rfl ?_
   refine Go1.seq ?_
   refine Go1.cut [] trivial ?_
   intro σ _
   refine Go1.region ?_
   refine GoR.op ((op_assign rfl) _) rfl rfl ?_
   refine GoR.nil ?_
   refine Go1.ret1 Try.func29 rfl ?_
   exact ⟨([] : Str), rfl, hB.same, (by decide), H⟩
  replace H := ifp rfl H
  refine GoR.op ((op_not rfl) _) rfl rfl ?_
  refine GoR.op ((op_move rfl) _) rfl rfl ?_
  refine GoR.op ((op_move rfl) _) rfl rfl ?_
  by_cases h16 : i < (0 : Int)
  ·replace H := ifp h16 H
   refine GoR.op ((fun w => opB (op_lss rfl rfl w) (decide_eq_true h16)) _) rfl rfl ?_
   refine GoR.op ((op_pickF rfl rfl rfl) _) rfl rfl ?_
   refine GoR.op ((op_move rfl) _) rfl rfl ?_
   refine GoR.pass rfl rfl ?_
   refine GoR.pass rfl rfl ?_
   refine GoR.pass rfl rfl ?_
   refine GoR.pass rfl rfl ?_
   refine GoR.pass rfl rfl ?_
   refine GoR.pass rfl rfl ?_
   refine GoR.pass rfl rfl ?_
   refine GoR.pass rfl rfl ?_
   refine GoR.op ((op_pickT rfl rfl rfl) _) rfl rfl ?_
   refine GoR.nil ?_
   refine Go1.condT rfl rfl ?_
   refine Go1.seq ?_
   refine Go1.region ?_
   refine GoR.op ((op_assign rfl) _) rfl rfl ?_
   refine GoR.nil ?_
   refine Go1.ret1 Try.func29 rfl ?_
   exact ⟨([] : Str), rfl, hB.same, (by decide), H⟩
  replace H := ifn h16 H
  refine GoR.op ((fun w => opB (op_lss rfl rfl w) (decide_eq_false h16)) _) rfl rfl ?_
  refine GoR.op ((op_pickF rfl rfl rfl) _) rfl rfl ?_
  refine GoR.op ((op_move rfl) _) rfl rfl ?_
  refine GoR.op ((op_move rfl) _) rfl rfl ?_
  refine GoR.op ((op_move rfl) _) rfl rfl ?_
  exact H.elim
 ·refine exE fun r7 => exE fun r8 => exE fun kd => exE fun rs => exE fun ru => exE fun rv => exE fun qP => exE fun qQ => exE fun qR => exE fun qS => exE fun qB => exE fun qC => exE fun qD => exE fun qE => exE fun qb => exE fun ry => exE fun rz => exE fun rB => exE fun qT => exE fun qU => exE fun qV => exE fun qW => exE fun qF => exE fun qX => exE fun qY => exE fun qZ => exE fun qG => exE fun bU => exE fun tC => exE fun tD => exE fun tE => exE fun sY => exE fun ta => exE fun tc => exE fun te => exE fun sE => exE fun tf => exE fun tg => exE fun th => exE fun sF => andE fun hv17 => andE fun sD => andE fun hN12 => andE fun cZ => andE fun cH => andE fun cF => andE fun c5 => andE fun cU => andE fun cV => andE fun dm => andE fun dy => andE fun dz => fun H => ?_
  subst hv17
  clear hcase13
  replace H := oElimS H
  have pS := Stp.more hO sD hN12
  dsimp only [List.cons_append, List.nil_append] at pS
  replace hO := pS.own
  replace ah := ah.ch pS.ch
  replace ae := ae.ch pS.ch
  replace ad := ad.ch pS.ch
  replace ai := ai.ch pS.ch
  replace af := af.ch pS.ch
  replace ag := ag.ch pS.ch
  replace hB := hB.trans pS.fr
  replace cZ := cZ.ch (Ch.assoc _ _ _ _)
  dsimp only [List.cons_append, List.nil_append] at cZ
  replace cH := cH.ch (Ch.assoc _ _ _ _)
  dsimp only [List.cons_append, List.nil_append] at cH
  replace cF := cF.ch (Ch.assoc _ _ _ _)
  dsimp only [List.cons_append, List.nil_append] at cF
  replace c5 := c5.ch (Ch.assoc _ _ _ _)
  dsimp only [List.cons_append, List.nil_append] at c5
  replace cU := cU.ch (Ch.assoc _ _ _ _)
  dsimp only [List.cons_append, List.nil_append] at cU
  replace cV := cV.ch (Ch.assoc _ _ _ _)
  dsimp only [List.cons_append, List.nil_append] at cV
  replace dm := dm.ch (Ch.assoc _ _ _ _)
  dsimp only [List.cons_append, List.nil_append] at dm
  replace dy := dy.ch (Ch.assoc _ _ _ _)
  dsimp only [List.cons_append, List.nil_append] at dy
  replace dz := dz.ch (Ch.assoc _ _ _ _)
  dsimp only [List.cons_append, List.nil_append] at dz
  refine GoR.op ((op_move rfl) _) rfl rfl ?_
  refine GoR.op ((op_extract rfl rfl) _) rfl rfl ?_
  refine GoR.op ((op_extract rfl rfl) _) rfl rfl ?_
  refine GoR.op ((op_assign rfl) _) rfl rfl ?_
  refine GoR.op ((op_assign rfl) _) rfl rfl ?_
  refine GoR.nil ?_
  refine Go1.seq ?_
  refine Go1.seq ?_
  refine Go1.cut [(1, .int .i64 i), (5, .pointer (some ⟨kd, 0, none⟩)), (6, .bool r8)] ⟨rfl, rfl, rfl, trivial⟩ ?_
  intro σ _
  refine Go1.region ?_
  refine GoR.op ((op_move rfl) _) rfl rfl ?_
  cases r8
  ·replace H := ifn Bool.false_ne_true H
   refine GoR.op ((op_not rfl) _) rfl rfl ?_
   refine GoR.op ((op_move rfl) _) rfl rfl ?_
   refine GoR.pass rfl rfl ?_
   refine GoR.pass rfl rfl ?_
   refine GoR.op ((op_pickT rfl rfl rfl) _) rfl rfl ?_
   refine GoR.op ((op_move rfl) _) rfl rfl ?_
   refine GoR.pass rfl rfl ?_
   refine GoR.pass rfl rfl ?_
   refine GoR.pass rfl rfl ?_
   refine GoR.pass rfl rfl ?_
   refine GoR.pass rfl rfl ?_
   refine GoR.pass rfl rfl ?_
   refine GoR.pass rfl rfl ?_
   refine GoR.pass rfl rfl ?_
   refine GoR.op ((op_pickT rfl rfl rfl) _) rfl rfl ?_
   refine GoR.nil ?_
   refine Go1.condT rfl rfl ?_
   refine Go1.seq ?_
   refine Go1.region ?_
   refine GoR.op ((op_assign rfl) _) rfl rfl ?_
   refine GoR.nil ?_
   refine Go1.ret1 Try.func29 rfl ?_
   exact ⟨([] : Str), rfl, hB.same, (by decide), H⟩
  replace H := ifp rfl H
  refine GoR.op ((op_not rfl) _) rfl rfl ?_
  refine GoR.op ((op_move rfl) _) rfl rfl ?_
  refine GoR.op ((op_move rfl) _) rfl rfl ?_
  by_cases h30 : i < (0 : Int)
  ·replace H := ifp h30 H
   refine GoR.op ((fun w => opB (op_lss rfl rfl w) (decide_eq_true h30)) _) rfl rfl ?_
   refine GoR.op ((op_pickF rfl rfl rfl) _) rfl rfl ?_
   refine GoR.op ((op_move rfl) _) rfl rfl ?_
   refine GoR.pass rfl rfl ?_
   refine GoR.pass rfl rfl ?_
   refine GoR.pass rfl rfl ?_
   refine GoR.pass rfl rfl ?_
   refine GoR.pass rfl rfl ?_
   refine GoR.pass rfl rfl ?_
   refine GoR.pass rfl rfl ?_
   refine GoR.pass rfl rfl ?_
   refine GoR.op ((op_pickT rfl rfl rfl) _) rfl rfl ?_
   refine GoR.nil ?_
   refine Go1.condT rfl rfl ?_
   refine Go1.seq ?_
   refine Go1.cut [] trivial ?_
   intro σ _
   refine Go1.region ?_
   refine GoR.op ((op_assign rfl) _) rfl rfl ?_
   refine GoR.nil ?_
   refine Go1.ret1 Try.func29 rfl ?_
   exact ⟨([] : Str), rfl, hB.same, (by decide), H⟩
  replace H := ifn h30 H
  refine GoR.op ((fun w => opB (op_lss rfl rfl w) (decide_eq_false h30)) _) rfl rfl ?_
  refine GoR.op ((op_pickF rfl rfl rfl) _) rfl rfl ?_
  refine GoR.op ((op_move rfl) _) rfl rfl ?_
  refine GoR.op ((op_move rfl) _) rfl rfl ?_
  refine GoR.op ((op_move rfl) _) rfl rfl ?_
  refine GoR.op ((op_nilCheck rfl) _) rfl rfl ?_
  refine GoR.op ((op_fieldAddr Try.underlying72 rfl ti29 rfl (by decide)) _) rfl rfl ?_
  refine GoR.op ((op_fieldAddr Try.underlying29 rfl ti22 rfl (by decide)) _) rfl rfl ?_
  refine GoR.op ((oblk (i := 3) 0 hO rfl rfl Try.underlying22 rfl rfl) _ (Same.refl _)) rfl rfl ?_
  refine GoR.op ((op_lenN Try.underlying22 rfl (cH.neq hO 2 rfl)) _) rfl rfl ?_
  by_cases h31 : (r7.Enum.Elems.length : Int) ≤ i
  ·replace H := ifp h31 H
   refine GoR.op ((fun w => opB (op_geq rfl rfl w) (decide_eq_true h31)) _) rfl rfl ?_
   refine GoR.op ((op_pickF rfl rfl rfl) _) rfl rfl ?_
   refine GoR.nil ?_
   refine Go1.condT rfl rfl ?_
   refine Go1.seq ?_
   refine Go1.region ?_
   refine GoR.op ((op_assign rfl) _) rfl rfl ?_
   refine GoR.nil ?_
   refine Go1.ret1 Try.func29 rfl ?_
   exact ⟨([] : Str), rfl, hB.same, (by decide), H⟩
  replace H := ifn h31 H
  refine GoR.op ((fun w => opB (op_geq rfl rfl w) (decide_eq_false h31)) _) rfl rfl ?_
  refine GoR.op ((op_pickF rfl rfl rfl) _) rfl rfl ?_
  refine GoR.nil ?_
  refine Go1.condF rfl rfl ?_
  refine Go1.skip ?_
  refine Go1.seq ?_
  refine Go1.region ?_
  refine GoR.op ((op_move rfl) _) rfl rfl ?_
  refine GoR.op ((op_nilCheck rfl) _) rfl rfl ?_
  refine GoR.op ((op_fieldAddr Try.underlying72 rfl ti70 rfl (by decide)) _) rfl rfl ?_
  refine GoR.op ((oblk (i := 10) 0 hO rfl rfl Try.underlying70 rfl rfl) _ (Same.refl _)) rfl rfl ?_
  refine GoR.op ((op_move rfl) _) rfl rfl ?_
  obtain ⟨h32, H⟩ := H
  obtain ⟨h33, H⟩ := H
  refine GoR.op ((op_index Try.underlying70 ti9 rfl rfl h32 (ltn (dm.neq hO 7 rfl) h33) (dm.psome hO 7 rfl h32 h33)) _) rfl rfl ?_
  refine GoR.op ((oldStr 7 hO rfl dm h32 h33 Try.underlying9 rfl rfl) _ (Same.refl _)) rfl rfl ?_
  have hle34 := Els.str_le dm h32 h33
  refine GoR.op ((op_assign rfl) _) rfl rfl ?_
  refine GoR.nil ?_
  refine Go1.ret1 Try.func29 rfl ?_
  exact ⟨ix r7.words i, rfl, hB.same, hle34, H⟩
end Sg
