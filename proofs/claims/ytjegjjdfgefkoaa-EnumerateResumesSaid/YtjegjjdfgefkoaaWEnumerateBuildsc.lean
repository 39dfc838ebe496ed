/- The walks: each call keeps to its plain transformer. Printed by walkgen.py. -/
import Derived.Test.YtjegjjdfgefkoaaTi
import Derived.Test.YtjegjjdfgefkoaaWEnumerateBuilds
import Derived.Test.YtjegjjdfgefkoaaWEnumerateBuildsb
namespace Sg
open Go Go.RowKit Go.Proofs
set_option linter.unusedVariables false
set_option linter.unusedSimpArgs false
set_option maxRecDepth 100000
set_option maxHeartbeats 4000000
theorem body68 : Body Try.prog 68 := ⟨Try.f68, Try.func68, rfl, by kernel_rfl⟩
theorem body53 : Body Try.prog 53 := ⟨Try.f53, Try.func53, rfl, by kernel_rfl⟩
theorem walk_enumerate_replay {A : List Nat} {w0 : World} {aY : Option Addr} {aZ : Nat} {az : Option Addr} {aA : Nat} {ao : Option Addr} {ap : Nat} {aW : Option Addr} {aX : Nat} {aB : Option Addr} {aC : Nat} {aD : Option Addr} {aE : Nat} {e : Enum} (hA : ∀ b ∈ A, b < w0.heap.size) (ah : ISl (Rp.sl (Rp.int .i64)) A w0 aY aZ e.Gens) (ae : ISl (Rp.sl (Rp.int .i64)) A w0 az aA e.Elems) (ad : ISl (Rp.int .i64) A w0 ao ap e.Prefix) (ai : ISl (Rp.int .i64) A w0 aW aX e.Last) (af : ISl (Rp.sl (Rp.int .i64)) A w0 aB aC e.Right) (ag : ISl (rpRule) A w0 aD aE e.Rules) {K : Option run → Bool → Prop} (H : enumerate_replay e K) :
    CallsV Try.prog 53 #[.agg #[.int .i64 e.Points, .bool e.Monoid, .slice aY e.Gens.length aZ, .slice az e.Elems.length aA, .slice ao e.Prefix.length ap, .slice aW e.Last.length aX, .slice aB e.Right.length aC, .slice aD e.Rules.length aE, .int .i64 e.Done]] w0 (fun v w' => (∃ (r1 : Bool), v = .tuple #[.pointer none, .bool r1] ∧ Same w0 w' ∧ K none r1) ∨ (∃ (q : run), ∃ (r1 : Bool), ∃ (b_q : Nat), ∃ (aQ : Nat), ∃ (aR : Option Addr), ∃ (aS : Nat), ∃ (bA : List Value), ∃ (aG : Nat), ∃ (aH : Option Addr), ∃ (aI : Nat), ∃ (bw : List Value), ∃ (ar : Nat), ∃ (au : Option Addr), ∃ (av : Nat), ∃ (bo : List Value), ∃ (aT : Nat), ∃ (aU : Option Addr), ∃ (aV : Nat), ∃ (bB : List Value), ∃ (aJ : Nat), ∃ (aK : Option Addr), ∃ (aL : Nat), ∃ (bx : List Value), ∃ (aM : Nat), ∃ (aN : Option Addr), ∃ (aO : Nat), ∃ (bz : List Value), ∃ (ci : Nat), ∃ (bp : Nat), ∃ (bq : Option Addr), ∃ (bt : Nat), ∃ (cT : List Value), ∃ (bc : Nat), ∃ (bf : Option Addr), ∃ (bg : Nat), ∃ (cv : List Value), ∃ (bh : Nat), ∃ (bi : Option Addr), ∃ (bj : Nat), ∃ (cw : List Value), v = .tuple #[.pointer (some ⟨b_q, 0, none⟩), .bool r1] ∧ Same w0 w' ∧ Owns w0.heap.size w' [.blk b_q (.cells #[.int .i64 q.Enum.Points, .bool q.Enum.Monoid, .slice aR aQ aS, .slice aH aG aI, .slice au ar av, .slice aU aT aV, .slice aK aJ aL, .slice aN aM aO, .int .i64 q.Enum.Done, .map (some ci), .slice bq bp bt, .slice bf bc bg, .slice bi bh bj] 72 (0, 0)), .row 26 1 aR aQ aS bA, .row 26 1 aH aG aI bw, .row 3 1 au ar av bo, .row 3 1 aU aT aV bB, .row 26 1 aK aJ aL bx, .row 39 2 aN aM aO bz, .row 9 1 bq bp bt cT, .row 3 1 bf bc bg cv, .row 3 1 bi bh bj cw, .any (mapE (fun a : List UInt8 => Value.string (gstr a)) (fun a : Int => Value.int .i64 a) ci q.number)] A ∧ Els (Rp.sl (Rp.int .i64)) (bl [.blk b_q (.cells #[.int .i64 q.Enum.Points, .bool q.Enum.Monoid, .slice aR aQ aS, .slice aH aG aI, .slice au ar av, .slice aU aT aV, .slice aK aJ aL, .slice aN aM aO, .int .i64 q.Enum.Done, .map (some ci), .slice bq bp bt, .slice bf bc bg, .slice bi bh bj] 72 (0, 0)), .row 26 1 aR aQ aS bA, .row 26 1 aH aG aI bw, .row 3 1 au ar av bo, .row 3 1 aU aT aV bB, .row 26 1 aK aJ aL bx, .row 39 2 aN aM aO bz, .row 9 1 bq bp bt cT, .row 3 1 bf bc bg cv, .row 3 1 bi bh bj cw, .any (mapE (fun a : List UInt8 => Value.string (gstr a)) (fun a : Int => Value.int .i64 a) ci q.number)] ++ A) w' bA q.Enum.Gens ∧ Els (Rp.sl (Rp.int .i64)) (bl [.blk b_q (.cells #[.int .i64 q.Enum.Points, .bool q.Enum.Monoid, .slice aR aQ aS, .slice aH aG aI, .slice au ar av, .slice aU aT aV, .slice aK aJ aL, .slice aN aM aO, .int .i64 q.Enum.Done, .map (some ci), .slice bq bp bt, .slice bf bc bg, .slice bi bh bj] 72 (0, 0)), .row 26 1 aR aQ aS bA, .row 26 1 aH aG aI bw, .row 3 1 au ar av bo, .row 3 1 aU aT aV bB, .row 26 1 aK aJ aL bx, .row 39 2 aN aM aO bz, .row 9 1 bq bp bt cT, .row 3 1 bf bc bg cv, .row 3 1 bi bh bj cw, .any (mapE (fun a : List UInt8 => Value.string (gstr a)) (fun a : Int => Value.int .i64 a) ci q.number)] ++ A) w' bw q.Enum.Elems ∧ Els (Rp.int .i64) (bl [.blk b_q (.cells #[.int .i64 q.Enum.Points, .bool q.Enum.Monoid, .slice aR aQ aS, .slice aH aG aI, .slice au ar av, .slice aU aT aV, .slice aK aJ aL, .slice aN aM aO, .int .i64 q.Enum.Done, .map (some ci), .slice bq bp bt, .slice bf bc bg, .slice bi bh bj] 72 (0, 0)), .row 26 1 aR aQ aS bA, .row 26 1 aH aG aI bw, .row 3 1 au ar av bo, .row 3 1 aU aT aV bB, .row 26 1 aK aJ aL bx, .row 39 2 aN aM aO bz, .row 9 1 bq bp bt cT, .row 3 1 bf bc bg cv, .row 3 1 bi bh bj cw, .any (mapE (fun a : List UInt8 => Value.string (gstr a)) (fun a : Int => Value.int .i64 a) ci q.number)] ++ A) w' bo q.Enum.Prefix ∧ Els (Rp.int .i64) (bl [.blk b_q (.cells #[.int .i64 q.Enum.Points, .bool q.Enum.Monoid, .slice aR aQ aS, .slice aH aG aI, .slice au ar av, .slice aU aT aV, .slice aK aJ aL, .slice aN aM aO, .int .i64 q.Enum.Done, .map (some ci), .slice bq bp bt, .slice bf bc bg, .slice bi bh bj] 72 (0, 0)), .row 26 1 aR aQ aS bA, .row 26 1 aH aG aI bw, .row 3 1 au ar av bo, .row 3 1 aU aT aV bB, .row 26 1 aK aJ aL bx, .row 39 2 aN aM aO bz, .row 9 1 bq bp bt cT, .row 3 1 bf bc bg cv, .row 3 1 bi bh bj cw, .any (mapE (fun a : List UInt8 => Value.string (gstr a)) (fun a : Int => Value.int .i64 a) ci q.number)] ++ A) w' bB q.Enum.Last ∧ Els (Rp.sl (Rp.int .i64)) (bl [.blk b_q (.cells #[.int .i64 q.Enum.Points, .bool q.Enum.Monoid, .slice aR aQ aS, .slice aH aG aI, .slice au ar av, .slice aU aT aV, .slice aK aJ aL, .slice aN aM aO, .int .i64 q.Enum.Done, .map (some ci), .slice bq bp bt, .slice bf bc bg, .slice bi bh bj] 72 (0, 0)), .row 26 1 aR aQ aS bA, .row 26 1 aH aG aI bw, .row 3 1 au ar av bo, .row 3 1 aU aT aV bB, .row 26 1 aK aJ aL bx, .row 39 2 aN aM aO bz, .row 9 1 bq bp bt cT, .row 3 1 bf bc bg cv, .row 3 1 bi bh bj cw, .any (mapE (fun a : List UInt8 => Value.string (gstr a)) (fun a : Int => Value.int .i64 a) ci q.number)] ++ A) w' bx q.Enum.Right ∧ Els (rpRule) (bl [.blk b_q (.cells #[.int .i64 q.Enum.Points, .bool q.Enum.Monoid, .slice aR aQ aS, .slice aH aG aI, .slice au ar av, .slice aU aT aV, .slice aK aJ aL, .slice aN aM aO, .int .i64 q.Enum.Done, .map (some ci), .slice bq bp bt, .slice bf bc bg, .slice bi bh bj] 72 (0, 0)), .row 26 1 aR aQ aS bA, .row 26 1 aH aG aI bw, .row 3 1 au ar av bo, .row 3 1 aU aT aV bB, .row 26 1 aK aJ aL bx, .row 39 2 aN aM aO bz, .row 9 1 bq bp bt cT, .row 3 1 bf bc bg cv, .row 3 1 bi bh bj cw, .any (mapE (fun a : List UInt8 => Value.string (gstr a)) (fun a : Int => Value.int .i64 a) ci q.number)] ++ A) w' bz q.Enum.Rules ∧ Els (Rp.str) (bl [.blk b_q (.cells #[.int .i64 q.Enum.Points, .bool q.Enum.Monoid, .slice aR aQ aS, .slice aH aG aI, .slice au ar av, .slice aU aT aV, .slice aK aJ aL, .slice aN aM aO, .int .i64 q.Enum.Done, .map (some ci), .slice bq bp bt, .slice bf bc bg, .slice bi bh bj] 72 (0, 0)), .row 26 1 aR aQ aS bA, .row 26 1 aH aG aI bw, .row 3 1 au ar av bo, .row 3 1 aU aT aV bB, .row 26 1 aK aJ aL bx, .row 39 2 aN aM aO bz, .row 9 1 bq bp bt cT, .row 3 1 bf bc bg cv, .row 3 1 bi bh bj cw, .any (mapE (fun a : List UInt8 => Value.string (gstr a)) (fun a : Int => Value.int .i64 a) ci q.number)] ++ A) w' cT q.words ∧ Els (Rp.int .i64) (bl [.blk b_q (.cells #[.int .i64 q.Enum.Points, .bool q.Enum.Monoid, .slice aR aQ aS, .slice aH aG aI, .slice au ar av, .slice aU aT aV, .slice aK aJ aL, .slice aN aM aO, .int .i64 q.Enum.Done, .map (some ci), .slice bq bp bt, .slice bf bc bg, .slice bi bh bj] 72 (0, 0)), .row 26 1 aR aQ aS bA, .row 26 1 aH aG aI bw, .row 3 1 au ar av bo, .row 3 1 aU aT aV bB, .row 26 1 aK aJ aL bx, .row 39 2 aN aM aO bz, .row 9 1 bq bp bt cT, .row 3 1 bf bc bg cv, .row 3 1 bi bh bj cw, .any (mapE (fun a : List UInt8 => Value.string (gstr a)) (fun a : Int => Value.int .i64 a) ci q.number)] ++ A) w' cv q.behind ∧ Els (Rp.int .i64) (bl [.blk b_q (.cells #[.int .i64 q.Enum.Points, .bool q.Enum.Monoid, .slice aR aQ aS, .slice aH aG aI, .slice au ar av, .slice aU aT aV, .slice aK aJ aL, .slice aN aM aO, .int .i64 q.Enum.Done, .map (some ci), .slice bq bp bt, .slice bf bc bg, .slice bi bh bj] 72 (0, 0)), .row 26 1 aR aQ aS bA, .row 26 1 aH aG aI bw, .row 3 1 au ar av bo, .row 3 1 aU aT aV bB, .row 26 1 aK aJ aL bx, .row 39 2 aN aM aO bz, .row 9 1 bq bp bt cT, .row 3 1 bf bc bg cv, .row 3 1 bi bh bj cw, .any (mapE (fun a : List UInt8 => Value.string (gstr a)) (fun a : Int => Value.int .i64 a) ci q.number)] ++ A) w' cw q.single ∧ K (some q) r1)) := by
 refine CallsV.of (l := [.agg #[.int .i64 e.Points, .bool e.Monoid, .slice aY e.Gens.length aZ, .slice az e.Elems.length aA, .slice ao e.Prefix.length ap, .slice aW e.Last.length aX, .slice aB e.Right.length aC, .slice aD e.Rules.length aE, .int .i64 e.Done]]) Try.func53 rfl Try.ntmps53 rfl ?_
 have hO := Owns.start hA
 have hB := Fr.refl (bl []) w0
 unfold enumerate_replay at H
 replace ah := ah.ch (Ch.start A w0)
 replace ae := ae.ch (Ch.start A w0)
 replace ad := ad.ch (Ch.start A w0)
 replace ai := ai.ch (Ch.start A w0)
 replace af := af.ch (Ch.start A w0)
 replace ag := ag.ch (Ch.start A w0)
 refine Go1.seq ?_
 refine Go1.region ?_
 have hobt := obox (t := 29) (v := .agg #[.int .i64 e.Points, .bool e.Monoid, .slice aY e.Gens.length aZ, .slice az e.Elems.length aA, .slice ao e.Prefix.length ap, .slice aW e.Last.length aX, .slice aB e.Right.length aC, .slice aD e.Rules.length aE, .int .i64 e.Done]) (cs := #[.int .i64 e.Points, .bool e.Monoid, .slice aY e.Gens.length aZ, .slice az e.Elems.length aA, .slice ao e.Prefix.length ap, .slice aW e.Last.length aX, .slice aB e.Right.length aC, .slice aD e.Rules.length aE, .int .i64 e.Done]) hO rfl
 obtain ⟨w1, B2, fE, hs4, wb⟩ := hobt
 refine GoR.op (wb rfl) rfl rfl ?_
 replace hO := fE.own
 replace ah := ah.ch fE.ch
 replace ae := ae.ch fE.ch
 replace ad := ad.ch fE.ch
 replace ai := ai.ch fE.ch
 replace af := af.ch fE.ch
 replace ag := ag.ch fE.ch
 replace hB := hB.trans fE.fr
 refine GoR.op ((op_assign rfl) _) rfl rfl ?_
 refine GoR.op ((op_assign rfl) _) rfl rfl ?_
 refine GoR.nil ?_
 refine Go1.seq ?_
 refine Go1.region ?_
 refine GoR.op ((op_fieldAddr Try.underlying29 rfl ti22 rfl (by decide)) _) rfl rfl ?_
 refine GoR.op ((oblk (i := 2) 0 hO rfl rfl Try.underlying22 rfl rfl) _ (Same.refl _)) rfl rfl ?_
 refine GoR.op ((op_fieldAddr Try.underlying29 rfl ti4 rfl (by decide)) _) rfl rfl ?_
 by_cases h7 : e.Monoid = true
 ·replace H := ifp h7 H
  refine GoR.op (opB ((oblk (i := 1) 0 hO rfl rfl Try.underlying4 rfl rfl) _ (Same.refl _)) (h7)) rfl rfl ?_
  refine GoR.call (op_call body49 rfl (walk_enumerate_begin hO.lt ah H)) rfl rfl ?_
  intro v10 w11 hcase14
  refine Or.elim hcase14 ?_ ?_
  ·refine exE fun r9 => andE fun hv15 => andE fun AW => fun H => ?_
   subst hv15
   clear hcase14
   replace H := oElimN H
   have wF := Stp.same hO AW
   replace hO := wF.own
   replace ah := ah.ch wF.ch
   replace ae := ae.ch wF.ch
   replace ad := ad.ch wF.ch
   replace ai := ai.ch wF.ch
   replace af := af.ch wF.ch
   replace ag := ag.ch wF.ch
   replace hB := hB.trans wF.fr
   refine GoR.op ((op_move rfl) _) rfl rfl ?_
   refine GoR.op ((op_extract rfl rfl) _) rfl rfl ?_
   refine GoR.op ((op_extract rfl rfl) _) rfl rfl ?_
   refine GoR.op ((op_assign rfl) _) rfl rfl ?_
   refine GoR.op ((op_assign rfl) _) rfl rfl ?_
   refine GoR.nil ?_
   refine Go1.seq ?_
   refine Go1.seq ?_
   refine Go1.region ?_
   refine GoR.op ((op_move rfl) _) rfl rfl ?_
   by_cases h17 : r9 = (0 : Int)
   ·replace H := ifp h17 H
    refine GoR.op ((fun w => opB (op_neq rfl rfl w) (ndT h17)) _) rfl rfl ?_
    refine GoR.nil ?_
    refine Go1.condF rfl rfl ?_
    refine Go1.skip ?_
    refine Go1.seq ?_
    refine Go1.block ?_
    refine Go1.loopW (S := Unit) (fun s σ w => agrees σ [(1, .pointer (some ⟨B2, 0, none⟩)), (4, .pointer none)] ∧ Owns w0.heap.size w [.blk B2 (.cells #[.int .i64 e.Points, .bool e.Monoid, .slice aY e.Gens.length aZ, .slice az e.Elems.length aA, .slice ao e.Prefix.length ap, .slice aW e.Last.length aX, .slice aB e.Right.length aC, .slice aD e.Rules.length aE, .int .i64 e.Done] 29 (0, 0))] A ∧ ISl (Rp.sl (Rp.int .i64)) (bl [.blk B2 (.cells #[.int .i64 e.Points, .bool e.Monoid, .slice aY e.Gens.length aZ, .slice az e.Elems.length aA, .slice ao e.Prefix.length ap, .slice aW e.Last.length aX, .slice aB e.Right.length aC, .slice aD e.Rules.length aE, .int .i64 e.Done] 29 (0, 0))] ++ A) w aY aZ e.Gens ∧ ISl (Rp.sl (Rp.int .i64)) (bl [.blk B2 (.cells #[.int .i64 e.Points, .bool e.Monoid, .slice aY e.Gens.length aZ, .slice az e.Elems.length aA, .slice ao e.Prefix.length ap, .slice aW e.Last.length aX, .slice aB e.Right.length aC, .slice aD e.Rules.length aE, .int .i64 e.Done] 29 (0, 0))] ++ A) w az aA e.Elems ∧ ISl (Rp.int .i64) (bl [.blk B2 (.cells #[.int .i64 e.Points, .bool e.Monoid, .slice aY e.Gens.length aZ, .slice az e.Elems.length aA, .slice ao e.Prefix.length ap, .slice aW e.Last.length aX, .slice aB e.Right.length aC, .slice aD e.Rules.length aE, .int .i64 e.Done] 29 (0, 0))] ++ A) w ao ap e.Prefix ∧ ISl (Rp.int .i64) (bl [.blk B2 (.cells #[.int .i64 e.Points, .bool e.Monoid, .slice aY e.Gens.length aZ, .slice az e.Elems.length aA, .slice ao e.Prefix.length ap, .slice aW e.Last.length aX, .slice aB e.Right.length aC, .slice aD e.Rules.length aE, .int .i64 e.Done] 29 (0, 0))] ++ A) w aW aX e.Last ∧ ISl (Rp.sl (Rp.int .i64)) (bl [.blk B2 (.cells #[.int .i64 e.Points, .bool e.Monoid, .slice aY e.Gens.length aZ, .slice az e.Elems.length aA, .slice ao e.Prefix.length ap, .slice aW e.Last.length aX, .slice aB e.Right.length aC, .slice aD e.Rules.length aE, .int .i64 e.Done] 29 (0, 0))] ++ A) w aB aC e.Right ∧ ISl (rpRule) (bl [.blk B2 (.cells #[.int .i64 e.Points, .bool e.Monoid, .slice aY e.Gens.length aZ, .slice az e.Elems.length aA, .slice ao e.Prefix.length ap, .slice aW e.Last.length aX, .slice aB e.Right.length aC, .slice aD e.Rules.length aE, .int .i64 e.Done] 29 (0, 0))] ++ A) w aD aE e.Rules ∧ Fr (bl []) w0 (bl [.blk B2 (.cells #[.int .i64 e.Points, .bool e.Monoid, .slice aY e.Gens.length aZ, .slice az e.Elems.length aA, .slice ao e.Prefix.length ap, .slice aW e.Last.length aX, .slice aB e.Right.length aC, .slice aD e.Rules.length aE, .int .i64 e.Done] 29 (0, 0))]) w) H ⟨⟨rfl, rfl, trivial⟩, hO, ah, ae, ad, ai, af, ag, hB⟩ ?_
    intro X1 _
    intro H hX1 σ w18
    refine andE fun hag => andE fun hO => andE fun ah => andE fun ae => andE fun ad => andE fun ai => andE fun af => andE fun ag => fun hB => ?_
    refine Go1.keep [(1, .pointer (some ⟨B2, 0, none⟩)), (4, .pointer none)] hag ?_
    refine Go1.seq ?_
    refine Go1.seq ?_
    refine Go1.drawS 0 [(0, .pure), (1, .pure), (2, .pure), (3, .pure), (4, .stable), (5, .pure), (6, .stable), (7, .pure)] mixed (by kernel_rfl) ?_
    intro w19 D0
    have kG := Stp.same hO D0
    replace hO := kG.own
    replace ah := ah.ch kG.ch
    replace ae := ae.ch kG.ch
    replace ad := ad.ch kG.ch
    replace ai := ai.ch kG.ch
    replace af := af.ch kG.ch
    replace ag := ag.ch kG.ch
    replace hB := hB.trans kG.fr
    refine GoQ.pure rfl (op_move rfl) rfl rfl ?_
    exact H.elim
   replace H := ifn h17 H
   refine GoR.op ((fun w => opB (op_neq rfl rfl w) (ndF h17)) _) rfl rfl ?_
   refine GoR.nil ?_
   refine Go1.condT rfl rfl ?_
   refine Go1.seq ?_
   refine Go1.region ?_
   refine GoR.op ((op_assign rfl) _) rfl rfl ?_
   refine GoR.op ((op_assign rfl) _) rfl rfl ?_
   refine GoR.nil ?_
   refine Go1.ret2 Try.func53 rfl ?_
   exact Or.inl ⟨false, rfl, hB.same, H⟩
  ·refine exE fun r8 => exE fun r9 => exE fun jG => exE fun Aj => exE fun Ak => exE fun Al => exE fun zN => exE fun zO => exE fun zP => exE fun zQ => exE fun zh => exE fun zi => exE fun zj => exE fun zk => exE fun yI => exE fun Am => exE fun Ao => exE fun Ap => exE fun zR => exE fun zS => exE fun zT => exE fun zU => exE fun zl => exE fun zV => exE fun zW => exE fun zX => exE fun zm => exE fun ba => exE fun Cw => exE fun Cx => exE fun Cy => exE fun Bt => exE fun Bu => exE fun Bv => exE fun Bw => exE fun Bf => exE fun Bx => exE fun By => exE fun Bz => exE fun Bg => andE fun hv22 => andE fun AW => andE fun hN13 => andE fun tI => andE fun rT => andE fun qK => andE fun tJ => andE fun rU => andE fun rV => andE fun vk => andE fun uV => andE fun uW => fun H => ?_
   subst hv22
   clear hcase14
   replace H := oElimS H
   have gS := Stp.more hO AW hN13
   dsimp only [List.cons_append, List.nil_append] at gS
   replace hO := gS.own
   replace ah := ah.ch gS.ch
   replace ae := ae.ch gS.ch
   replace ad := ad.ch gS.ch
   replace ai := ai.ch gS.ch
   replace af := af.ch gS.ch
   replace ag := ag.ch gS.ch
   replace hB := hB.trans gS.fr
   replace tI := tI.ch (Ch.assoc _ _ _ _)
   dsimp only [List.cons_append, List.nil_append] at tI
   replace rT := rT.ch (Ch.assoc _ _ _ _)
   dsimp only [List.cons_append, List.nil_append] at rT
   replace qK := qK.ch (Ch.assoc _ _ _ _)
   dsimp only [List.cons_append, List.nil_append] at qK
   replace tJ := tJ.ch (Ch.assoc _ _ _ _)
   dsimp only [List.cons_append, List.nil_append] at tJ
   replace rU := rU.ch (Ch.assoc _ _ _ _)
   dsimp only [List.cons_append, List.nil_append] at rU
   replace rV := rV.ch (Ch.assoc _ _ _ _)
   dsimp only [List.cons_append, List.nil_append] at rV
   replace vk := vk.ch (Ch.assoc _ _ _ _)
   dsimp only [List.cons_append, List.nil_append] at vk
   replace uV := uV.ch (Ch.assoc _ _ _ _)
   dsimp only [List.cons_append, List.nil_append] at uV
   replace uW := uW.ch (Ch.assoc _ _ _ _)
   dsimp only [List.cons_append, List.nil_append] at uW
   refine GoR.op ((op_move rfl) _) rfl rfl ?_
   refine GoR.op ((op_extract rfl rfl) _) rfl rfl ?_
   refine GoR.op ((op_extract rfl rfl) _) rfl rfl ?_
   refine GoR.op ((op_assign rfl) _) rfl rfl ?_
   refine GoR.op ((op_assign rfl) _) rfl rfl ?_
   refine GoR.nil ?_
   refine Go1.seq ?_
   refine Go1.seq ?_
   refine Go1.region ?_
   refine GoR.op ((op_move rfl) _) rfl rfl ?_
   by_cases h35 : r9 = (0 : Int)
   ·replace H := ifp h35 H
    refine GoR.op ((fun w => opB (op_neq rfl rfl w) (ndT h35)) _) rfl rfl ?_
    refine GoR.nil ?_
    refine Go1.condF rfl rfl ?_
    refine Go1.skip ?_
    refine Go1.seq ?_
    refine Go1.block ?_
    refine Go1.loopW (S := Int × Bool × Int × List (List Int) × List (List Int) × List Int × List Int × List (List Int) × List Rule × List Str × List Int × List Int × (List (Str × Int))) (fun s σ w => match s with | (k2_37, b2_38, k2_39, d_40, d_46, d_52, d_58, d_64, d_70, d_76, d_82, d_88, m2_94) => ∃ (n45 : Nat), ∃ (p43 : Option Addr), ∃ (c44 : Nat), ∃ (eQ : List Value), ∃ (n51 : Nat), ∃ (p49 : Option Addr), ∃ (c50 : Nat), ∃ (eU : List Value), ∃ (n57 : Nat), ∃ (p55 : Option Addr), ∃ (c56 : Nat), ∃ (ly : List Value), ∃ (n63 : Nat), ∃ (p61 : Option Addr), ∃ (c62 : Nat), ∃ (lz : List Value), ∃ (n69 : Nat), ∃ (p67 : Option Addr), ∃ (c68 : Nat), ∃ (lA : List Value), ∃ (n75 : Nat), ∃ (p73 : Option Addr), ∃ (c74 : Nat), ∃ (lB : List Value), ∃ (n81 : Nat), ∃ (p79 : Option Addr), ∃ (c80 : Nat), ∃ (lC : List Value), ∃ (n87 : Nat), ∃ (p85 : Option Addr), ∃ (c86 : Nat), ∃ (lD : List Value), ∃ (n93 : Nat), ∃ (p91 : Option Addr), ∃ (c92 : Nat), ∃ (lE : List Value), agrees σ [(1, .pointer (some ⟨B2, 0, none⟩)), (4, .pointer (some ⟨jG, 0, none⟩))] ∧ Owns w0.heap.size w [.blk jG (.cells #[.int .i64 k2_37, .bool b2_38, .slice p43 n45 c44, .slice p49 n51 c50, .slice p55 n57 c56, .slice p61 n63 c62, .slice p67 n69 c68, .slice p73 n75 c74, .int .i64 k2_39, .map (some ba), .slice p79 n81 c80, .slice p85 n87 c86, .slice p91 n93 c92] 72 (0, 0)), .row 26 1 p43 n45 c44 eQ, .row 26 1 p49 n51 c50 eU, .row 3 1 p55 n57 c56 ly, .row 3 1 p61 n63 c62 lz, .row 26 1 p67 n69 c68 lA, .row 39 2 p73 n75 c74 lB, .row 9 1 p79 n81 c80 lC, .row 3 1 p85 n87 c86 lD, .row 3 1 p91 n93 c92 lE, .any (mapE (fun a : List UInt8 => Value.string (gstr a)) (fun a : Int => Value.int .i64 a) ba m2_94), .blk B2 (.cells #[.int .i64 e.Points, .bool e.Monoid, .slice aY e.Gens.length aZ, .slice az e.Elems.length aA, .slice ao e.Prefix.length ap, .slice aW e.Last.length aX, .slice aB e.Right.length aC, .slice aD e.Rules.length aE, .int .i64 e.Done] 29 (0, 0))] A ∧ Els (Rp.sl (Rp.int .i64)) (bl [.blk jG (.cells #[.int .i64 k2_37, .bool b2_38, .slice p43 n45 c44, .slice p49 n51 c50, .slice p55 n57 c56, .slice p61 n63 c62, .slice p67 n69 c68, .slice p73 n75 c74, .int .i64 k2_39, .map (some ba), .slice p79 n81 c80, .slice p85 n87 c86, .slice p91 n93 c92] 72 (0, 0)), .row 26 1 p43 n45 c44 eQ, .row 26 1 p49 n51 c50 eU, .row 3 1 p55 n57 c56 ly, .row 3 1 p61 n63 c62 lz, .row 26 1 p67 n69 c68 lA, .row 39 2 p73 n75 c74 lB, .row 9 1 p79 n81 c80 lC, .row 3 1 p85 n87 c86 lD, .row 3 1 p91 n93 c92 lE, .any (mapE (fun a : List UInt8 => Value.string (gstr a)) (fun a : Int => Value.int .i64 a) ba m2_94), .blk B2 (.cells #[.int .i64 e.Points, .bool e.Monoid, .slice aY e.Gens.length aZ, .slice az e.Elems.length aA, .slice ao e.Prefix.length ap, .slice aW e.Last.length aX, .slice aB e.Right.length aC, .slice aD e.Rules.length aE, .int .i64 e.Done] 29 (0, 0))] ++ A) w eQ d_40 ∧ Els (Rp.sl (Rp.int .i64)) (bl [.blk jG (.cells #[.int .i64 k2_37, .bool b2_38, .slice p43 n45 c44, .slice p49 n51 c50, .slice p55 n57 c56, .slice p61 n63 c62, .slice p67 n69 c68, .slice p73 n75 c74, .int .i64 k2_39, .map (some ba), .slice p79 n81 c80, .slice p85 n87 c86, .slice p91 n93 c92] 72 (0, 0)), .row 26 1 p43 n45 c44 eQ, .row 26 1 p49 n51 c50 eU, .row 3 1 p55 n57 c56 ly, .row 3 1 p61 n63 c62 lz, .row 26 1 p67 n69 c68 lA, .row 39 2 p73 n75 c74 lB, .row 9 1 p79 n81 c80 lC, .row 3 1 p85 n87 c86 lD, .row 3 1 p91 n93 c92 lE, .any (mapE (fun a : List UInt8 => Value.string (gstr a)) (fun a : Int => Value.int .i64 a) ba m2_94), .blk B2 (.cells #[.int .i64 e.Points, .bool e.Monoid, .slice aY e.Gens.length aZ, .slice az e.Elems.length aA, .slice ao e.Prefix.length ap, .slice aW e.Last.length aX, .slice aB e.Right.length aC, .slice aD e.Rules.length aE, .int .i64 e.Done] 29 (0, 0))] ++ A) w eU d_46 ∧ Els (Rp.int .i64) (bl [.blk jG (.cells #[.int .i64 k2_37, .bool b2_38, .slice p43 n45 c44, .slice p49 n51 c50, .slice p55 n57 c56, .slice p61 n63 c62, .slice p67 n69 c68, .slice p73 n75 c74, .int .i64 k2_39, .map (some ba), .slice p79 n81 c80, .slice p85 n87 c86, .slice p91 n93 c92] 72 (0, 0)), .row 26 1 p43 n45 c44 eQ, .row 26 1 p49 n51 c50 eU, .row 3 1 p55 n57 c56 ly, .row 3 1 p61 n63 c62 lz, .row 26 1 p67 n69 c68 lA, .row 39 2 p73 n75 c74 lB, .row 9 1 p79 n81 c80 lC, .row 3 1 p85 n87 c86 lD, .row 3 1 p91 n93 c92 lE, .any (mapE (fun a : List UInt8 => Value.string (gstr a)) (fun a : Int => Value.int .i64 a) ba m2_94), .blk B2 (.cells #[.int .i64 e.Points, .bool e.Monoid, .slice aY e.Gens.length aZ, .slice az e.Elems.length aA, .slice ao e.Prefix.length ap, .slice aW e.Last.length aX, .slice aB e.Right.length aC, .slice aD e.Rules.length aE, .int .i64 e.Done] 29 (0, 0))] ++ A) w ly d_52 ∧ Els (Rp.int .i64) (bl [.blk jG (.cells #[.int .i64 k2_37, .bool b2_38, .slice p43 n45 c44, .slice p49 n51 c50, .slice p55 n57 c56, .slice p61 n63 c62, .slice p67 n69 c68, .slice p73 n75 c74, .int .i64 k2_39, .map (some ba), .slice p79 n81 c80, .slice p85 n87 c86, .slice p91 n93 c92] 72 (0, 0)), .row 26 1 p43 n45 c44 eQ, .row 26 1 p49 n51 c50 eU, .row 3 1 p55 n57 c56 ly, .row 3 1 p61 n63 c62 lz, .row 26 1 p67 n69 c68 lA, .row 39 2 p73 n75 c74 lB, .row 9 1 p79 n81 c80 lC, .row 3 1 p85 n87 c86 lD, .row 3 1 p91 n93 c92 lE, .any (mapE (fun a : List UInt8 => Value.string (gstr a)) (fun a : Int => Value.int .i64 a) ba m2_94), .blk B2 (.cells #[.int .i64 e.Points, .bool e.Monoid, .slice aY e.Gens.length aZ, .slice az e.Elems.length aA, .slice ao e.Prefix.length ap, .slice aW e.Last.length aX, .slice aB e.Right.length aC, .slice aD e.Rules.length aE, .int .i64 e.Done] 29 (0, 0))] ++ A) w lz d_58 ∧ Els (Rp.sl (Rp.int .i64)) (bl [.blk jG (.cells #[.int .i64 k2_37, .bool b2_38, .slice p43 n45 c44, .slice p49 n51 c50, .slice p55 n57 c56, .slice p61 n63 c62, .slice p67 n69 c68, .slice p73 n75 c74, .int .i64 k2_39, .map (some ba), .slice p79 n81 c80, .slice p85 n87 c86, .slice p91 n93 c92] 72 (0, 0)), .row 26 1 p43 n45 c44 eQ, .row 26 1 p49 n51 c50 eU, .row 3 1 p55 n57 c56 ly, .row 3 1 p61 n63 c62 lz, .row 26 1 p67 n69 c68 lA, .row 39 2 p73 n75 c74 lB, .row 9 1 p79 n81 c80 lC, .row 3 1 p85 n87 c86 lD, .row 3 1 p91 n93 c92 lE, .any (mapE (fun a : List UInt8 => Value.string (gstr a)) (fun a : Int => Value.int .i64 a) ba m2_94), .blk B2 (.cells #[.int .i64 e.Points, .bool e.Monoid, .slice aY e.Gens.length aZ, .slice az e.Elems.length aA, .slice ao e.Prefix.length ap, .slice aW e.Last.length aX, .slice aB e.Right.length aC, .slice aD e.Rules.length aE, .int .i64 e.Done] 29 (0, 0))] ++ A) w lA d_64 ∧ Els (rpRule) (bl [.blk jG (.cells #[.int .i64 k2_37, .bool b2_38, .slice p43 n45 c44, .slice p49 n51 c50, .slice p55 n57 c56, .slice p61 n63 c62, .slice p67 n69 c68, .slice p73 n75 c74, .int .i64 k2_39, .map (some ba), .slice p79 n81 c80, .slice p85 n87 c86, .slice p91 n93 c92] 72 (0, 0)), .row 26 1 p43 n45 c44 eQ, .row 26 1 p49 n51 c50 eU, .row 3 1 p55 n57 c56 ly, .row 3 1 p61 n63 c62 lz, .row 26 1 p67 n69 c68 lA, .row 39 2 p73 n75 c74 lB, .row 9 1 p79 n81 c80 lC, .row 3 1 p85 n87 c86 lD, .row 3 1 p91 n93 c92 lE, .any (mapE (fun a : List UInt8 => Value.string (gstr a)) (fun a : Int => Value.int .i64 a) ba m2_94), .blk B2 (.cells #[.int .i64 e.Points, .bool e.Monoid, .slice aY e.Gens.length aZ, .slice az e.Elems.length aA, .slice ao e.Prefix.length ap, .slice aW e.Last.length aX, .slice aB e.Right.length aC, .slice aD e.Rules.length aE, .int .i64 e.Done] 29 (0, 0))] ++ A) w lB d_70 ∧ Els (Rp.str) (bl [.blk jG (.cells #[.int .i64 k2_37, .bool b2_38, .slice p43 n45 c44, .slice p49 n51 c50, .slice p55 n57 c56, .slice p61 n63 c62, .slice p67 n69 c68, .slice p73 n75 c74, .int .i64 k2_39, .map (some ba), .slice p79 n81 c80, .slice p85 n87 c86, .slice p91 n93 c92] 72 (0, 0)), .row 26 1 p43 n45 c44 eQ, .row 26 1 p49 n51 c50 eU, .row 3 1 p55 n57 c56 ly, .row 3 1 p61 n63 c62 lz, .row 26 1 p67 n69 c68 lA, .row 39 2 p73 n75 c74 lB, .row 9 1 p79 n81 c80 lC, .row 3 1 p85 n87 c86 lD, .row 3 1 p91 n93 c92 lE, .any (mapE (fun a : List UInt8 => Value.string (gstr a)) (fun a : Int => Value.int .i64 a) ba m2_94), .blk B2 (.cells #[.int .i64 e.Points, .bool e.Monoid, .slice aY e.Gens.length aZ, .slice az e.Elems.length aA, .slice ao e.Prefix.length ap, .slice aW e.Last.length aX, .slice aB e.Right.length aC, .slice aD e.Rules.length aE, .int .i64 e.Done] 29 (0, 0))] ++ A) w lC d_76 ∧ Els (Rp.int .i64) (bl [.blk jG (.cells #[.int .i64 k2_37, .bool b2_38, .slice p43 n45 c44, .slice p49 n51 c50, .slice p55 n57 c56, .slice p61 n63 c62, .slice p67 n69 c68, .slice p73 n75 c74, .int .i64 k2_39, .map (some ba), .slice p79 n81 c80, .slice p85 n87 c86, .slice p91 n93 c92] 72 (0, 0)), .row 26 1 p43 n45 c44 eQ, .row 26 1 p49 n51 c50 eU, .row 3 1 p55 n57 c56 ly, .row 3 1 p61 n63 c62 lz, .row 26 1 p67 n69 c68 lA, .row 39 2 p73 n75 c74 lB, .row 9 1 p79 n81 c80 lC, .row 3 1 p85 n87 c86 lD, .row 3 1 p91 n93 c92 lE, .any (mapE (fun a : List UInt8 => Value.string (gstr a)) (fun a : Int => Value.int .i64 a) ba m2_94), .blk B2 (.cells #[.int .i64 e.Points, .bool e.Monoid, .slice aY e.Gens.length aZ, .slice az e.Elems.length aA, .slice ao e.Prefix.length ap, .slice aW e.Last.length aX, .slice aB e.Right.length aC, .slice aD e.Rules.length aE, .int .i64 e.Done] 29 (0, 0))] ++ A) w lD d_82 ∧ Els (Rp.int .i64) (bl [.blk jG (.cells #[.int .i64 k2_37, .bool b2_38, .slice p43 n45 c44, .slice p49 n51 c50, .slice p55 n57 c56, .slice p61 n63 c62, .slice p67 n69 c68, .slice p73 n75 c74, .int .i64 k2_39, .map (some ba), .slice p79 n81 c80, .slice p85 n87 c86, .slice p91 n93 c92] 72 (0, 0)), .row 26 1 p43 n45 c44 eQ, .row 26 1 p49 n51 c50 eU, .row 3 1 p55 n57 c56 ly, .row 3 1 p61 n63 c62 lz, .row 26 1 p67 n69 c68 lA, .row 39 2 p73 n75 c74 lB, .row 9 1 p79 n81 c80 lC, .row 3 1 p85 n87 c86 lD, .row 3 1 p91 n93 c92 lE, .any (mapE (fun a : List UInt8 => Value.string (gstr a)) (fun a : Int => Value.int .i64 a) ba m2_94), .blk B2 (.cells #[.int .i64 e.Points, .bool e.Monoid, .slice aY e.Gens.length aZ, .slice az e.Elems.length aA, .slice ao e.Prefix.length ap, .slice aW e.Last.length aX, .slice aB e.Right.length aC, .slice aD e.Rules.length aE, .int .i64 e.Done] 29 (0, 0))] ++ A) w lE d_88 ∧ ISl (Rp.sl (Rp.int .i64)) (bl [.blk jG (.cells #[.int .i64 k2_37, .bool b2_38, .slice p43 n45 c44, .slice p49 n51 c50, .slice p55 n57 c56, .slice p61 n63 c62, .slice p67 n69 c68, .slice p73 n75 c74, .int .i64 k2_39, .map (some ba), .slice p79 n81 c80, .slice p85 n87 c86, .slice p91 n93 c92] 72 (0, 0)), .row 26 1 p43 n45 c44 eQ, .row 26 1 p49 n51 c50 eU, .row 3 1 p55 n57 c56 ly, .row 3 1 p61 n63 c62 lz, .row 26 1 p67 n69 c68 lA, .row 39 2 p73 n75 c74 lB, .row 9 1 p79 n81 c80 lC, .row 3 1 p85 n87 c86 lD, .row 3 1 p91 n93 c92 lE, .any (mapE (fun a : List UInt8 => Value.string (gstr a)) (fun a : Int => Value.int .i64 a) ba m2_94), .blk B2 (.cells #[.int .i64 e.Points, .bool e.Monoid, .slice aY e.Gens.length aZ, .slice az e.Elems.length aA, .slice ao e.Prefix.length ap, .slice aW e.Last.length aX, .slice aB e.Right.length aC, .slice aD e.Rules.length aE, .int .i64 e.Done] 29 (0, 0))] ++ A) w aY aZ e.Gens ∧ ISl (Rp.sl (Rp.int .i64)) (bl [.blk jG (.cells #[.int .i64 k2_37, .bool b2_38, .slice p43 n45 c44, .slice p49 n51 c50, .slice p55 n57 c56, .slice p61 n63 c62, .slice p67 n69 c68, .slice p73 n75 c74, .int .i64 k2_39, .map (some ba), .slice p79 n81 c80, .slice p85 n87 c86, .slice p91 n93 c92] 72 (0, 0)), .row 26 1 p43 n45 c44 eQ, .row 26 1 p49 n51 c50 eU, .row 3 1 p55 n57 c56 ly, .row 3 1 p61 n63 c62 lz, .row 26 1 p67 n69 c68 lA, .row 39 2 p73 n75 c74 lB, .row 9 1 p79 n81 c80 lC, .row 3 1 p85 n87 c86 lD, .row 3 1 p91 n93 c92 lE, .any (mapE (fun a : List UInt8 => Value.string (gstr a)) (fun a : Int => Value.int .i64 a) ba m2_94), .blk B2 (.cells #[.int .i64 e.Points, .bool e.Monoid, .slice aY e.Gens.length aZ, .slice az e.Elems.length aA, .slice ao e.Prefix.length ap, .slice aW e.Last.length aX, .slice aB e.Right.length aC, .slice aD e.Rules.length aE, .int .i64 e.Done] 29 (0, 0))] ++ A) w az aA e.Elems ∧ ISl (Rp.int .i64) (bl [.blk jG (.cells #[.int .i64 k2_37, .bool b2_38, .slice p43 n45 c44, .slice p49 n51 c50, .slice p55 n57 c56, .slice p61 n63 c62, .slice p67 n69 c68, .slice p73 n75 c74, .int .i64 k2_39, .map (some ba), .slice p79 n81 c80, .slice p85 n87 c86, .slice p91 n93 c92] 72 (0, 0)), .row 26 1 p43 n45 c44 eQ, .row 26 1 p49 n51 c50 eU, .row 3 1 p55 n57 c56 ly, .row 3 1 p61 n63 c62 lz, .row 26 1 p67 n69 c68 lA, .row 39 2 p73 n75 c74 lB, .row 9 1 p79 n81 c80 lC, .row 3 1 p85 n87 c86 lD, .row 3 1 p91 n93 c92 lE, .any (mapE (fun a : List UInt8 => Value.string (gstr a)) (fun a : Int => Value.int .i64 a) ba m2_94), .blk B2 (.cells #[.int .i64 e.Points, .bool e.Monoid, .slice aY e.Gens.length aZ, .slice az e.Elems.length aA, .slice ao e.Prefix.length ap, .slice aW e.Last.length aX, .slice aB e.Right.length aC, .slice aD e.Rules.length aE, .int .i64 e.Done] 29 (0, 0))] ++ A) w ao ap e.Prefix ∧ ISl (Rp.int .i64) (bl [.blk jG (.cells #[.int .i64 k2_37, .bool b2_38, .slice p43 n45 c44, .slice p49 n51 c50, .slice p55 n57 c56, .slice p61 n63 c62, .slice p67 n69 c68, .slice p73 n75 c74, .int .i64 k2_39, .map (some ba), .slice p79 n81 c80, .slice p85 n87 c86, .slice p91 n93 c92] 72 (0, 0)), .row 26 1 p43 n45 c44 eQ, .row 26 1 p49 n51 c50 eU, .row 3 1 p55 n57 c56 ly, .row 3 1 p61 n63 c62 lz, .row 26 1 p67 n69 c68 lA, .row 39 2 p73 n75 c74 lB, .row 9 1 p79 n81 c80 lC, .row 3 1 p85 n87 c86 lD, .row 3 1 p91 n93 c92 lE, .any (mapE (fun a : List UInt8 => Value.string (gstr a)) (fun a : Int => Value.int .i64 a) ba m2_94), .blk B2 (.cells #[.int .i64 e.Points, .bool e.Monoid, .slice aY e.Gens.length aZ, .slice az e.Elems.length aA, .slice ao e.Prefix.length ap, .slice aW e.Last.length aX, .slice aB e.Right.length aC, .slice aD e.Rules.length aE, .int .i64 e.Done] 29 (0, 0))] ++ A) w aW aX e.Last ∧ ISl (Rp.sl (Rp.int .i64)) (bl [.blk jG (.cells #[.int .i64 k2_37, .bool b2_38, .slice p43 n45 c44, .slice p49 n51 c50, .slice p55 n57 c56, .slice p61 n63 c62, .slice p67 n69 c68, .slice p73 n75 c74, .int .i64 k2_39, .map (some ba), .slice p79 n81 c80, .slice p85 n87 c86, .slice p91 n93 c92] 72 (0, 0)), .row 26 1 p43 n45 c44 eQ, .row 26 1 p49 n51 c50 eU, .row 3 1 p55 n57 c56 ly, .row 3 1 p61 n63 c62 lz, .row 26 1 p67 n69 c68 lA, .row 39 2 p73 n75 c74 lB, .row 9 1 p79 n81 c80 lC, .row 3 1 p85 n87 c86 lD, .row 3 1 p91 n93 c92 lE, .any (mapE (fun a : List UInt8 => Value.string (gstr a)) (fun a : Int => Value.int .i64 a) ba m2_94), .blk B2 (.cells #[.int .i64 e.Points, .bool e.Monoid, .slice aY e.Gens.length aZ, .slice az e.Elems.length aA, .slice ao e.Prefix.length ap, .slice aW e.Last.length aX, .slice aB e.Right.length aC, .slice aD e.Rules.length aE, .int .i64 e.Done] 29 (0, 0))] ++ A) w aB aC e.Right ∧ ISl (rpRule) (bl [.blk jG (.cells #[.int .i64 k2_37, .bool b2_38, .slice p43 n45 c44, .slice p49 n51 c50, .slice p55 n57 c56, .slice p61 n63 c62, .slice p67 n69 c68, .slice p73 n75 c74, .int .i64 k2_39, .map (some ba), .slice p79 n81 c80, .slice p85 n87 c86, .slice p91 n93 c92] 72 (0, 0)), .row 26 1 p43 n45 c44 eQ, .row 26 1 p49 n51 c50 eU, .row 3 1 p55 n57 c56 ly, .row 3 1 p61 n63 c62 lz, .row 26 1 p67 n69 c68 lA, .row 39 2 p73 n75 c74 lB, .row 9 1 p79 n81 c80 lC, .row 3 1 p85 n87 c86 lD, .row 3 1 p91 n93 c92 lE, .any (mapE (fun a : List UInt8 => Value.string (gstr a)) (fun a : Int => Value.int .i64 a) ba m2_94), .blk B2 (.cells #[.int .i64 e.Points, .bool e.Monoid, .slice aY e.Gens.length aZ, .slice az e.Elems.length aA, .slice ao e.Prefix.length ap, .slice aW e.Last.length aX, .slice aB e.Right.length aC, .slice aD e.Rules.length aE, .int .i64 e.Done] 29 (0, 0))] ++ A) w aD aE e.Rules ∧ Fr (bl []) w0 (bl [.blk jG (.cells #[.int .i64 k2_37, .bool b2_38, .slice p43 n45 c44, .slice p49 n51 c50, .slice p55 n57 c56, .slice p61 n63 c62, .slice p67 n69 c68, .slice p73 n75 c74, .int .i64 k2_39, .map (some ba), .slice p79 n81 c80, .slice p85 n87 c86, .slice p91 n93 c92] 72 (0, 0)), .row 26 1 p43 n45 c44 eQ, .row 26 1 p49 n51 c50 eU, .row 3 1 p55 n57 c56 ly, .row 3 1 p61 n63 c62 lz, .row 26 1 p67 n69 c68 lA, .row 39 2 p73 n75 c74 lB, .row 9 1 p79 n81 c80 lC, .row 3 1 p85 n87 c86 lD, .row 3 1 p91 n93 c92 lE, .any (mapE (fun a : List UInt8 => Value.string (gstr a)) (fun a : Int => Value.int .i64 a) ba m2_94), .blk B2 (.cells #[.int .i64 e.Points, .bool e.Monoid, .slice aY e.Gens.length aZ, .slice az e.Elems.length aA, .slice ao e.Prefix.length ap, .slice aW e.Last.length aX, .slice aB e.Right.length aC, .slice aD e.Rules.length aE, .int .i64 e.Done] 29 (0, 0))]) w) H ⟨Aj, Ak, Al, zN, zO, zP, zQ, zh, zi, zj, zk, yI, Am, Ao, Ap, zR, zS, zT, zU, zl, zV, zW, zX, zm, Cw, Cx, Cy, Bt, Bu, Bv, Bw, Bf, Bx, By, Bz, Bg, ⟨rfl, rfl, trivial⟩, hO, tI, rT, qK, tJ, rU, rV, vk, uV, uW, ah, ae, ad, ai, af, ag, hB⟩ ?_
    intro X2
    refine prE fun k2_37 => prE fun b2_38 => prE fun k2_39 => prE fun d_40 => prE fun d_46 => prE fun d_52 => prE fun d_58 => prE fun d_64 => prE fun d_70 => prE fun d_76 => prE fun d_82 => prE fun d_88 => fun m2_94 => ?_
    intro H hX2 σ w36
    refine exE fun n45 => exE fun p43 => exE fun c44 => exE fun eQ => exE fun n51 => exE fun p49 => exE fun c50 => exE fun eU => exE fun n57 => exE fun p55 => exE fun c56 => exE fun ly => exE fun n63 => exE fun p61 => exE fun c62 => exE fun lz => exE fun n69 => exE fun p67 => exE fun c68 => exE fun lA => exE fun n75 => exE fun p73 => exE fun c74 => exE fun lB => exE fun n81 => exE fun p79 => exE fun c80 => exE fun lC => exE fun n87 => exE fun p85 => exE fun c86 => exE fun lD => exE fun n93 => exE fun p91 => exE fun c92 => exE fun lE => andE fun hag => andE fun hO => andE fun aP => andE fun aF => andE fun dT => andE fun dU => andE fun dV => andE fun dW => andE fun dX => andE fun dY => andE fun dz => andE fun ah => andE fun ae => andE fun ad => andE fun ai => andE fun af => andE fun ag => fun hB => ?_
    dsimp only at H
    refine Go1.keep [(1, .pointer (some ⟨B2, 0, none⟩)), (4, .pointer (some ⟨jG, 0, none⟩))] hag ?_
    refine Go1.seq ?_
    refine Go1.seq ?_
    refine Go1.drawS 0 [(0, .pure), (1, .pure), (2, .pure), (3, .pure), (4, .stable), (5, .pure), (6, .stable), (7, .pure)] mixed (by kernel_rfl) ?_
    intro w95 LG
    have gT := Stp.same hO LG
    replace aP := aP.ch gT.ch
    replace aF := aF.ch gT.ch
    replace dT := dT.ch gT.ch
    replace dU := dU.ch gT.ch
    replace dV := dV.ch gT.ch
    replace dW := dW.ch gT.ch
    replace dX := dX.ch gT.ch
    replace dY := dY.ch gT.ch
    replace dz := dz.ch gT.ch
    replace hO := gT.own
    replace ah := ah.ch gT.ch
    replace ae := ae.ch gT.ch
    replace ad := ad.ch gT.ch
    replace ai := ai.ch gT.ch
    replace af := af.ch gT.ch
    replace ag := ag.ch gT.ch
    replace hB := hB.trans gT.fr
    refine GoQ.pure rfl (op_move rfl) rfl rfl ?_
    refine GoQ.pure rfl (op_nilCheck rfl) rfl rfl ?_
    refine GoQ.pure rfl (op_fieldAddr Try.underlying72 rfl ti29 rfl (by decide)) rfl rfl ?_
    refine GoQ.pure rfl (op_fieldAddr Try.underlying29 rfl ti3 rfl (by decide)) rfl rfl ?_
    refine GoQ.stable rfl (oblk (i := 8) 0 hO rfl rfl Try.underlying3 rfl rfl) rfl rfl ?_
    refine GoQ.pure rfl (op_fieldAddr Try.underlying29 rfl ti3 rfl (by decide)) rfl rfl ?_
    refine GoQ.stable rfl (oblk (i := 8) 11 hO rfl rfl Try.underlying3 rfl rfl) rfl rfl ?_
    by_cases h98 : k2_39 < e.Done
    ·replace H := ifp h98 H
     refine GoQ.pure rfl (fun w => opB (op_lss rfl rfl w) (decide_eq_true h98)) rfl rfl ?_
     refine GoQ.nil ?_
     refine Go1.condT rfl rfl ?_
     refine Go1.skip ?_
     refine Go1.block ?_
     refine Go1.seq ?_
     refine Go1.region ?_
     refine GoR.op ((op_move rfl) _) rfl rfl ?_
     refine GoR.inl (vs := [.pointer (some ⟨jG, 0, none⟩)]) (caps := []) rfl rfl body50 Try.func50 rfl Try.ntmps50 rfl rfl rfl ?_
     intro RhR99 hR99
     refine Go1.seq ?_
     refine Go1.region ?_
     refine GoR.op ((op_assign rfl) _) rfl rfl ?_
     refine GoR.nil ?_
     refine Go1.seq ?_
     refine Go1.drawS 0 [(0, .pure), (1, .pure), (2, .pure), (3, .pure), (4, .stable), (5, .pure), (6, .pure), (7, .pure), (8, .pure), (9, .stable), (10, .pure), (11, .pure), (12, .pure)] mixed (by kernel_rfl) ?_
     intro Bh Je
     have nG := Stp.same hO Je
     replace aP := aP.ch nG.ch
     replace aF := aF.ch nG.ch
     replace dT := dT.ch nG.ch
     replace dU := dU.ch nG.ch
     replace dV := dV.ch nG.ch
     replace dW := dW.ch nG.ch
     replace dX := dX.ch nG.ch
     replace dY := dY.ch nG.ch
     replace dz := dz.ch nG.ch
     replace hO := nG.own
     replace ah := ah.ch nG.ch
     replace ae := ae.ch nG.ch
     replace ad := ad.ch nG.ch
     replace ai := ai.ch nG.ch
     replace af := af.ch nG.ch
     replace ag := ag.ch nG.ch
     replace hB := hB.trans nG.fr
     refine GoQ.pure rfl (op_move rfl) rfl rfl ?_
     refine GoQ.pure rfl (op_nilCheck rfl) rfl rfl ?_
     refine GoQ.pure rfl (op_fieldAddr Try.underlying72 rfl ti29 rfl (by decide)) rfl rfl ?_
     refine GoQ.pure rfl (op_fieldAddr Try.underlying29 rfl ti3 rfl (by decide)) rfl rfl ?_
     refine GoQ.stable rfl (oblk (i := 8) 0 hO rfl rfl Try.underlying3 rfl rfl) rfl rfl ?_
     refine GoQ.pure rfl (op_move rfl) rfl rfl ?_
     refine GoQ.pure rfl (op_nilCheck rfl) rfl rfl ?_
     refine GoQ.pure rfl (op_fieldAddr Try.underlying72 rfl ti29 rfl (by decide)) rfl rfl ?_
     refine GoQ.pure rfl (op_fieldAddr Try.underlying29 rfl ti22 rfl (by decide)) rfl rfl ?_
     refine GoQ.stable rfl (oblk (i := 3) 0 hO rfl rfl Try.underlying22 rfl rfl) rfl rfl ?_
     refine GoQ.pure rfl (op_lenN Try.underlying22 rfl (aF.neq hO 2 rfl)) rfl rfl ?_
     by_cases xP : k2_39 = (d_46.length : Int)
     ·replace H := ifp xP H
      refine GoQ.pure rfl (fun w => opB (op_eql rfl rfl w) (decide_eq_true xP)) rfl rfl ?_
      refine GoQ.pure rfl (op_assign rfl) rfl rfl ?_
      refine GoQ.nil ?_
      refine Go1.ret1V Try.func50 rfl (show _ = .bool true from rfl) ?_
      refine hR99 _ _ ?_
      refine GoR.op ((op_move rfl) _) rfl rfl ?_
      refine GoR.pass rfl rfl ?_
      refine GoR.pass rfl rfl ?_
      refine GoR.pass rfl rfl ?_
      refine GoR.op ((op_pickT rfl rfl rfl) _) rfl rfl ?_
      refine GoR.nil ?_
      refine Go1.condT rfl rfl ?_
      refine Go1.seq ?_
      refine Go1.cut [] trivial ?_
      intro σ _
      refine Go1.region ?_
      refine GoR.op ((op_assign rfl) _) rfl rfl ?_
      refine GoR.op ((op_assign rfl) _) rfl rfl ?_
      refine GoR.nil ?_
      refine Go1.ret2 Try.func53 rfl ?_
      exact Or.inl ⟨false, rfl, hB.same, H⟩
     replace H := ifn xP H
     refine GoQ.pure rfl (fun w => opB (op_eql rfl rfl w) (decide_eq_false xP)) rfl rfl ?_
     refine GoQ.pure rfl (op_assign rfl) rfl rfl ?_
     refine GoQ.nil ?_
     refine Go1.ret1V Try.func50 rfl (show _ = .bool false from rfl) ?_
     refine hR99 _ _ ?_
     refine GoR.op ((op_move rfl) _) rfl rfl ?_
     refine GoR.op ((op_move rfl) _) rfl rfl ?_
     have Ei : Owns w0.heap.size Bh ([.blk jG (.cells #[.int .i64 k2_37, .bool b2_38, .slice p43 n45 c44, .slice p49 n51 c50, .slice p55 n57 c56, .slice p61 n63 c62, .slice p67 n69 c68, .slice p73 n75 c74, .int .i64 k2_39, .map (some ba), .slice p79 n81 c80, .slice p85 n87 c86, .slice p91 n93 c92] 72 (0, 0)), .row 26 1 p43 n45 c44 eQ, .row 26 1 p49 n51 c50 eU, .row 3 1 p55 n57 c56 ly, .row 3 1 p61 n63 c62 lz, .row 26 1 p67 n69 c68 lA, .row 39 2 p73 n75 c74 lB, .row 9 1 p79 n81 c80 lC, .row 3 1 p85 n87 c86 lD, .row 3 1 p91 n93 c92 lE, .any (mapE (fun a : List UInt8 => Value.string (gstr a)) (fun a : Int => Value.int .i64 a) ba m2_94)] ++ [.blk B2 (.cells #[.int .i64 e.Points, .bool e.Monoid, .slice aY e.Gens.length aZ, .slice az e.Elems.length aA, .slice ao e.Prefix.length ap, .slice aW e.Last.length aX, .slice aB e.Right.length aC, .slice aD e.Rules.length aE, .int .i64 e.Done] 29 (0, 0))]) A := hO
     have Jf := Owns.split Ei
     have hca106 : Ch (bl [.blk jG (.cells #[.int .i64 k2_37, .bool b2_38, .slice p43 n45 c44, .slice p49 n51 c50, .slice p55 n57 c56, .slice p61 n63 c62, .slice p67 n69 c68, .slice p73 n75 c74, .int .i64 k2_39, .map (some ba), .slice p79 n81 c80, .slice p85 n87 c86, .slice p91 n93 c92] 72 (0, 0)), .row 26 1 p43 n45 c44 eQ, .row 26 1 p49 n51 c50 eU, .row 3 1 p55 n57 c56 ly, .row 3 1 p61 n63 c62 lz, .row 26 1 p67 n69 c68 lA, .row 39 2 p73 n75 c74 lB, .row 9 1 p79 n81 c80 lC, .row 3 1 p85 n87 c86 lD, .row 3 1 p91 n93 c92 lE, .any (mapE (fun a : List UInt8 => Value.string (gstr a)) (fun a : Int => Value.int .i64 a) ba m2_94), .blk B2 (.cells #[.int .i64 e.Points, .bool e.Monoid, .slice aY e.Gens.length aZ, .slice az e.Elems.length aA, .slice ao e.Prefix.length ap, .slice aW e.Last.length aX, .slice aB e.Right.length aC, .slice aD e.Rules.length aE, .int .i64 e.Done] 29 (0, 0))] ++ A) Bh (bl [.blk jG (.cells #[.int .i64 k2_37, .bool b2_38, .slice p43 n45 c44, .slice p49 n51 c50, .slice p55 n57 c56, .slice p61 n63 c62, .slice p67 n69 c68, .slice p73 n75 c74, .int .i64 k2_39, .map (some ba), .slice p79 n81 c80, .slice p85 n87 c86, .slice p91 n93 c92] 72 (0, 0)), .row 26 1 p43 n45 c44 eQ, .row 26 1 p49 n51 c50 eU, .row 3 1 p55 n57 c56 ly, .row 3 1 p61 n63 c62 lz, .row 26 1 p67 n69 c68 lA, .row 39 2 p73 n75 c74 lB, .row 9 1 p79 n81 c80 lC, .row 3 1 p85 n87 c86 lD, .row 3 1 p91 n93 c92 lE, .any (mapE (fun a : List UInt8 => Value.string (gstr a)) (fun a : Int => Value.int .i64 a) ba m2_94)] ++ (bl [.blk B2 (.cells #[.int .i64 e.Points, .bool e.Monoid, .slice aY e.Gens.length aZ, .slice az e.Elems.length aA, .slice ao e.Prefix.length ap, .slice aW e.Last.length aX, .slice aB e.Right.length aC, .slice aD e.Rules.length aE, .int .i64 e.Done] 29 (0, 0))] ++ A)) Bh := Ch.assoc' [.blk jG (.cells #[.int .i64 k2_37, .bool b2_38, .slice p43 n45 c44, .slice p49 n51 c50, .slice p55 n57 c56, .slice p61 n63 c62, .slice p67 n69 c68, .slice p73 n75 c74, .int .i64 k2_39, .map (some ba), .slice p79 n81 c80, .slice p85 n87 c86, .slice p91 n93 c92] 72 (0, 0)), .row 26 1 p43 n45 c44 eQ, .row 26 1 p49 n51 c50 eU, .row 3 1 p55 n57 c56 ly, .row 3 1 p61 n63 c62 lz, .row 26 1 p67 n69 c68 lA, .row 39 2 p73 n75 c74 lB, .row 9 1 p79 n81 c80 lC, .row 3 1 p85 n87 c86 lD, .row 3 1 p91 n93 c92 lE, .any (mapE (fun a : List UInt8 => Value.string (gstr a)) (fun a : Int => Value.int .i64 a) ba m2_94)] [.blk B2 (.cells #[.int .i64 e.Points, .bool e.Monoid, .slice aY e.Gens.length aZ, .slice az e.Elems.length aA, .slice ao e.Prefix.length ap, .slice aW e.Last.length aX, .slice aB e.Right.length aC, .slice aD e.Rules.length aE, .int .i64 e.Done] 29 (0, 0))] A Bh
     refine GoR.call (op_call body51 rfl (walk_enumerate_run_process (a0 := (⟨(⟨k2_37, b2_38, d_40, d_46, d_52, d_58, d_64, d_70, k2_39⟩ : Enum), m2_94, d_76, d_82, d_88⟩ : run)) Jf (aP.ch hca106) (aF.ch hca106) (dT.ch hca106) (dU.ch hca106) (dV.ch hca106) (dW.ch hca106) (dX.ch hca106) (dY.ch hca106) (dz.ch hca106) H)) rfl rfl ?_
     intro PS z7
     refine exE fun r107 => exE fun q108 => exE fun iX => exE fun iY => exE fun iZ => exE fun oR => exE fun g8 => exE fun g9 => exE fun hV => exE fun nH => exE fun gG => exE fun gH => exE fun gI => exE fun m6 => exE fun i4 => exE fun i5 => exE fun i6 => exE fun oS => exE fun hZ => exE fun ia => exE fun ib => exE fun nI => exE fun ic => exE fun ie => exE fun ig => exE fun nJ => exE fun mq => exE fun mr => exE fun ms => exE fun sR => exE fun kQ => exE fun kS => exE fun kT => exE fun rc => exE fun kU => exE fun kV => exE fun kW => exE fun rf => andE fun hv114 => andE fun hN111 => andE fun ug => andE fun tW => andE fun tf => andE fun uh => andE fun tX => andE fun tY => andE fun vD => andE fun u6 => andE fun u7 => andE fun hF112 => fun H => ?_
     subst hv114
     have vz : Stp w0.heap.size A Bh [.blk jG (.cells #[.int .i64 k2_37, .bool b2_38, .slice p43 n45 c44, .slice p49 n51 c50, .slice p55 n57 c56, .slice p61 n63 c62, .slice p67 n69 c68, .slice p73 n75 c74, .int .i64 k2_39, .map (some ba), .slice p79 n81 c80, .slice p85 n87 c86, .slice p91 n93 c92] 72 (0, 0)), .row 26 1 p43 n45 c44 eQ, .row 26 1 p49 n51 c50 eU, .row 3 1 p55 n57 c56 ly, .row 3 1 p61 n63 c62 lz, .row 26 1 p67 n69 c68 lA, .row 39 2 p73 n75 c74 lB, .row 9 1 p79 n81 c80 lC, .row 3 1 p85 n87 c86 lD, .row 3 1 p91 n93 c92 lE, .any (mapE (fun a : List UInt8 => Value.string (gstr a)) (fun a : Int => Value.int .i64 a) ba m2_94), .blk B2 (.cells #[.int .i64 e.Points, .bool e.Monoid, .slice aY e.Gens.length aZ, .slice az e.Elems.length aA, .slice ao e.Prefix.length ap, .slice aW e.Last.length aX, .slice aB e.Right.length aC, .slice aD e.Rules.length aE, .int .i64 e.Done] 29 (0, 0))] z7 [.blk jG (.cells #[.int .i64 q108.Enum.Points, .bool q108.Enum.Monoid, .slice iY iX iZ, .slice g9 g8 hV, .slice gH gG gI, .slice i5 i4 i6, .slice ia hZ ib, .slice ie ic ig, .int .i64 q108.Enum.Done, .map (some ba), .slice mr mq ms, .slice kS kQ kT, .slice kV kU kW] 72 (0, 0)), .row 26 1 iY iX iZ oR, .row 26 1 g9 g8 hV nH, .row 3 1 gH gG gI m6, .row 3 1 i5 i4 i6 oS, .row 26 1 ia hZ ib nI, .row 39 2 ie ic ig nJ, .row 9 1 mr mq ms sR, .row 3 1 kS kQ kT rc, .row 3 1 kV kU kW rf, .any (mapE (fun a : List UInt8 => Value.string (gstr a)) (fun a : Int => Value.int .i64 a) ba q108.number), .blk B2 (.cells #[.int .i64 e.Points, .bool e.Monoid, .slice aY e.Gens.length aZ, .slice az e.Elems.length aA, .slice ao e.Prefix.length ap, .slice aW e.Last.length aX, .slice aB e.Right.length aC, .slice aD e.Rules.length aE, .int .i64 e.Done] 29 (0, 0))] := Stp.join Ei hN111 hF112
     replace hO := vz.own
     replace ah := ah.ch vz.ch
     replace ae := ae.ch vz.ch
     replace ad := ad.ch vz.ch
     replace ai := ai.ch vz.ch
     replace af := af.ch vz.ch
     replace ag := ag.ch vz.ch
     replace hB := hB.trans vz.fr
     have hca115 : Ch (bl [.blk jG (.cells #[.int .i64 q108.Enum.Points, .bool q108.Enum.Monoid, .slice iY iX iZ, .slice g9 g8 hV, .slice gH gG gI, .slice i5 i4 i6, .slice ia hZ ib, .slice ie ic ig, .int .i64 q108.Enum.Done, .map (some ba), .slice mr mq ms, .slice kS kQ kT, .slice kV kU kW] 72 (0, 0)), .row 26 1 iY iX iZ oR, .row 26 1 g9 g8 hV nH, .row 3 1 gH gG gI m6, .row 3 1 i5 i4 i6 oS, .row 26 1 ia hZ ib nI, .row 39 2 ie ic ig nJ, .row 9 1 mr mq ms sR, .row 3 1 kS kQ kT rc, .row 3 1 kV kU kW rf, .any (mapE (fun a : List UInt8 => Value.string (gstr a)) (fun a : Int => Value.int .i64 a) ba q108.number)] ++ (bl [.blk B2 (.cells #[.int .i64 e.Points, .bool e.Monoid, .slice aY e.Gens.length aZ, .slice az e.Elems.length aA, .slice ao e.Prefix.length ap, .slice aW e.Last.length aX, .slice aB e.Right.length aC, .slice aD e.Rules.length aE, .int .i64 e.Done] 29 (0, 0))] ++ A)) z7 (bl [.blk jG (.cells #[.int .i64 q108.Enum.Points, .bool q108.Enum.Monoid, .slice iY iX iZ, .slice g9 g8 hV, .slice gH gG gI, .slice i5 i4 i6, .slice ia hZ ib, .slice ie ic ig, .int .i64 q108.Enum.Done, .map (some ba), .slice mr mq ms, .slice kS kQ kT, .slice kV kU kW] 72 (0, 0)), .row 26 1 iY iX iZ oR, .row 26 1 g9 g8 hV nH, .row 3 1 gH gG gI m6, .row 3 1 i5 i4 i6 oS, .row 26 1 ia hZ ib nI, .row 39 2 ie ic ig nJ, .row 9 1 mr mq ms sR, .row 3 1 kS kQ kT rc, .row 3 1 kV kU kW rf, .any (mapE (fun a : List UInt8 => Value.string (gstr a)) (fun a : Int => Value.int .i64 a) ba q108.number), .blk B2 (.cells #[.int .i64 e.Points, .bool e.Monoid, .slice aY e.Gens.length aZ, .slice az e.Elems.length aA, .slice ao e.Prefix.length ap, .slice aW e.Last.length aX, .slice aB e.Right.length aC, .slice aD e.Rules.length aE, .int .i64 e.Done] 29 (0, 0))] ++ A) z7 := Ch.assoc [.blk jG (.cells #[.int .i64 q108.Enum.Points, .bool q108.Enum.Monoid, .slice iY iX iZ, .slice g9 g8 hV, .slice gH gG gI, .slice i5 i4 i6, .slice ia hZ ib, .slice ie ic ig, .int .i64 q108.Enum.Done, .map (some ba), .slice mr mq ms, .slice kS kQ kT, .slice kV kU kW] 72 (0, 0)), .row 26 1 iY iX iZ oR, .row 26 1 g9 g8 hV nH, .row 3 1 gH gG gI m6, .row 3 1 i5 i4 i6 oS, .row 26 1 ia hZ ib nI, .row 39 2 ie ic ig nJ, .row 9 1 mr mq ms sR, .row 3 1 kS kQ kT rc, .row 3 1 kV kU kW rf, .any (mapE (fun a : List UInt8 => Value.string (gstr a)) (fun a : Int => Value.int .i64 a) ba q108.number)] [.blk B2 (.cells #[.int .i64 e.Points, .bool e.Monoid, .slice aY e.Gens.length aZ, .slice az e.Elems.length aA, .slice ao e.Prefix.length ap, .slice aW e.Last.length aX, .slice aB e.Right.length aC, .slice aD e.Rules.length aE, .int .i64 e.Done] 29 (0, 0))] A z7
     replace ug := ug.ch hca115
     replace tW := tW.ch hca115
     replace tf := tf.ch hca115
     replace uh := uh.ch hca115
     replace tX := tX.ch hca115
     replace tY := tY.ch hca115
     replace vD := vD.ch hca115
     replace u6 := u6.ch hca115
     replace u7 := u7.ch hca115
     by_cases uR : r107 = (0 : Int)
     ·replace H := ifp uR H
      refine GoR.op ((fun w => opB (op_neq rfl rfl w) (ndT uR)) _) rfl rfl ?_
      refine GoR.op ((op_pickF rfl rfl rfl) _) rfl rfl ?_
      refine GoR.nil ?_
      refine Go1.condF rfl rfl ?_
      refine Go1.skip ?_
      refine Go1.inBlock ?_
      exact hX2 _ H _ _ ⟨iX, iY, iZ, oR, g8, g9, hV, nH, gG, gH, gI, m6, i4, i5, i6, oS, hZ, ia, ib, nI, ic, ie, ig, nJ, mq, mr, ms, sR, kQ, kS, kT, rc, kU, kV, kW, rf, ⟨rfl, rfl, trivial⟩, hO, ug, tW, tf, uh, tX, tY, vD, u6, u7, ah, ae, ad, ai, af, ag, hB⟩
     replace H := ifn uR H
     refine GoR.op ((fun w => opB (op_neq rfl rfl w) (ndF uR)) _) rfl rfl ?_
     refine GoR.op ((op_pickF rfl rfl rfl) _) rfl rfl ?_
     refine GoR.nil ?_
     refine Go1.condT rfl rfl ?_
     refine Go1.seq ?_
     refine Go1.region ?_
     refine GoR.op ((op_assign rfl) _) rfl rfl ?_
     refine GoR.op ((op_assign rfl) _) rfl rfl ?_
     refine GoR.nil ?_
     refine Go1.ret2 Try.func53 rfl ?_
     exact Or.inl ⟨false, rfl, hB.same, H⟩
    replace H := ifn h98 H
    refine GoQ.pure rfl (fun w => opB (op_lss rfl rfl w) (decide_eq_false h98)) rfl rfl ?_
    refine GoQ.nil ?_
    refine Go1.condF rfl rfl ?_
    refine Go1.exit rfl ?_
    refine Go1.seq ?_
    refine Go1.region ?_
    refine GoR.op ((op_move rfl) _) rfl rfl ?_
    refine GoR.op ((op_move rfl) _) rfl rfl ?_
    refine GoR.op ((oblkAgg (vs := [.int .i64 e.Points, .bool e.Monoid, .slice aY e.Gens.length aZ, .slice az e.Elems.length aA, .slice ao e.Prefix.length ap, .slice aW e.Last.length aX, .slice aB e.Right.length aC, .slice aD e.Rules.length aE, .int .i64 e.Done]) (i := 0) 11 hO rfl rfl Try.underlying29 rfl ti29 rfl) _ (Same.refl _)) rfl rfl ?_
    refine GoR.inl (vs := [.pointer (some ⟨jG, 0, none⟩), .agg #[.int .i64 e.Points, .bool e.Monoid, .slice aY e.Gens.length aZ, .slice az e.Elems.length aA, .slice ao e.Prefix.length ap, .slice aW e.Last.length aX, .slice aB e.Right.length aC, .slice aD e.Rules.length aE, .int .i64 e.Done]]) (caps := []) rfl rfl body68 Try.func68 rfl Try.ntmps68 rfl rfl rfl ?_
    intro RhR117 hR117
    refine Go1.seq ?_
    refine Go1.region ?_
    have hobt := obox (t := 29) (v := .agg #[.int .i64 e.Points, .bool e.Monoid, .slice aY e.Gens.length aZ, .slice az e.Elems.length aA, .slice ao e.Prefix.length ap, .slice aW e.Last.length aX, .slice aB e.Right.length aC, .slice aD e.Rules.length aE, .int .i64 e.Done]) (cs := #[.int .i64 e.Points, .bool e.Monoid, .slice aY e.Gens.length aZ, .slice az e.Elems.length aA, .slice ao e.Prefix.length ap, .slice aW e.Last.length aX, .slice aB e.Right.length aC, .slice aD e.Rules.length aE, .int .i64 e.Done]) hO rfl
    obtain ⟨Aq, B119, gJ, MW, Gs⟩ := hobt
    refine GoR.op (Gs rfl) rfl rfl ?_
    replace aP := aP.ch gJ.ch
    replace aF := aF.ch gJ.ch
    replace dT := dT.ch gJ.ch
    replace dU := dU.ch gJ.ch
    replace dV := dV.ch gJ.ch
    replace dW := dW.ch gJ.ch
    replace dX := dX.ch gJ.ch
    replace dY := dY.ch gJ.ch
    replace dz := dz.ch gJ.ch
    replace hO := gJ.own
    replace ah := ah.ch gJ.ch
    replace ae := ae.ch gJ.ch
    replace ad := ad.ch gJ.ch
    replace ai := ai.ch gJ.ch
    replace af := af.ch gJ.ch
    replace ag := ag.ch gJ.ch
    replace hB := hB.trans gJ.fr
    refine GoR.op ((op_assign rfl) _) rfl rfl ?_
    refine GoR.nil ?_
    refine Go1.seq ?_
    refine Go1.drawS 0 [(0, .pure), (1, .pure), (2, .pure), (3, .pure), (4, .stable), (5, .pure), (6, .stable), (7, .pure), (8, .pure), (9, .pure), (10, .pure), (11, .pure), (12, .pure), (13, .stable), (14, .pure), (15, .stable), (16, .pure), (17, .pure), (18, .pure), (19, .pure), (20, .pure), (21, .pure), (22, .pure), (23, .stable), (24, .pure), (25, .stable), (26, .loud), (27, .pure), (28, .pure), (29, .pure), (30, .pure), (31, .pure), (32, .pure), (33, .stable), (34, .pure), (35, .stable), (36, .loud), (37, .pure), (38, .pure), (39, .pure), (40, .pure), (41, .pure), (42, .pure), (43, .stable), (44, .pure), (45, .stable), (46, .loud), (47, .pure), (48, .pure), (49, .pure), (50, .pure), (51, .pure), (52, .pure), (53, .stable), (54, .pure), (55, .stable), (56, .loud), (57, .pure), (58, .pure), (59, .pure), (60, .pure), (61, .pure), (62, .pure), (63, .stable), (64, .pure), (65, .stable), (66, .loud), (67, .pure), (68, .pure)] mixed (by kernel_rfl) ?_
    intro PT Jg
    have nK := Stp.same hO Jg
    replace aP := aP.ch nK.ch
    replace aF := aF.ch nK.ch
    replace dT := dT.ch nK.ch
    replace dU := dU.ch nK.ch
    replace dV := dV.ch nK.ch
    replace dW := dW.ch nK.ch
    replace dX := dX.ch nK.ch
    replace dY := dY.ch nK.ch
    replace dz := dz.ch nK.ch
    replace hO := nK.own
    replace ah := ah.ch nK.ch
    replace ae := ae.ch nK.ch
    replace ad := ad.ch nK.ch
    replace ai := ai.ch nK.ch
    replace af := af.ch nK.ch
    replace ag := ag.ch nK.ch
    replace hB := hB.trans nK.fr
    refine GoQ.pure rfl (op_move rfl) rfl rfl ?_
    refine GoQ.pure rfl (op_nilCheck rfl) rfl rfl ?_
    refine GoQ.pure rfl (op_fieldAddr Try.underlying72 rfl ti29 rfl (by decide)) rfl rfl ?_
    refine GoQ.pure rfl (op_fieldAddr Try.underlying29 rfl ti3 rfl (by decide)) rfl rfl ?_
    refine GoQ.stable rfl (oblk (i := 0) 1 hO rfl rfl Try.underlying3 rfl rfl) rfl rfl ?_
    refine GoQ.pure rfl (op_fieldAddr Try.underlying29 rfl ti3 rfl (by decide)) rfl rfl ?_
    refine GoQ.stable rfl (oblk (i := 0) 0 hO rfl rfl Try.underlying3 rfl rfl) rfl rfl ?_
    by_cases Cz : k2_37 = e.Points
    ·replace H := ifp Cz H
     refine GoQ.pure rfl (fun w => opB (op_eql rfl rfl w) (decide_eq_true Cz)) rfl rfl ?_
     refine GoQ.pure rfl (op_move rfl) rfl rfl ?_
     refine GoQ.pure rfl (op_move rfl) rfl rfl ?_
     refine GoQ.pure rfl (op_nilCheck rfl) rfl rfl ?_
     refine GoQ.pure rfl (op_fieldAddr Try.underlying72 rfl ti29 rfl (by decide)) rfl rfl ?_
     refine GoQ.pure rfl (op_fieldAddr Try.underlying29 rfl ti3 rfl (by decide)) rfl rfl ?_
     refine GoQ.stable rfl (oblk (i := 8) 1 hO rfl rfl Try.underlying3 rfl rfl) rfl rfl ?_
     refine GoQ.pure rfl (op_fieldAddr Try.underlying29 rfl ti3 rfl (by decide)) rfl rfl ?_
     refine GoQ.stable rfl (oblk (i := 8) 0 hO rfl rfl Try.underlying3 rfl rfl) rfl rfl ?_
     by_cases CA : k2_39 = e.Done
     ·replace H := ifp CA H
      refine GoQ.pure rfl (fun w => opB (op_eql rfl rfl w) (decide_eq_true CA)) rfl rfl ?_
      refine GoQ.pure rfl (op_pickT rfl rfl rfl) rfl rfl ?_
      refine GoQ.pure rfl (op_move rfl) rfl rfl ?_
      refine GoQ.pure rfl (op_move rfl) rfl rfl ?_
      refine GoQ.pure rfl (op_nilCheck rfl) rfl rfl ?_
      refine GoQ.pure rfl (op_fieldAddr Try.underlying72 rfl ti29 rfl (by decide)) rfl rfl ?_
      refine GoQ.pure rfl (op_fieldAddr Try.underlying29 rfl ti22 rfl (by decide)) rfl rfl ?_
      refine GoQ.stable rfl (oblk (i := 3) 1 hO rfl rfl Try.underlying22 rfl rfl) rfl rfl ?_
      refine GoQ.pure rfl (op_fieldAddr Try.underlying29 rfl ti22 rfl (by decide)) rfl rfl ?_
      refine GoQ.stable rfl (oblk (i := 3) 0 hO rfl rfl Try.underlying22 rfl rfl) rfl rfl ?_
      have hobt := rowlend 3 hO rfl aF
      obtain ⟨Jh, Ji⟩ := hobt
      have hOc131 := hO.drop 3
      refine GoQ.call rfl (op_call body69 (show ([.slice p49 n51 c50, .slice az e.Elems.length aA, .func (.func 70) #[] #[]] : List Value) = [.slice p49 d_46.length c50, .slice az e.Elems.length aA, .func (.func 70) #[] #[]] from by rw [← Ji]) (walk_slices_EqualFunc_int hOc131.lt Jh (ae.ch (Owns.dropCh _ _ 3)) H)) (fun v w hr => by obtain ⟨_, _, hs, _⟩ := hr; assumption) rfl rfl ?_
      rintro PU PV ⟨r132, rfl, Jj, H⟩
      have nM := Stp.same hO Jj
      replace aP := aP.ch nM.ch
      replace aF := aF.ch nM.ch
      replace dT := dT.ch nM.ch
      replace dU := dU.ch nM.ch
      replace dV := dV.ch nM.ch
      replace dW := dW.ch nM.ch
      replace dX := dX.ch nM.ch
      replace dY := dY.ch nM.ch
      replace dz := dz.ch nM.ch
      replace hO := nM.own
      replace ah := ah.ch nM.ch
      replace ae := ae.ch nM.ch
      replace ad := ad.ch nM.ch
      replace ai := ai.ch nM.ch
      replace af := af.ch nM.ch
      replace ag := ag.ch nM.ch
      replace hB := hB.trans nM.fr
      refine GoQ.pure rfl (op_pickT rfl rfl rfl) rfl rfl ?_
      refine GoQ.pure rfl (op_move rfl) rfl rfl ?_
      cases r132
      ·replace H := ifn Bool.false_ne_true H
       refine GoQ.pass rfl rfl rfl ?_
       refine GoQ.pass rfl rfl rfl ?_
       refine GoQ.pass rfl rfl rfl ?_
       refine GoQ.pass rfl rfl rfl ?_
       refine GoQ.pass rfl rfl rfl ?_
       refine GoQ.pass rfl rfl rfl ?_
       refine GoQ.pass rfl rfl rfl ?_
       refine GoQ.pass rfl rfl rfl ?_
       refine GoQ.pure rfl (op_pickF rfl rfl rfl) rfl rfl ?_
       refine GoQ.pure rfl (op_move rfl) rfl rfl ?_
       refine GoQ.pass rfl rfl rfl ?_
       refine GoQ.pass rfl rfl rfl ?_
       refine GoQ.pass rfl rfl rfl ?_
       refine GoQ.pass rfl rfl rfl ?_
       refine GoQ.pass rfl rfl rfl ?_
       refine GoQ.pass rfl rfl rfl ?_
       refine GoQ.pass rfl rfl rfl ?_
       refine GoQ.pass rfl rfl rfl ?_
       refine GoQ.pure rfl (op_pickF rfl rfl rfl) rfl rfl ?_
       refine GoQ.pure rfl (op_move rfl) rfl rfl ?_
       refine GoQ.pass rfl rfl rfl ?_
       refine GoQ.pass rfl rfl rfl ?_
       refine GoQ.pass rfl rfl rfl ?_
       refine GoQ.pass rfl rfl rfl ?_
       refine GoQ.pass rfl rfl rfl ?_
       refine GoQ.pass rfl rfl rfl ?_
       refine GoQ.pass rfl rfl rfl ?_
       refine GoQ.pass rfl rfl rfl ?_
       refine GoQ.pure rfl (op_pickF rfl rfl rfl) rfl rfl ?_
       refine GoQ.pure rfl (op_move rfl) rfl rfl ?_
       refine GoQ.pass rfl rfl rfl ?_
       refine GoQ.pass rfl rfl rfl ?_
       refine GoQ.pass rfl rfl rfl ?_
       refine GoQ.pass rfl rfl rfl ?_
       refine GoQ.pass rfl rfl rfl ?_
       refine GoQ.pass rfl rfl rfl ?_
       refine GoQ.pass rfl rfl rfl ?_
       refine GoQ.pass rfl rfl rfl ?_
       refine GoQ.pure rfl (op_pickF rfl rfl rfl) rfl rfl ?_
       refine GoQ.pure rfl (op_assign rfl) rfl rfl ?_
       refine GoQ.nil ?_
       refine Go1.ret1V Try.func68 rfl (show _ = .bool false from rfl) ?_
       refine hR117 _ _ ?_
       refine GoR.op ((op_assign rfl) _) rfl rfl ?_
       refine GoR.op ((op_assign rfl) _) rfl rfl ?_
       refine GoR.nil ?_
       replace ah := ah.ch (Owns.dropCh _ _ 0)
       replace ae := ae.ch (Owns.dropCh _ _ 0)
       replace ad := ad.ch (Owns.dropCh _ _ 0)
       replace ai := ai.ch (Owns.dropCh _ _ 0)
       replace af := af.ch (Owns.dropCh _ _ 0)
       replace ag := ag.ch (Owns.dropCh _ _ 0)
       replace aP := aP.ch (Owns.dropCh _ _ 0)
       replace aF := aF.ch (Owns.dropCh _ _ 0)
       replace dT := dT.ch (Owns.dropCh _ _ 0)
       replace dU := dU.ch (Owns.dropCh _ _ 0)
       replace dV := dV.ch (Owns.dropCh _ _ 0)
       replace dW := dW.ch (Owns.dropCh _ _ 0)
       replace dX := dX.ch (Owns.dropCh _ _ 0)
       replace dY := dY.ch (Owns.dropCh _ _ 0)
       replace dz := dz.ch (Owns.dropCh _ _ 0)
       replace hB := hB.trans (Owns.dropFr _ _ 0)
       replace hO := hO.drop 0
       dsimp only [eS, eZ] at hB hO ah ae ad ai af ag aP aF dT dU dV dW dX dY dz
       replace ah := ah.ch (Owns.dropCh _ _ 11)
       replace ae := ae.ch (Owns.dropCh _ _ 11)
       replace ad := ad.ch (Owns.dropCh _ _ 11)
       replace ai := ai.ch (Owns.dropCh _ _ 11)
       replace af := af.ch (Owns.dropCh _ _ 11)
       replace ag := ag.ch (Owns.dropCh _ _ 11)
       replace aP := aP.ch (Owns.dropCh _ _ 11)
       replace aF := aF.ch (Owns.dropCh _ _ 11)
       replace dT := dT.ch (Owns.dropCh _ _ 11)
       replace dU := dU.ch (Owns.dropCh _ _ 11)
       replace dV := dV.ch (Owns.dropCh _ _ 11)
       replace dW := dW.ch (Owns.dropCh _ _ 11)
       replace dX := dX.ch (Owns.dropCh _ _ 11)
       replace dY := dY.ch (Owns.dropCh _ _ 11)
       replace dz := dz.ch (Owns.dropCh _ _ 11)
       replace hB := hB.trans (Owns.dropFr _ _ 11)
       replace hO := hO.drop 11
       dsimp only [eS, eZ] at hB hO ah ae ad ai af ag aP aF dT dU dV dW dX dY dz
       refine Go1.ret2 Try.func53 rfl ?_
       exact Or.inr ⟨(⟨(⟨k2_37, b2_38, d_40, d_46, d_52, d_58, d_64, d_70, k2_39⟩ : Enum), m2_94, d_76, d_82, d_88⟩ : run), false, jG, n45, p43, c44, eQ, n51, p49, c50, eU, n57, p55, c56, ly, n63, p61, c62, lz, n69, p67, c68, lA, n75, p73, c74, lB, ba, n81, p79, c80, lC, n87, p85, c86, lD, n93, p91, c92, lE, rfl, hB.same, hO, aP, aF, dT, dU, dV, dW, dX, dY, dz, H⟩
      replace H := ifp rfl H
      refine GoQ.pure rfl (op_move rfl) rfl rfl ?_
      refine GoQ.pure rfl (op_nilCheck rfl) rfl rfl ?_
      refine GoQ.pure rfl (op_fieldAddr Try.underlying72 rfl ti29 rfl (by decide)) rfl rfl ?_
      refine GoQ.pure rfl (op_fieldAddr Try.underlying29 rfl ti26 rfl (by decide)) rfl rfl ?_
      refine GoQ.stable rfl (oblk (i := 4) 1 hO rfl rfl Try.underlying26 rfl rfl) rfl rfl ?_
      refine GoQ.pure rfl (op_fieldAddr Try.underlying29 rfl ti26 rfl (by decide)) rfl rfl ?_
      refine GoQ.stable rfl (oblk (i := 4) 0 hO rfl rfl Try.underlying26 rfl rfl) rfl rfl ?_
      have hobt := rowlend 4 hO rfl dT
      obtain ⟨Jk, Jl⟩ := hobt
      have hOc140 := hO.drop 4
      refine GoQ.call rfl (op_call body70 (show ([.slice p55 n57 c56, .slice ao e.Prefix.length ap] : List Value) = [.slice p55 d_52.length c56, .slice ao e.Prefix.length ap] from by rw [← Jl]) (walk_slices_Equal_int hOc140.lt Jk (ad.ch (Owns.dropCh _ _ 4)) H)) (fun v w hr => by obtain ⟨_, _, hs, _⟩ := hr; assumption) rfl rfl ?_
      rintro PW PX ⟨r141, rfl, Jm, H⟩
      have nN := Stp.same hO Jm
      replace aP := aP.ch nN.ch
      replace aF := aF.ch nN.ch
      replace dT := dT.ch nN.ch
      replace dU := dU.ch nN.ch
      replace dV := dV.ch nN.ch
      replace dW := dW.ch nN.ch
      replace dX := dX.ch nN.ch
      replace dY := dY.ch nN.ch
      replace dz := dz.ch nN.ch
      replace hO := nN.own
      replace ah := ah.ch nN.ch
      replace ae := ae.ch nN.ch
      replace ad := ad.ch nN.ch
      replace ai := ai.ch nN.ch
      replace af := af.ch nN.ch
      replace ag := ag.ch nN.ch
      replace hB := hB.trans nN.fr
      refine GoQ.pure rfl (op_pickT rfl rfl rfl) rfl rfl ?_
      refine GoQ.pure rfl (op_move rfl) rfl rfl ?_
      cases r141
      ·replace H := ifn Bool.false_ne_true H
       refine GoQ.pass rfl rfl rfl ?_
       refine GoQ.pass rfl rfl rfl ?_
       refine GoQ.pass rfl rfl rfl ?_
       refine GoQ.pass rfl rfl rfl ?_
       refine GoQ.pass rfl rfl rfl ?_
       refine GoQ.pass rfl rfl rfl ?_
       refine GoQ.pass rfl rfl rfl ?_
       refine GoQ.pass rfl rfl rfl ?_
       refine GoQ.pure rfl (op_pickF rfl rfl rfl) rfl rfl ?_
       refine GoQ.pure rfl (op_move rfl) rfl rfl ?_
       refine GoQ.pass rfl rfl rfl ?_
       refine GoQ.pass rfl rfl rfl ?_
       refine GoQ.pass rfl rfl rfl ?_
       refine GoQ.pass rfl rfl rfl ?_
       refine GoQ.pass rfl rfl rfl ?_
       refine GoQ.pass rfl rfl rfl ?_
       refine GoQ.pass rfl rfl rfl ?_
       refine GoQ.pass rfl rfl rfl ?_
       refine GoQ.pure rfl (op_pickF rfl rfl rfl) rfl rfl ?_
       refine GoQ.pure rfl (op_move rfl) rfl rfl ?_
       refine GoQ.pass rfl rfl rfl ?_
       refine GoQ.pass rfl rfl rfl ?_
       refine GoQ.pass rfl rfl rfl ?_
       refine GoQ.pass rfl rfl rfl ?_
       refine GoQ.pass rfl rfl rfl ?_
       refine GoQ.pass rfl rfl rfl ?_
       refine GoQ.pass rfl rfl rfl ?_
       refine GoQ.pass rfl rfl rfl ?_
       refine GoQ.pure rfl (op_pickF rfl rfl rfl) rfl rfl ?_
       refine GoQ.pure rfl (op_assign rfl) rfl rfl ?_
       refine GoQ.nil ?_
       refine Go1.ret1V Try.func68 rfl (show _ = .bool false from rfl) ?_
       refine hR117 _ _ ?_
       refine GoR.op ((op_assign rfl) _) rfl rfl ?_
       refine GoR.op ((op_assign rfl) _) rfl rfl ?_
       refine GoR.nil ?_
       replace ah := ah.ch (Owns.dropCh _ _ 0)
       replace ae := ae.ch (Owns.dropCh _ _ 0)
       replace ad := ad.ch (Owns.dropCh _ _ 0)
       replace ai := ai.ch (Owns.dropCh _ _ 0)
       replace af := af.ch (Owns.dropCh _ _ 0)
       replace ag := ag.ch (Owns.dropCh _ _ 0)
       replace aP := aP.ch (Owns.dropCh _ _ 0)
       replace aF := aF.ch (Owns.dropCh _ _ 0)
       replace dT := dT.ch (Owns.dropCh _ _ 0)
       replace dU := dU.ch (Owns.dropCh _ _ 0)
       replace dV := dV.ch (Owns.dropCh _ _ 0)
       replace dW := dW.ch (Owns.dropCh _ _ 0)
       replace dX := dX.ch (Owns.dropCh _ _ 0)
       replace dY := dY.ch (Owns.dropCh _ _ 0)
       replace dz := dz.ch (Owns.dropCh _ _ 0)
       replace hB := hB.trans (Owns.dropFr _ _ 0)
       replace hO := hO.drop 0
       dsimp only [eS, eZ] at hB hO ah ae ad ai af ag aP aF dT dU dV dW dX dY dz
       replace ah := ah.ch (Owns.dropCh _ _ 11)
       replace ae := ae.ch (Owns.dropCh _ _ 11)
       replace ad := ad.ch (Owns.dropCh _ _ 11)
       replace ai := ai.ch (Owns.dropCh _ _ 11)
       replace af := af.ch (Owns.dropCh _ _ 11)
       replace ag := ag.ch (Owns.dropCh _ _ 11)
       replace aP := aP.ch (Owns.dropCh _ _ 11)
       replace aF := aF.ch (Owns.dropCh _ _ 11)
       replace dT := dT.ch (Owns.dropCh _ _ 11)
       replace dU := dU.ch (Owns.dropCh _ _ 11)
       replace dV := dV.ch (Owns.dropCh _ _ 11)
       replace dW := dW.ch (Owns.dropCh _ _ 11)
       replace dX := dX.ch (Owns.dropCh _ _ 11)
       replace dY := dY.ch (Owns.dropCh _ _ 11)
       replace dz := dz.ch (Owns.dropCh _ _ 11)
       replace hB := hB.trans (Owns.dropFr _ _ 11)
       replace hO := hO.drop 11
       dsimp only [eS, eZ] at hB hO ah ae ad ai af ag aP aF dT dU dV dW dX dY dz
       refine Go1.ret2 Try.func53 rfl ?_
       exact Or.inr ⟨(⟨(⟨k2_37, b2_38, d_40, d_46, d_52, d_58, d_64, d_70, k2_39⟩ : Enum), m2_94, d_76, d_82, d_88⟩ : run), false, jG, n45, p43, c44, eQ, n51, p49, c50, eU, n57, p55, c56, ly, n63, p61, c62, lz, n69, p67, c68, lA, n75, p73, c74, lB, ba, n81, p79, c80, lC, n87, p85, c86, lD, n93, p91, c92, lE, rfl, hB.same, hO, aP, aF, dT, dU, dV, dW, dX, dY, dz, H⟩
      replace H := ifp rfl H
      refine GoQ.pure rfl (op_move rfl) rfl rfl ?_
      refine GoQ.pure rfl (op_nilCheck rfl) rfl rfl ?_
      refine GoQ.pure rfl (op_fieldAddr Try.underlying72 rfl ti29 rfl (by decide)) rfl rfl ?_
      refine GoQ.pure rfl (op_fieldAddr Try.underlying29 rfl ti26 rfl (by decide)) rfl rfl ?_
      refine GoQ.stable rfl (oblk (i := 5) 1 hO rfl rfl Try.underlying26 rfl rfl) rfl rfl ?_
      refine GoQ.pure rfl (op_fieldAddr Try.underlying29 rfl ti26 rfl (by decide)) rfl rfl ?_
      refine GoQ.stable rfl (oblk (i := 5) 0 hO rfl rfl Try.underlying26 rfl rfl) rfl rfl ?_
      have hobt := rowlend 5 hO rfl dU
      obtain ⟨Jo, Jp⟩ := hobt
      have hOc149 := hO.drop 5
      refine GoQ.call rfl (op_call body70 (show ([.slice p61 n63 c62, .slice aW e.Last.length aX] : List Value) = [.slice p61 d_58.length c62, .slice aW e.Last.length aX] from by rw [← Jp]) (walk_slices_Equal_int hOc149.lt Jo (ai.ch (Owns.dropCh _ _ 5)) H)) (fun v w hr => by obtain ⟨_, _, hs, _⟩ := hr; assumption) rfl rfl ?_
      rintro PY PZ ⟨r150, rfl, Jq, H⟩
      have nO := Stp.same hO Jq
      replace aP := aP.ch nO.ch
      replace aF := aF.ch nO.ch
      replace dT := dT.ch nO.ch
      replace dU := dU.ch nO.ch
      replace dV := dV.ch nO.ch
      replace dW := dW.ch nO.ch
      replace dX := dX.ch nO.ch
      replace dY := dY.ch nO.ch
      replace dz := dz.ch nO.ch
      replace hO := nO.own
      replace ah := ah.ch nO.ch
      replace ae := ae.ch nO.ch
      replace ad := ad.ch nO.ch
      replace ai := ai.ch nO.ch
      replace af := af.ch nO.ch
      replace ag := ag.ch nO.ch
      replace hB := hB.trans nO.fr
      refine GoQ.pure rfl (op_pickT rfl rfl rfl) rfl rfl ?_
      refine GoQ.pure rfl (op_move rfl) rfl rfl ?_
      cases r150
      ·replace H := ifn Bool.false_ne_true H
       refine GoQ.pass rfl rfl rfl ?_
       refine GoQ.pass rfl rfl rfl ?_
       refine GoQ.pass rfl rfl rfl ?_
       refine GoQ.pass rfl rfl rfl ?_
       refine GoQ.pass rfl rfl rfl ?_
       refine GoQ.pass rfl rfl rfl ?_
       refine GoQ.pass rfl rfl rfl ?_
       refine GoQ.pass rfl rfl rfl ?_
       refine GoQ.pure rfl (op_pickF rfl rfl rfl) rfl rfl ?_
       refine GoQ.pure rfl (op_move rfl) rfl rfl ?_
       refine GoQ.pass rfl rfl rfl ?_
       refine GoQ.pass rfl rfl rfl ?_
       refine GoQ.pass rfl rfl rfl ?_
       refine GoQ.pass rfl rfl rfl ?_
       refine GoQ.pass rfl rfl rfl ?_
       refine GoQ.pass rfl rfl rfl ?_
       refine GoQ.pass rfl rfl rfl ?_
       refine GoQ.pass rfl rfl rfl ?_
       refine GoQ.pure rfl (op_pickF rfl rfl rfl) rfl rfl ?_
       refine GoQ.pure rfl (op_assign rfl) rfl rfl ?_
       refine GoQ.nil ?_
       refine Go1.ret1V Try.func68 rfl (show _ = .bool false from rfl) ?_
       refine hR117 _ _ ?_
       refine GoR.op ((op_assign rfl) _) rfl rfl ?_
       refine GoR.op ((op_assign rfl) _) rfl rfl ?_
       refine GoR.nil ?_
       replace ah := ah.ch (Owns.dropCh _ _ 0)
       replace ae := ae.ch (Owns.dropCh _ _ 0)
       replace ad := ad.ch (Owns.dropCh _ _ 0)
       replace ai := ai.ch (Owns.dropCh _ _ 0)
       replace af := af.ch (Owns.dropCh _ _ 0)
       replace ag := ag.ch (Owns.dropCh _ _ 0)
       replace aP := aP.ch (Owns.dropCh _ _ 0)
       replace aF := aF.ch (Owns.dropCh _ _ 0)
       replace dT := dT.ch (Owns.dropCh _ _ 0)
       replace dU := dU.ch (Owns.dropCh _ _ 0)
       replace dV := dV.ch (Owns.dropCh _ _ 0)
       replace dW := dW.ch (Owns.dropCh _ _ 0)
       replace dX := dX.ch (Owns.dropCh _ _ 0)
       replace dY := dY.ch (Owns.dropCh _ _ 0)
       replace dz := dz.ch (Owns.dropCh _ _ 0)
       replace hB := hB.trans (Owns.dropFr _ _ 0)
       replace hO := hO.drop 0
       dsimp only [eS, eZ] at hB hO ah ae ad ai af ag aP aF dT dU dV dW dX dY dz
       replace ah := ah.ch (Owns.dropCh _ _ 11)
       replace ae := ae.ch (Owns.dropCh _ _ 11)
       replace ad := ad.ch (Owns.dropCh _ _ 11)
       replace ai := ai.ch (Owns.dropCh _ _ 11)
       replace af := af.ch (Owns.dropCh _ _ 11)
       replace ag := ag.ch (Owns.dropCh _ _ 11)
       replace aP := aP.ch (Owns.dropCh _ _ 11)
       replace aF := aF.ch (Owns.dropCh _ _ 11)
       replace dT := dT.ch (Owns.dropCh _ _ 11)
       replace dU := dU.ch (Owns.dropCh _ _ 11)
       replace dV := dV.ch (Owns.dropCh _ _ 11)
       replace dW := dW.ch (Owns.dropCh _ _ 11)
       replace dX := dX.ch (Owns.dropCh _ _ 11)
       replace dY := dY.ch (Owns.dropCh _ _ 11)
       replace dz := dz.ch (Owns.dropCh _ _ 11)
       replace hB := hB.trans (Owns.dropFr _ _ 11)
       replace hO := hO.drop 11
       dsimp only [eS, eZ] at hB hO ah ae ad ai af ag aP aF dT dU dV dW dX dY dz
       refine Go1.ret2 Try.func53 rfl ?_
       exact Or.inr ⟨(⟨(⟨k2_37, b2_38, d_40, d_46, d_52, d_58, d_64, d_70, k2_39⟩ : Enum), m2_94, d_76, d_82, d_88⟩ : run), false, jG, n45, p43, c44, eQ, n51, p49, c50, eU, n57, p55, c56, ly, n63, p61, c62, lz, n69, p67, c68, lA, n75, p73, c74, lB, ba, n81, p79, c80, lC, n87, p85, c86, lD, n93, p91, c92, lE, rfl, hB.same, hO, aP, aF, dT, dU, dV, dW, dX, dY, dz, H⟩
      replace H := ifp rfl H
      refine GoQ.pure rfl (op_move rfl) rfl rfl ?_
      refine GoQ.pure rfl (op_nilCheck rfl) rfl rfl ?_
      refine GoQ.pure rfl (op_fieldAddr Try.underlying72 rfl ti29 rfl (by decide)) rfl rfl ?_
      refine GoQ.pure rfl (op_fieldAddr Try.underlying29 rfl ti22 rfl (by decide)) rfl rfl ?_
      refine GoQ.stable rfl (oblk (i := 6) 1 hO rfl rfl Try.underlying22 rfl rfl) rfl rfl ?_
      refine GoQ.pure rfl (op_fieldAddr Try.underlying29 rfl ti22 rfl (by decide)) rfl rfl ?_
      refine GoQ.stable rfl (oblk (i := 6) 0 hO rfl rfl Try.underlying22 rfl rfl) rfl rfl ?_
      have hobt := rowlend 6 hO rfl dV
      obtain ⟨Jr, Js⟩ := hobt
      have hOc158 := hO.drop 6
      refine GoQ.call rfl (op_call body69 (show ([.slice p67 n69 c68, .slice aB e.Right.length aC, .func (.func 70) #[] #[]] : List Value) = [.slice p67 d_64.length c68, .slice aB e.Right.length aC, .func (.func 70) #[] #[]] from by rw [← Js]) (walk_slices_EqualFunc_int hOc158.lt Jr (af.ch (Owns.dropCh _ _ 6)) H)) (fun v w hr => by obtain ⟨_, _, hs, _⟩ := hr; assumption) rfl rfl ?_
      rintro P0 LH ⟨r159, rfl, Jt, H⟩
      have nP := Stp.same hO Jt
      replace aP := aP.ch nP.ch
      replace aF := aF.ch nP.ch
      replace dT := dT.ch nP.ch
      replace dU := dU.ch nP.ch
      replace dV := dV.ch nP.ch
      replace dW := dW.ch nP.ch
      replace dX := dX.ch nP.ch
      replace dY := dY.ch nP.ch
      replace dz := dz.ch nP.ch
      replace hO := nP.own
      replace ah := ah.ch nP.ch
      replace ae := ae.ch nP.ch
      replace ad := ad.ch nP.ch
      replace ai := ai.ch nP.ch
      replace af := af.ch nP.ch
      replace ag := ag.ch nP.ch
      replace hB := hB.trans nP.fr
      refine GoQ.pure rfl (op_pickT rfl rfl rfl) rfl rfl ?_
      refine GoQ.pure rfl (op_move rfl) rfl rfl ?_
      cases r159
      ·replace H := ifn Bool.false_ne_true H
       refine GoQ.pass rfl rfl rfl ?_
       refine GoQ.pass rfl rfl rfl ?_
       refine GoQ.pass rfl rfl rfl ?_
       refine GoQ.pass rfl rfl rfl ?_
       refine GoQ.pass rfl rfl rfl ?_
       refine GoQ.pass rfl rfl rfl ?_
       refine GoQ.pass rfl rfl rfl ?_
       refine GoQ.pass rfl rfl rfl ?_
       refine GoQ.pure rfl (op_pickF rfl rfl rfl) rfl rfl ?_
       refine GoQ.pure rfl (op_assign rfl) rfl rfl ?_
       refine GoQ.nil ?_
       refine Go1.ret1V Try.func68 rfl (show _ = .bool false from rfl) ?_
       refine hR117 _ _ ?_
       refine GoR.op ((op_assign rfl) _) rfl rfl ?_
       refine GoR.op ((op_assign rfl) _) rfl rfl ?_
       refine GoR.nil ?_
       replace ah := ah.ch (Owns.dropCh _ _ 0)
       replace ae := ae.ch (Owns.dropCh _ _ 0)
       replace ad := ad.ch (Owns.dropCh _ _ 0)
       replace ai := ai.ch (Owns.dropCh _ _ 0)
       replace af := af.ch (Owns.dropCh _ _ 0)
       replace ag := ag.ch (Owns.dropCh _ _ 0)
       replace aP := aP.ch (Owns.dropCh _ _ 0)
       replace aF := aF.ch (Owns.dropCh _ _ 0)
       replace dT := dT.ch (Owns.dropCh _ _ 0)
       replace dU := dU.ch (Owns.dropCh _ _ 0)
       replace dV := dV.ch (Owns.dropCh _ _ 0)
       replace dW := dW.ch (Owns.dropCh _ _ 0)
       replace dX := dX.ch (Owns.dropCh _ _ 0)
       replace dY := dY.ch (Owns.dropCh _ _ 0)
       replace dz := dz.ch (Owns.dropCh _ _ 0)
       replace hB := hB.trans (Owns.dropFr _ _ 0)
       replace hO := hO.drop 0
       dsimp only [eS, eZ] at hB hO ah ae ad ai af ag aP aF dT dU dV dW dX dY dz
       replace ah := ah.ch (Owns.dropCh _ _ 11)
       replace ae := ae.ch (Owns.dropCh _ _ 11)
       replace ad := ad.ch (Owns.dropCh _ _ 11)
       replace ai := ai.ch (Owns.dropCh _ _ 11)
       replace af := af.ch (Owns.dropCh _ _ 11)
       replace ag := ag.ch (Owns.dropCh _ _ 11)
       replace aP := aP.ch (Owns.dropCh _ _ 11)
       replace aF := aF.ch (Owns.dropCh _ _ 11)
       replace dT := dT.ch (Owns.dropCh _ _ 11)
       replace dU := dU.ch (Owns.dropCh _ _ 11)
       replace dV := dV.ch (Owns.dropCh _ _ 11)
       replace dW := dW.ch (Owns.dropCh _ _ 11)
       replace dX := dX.ch (Owns.dropCh _ _ 11)
       replace dY := dY.ch (Owns.dropCh _ _ 11)
       replace dz := dz.ch (Owns.dropCh _ _ 11)
       replace hB := hB.trans (Owns.dropFr _ _ 11)
       replace hO := hO.drop 11
       dsimp only [eS, eZ] at hB hO ah ae ad ai af ag aP aF dT dU dV dW dX dY dz
       refine Go1.ret2 Try.func53 rfl ?_
       exact Or.inr ⟨(⟨(⟨k2_37, b2_38, d_40, d_46, d_52, d_58, d_64, d_70, k2_39⟩ : Enum), m2_94, d_76, d_82, d_88⟩ : run), false, jG, n45, p43, c44, eQ, n51, p49, c50, eU, n57, p55, c56, ly, n63, p61, c62, lz, n69, p67, c68, lA, n75, p73, c74, lB, ba, n81, p79, c80, lC, n87, p85, c86, lD, n93, p91, c92, lE, rfl, hB.same, hO, aP, aF, dT, dU, dV, dW, dX, dY, dz, H⟩
      replace H := ifp rfl H
      refine GoQ.pure rfl (op_move rfl) rfl rfl ?_
      refine GoQ.pure rfl (op_nilCheck rfl) rfl rfl ?_
      refine GoQ.pure rfl (op_fieldAddr Try.underlying72 rfl ti29 rfl (by decide)) rfl rfl ?_
      refine GoQ.pure rfl (op_fieldAddr Try.underlying29 rfl ti27 rfl (by decide)) rfl rfl ?_
      refine GoQ.stable rfl (oblk (i := 7) 1 hO rfl rfl Try.underlying27 rfl rfl) rfl rfl ?_
      refine GoQ.pure rfl (op_fieldAddr Try.underlying29 rfl ti27 rfl (by decide)) rfl rfl ?_
      refine GoQ.stable rfl (oblk (i := 7) 0 hO rfl rfl Try.underlying27 rfl rfl) rfl rfl ?_
      have hobt := rowlend 7 hO rfl dW
      obtain ⟨Ju, Jv⟩ := hobt
      have hOc167 := hO.drop 7
      refine GoQ.call rfl (op_call body71 (show ([.slice p73 n75 c74, .slice aD e.Rules.length aE] : List Value) = [.slice p73 d_70.length c74, .slice aD e.Rules.length aE] from by rw [← Jv]) (walk_slices_Equal_api_Rule hOc167.lt Ju (ag.ch (Owns.dropCh _ _ 7)) H)) (fun v w hr => by obtain ⟨_, _, hs, _⟩ := hr; assumption) rfl rfl ?_
      rintro P1 P2 ⟨r168, rfl, Jw, H⟩
      have nQ := Stp.same hO Jw
      replace aP := aP.ch nQ.ch
      replace aF := aF.ch nQ.ch
      replace dT := dT.ch nQ.ch
      replace dU := dU.ch nQ.ch
      replace dV := dV.ch nQ.ch
      replace dW := dW.ch nQ.ch
      replace dX := dX.ch nQ.ch
      replace dY := dY.ch nQ.ch
      replace dz := dz.ch nQ.ch
      replace hO := nQ.own
      replace ah := ah.ch nQ.ch
      replace ae := ae.ch nQ.ch
      replace ad := ad.ch nQ.ch
      replace ai := ai.ch nQ.ch
      replace af := af.ch nQ.ch
      replace ag := ag.ch nQ.ch
      replace hB := hB.trans nQ.fr
      refine GoQ.pure rfl (op_pickT rfl rfl rfl) rfl rfl ?_
      refine GoQ.pure rfl (op_assign rfl) rfl rfl ?_
      refine GoQ.nil ?_
      refine Go1.ret1V Try.func68 rfl (show _ = .bool r168 from rfl) ?_
      refine hR117 _ _ ?_
      refine GoR.op ((op_assign rfl) _) rfl rfl ?_
      refine GoR.op ((op_assign rfl) _) rfl rfl ?_
      refine GoR.nil ?_
      replace ah := ah.ch (Owns.dropCh _ _ 0)
      replace ae := ae.ch (Owns.dropCh _ _ 0)
      replace ad := ad.ch (Owns.dropCh _ _ 0)
      replace ai := ai.ch (Owns.dropCh _ _ 0)
      replace af := af.ch (Owns.dropCh _ _ 0)
      replace ag := ag.ch (Owns.dropCh _ _ 0)
      replace aP := aP.ch (Owns.dropCh _ _ 0)
      replace aF := aF.ch (Owns.dropCh _ _ 0)
      replace dT := dT.ch (Owns.dropCh _ _ 0)
      replace dU := dU.ch (Owns.dropCh _ _ 0)
      replace dV := dV.ch (Owns.dropCh _ _ 0)
      replace dW := dW.ch (Owns.dropCh _ _ 0)
      replace dX := dX.ch (Owns.dropCh _ _ 0)
      replace dY := dY.ch (Owns.dropCh _ _ 0)
      replace dz := dz.ch (Owns.dropCh _ _ 0)
      replace hB := hB.trans (Owns.dropFr _ _ 0)
      replace hO := hO.drop 0
      dsimp only [eS, eZ] at hB hO ah ae ad ai af ag aP aF dT dU dV dW dX dY dz
      replace ah := ah.ch (Owns.dropCh _ _ 11)
      replace ae := ae.ch (Owns.dropCh _ _ 11)
      replace ad := ad.ch (Owns.dropCh _ _ 11)
      replace ai := ai.ch (Owns.dropCh _ _ 11)
      replace af := af.ch (Owns.dropCh _ _ 11)
      replace ag := ag.ch (Owns.dropCh _ _ 11)
      replace aP := aP.ch (Owns.dropCh _ _ 11)
      replace aF := aF.ch (Owns.dropCh _ _ 11)
      replace dT := dT.ch (Owns.dropCh _ _ 11)
      replace dU := dU.ch (Owns.dropCh _ _ 11)
      replace dV := dV.ch (Owns.dropCh _ _ 11)
      replace dW := dW.ch (Owns.dropCh _ _ 11)
      replace dX := dX.ch (Owns.dropCh _ _ 11)
      replace dY := dY.ch (Owns.dropCh _ _ 11)
      replace dz := dz.ch (Owns.dropCh _ _ 11)
      replace hB := hB.trans (Owns.dropFr _ _ 11)
      replace hO := hO.drop 11
      dsimp only [eS, eZ] at hB hO ah ae ad ai af ag aP aF dT dU dV dW dX dY dz
      refine Go1.ret2 Try.func53 rfl ?_
      exact Or.inr ⟨(⟨(⟨k2_37, b2_38, d_40, d_46, d_52, d_58, d_64, d_70, k2_39⟩ : Enum), m2_94, d_76, d_82, d_88⟩ : run), r168, jG, n45, p43, c44, eQ, n51, p49, c50, eU, n57, p55, c56, ly, n63, p61, c62, lz, n69, p67, c68, lA, n75, p73, c74, lB, ba, n81, p79, c80, lC, n87, p85, c86, lD, n93, p91, c92, lE, rfl, hB.same, hO, aP, aF, dT, dU, dV, dW, dX, dY, dz, H⟩
     replace H := ifn CA H
     refine GoQ.pure rfl (fun w => opB (op_eql rfl rfl w) (decide_eq_false CA)) rfl rfl ?_
     refine GoQ.pure rfl (op_pickT rfl rfl rfl) rfl rfl ?_
     refine GoQ.pure rfl (op_move rfl) rfl rfl ?_
     refine GoQ.pass rfl rfl rfl ?_
     refine GoQ.pass rfl rfl rfl ?_
     refine GoQ.pass rfl rfl rfl ?_
     refine GoQ.pass rfl rfl rfl ?_
     refine GoQ.pass rfl rfl rfl ?_
     refine GoQ.pass rfl rfl rfl ?_
     refine GoQ.pass rfl rfl rfl ?_
     refine GoQ.pass rfl rfl rfl ?_
     refine GoQ.pure rfl (op_pickF rfl rfl rfl) rfl rfl ?_
     refine GoQ.pure rfl (op_move rfl) rfl rfl ?_
     refine GoQ.pass rfl rfl rfl ?_
     refine GoQ.pass rfl rfl rfl ?_
     refine GoQ.pass rfl rfl rfl ?_
     refine GoQ.pass rfl rfl rfl ?_
     refine GoQ.pass rfl rfl rfl ?_
     refine GoQ.pass rfl rfl rfl ?_
     refine GoQ.pass rfl rfl rfl ?_
     refine GoQ.pass rfl rfl rfl ?_
     refine GoQ.pure rfl (op_pickF rfl rfl rfl) rfl rfl ?_
     refine GoQ.pure rfl (op_move rfl) rfl rfl ?_
     refine GoQ.pass rfl rfl rfl ?_
     refine GoQ.pass rfl rfl rfl ?_
     refine GoQ.pass rfl rfl rfl ?_
     refine GoQ.pass rfl rfl rfl ?_
     refine GoQ.pass rfl rfl rfl ?_
     refine GoQ.pass rfl rfl rfl ?_
     refine GoQ.pass rfl rfl rfl ?_
     refine GoQ.pass rfl rfl rfl ?_
     refine GoQ.pure rfl (op_pickF rfl rfl rfl) rfl rfl ?_
     refine GoQ.pure rfl (op_move rfl) rfl rfl ?_
     refine GoQ.pass rfl rfl rfl ?_
     refine GoQ.pass rfl rfl rfl ?_
     refine GoQ.pass rfl rfl rfl ?_
     refine GoQ.pass rfl rfl rfl ?_
     refine GoQ.pass rfl rfl rfl ?_
     refine GoQ.pass rfl rfl rfl ?_
     refine GoQ.pass rfl rfl rfl ?_
     refine GoQ.pass rfl rfl rfl ?_
     refine GoQ.pure rfl (op_pickF rfl rfl rfl) rfl rfl ?_
     refine GoQ.pure rfl (op_move rfl) rfl rfl ?_
     refine GoQ.pass rfl rfl rfl ?_
     refine GoQ.pass rfl rfl rfl ?_
     refine GoQ.pass rfl rfl rfl ?_
     refine GoQ.pass rfl rfl rfl ?_
     refine GoQ.pass rfl rfl rfl ?_
     refine GoQ.pass rfl rfl rfl ?_
     refine GoQ.pass rfl rfl rfl ?_
     refine GoQ.pass rfl rfl rfl ?_
     refine GoQ.pure rfl (op_pickF rfl rfl rfl) rfl rfl ?_
     refine GoQ.pure rfl (op_assign rfl) rfl rfl ?_
     refine GoQ.nil ?_
     refine Go1.ret1V Try.func68 rfl (show _ = .bool false from rfl) ?_
     refine hR117 _ _ ?_
     refine GoR.op ((op_assign rfl) _) rfl rfl ?_
     refine GoR.op ((op_assign rfl) _) rfl rfl ?_
     refine GoR.nil ?_
     replace ah := ah.ch (Owns.dropCh _ _ 0)
     replace ae := ae.ch (Owns.dropCh _ _ 0)
     replace ad := ad.ch (Owns.dropCh _ _ 0)
     replace ai := ai.ch (Owns.dropCh _ _ 0)
     replace af := af.ch (Owns.dropCh _ _ 0)
     replace ag := ag.ch (Owns.dropCh _ _ 0)
     replace aP := aP.ch (Owns.dropCh _ _ 0)
     replace aF := aF.ch (Owns.dropCh _ _ 0)
     replace dT := dT.ch (Owns.dropCh _ _ 0)
     replace dU := dU.ch (Owns.dropCh _ _ 0)
     replace dV := dV.ch (Owns.dropCh _ _ 0)
     replace dW := dW.ch (Owns.dropCh _ _ 0)
     replace dX := dX.ch (Owns.dropCh _ _ 0)
     replace dY := dY.ch (Owns.dropCh _ _ 0)
     replace dz := dz.ch (Owns.dropCh _ _ 0)
     replace hB := hB.trans (Owns.dropFr _ _ 0)
     replace hO := hO.drop 0
     dsimp only [eS, eZ] at hB hO ah ae ad ai af ag aP aF dT dU dV dW dX dY dz
     replace ah := ah.ch (Owns.dropCh _ _ 11)
     replace ae := ae.ch (Owns.dropCh _ _ 11)
     replace ad := ad.ch (Owns.dropCh _ _ 11)
     replace ai := ai.ch (Owns.dropCh _ _ 11)
     replace af := af.ch (Owns.dropCh _ _ 11)
     replace ag := ag.ch (Owns.dropCh _ _ 11)
     replace aP := aP.ch (Owns.dropCh _ _ 11)
     replace aF := aF.ch (Owns.dropCh _ _ 11)
     replace dT := dT.ch (Owns.dropCh _ _ 11)
     replace dU := dU.ch (Owns.dropCh _ _ 11)
     replace dV := dV.ch (Owns.dropCh _ _ 11)
     replace dW := dW.ch (Owns.dropCh _ _ 11)
     replace dX := dX.ch (Owns.dropCh _ _ 11)
     replace dY := dY.ch (Owns.dropCh _ _ 11)
     replace dz := dz.ch (Owns.dropCh _ _ 11)
     replace hB := hB.trans (Owns.dropFr _ _ 11)
     replace hO := hO.drop 11
     dsimp only [eS, eZ] at hB hO ah ae ad ai af ag aP aF dT dU dV dW dX dY dz
     refine Go1.ret2 Try.func53 rfl ?_
     exact Or.inr ⟨(⟨(⟨k2_37, b2_38, d_40, d_46, d_52, d_58, d_64, d_70, k2_39⟩ : Enum), m2_94, d_76, d_82, d_88⟩ : run), false, jG, n45, p43, c44, eQ, n51, p49, c50, eU, n57, p55, c56, ly, n63, p61, c62, lz, n69, p67, c68, lA, n75, p73, c74, lB, ba, n81, p79, c80, lC, n87, p85, c86, lD, n93, p91, c92, lE, rfl, hB.same, hO, aP, aF, dT, dU, dV, dW, dX, dY, dz, H⟩
    replace H := ifn Cz H
    refine GoQ.pure rfl (fun w => opB (op_eql rfl rfl w) (decide_eq_false Cz)) rfl rfl ?_
    refine GoQ.pure rfl (op_move rfl) rfl rfl ?_
    refine GoQ.pass rfl rfl rfl ?_
    refine GoQ.pass rfl rfl rfl ?_
    refine GoQ.pass rfl rfl rfl ?_
    refine GoQ.pass rfl rfl rfl ?_
    refine GoQ.pass rfl rfl rfl ?_
    refine GoQ.pass rfl rfl rfl ?_
    refine GoQ.pass rfl rfl rfl ?_
    refine GoQ.pass rfl rfl rfl ?_
    refine GoQ.pure rfl (op_pickF rfl rfl rfl) rfl rfl ?_
    refine GoQ.pure rfl (op_move rfl) rfl rfl ?_
    refine GoQ.pass rfl rfl rfl ?_
    refine GoQ.pass rfl rfl rfl ?_
    refine GoQ.pass rfl rfl rfl ?_
    refine GoQ.pass rfl rfl rfl ?_
    refine GoQ.pass rfl rfl rfl ?_
    refine GoQ.pass rfl rfl rfl ?_
    refine GoQ.pass rfl rfl rfl ?_
    refine GoQ.pass rfl rfl rfl ?_
    refine GoQ.pure rfl (op_pickF rfl rfl rfl) rfl rfl ?_
    refine GoQ.pure rfl (op_move rfl) rfl rfl ?_
    refine GoQ.pass rfl rfl rfl ?_
    refine GoQ.pass rfl rfl rfl ?_
    refine GoQ.pass rfl rfl rfl ?_
    refine GoQ.pass rfl rfl rfl ?_
    refine GoQ.pass rfl rfl rfl ?_
    refine GoQ.pass rfl rfl rfl ?_
    refine GoQ.pass rfl rfl rfl ?_
    refine GoQ.pass rfl rfl rfl ?_
    refine GoQ.pure rfl (op_pickF rfl rfl rfl) rfl rfl ?_
    refine GoQ.pure rfl (op_move rfl) rfl rfl ?_
    refine GoQ.pass rfl rfl rfl ?_
    refine GoQ.pass rfl rfl rfl ?_
    refine GoQ.pass rfl rfl rfl ?_
    refine GoQ.pass rfl rfl rfl ?_
    refine GoQ.pass rfl rfl rfl ?_
    refine GoQ.pass rfl rfl rfl ?_
    refine GoQ.pass rfl rfl rfl ?_
    refine GoQ.pass rfl rfl rfl ?_
    refine GoQ.pure rfl (op_pickF rfl rfl rfl) rfl rfl ?_
    refine GoQ.pure rfl (op_move rfl) rfl rfl ?_
    refine GoQ.pass rfl rfl rfl ?_
    refine GoQ.pass rfl rfl rfl ?_
    refine GoQ.pass rfl rfl rfl ?_
    refine GoQ.pass rfl rfl rfl ?_
    refine GoQ.pass rfl rfl rfl ?_
    refine GoQ.pass rfl rfl rfl ?_
    refine GoQ.pass rfl rfl rfl ?_
    refine GoQ.pass rfl rfl rfl ?_
    refine GoQ.pure rfl (op_pickF rfl rfl rfl) rfl rfl ?_
    refine GoQ.pure rfl (op_move rfl) rfl rfl ?_
    refine GoQ.pass rfl rfl rfl ?_
    refine GoQ.pass rfl rfl rfl ?_
    refine GoQ.pass rfl rfl rfl ?_
    refine GoQ.pass rfl rfl rfl ?_
    refine GoQ.pass rfl rfl rfl ?_
    refine GoQ.pass rfl rfl rfl ?_
    refine GoQ.pass rfl rfl rfl ?_
    refine GoQ.pass rfl rfl rfl ?_
    refine GoQ.pure rfl (op_pickF rfl rfl rfl) rfl rfl ?_
    refine GoQ.pure rfl (op_assign rfl) rfl rfl ?_
    refine GoQ.nil ?_
    refine Go1.ret1V Try.func68 rfl (show _ = .bool false from rfl) ?_
    refine hR117 _ _ ?_
    refine GoR.op ((op_assign rfl) _) rfl rfl ?_
    refine GoR.op ((op_assign rfl) _) rfl rfl ?_
    refine GoR.nil ?_
    replace ah := ah.ch (Owns.dropCh _ _ 0)
    replace ae := ae.ch (Owns.dropCh _ _ 0)
    replace ad := ad.ch (Owns.dropCh _ _ 0)
    replace ai := ai.ch (Owns.dropCh _ _ 0)
    replace af := af.ch (Owns.dropCh _ _ 0)
    replace ag := ag.ch (Owns.dropCh _ _ 0)
    replace aP := aP.ch (Owns.dropCh _ _ 0)
    replace aF := aF.ch (Owns.dropCh _ _ 0)
    replace dT := dT.ch (Owns.dropCh _ _ 0)
    replace dU := dU.ch (Owns.dropCh _ _ 0)
    replace dV := dV.ch (Owns.dropCh _ _ 0)
    replace dW := dW.ch (Owns.dropCh _ _ 0)
    replace dX := dX.ch (Owns.dropCh _ _ 0)
    replace dY := dY.ch (Owns.dropCh _ _ 0)
    replace dz := dz.ch (Owns.dropCh _ _ 0)
    replace hB := hB.trans (Owns.dropFr _ _ 0)
    replace hO := hO.drop 0
    dsimp only [eS, eZ] at hB hO ah ae ad ai af ag aP aF dT dU dV dW dX dY dz
    replace ah := ah.ch (Owns.dropCh _ _ 11)
    replace ae := ae.ch (Owns.dropCh _ _ 11)
    replace ad := ad.ch (Owns.dropCh _ _ 11)
    replace ai := ai.ch (Owns.dropCh _ _ 11)
    replace af := af.ch (Owns.dropCh _ _ 11)
    replace ag := ag.ch (Owns.dropCh _ _ 11)
    replace aP := aP.ch (Owns.dropCh _ _ 11)
    replace aF := aF.ch (Owns.dropCh _ _ 11)
    replace dT := dT.ch (Owns.dropCh _ _ 11)
    replace dU := dU.ch (Owns.dropCh _ _ 11)
    replace dV := dV.ch (Owns.dropCh _ _ 11)
    replace dW := dW.ch (Owns.dropCh _ _ 11)
    replace dX := dX.ch (Owns.dropCh _ _ 11)
    replace dY := dY.ch (Owns.dropCh _ _ 11)
    replace dz := dz.ch (Owns.dropCh _ _ 11)
    replace hB := hB.trans (Owns.dropFr _ _ 11)
    replace hO := hO.drop 11
    dsimp only [eS, eZ] at hB hO ah ae ad ai af ag aP aF dT dU dV dW dX dY dz
    refine Go1.ret2 Try.func53 rfl ?_
    exact Or.inr ⟨(⟨(⟨k2_37, b2_38, d_40, d_46, d_52, d_58, d_64, d_70, k2_39⟩ : Enum), m2_94, d_76, d_82, d_88⟩ : run), false, jG, n45, p43, c44, eQ, n51, p49, c50, eU, n57, p55, c56, ly, n63, p61, c62, lz, n69, p67, c68, lA, n75, p73, c74, lB, ba, n81, p79, c80, lC, n87, p85, c86, lD, n93, p91, c92, lE, rfl, hB.same, hO, aP, aF, dT, dU, dV, dW, dX, dY, dz, H⟩
   replace H := ifn h35 H
   refine GoR.op ((fun w => opB (op_neq rfl rfl w) (ndF h35)) _) rfl rfl ?_
   refine GoR.nil ?_
   refine Go1.condT rfl rfl ?_
   refine Go1.seq ?_
   refine Go1.cut [] trivial ?_
   intro σ _
   refine Go1.region ?_
   refine GoR.op ((op_assign rfl) _) rfl rfl ?_
   refine GoR.op ((op_assign rfl) _) rfl rfl ?_
   refine GoR.nil ?_
   refine Go1.ret2 Try.func53 rfl ?_
   exact Or.inl ⟨false, rfl, hB.same, H⟩
 replace H := ifn h7 H
 refine GoR.op (opB ((oblk (i := 1) 0 hO rfl rfl Try.underlying4 rfl rfl) _ (Same.refl _)) (Bool.eq_false_iff.2 h7)) rfl rfl ?_
 refine GoR.call (op_call body49 rfl (walk_enumerate_begin hO.lt ah H)) rfl rfl ?_
 intro P3 P4 hcase180
 refine Or.elim hcase180 ?_ ?_
 ·refine exE fun r175 => andE fun hv181 => andE fun CB => fun H => ?_
  subst hv181
  clear hcase180
  replace H := oElimN H
  have lG := Stp.same hO CB
  replace hO := lG.own
  replace ah := ah.ch lG.ch
  replace ae := ae.ch lG.ch
  replace ad := ad.ch lG.ch
  replace ai := ai.ch lG.ch
  replace af := af.ch lG.ch
  replace ag := ag.ch lG.ch
  replace hB := hB.trans lG.fr
  refine GoR.op ((op_move rfl) _) rfl rfl ?_
  refine GoR.op ((op_extract rfl rfl) _) rfl rfl ?_
  refine GoR.op ((op_extract rfl rfl) _) rfl rfl ?_
  refine GoR.op ((op_assign rfl) _) rfl rfl ?_
  refine GoR.op ((op_assign rfl) _) rfl rfl ?_
  refine GoR.nil ?_
  refine Go1.seq ?_
  refine Go1.seq ?_
  refine Go1.region ?_
  refine GoR.op ((op_move rfl) _) rfl rfl ?_
  by_cases CC : r175 = (0 : Int)
  ·replace H := ifp CC H
   refine GoR.op ((fun w => opB (op_neq rfl rfl w) (ndT CC)) _) rfl rfl ?_
   refine GoR.nil ?_
   refine Go1.condF rfl rfl ?_
   refine Go1.skip ?_
   refine Go1.seq ?_
   refine Go1.block ?_
   refine Go1.loopW (S := Unit) (fun s σ w => agrees σ [(1, .pointer (some ⟨B2, 0, none⟩)), (4, .pointer none)] ∧ Owns w0.heap.size w [.blk B2 (.cells #[.int .i64 e.Points, .bool e.Monoid, .slice aY e.Gens.length aZ, .slice az e.Elems.length aA, .slice ao e.Prefix.length ap, .slice aW e.Last.length aX, .slice aB e.Right.length aC, .slice aD e.Rules.length aE, .int .i64 e.Done] 29 (0, 0))] A ∧ ISl (Rp.sl (Rp.int .i64)) (bl [.blk B2 (.cells #[.int .i64 e.Points, .bool e.Monoid, .slice aY e.Gens.length aZ, .slice az e.Elems.length aA, .slice ao e.Prefix.length ap, .slice aW e.Last.length aX, .slice aB e.Right.length aC, .slice aD e.Rules.length aE, .int .i64 e.Done] 29 (0, 0))] ++ A) w aY aZ e.Gens ∧ ISl (Rp.sl (Rp.int .i64)) (bl [.blk B2 (.cells #[.int .i64 e.Points, .bool e.Monoid, .slice aY e.Gens.length aZ, .slice az e.Elems.length aA, .slice ao e.Prefix.length ap, .slice aW e.Last.length aX, .slice aB e.Right.length aC, .slice aD e.Rules.length aE, .int .i64 e.Done] 29 (0, 0))] ++ A) w az aA e.Elems ∧ ISl (Rp.int .i64) (bl [.blk B2 (.cells #[.int .i64 e.Points, .bool e.Monoid, .slice aY e.Gens.length aZ, .slice az e.Elems.length aA, .slice ao e.Prefix.length ap, .slice aW e.Last.length aX, .slice aB e.Right.length aC, .slice aD e.Rules.length aE, .int .i64 e.Done] 29 (0, 0))] ++ A) w ao ap e.Prefix ∧ ISl (Rp.int .i64) (bl [.blk B2 (.cells #[.int .i64 e.Points, .bool e.Monoid, .slice aY e.Gens.length aZ, .slice az e.Elems.length aA, .slice ao e.Prefix.length ap, .slice aW e.Last.length aX, .slice aB e.Right.length aC, .slice aD e.Rules.length aE, .int .i64 e.Done] 29 (0, 0))] ++ A) w aW aX e.Last ∧ ISl (Rp.sl (Rp.int .i64)) (bl [.blk B2 (.cells #[.int .i64 e.Points, .bool e.Monoid, .slice aY e.Gens.length aZ, .slice az e.Elems.length aA, .slice ao e.Prefix.length ap, .slice aW e.Last.length aX, .slice aB e.Right.length aC, .slice aD e.Rules.length aE, .int .i64 e.Done] 29 (0, 0))] ++ A) w aB aC e.Right ∧ ISl (rpRule) (bl [.blk B2 (.cells #[.int .i64 e.Points, .bool e.Monoid, .slice aY e.Gens.length aZ, .slice az e.Elems.length aA, .slice ao e.Prefix.length ap, .slice aW e.Last.length aX, .slice aB e.Right.length aC, .slice aD e.Rules.length aE, .int .i64 e.Done] 29 (0, 0))] ++ A) w aD aE e.Rules ∧ Fr (bl []) w0 (bl [.blk B2 (.cells #[.int .i64 e.Points, .bool e.Monoid, .slice aY e.Gens.length aZ, .slice az e.Elems.length aA, .slice ao e.Prefix.length ap, .slice aW e.Last.length aX, .slice aB e.Right.length aC, .slice aD e.Rules.length aE, .int .i64 e.Done] 29 (0, 0))]) w) H ⟨⟨rfl, rfl, trivial⟩, hO, ah, ae, ad, ai, af, ag, hB⟩ ?_
   intro X3 _
   intro H hX3 σ P5
   refine andE fun hag => andE fun hO => andE fun ah => andE fun ae => andE fun ad => andE fun ai => andE fun af => andE fun ag => fun hB => ?_
   refine Go1.keep [(1, .pointer (some ⟨B2, 0, none⟩)), (4, .pointer none)] hag ?_
   refine Go1.seq ?_
   refine Go1.seq ?_
   refine Go1.drawS 0 [(0, .pure), (1, .pure), (2, .pure), (3, .pure), (4, .stable), (5, .pure), (6, .stable), (7, .pure)] mixed (by kernel_rfl) ?_
   intro P6 Cj
   have vA := Stp.same hO Cj
   replace hO := vA.own
   replace ah := ah.ch vA.ch
   replace ae := ae.ch vA.ch
   replace ad := ad.ch vA.ch
   replace ai := ai.ch vA.ch
   replace af := af.ch vA.ch
   replace ag := ag.ch vA.ch
   replace hB := hB.trans vA.fr
   refine GoQ.pure rfl (op_move rfl) rfl rfl ?_
   exact H.elim
  replace H := ifn CC H
  refine GoR.op ((fun w => opB (op_neq rfl rfl w) (ndF CC)) _) rfl rfl ?_
  refine GoR.nil ?_
  refine Go1.condT rfl rfl ?_
  refine Go1.seq ?_
  refine Go1.region ?_
  refine GoR.op ((op_assign rfl) _) rfl rfl ?_
  refine GoR.op ((op_assign rfl) _) rfl rfl ?_
  refine GoR.nil ?_
  refine Go1.ret2 Try.func53 rfl ?_
  exact Or.inl ⟨false, rfl, hB.same, H⟩
 ·refine exE fun r174 => exE fun r175 => exE fun eM => exE fun zn => exE fun zo => exE fun zp => exE fun yJ => exE fun yK => exE fun yL => exE fun yM => exE fun yl => exE fun ym => exE fun yn => exE fun yo => exE fun x5 => exE fun zq => exE fun zr => exE fun zt => exE fun yN => exE fun yO => exE fun yP => exE fun yQ => exE fun yp => exE fun yR => exE fun yS => exE fun yT => exE fun yq => exE fun a5 => exE fun Bi => exE fun Bj => exE fun Bk => exE fun Aw => exE fun Ax => exE fun Ay => exE fun Az => exE fun Ar => exE fun AA => exE fun AB => exE fun AC => exE fun At => andE fun hv188 => andE fun CB => andE fun hN179 => andE fun qL => andE fun qo => andE fun pQ => andE fun qM => andE fun qp => andE fun qq => andE fun uB => andE fun t9 => andE fun ua => fun H => ?_
  subst hv188
  clear hcase180
  replace H := oElimS H
  have uX := Stp.more hO CB hN179
  dsimp only [List.cons_append, List.nil_append] at uX
  replace hO := uX.own
  replace ah := ah.ch uX.ch
  replace ae := ae.ch uX.ch
  replace ad := ad.ch uX.ch
  replace ai := ai.ch uX.ch
  replace af := af.ch uX.ch
  replace ag := ag.ch uX.ch
  replace hB := hB.trans uX.fr
  replace qL := qL.ch (Ch.assoc _ _ _ _)
  dsimp only [List.cons_append, List.nil_append] at qL
  replace qo := qo.ch (Ch.assoc _ _ _ _)
  dsimp only [List.cons_append, List.nil_append] at qo
  replace pQ := pQ.ch (Ch.assoc _ _ _ _)
  dsimp only [List.cons_append, List.nil_append] at pQ
  replace qM := qM.ch (Ch.assoc _ _ _ _)
  dsimp only [List.cons_append, List.nil_append] at qM
  replace qp := qp.ch (Ch.assoc _ _ _ _)
  dsimp only [List.cons_append, List.nil_append] at qp
  replace qq := qq.ch (Ch.assoc _ _ _ _)
  dsimp only [List.cons_append, List.nil_append] at qq
  replace uB := uB.ch (Ch.assoc _ _ _ _)
  dsimp only [List.cons_append, List.nil_append] at uB
  replace t9 := t9.ch (Ch.assoc _ _ _ _)
  dsimp only [List.cons_append, List.nil_append] at t9
  replace ua := ua.ch (Ch.assoc _ _ _ _)
  dsimp only [List.cons_append, List.nil_append] at ua
  refine GoR.op ((op_move rfl) _) rfl rfl ?_
  refine GoR.op ((op_extract rfl rfl) _) rfl rfl ?_
  refine GoR.op ((op_extract rfl rfl) _) rfl rfl ?_
  refine GoR.op ((op_assign rfl) _) rfl rfl ?_
  refine GoR.op ((op_assign rfl) _) rfl rfl ?_
  refine GoR.nil ?_
  refine Go1.seq ?_
  refine Go1.seq ?_
  refine Go1.region ?_
  refine GoR.op ((op_move rfl) _) rfl rfl ?_
  by_cases CD : r175 = (0 : Int)
  ·replace H := ifp CD H
   refine GoR.op ((fun w => opB (op_neq rfl rfl w) (ndT CD)) _) rfl rfl ?_
   refine GoR.nil ?_
   refine Go1.condF rfl rfl ?_
   refine Go1.skip ?_
   refine Go1.seq ?_
   refine Go1.block ?_
   refine Go1.loopW (S := Int × Bool × Int × List (List Int) × List (List Int) × List Int × List Int × List (List Int) × List Rule × List Str × List Int × List Int × (List (Str × Int))) (fun s σ w => match s with | (k4_203, b4_204, k4_205, d_206, d_212, d_218, d_224, d_230, d_236, d_242, d_248, d_254, m4_260) => ∃ (fF : Nat), ∃ (fG : Option Addr), ∃ (fH : Nat), ∃ (gU : List Value), ∃ (fv : Nat), ∃ (eW : Option Addr), ∃ (eX : Nat), ∃ (i7 : List Value), ∃ (fw : Nat), ∃ (eY : Option Addr), ∃ (e8 : Nat), ∃ (i8 : List Value), ∃ (fx : Nat), ∃ (e9 : Option Addr), ∃ (fd : Nat), ∃ (i9 : List Value), ∃ (fy : Nat), ∃ (fe : Option Addr), ∃ (ff : Nat), ∃ (ja : List Value), ∃ (fA : Nat), ∃ (fg : Option Addr), ∃ (fh : Nat), ∃ (jb : List Value), ∃ (fI : Nat), ∃ (fJ : Option Addr), ∃ (fK : Nat), ∃ (jc : List Value), ∃ (fL : Nat), ∃ (fM : Option Addr), ∃ (fN : Nat), ∃ (jd : List Value), ∃ (fO : Nat), ∃ (fP : Option Addr), ∃ (fQ : Nat), ∃ (je : List Value), agrees σ [(1, .pointer (some ⟨B2, 0, none⟩)), (4, .pointer (some ⟨eM, 0, none⟩))] ∧ Owns w0.heap.size w [.blk eM (.cells #[.int .i64 k4_203, .bool b4_204, .slice fG fF fH, .slice eW fv eX, .slice eY fw e8, .slice e9 fx fd, .slice fe fy ff, .slice fg fA fh, .int .i64 k4_205, .map (some a5), .slice fJ fI fK, .slice fM fL fN, .slice fP fO fQ] 72 (0, 0)), .row 26 1 fG fF fH gU, .row 26 1 eW fv eX i7, .row 3 1 eY fw e8 i8, .row 3 1 e9 fx fd i9, .row 26 1 fe fy ff ja, .row 39 2 fg fA fh jb, .row 9 1 fJ fI fK jc, .row 3 1 fM fL fN jd, .row 3 1 fP fO fQ je, .any (mapE (fun a : List UInt8 => Value.string (gstr a)) (fun a : Int => Value.int .i64 a) a5 m4_260), .blk B2 (.cells #[.int .i64 e.Points, .bool e.Monoid, .slice aY e.Gens.length aZ, .slice az e.Elems.length aA, .slice ao e.Prefix.length ap, .slice aW e.Last.length aX, .slice aB e.Right.length aC, .slice aD e.Rules.length aE, .int .i64 e.Done] 29 (0, 0))] A ∧ Els (Rp.sl (Rp.int .i64)) (bl [.blk eM (.cells #[.int .i64 k4_203, .bool b4_204, .slice fG fF fH, .slice eW fv eX, .slice eY fw e8, .slice e9 fx fd, .slice fe fy ff, .slice fg fA fh, .int .i64 k4_205, .map (some a5), .slice fJ fI fK, .slice fM fL fN, .slice fP fO fQ] 72 (0, 0)), .row 26 1 fG fF fH gU, .row 26 1 eW fv eX i7, .row 3 1 eY fw e8 i8, .row 3 1 e9 fx fd i9, .row 26 1 fe fy ff ja, .row 39 2 fg fA fh jb, .row 9 1 fJ fI fK jc, .row 3 1 fM fL fN jd, .row 3 1 fP fO fQ je, .any (mapE (fun a : List UInt8 => Value.string (gstr a)) (fun a : Int => Value.int .i64 a) a5 m4_260), .blk B2 (.cells #[.int .i64 e.Points, .bool e.Monoid, .slice aY e.Gens.length aZ, .slice az e.Elems.length aA, .slice ao e.Prefix.length ap, .slice aW e.Last.length aX, .slice aB e.Right.length aC, .slice aD e.Rules.length aE, .int .i64 e.Done] 29 (0, 0))] ++ A) w gU d_206 ∧ Els (Rp.sl (Rp.int .i64)) (bl [.blk eM (.cells #[.int .i64 k4_203, .bool b4_204, .slice fG fF fH, .slice eW fv eX, .slice eY fw e8, .slice e9 fx fd, .slice fe fy ff, .slice fg fA fh, .int .i64 k4_205, .map (some a5), .slice fJ fI fK, .slice fM fL fN, .slice fP fO fQ] 72 (0, 0)), .row 26 1 fG fF fH gU, .row 26 1 eW fv eX i7, .row 3 1 eY fw e8 i8, .row 3 1 e9 fx fd i9, .row 26 1 fe fy ff ja, .row 39 2 fg fA fh jb, .row 9 1 fJ fI fK jc, .row 3 1 fM fL fN jd, .row 3 1 fP fO fQ je, .any (mapE (fun a : List UInt8 => Value.string (gstr a)) (fun a : Int => Value.int .i64 a) a5 m4_260), .blk B2 (.cells #[.int .i64 e.Points, .bool e.Monoid, .slice aY e.Gens.length aZ, .slice az e.Elems.length aA, .slice ao e.Prefix.length ap, .slice aW e.Last.length aX, .slice aB e.Right.length aC, .slice aD e.Rules.length aE, .int .i64 e.Done] 29 (0, 0))] ++ A) w i7 d_212 ∧ Els (Rp.int .i64) (bl [.blk eM (.cells #[.int .i64 k4_203, .bool b4_204, .slice fG fF fH, .slice eW fv eX, .slice eY fw e8, .slice e9 fx fd, .slice fe fy ff, .slice fg fA fh, .int .i64 k4_205, .map (some a5), .slice fJ fI fK, .slice fM fL fN, .slice fP fO fQ] 72 (0, 0)), .row 26 1 fG fF fH gU, .row 26 1 eW fv eX i7, .row 3 1 eY fw e8 i8, .row 3 1 e9 fx fd i9, .row 26 1 fe fy ff ja, .row 39 2 fg fA fh jb, .row 9 1 fJ fI fK jc, .row 3 1 fM fL fN jd, .row 3 1 fP fO fQ je, .any (mapE (fun a : List UInt8 => Value.string (gstr a)) (fun a : Int => Value.int .i64 a) a5 m4_260), .blk B2 (.cells #[.int .i64 e.Points, .bool e.Monoid, .slice aY e.Gens.length aZ, .slice az e.Elems.length aA, .slice ao e.Prefix.length ap, .slice aW e.Last.length aX, .slice aB e.Right.length aC, .slice aD e.Rules.length aE, .int .i64 e.Done] 29 (0, 0))] ++ A) w i8 d_218 ∧ Els (Rp.int .i64) (bl [.blk eM (.cells #[.int .i64 k4_203, .bool b4_204, .slice fG fF fH, .slice eW fv eX, .slice eY fw e8, .slice e9 fx fd, .slice fe fy ff, .slice fg fA fh, .int .i64 k4_205, .map (some a5), .slice fJ fI fK, .slice fM fL fN, .slice fP fO fQ] 72 (0, 0)), .row 26 1 fG fF fH gU, .row 26 1 eW fv eX i7, .row 3 1 eY fw e8 i8, .row 3 1 e9 fx fd i9, .row 26 1 fe fy ff ja, .row 39 2 fg fA fh jb, .row 9 1 fJ fI fK jc, .row 3 1 fM fL fN jd, .row 3 1 fP fO fQ je, .any (mapE (fun a : List UInt8 => Value.string (gstr a)) (fun a : Int => Value.int .i64 a) a5 m4_260), .blk B2 (.cells #[.int .i64 e.Points, .bool e.Monoid, .slice aY e.Gens.length aZ, .slice az e.Elems.length aA, .slice ao e.Prefix.length ap, .slice aW e.Last.length aX, .slice aB e.Right.length aC, .slice aD e.Rules.length aE, .int .i64 e.Done] 29 (0, 0))] ++ A) w i9 d_224 ∧ Els (Rp.sl (Rp.int .i64)) (bl [.blk eM (.cells #[.int .i64 k4_203, .bool b4_204, .slice fG fF fH, .slice eW fv eX, .slice eY fw e8, .slice e9 fx fd, .slice fe fy ff, .slice fg fA fh, .int .i64 k4_205, .map (some a5), .slice fJ fI fK, .slice fM fL fN, .slice fP fO fQ] 72 (0, 0)), .row 26 1 fG fF fH gU, .row 26 1 eW fv eX i7, .row 3 1 eY fw e8 i8, .row 3 1 e9 fx fd i9, .row 26 1 fe fy ff ja, .row 39 2 fg fA fh jb, .row 9 1 fJ fI fK jc, .row 3 1 fM fL fN jd, .row 3 1 fP fO fQ je, .any (mapE (fun a : List UInt8 => Value.string (gstr a)) (fun a : Int => Value.int .i64 a) a5 m4_260), .blk B2 (.cells #[.int .i64 e.Points, .bool e.Monoid, .slice aY e.Gens.length aZ, .slice az e.Elems.length aA, .slice ao e.Prefix.length ap, .slice aW e.Last.length aX, .slice aB e.Right.length aC, .slice aD e.Rules.length aE, .int .i64 e.Done] 29 (0, 0))] ++ A) w ja d_230 ∧ Els (rpRule) (bl [.blk eM (.cells #[.int .i64 k4_203, .bool b4_204, .slice fG fF fH, .slice eW fv eX, .slice eY fw e8, .slice e9 fx fd, .slice fe fy ff, .slice fg fA fh, .int .i64 k4_205, .map (some a5), .slice fJ fI fK, .slice fM fL fN, .slice fP fO fQ] 72 (0, 0)), .row 26 1 fG fF fH gU, .row 26 1 eW fv eX i7, .row 3 1 eY fw e8 i8, .row 3 1 e9 fx fd i9, .row 26 1 fe fy ff ja, .row 39 2 fg fA fh jb, .row 9 1 fJ fI fK jc, .row 3 1 fM fL fN jd, .row 3 1 fP fO fQ je, .any (mapE (fun a : List UInt8 => Value.string (gstr a)) (fun a : Int => Value.int .i64 a) a5 m4_260), .blk B2 (.cells #[.int .i64 e.Points, .bool e.Monoid, .slice aY e.Gens.length aZ, .slice az e.Elems.length aA, .slice ao e.Prefix.length ap, .slice aW e.Last.length aX, .slice aB e.Right.length aC, .slice aD e.Rules.length aE, .int .i64 e.Done] 29 (0, 0))] ++ A) w jb d_236 ∧ Els (Rp.str) (bl [.blk eM (.cells #[.int .i64 k4_203, .bool b4_204, .slice fG fF fH, .slice eW fv eX, .slice eY fw e8, .slice e9 fx fd, .slice fe fy ff, .slice fg fA fh, .int .i64 k4_205, .map (some a5), .slice fJ fI fK, .slice fM fL fN, .slice fP fO fQ] 72 (0, 0)), .row 26 1 fG fF fH gU, .row 26 1 eW fv eX i7, .row 3 1 eY fw e8 i8, .row 3 1 e9 fx fd i9, .row 26 1 fe fy ff ja, .row 39 2 fg fA fh jb, .row 9 1 fJ fI fK jc, .row 3 1 fM fL fN jd, .row 3 1 fP fO fQ je, .any (mapE (fun a : List UInt8 => Value.string (gstr a)) (fun a : Int => Value.int .i64 a) a5 m4_260), .blk B2 (.cells #[.int .i64 e.Points, .bool e.Monoid, .slice aY e.Gens.length aZ, .slice az e.Elems.length aA, .slice ao e.Prefix.length ap, .slice aW e.Last.length aX, .slice aB e.Right.length aC, .slice aD e.Rules.length aE, .int .i64 e.Done] 29 (0, 0))] ++ A) w jc d_242 ∧ Els (Rp.int .i64) (bl [.blk eM (.cells #[.int .i64 k4_203, .bool b4_204, .slice fG fF fH, .slice eW fv eX, .slice eY fw e8, .slice e9 fx fd, .slice fe fy ff, .slice fg fA fh, .int .i64 k4_205, .map (some a5), .slice fJ fI fK, .slice fM fL fN, .slice fP fO fQ] 72 (0, 0)), .row 26 1 fG fF fH gU, .row 26 1 eW fv eX i7, .row 3 1 eY fw e8 i8, .row 3 1 e9 fx fd i9, .row 26 1 fe fy ff ja, .row 39 2 fg fA fh jb, .row 9 1 fJ fI fK jc, .row 3 1 fM fL fN jd, .row 3 1 fP fO fQ je, .any (mapE (fun a : List UInt8 => Value.string (gstr a)) (fun a : Int => Value.int .i64 a) a5 m4_260), .blk B2 (.cells #[.int .i64 e.Points, .bool e.Monoid, .slice aY e.Gens.length aZ, .slice az e.Elems.length aA, .slice ao e.Prefix.length ap, .slice aW e.Last.length aX, .slice aB e.Right.length aC, .slice aD e.Rules.length aE, .int .i64 e.Done] 29 (0, 0))] ++ A) w jd d_248 ∧ Els (Rp.int .i64) (bl [.blk eM (.cells #[.int .i64 k4_203, .bool b4_204, .slice fG fF fH, .slice eW fv eX, .slice eY fw e8, .slice e9 fx fd, .slice fe fy ff, .slice fg fA fh, .int .i64 k4_205, .map (some a5), .slice fJ fI fK, .slice fM fL fN, .slice fP fO fQ] 72 (0, 0)), .row 26 1 fG fF fH gU, .row 26 1 eW fv eX i7, .row 3 1 eY fw e8 i8, .row 3 1 e9 fx fd i9, .row 26 1 fe fy ff ja, .row 39 2 fg fA fh jb, .row 9 1 fJ fI fK jc, .row 3 1 fM fL fN jd, .row 3 1 fP fO fQ je, .any (mapE (fun a : List UInt8 => Value.string (gstr a)) (fun a : Int => Value.int .i64 a) a5 m4_260), .blk B2 (.cells #[.int .i64 e.Points, .bool e.Monoid, .slice aY e.Gens.length aZ, .slice az e.Elems.length aA, .slice ao e.Prefix.length ap, .slice aW e.Last.length aX, .slice aB e.Right.length aC, .slice aD e.Rules.length aE, .int .i64 e.Done] 29 (0, 0))] ++ A) w je d_254 ∧ ISl (Rp.sl (Rp.int .i64)) (bl [.blk eM (.cells #[.int .i64 k4_203, .bool b4_204, .slice fG fF fH, .slice eW fv eX, .slice eY fw e8, .slice e9 fx fd, .slice fe fy ff, .slice fg fA fh, .int .i64 k4_205, .map (some a5), .slice fJ fI fK, .slice fM fL fN, .slice fP fO fQ] 72 (0, 0)), .row 26 1 fG fF fH gU, .row 26 1 eW fv eX i7, .row 3 1 eY fw e8 i8, .row 3 1 e9 fx fd i9, .row 26 1 fe fy ff ja, .row 39 2 fg fA fh jb, .row 9 1 fJ fI fK jc, .row 3 1 fM fL fN jd, .row 3 1 fP fO fQ je, .any (mapE (fun a : List UInt8 => Value.string (gstr a)) (fun a : Int => Value.int .i64 a) a5 m4_260), .blk B2 (.cells #[.int .i64 e.Points, .bool e.Monoid, .slice aY e.Gens.length aZ, .slice az e.Elems.length aA, .slice ao e.Prefix.length ap, .slice aW e.Last.length aX, .slice aB e.Right.length aC, .slice aD e.Rules.length aE, .int .i64 e.Done] 29 (0, 0))] ++ A) w aY aZ e.Gens ∧ ISl (Rp.sl (Rp.int .i64)) (bl [.blk eM (.cells #[.int .i64 k4_203, .bool b4_204, .slice fG fF fH, .slice eW fv eX, .slice eY fw e8, .slice e9 fx fd, .slice fe fy ff, .slice fg fA fh, .int .i64 k4_205, .map (some a5), .slice fJ fI fK, .slice fM fL fN, .slice fP fO fQ] 72 (0, 0)), .row 26 1 fG fF fH gU, .row 26 1 eW fv eX i7, .row 3 1 eY fw e8 i8, .row 3 1 e9 fx fd i9, .row 26 1 fe fy ff ja, .row 39 2 fg fA fh jb, .row 9 1 fJ fI fK jc, .row 3 1 fM fL fN jd, .row 3 1 fP fO fQ je, .any (mapE (fun a : List UInt8 => Value.string (gstr a)) (fun a : Int => Value.int .i64 a) a5 m4_260), .blk B2 (.cells #[.int .i64 e.Points, .bool e.Monoid, .slice aY e.Gens.length aZ, .slice az e.Elems.length aA, .slice ao e.Prefix.length ap, .slice aW e.Last.length aX, .slice aB e.Right.length aC, .slice aD e.Rules.length aE, .int .i64 e.Done] 29 (0, 0))] ++ A) w az aA e.Elems ∧ ISl (Rp.int .i64) (bl [.blk eM (.cells #[.int .i64 k4_203, .bool b4_204, .slice fG fF fH, .slice eW fv eX, .slice eY fw e8, .slice e9 fx fd, .slice fe fy ff, .slice fg fA fh, .int .i64 k4_205, .map (some a5), .slice fJ fI fK, .slice fM fL fN, .slice fP fO fQ] 72 (0, 0)), .row 26 1 fG fF fH gU, .row 26 1 eW fv eX i7, .row 3 1 eY fw e8 i8, .row 3 1 e9 fx fd i9, .row 26 1 fe fy ff ja, .row 39 2 fg fA fh jb, .row 9 1 fJ fI fK jc, .row 3 1 fM fL fN jd, .row 3 1 fP fO fQ je, .any (mapE (fun a : List UInt8 => Value.string (gstr a)) (fun a : Int => Value.int .i64 a) a5 m4_260), .blk B2 (.cells #[.int .i64 e.Points, .bool e.Monoid, .slice aY e.Gens.length aZ, .slice az e.Elems.length aA, .slice ao e.Prefix.length ap, .slice aW e.Last.length aX, .slice aB e.Right.length aC, .slice aD e.Rules.length aE, .int .i64 e.Done] 29 (0, 0))] ++ A) w ao ap e.Prefix ∧ ISl (Rp.int .i64) (bl [.blk eM (.cells #[.int .i64 k4_203, .bool b4_204, .slice fG fF fH, .slice eW fv eX, .slice eY fw e8, .slice e9 fx fd, .slice fe fy ff, .slice fg fA fh, .int .i64 k4_205, .map (some a5), .slice fJ fI fK, .slice fM fL fN, .slice fP fO fQ] 72 (0, 0)), .row 26 1 fG fF fH gU, .row 26 1 eW fv eX i7, .row 3 1 eY fw e8 i8, .row 3 1 e9 fx fd i9, .row 26 1 fe fy ff ja, .row 39 2 fg fA fh jb, .row 9 1 fJ fI fK jc, .row 3 1 fM fL fN jd, .row 3 1 fP fO fQ je, .any (mapE (fun a : List UInt8 => Value.string (gstr a)) (fun a : Int => Value.int .i64 a) a5 m4_260), .blk B2 (.cells #[.int .i64 e.Points, .bool e.Monoid, .slice aY e.Gens.length aZ, .slice az e.Elems.length aA, .slice ao e.Prefix.length ap, .slice aW e.Last.length aX, .slice aB e.Right.length aC, .slice aD e.Rules.length aE, .int .i64 e.Done] 29 (0, 0))] ++ A) w aW aX e.Last ∧ ISl (Rp.sl (Rp.int .i64)) (bl [.blk eM (.cells #[.int .i64 k4_203, .bool b4_204, .slice fG fF fH, .slice eW fv eX, .slice eY fw e8, .slice e9 fx fd, .slice fe fy ff, .slice fg fA fh, .int .i64 k4_205, .map (some a5), .slice fJ fI fK, .slice fM fL fN, .slice fP fO fQ] 72 (0, 0)), .row 26 1 fG fF fH gU, .row 26 1 eW fv eX i7, .row 3 1 eY fw e8 i8, .row 3 1 e9 fx fd i9, .row 26 1 fe fy ff ja, .row 39 2 fg fA fh jb, .row 9 1 fJ fI fK jc, .row 3 1 fM fL fN jd, .row 3 1 fP fO fQ je, .any (mapE (fun a : List UInt8 => Value.string (gstr a)) (fun a : Int => Value.int .i64 a) a5 m4_260), .blk B2 (.cells #[.int .i64 e.Points, .bool e.Monoid, .slice aY e.Gens.length aZ, .slice az e.Elems.length aA, .slice ao e.Prefix.length ap, .slice aW e.Last.length aX, .slice aB e.Right.length aC, .slice aD e.Rules.length aE, .int .i64 e.Done] 29 (0, 0))] ++ A) w aB aC e.Right ∧ ISl (rpRule) (bl [.blk eM (.cells #[.int .i64 k4_203, .bool b4_204, .slice fG fF fH, .slice eW fv eX, .slice eY fw e8, .slice e9 fx fd, .slice fe fy ff, .slice fg fA fh, .int .i64 k4_205, .map (some a5), .slice fJ fI fK, .slice fM fL fN, .slice fP fO fQ] 72 (0, 0)), .row 26 1 fG fF fH gU, .row 26 1 eW fv eX i7, .row 3 1 eY fw e8 i8, .row 3 1 e9 fx fd i9, .row 26 1 fe fy ff ja, .row 39 2 fg fA fh jb, .row 9 1 fJ fI fK jc, .row 3 1 fM fL fN jd, .row 3 1 fP fO fQ je, .any (mapE (fun a : List UInt8 => Value.string (gstr a)) (fun a : Int => Value.int .i64 a) a5 m4_260), .blk B2 (.cells #[.int .i64 e.Points, .bool e.Monoid, .slice aY e.Gens.length aZ, .slice az e.Elems.length aA, .slice ao e.Prefix.length ap, .slice aW e.Last.length aX, .slice aB e.Right.length aC, .slice aD e.Rules.length aE, .int .i64 e.Done] 29 (0, 0))] ++ A) w aD aE e.Rules ∧ Fr (bl []) w0 (bl [.blk eM (.cells #[.int .i64 k4_203, .bool b4_204, .slice fG fF fH, .slice eW fv eX, .slice eY fw e8, .slice e9 fx fd, .slice fe fy ff, .slice fg fA fh, .int .i64 k4_205, .map (some a5), .slice fJ fI fK, .slice fM fL fN, .slice fP fO fQ] 72 (0, 0)), .row 26 1 fG fF fH gU, .row 26 1 eW fv eX i7, .row 3 1 eY fw e8 i8, .row 3 1 e9 fx fd i9, .row 26 1 fe fy ff ja, .row 39 2 fg fA fh jb, .row 9 1 fJ fI fK jc, .row 3 1 fM fL fN jd, .row 3 1 fP fO fQ je, .any (mapE (fun a : List UInt8 => Value.string (gstr a)) (fun a : Int => Value.int .i64 a) a5 m4_260), .blk B2 (.cells #[.int .i64 e.Points, .bool e.Monoid, .slice aY e.Gens.length aZ, .slice az e.Elems.length aA, .slice ao e.Prefix.length ap, .slice aW e.Last.length aX, .slice aB e.Right.length aC, .slice aD e.Rules.length aE, .int .i64 e.Done] 29 (0, 0))]) w) H ⟨zn, zo, zp, yJ, yK, yL, yM, yl, ym, yn, yo, x5, zq, zr, zt, yN, yO, yP, yQ, yp, yR, yS, yT, yq, Bi, Bj, Bk, Aw, Ax, Ay, Az, Ar, AA, AB, AC, At, ⟨rfl, rfl, trivial⟩, hO, qL, qo, pQ, qM, qp, qq, uB, t9, ua, ah, ae, ad, ai, af, ag, hB⟩ ?_
   intro X4
   refine prE fun k4_203 => prE fun b4_204 => prE fun k4_205 => prE fun d_206 => prE fun d_212 => prE fun d_218 => prE fun d_224 => prE fun d_230 => prE fun d_236 => prE fun d_242 => prE fun d_248 => prE fun d_254 => fun m4_260 => ?_
   intro H hX4 σ KC
   refine exE fun fF => exE fun fG => exE fun fH => exE fun gU => exE fun fv => exE fun eW => exE fun eX => exE fun i7 => exE fun fw => exE fun eY => exE fun e8 => exE fun i8 => exE fun fx => exE fun e9 => exE fun fd => exE fun i9 => exE fun fy => exE fun fe => exE fun ff => exE fun ja => exE fun fA => exE fun fg => exE fun fh => exE fun jb => exE fun fI => exE fun fJ => exE fun fK => exE fun jc => exE fun fL => exE fun fM => exE fun fN => exE fun jd => exE fun fO => exE fun fP => exE fun fQ => exE fun je => andE fun hag => andE fun hO => andE fun du => andE fun dj => andE fun dp => andE fun dq => andE fun dr => andE fun dt => andE fun dw => andE fun dx => andE fun dy => andE fun ah => andE fun ae => andE fun ad => andE fun ai => andE fun af => andE fun ag => fun hB => ?_
   dsimp only at H
   refine Go1.keep [(1, .pointer (some ⟨B2, 0, none⟩)), (4, .pointer (some ⟨eM, 0, none⟩))] hag ?_
   refine Go1.seq ?_
   refine Go1.seq ?_
   refine Go1.drawS 0 [(0, .pure), (1, .pure), (2, .pure), (3, .pure), (4, .stable), (5, .pure), (6, .stable), (7, .pure)] mixed (by kernel_rfl) ?_
   intro P7 Jx
   have nS := Stp.same hO Jx
   replace du := du.ch nS.ch
   replace dj := dj.ch nS.ch
   replace dp := dp.ch nS.ch
   replace dq := dq.ch nS.ch
   replace dr := dr.ch nS.ch
   replace dt := dt.ch nS.ch
   replace dw := dw.ch nS.ch
   replace dx := dx.ch nS.ch
   replace dy := dy.ch nS.ch
   replace hO := nS.own
   replace ah := ah.ch nS.ch
   replace ae := ae.ch nS.ch
   replace ad := ad.ch nS.ch
   replace ai := ai.ch nS.ch
   replace af := af.ch nS.ch
   replace ag := ag.ch nS.ch
   replace hB := hB.trans nS.fr
   refine GoQ.pure rfl (op_move rfl) rfl rfl ?_
   refine GoQ.pure rfl (op_nilCheck rfl) rfl rfl ?_
   refine GoQ.pure rfl (op_fieldAddr Try.underlying72 rfl ti29 rfl (by decide)) rfl rfl ?_
   refine GoQ.pure rfl (op_fieldAddr Try.underlying29 rfl ti3 rfl (by decide)) rfl rfl ?_
   refine GoQ.stable rfl (oblk (i := 8) 0 hO rfl rfl Try.underlying3 rfl rfl) rfl rfl ?_
   refine GoQ.pure rfl (op_fieldAddr Try.underlying29 rfl ti3 rfl (by decide)) rfl rfl ?_
   refine GoQ.stable rfl (oblk (i := 8) 11 hO rfl rfl Try.underlying3 rfl rfl) rfl rfl ?_
   by_cases CE : k4_205 < e.Done
   ·replace H := ifp CE H
    refine GoQ.pure rfl (fun w => opB (op_lss rfl rfl w) (decide_eq_true CE)) rfl rfl ?_
    refine GoQ.nil ?_
    refine Go1.condT rfl rfl ?_
    refine Go1.skip ?_
    refine Go1.block ?_
    refine Go1.seq ?_
    refine Go1.region ?_
    refine GoR.op ((op_move rfl) _) rfl rfl ?_
    refine GoR.inl (vs := [.pointer (some ⟨eM, 0, none⟩)]) (caps := []) rfl rfl body50 Try.func50 rfl Try.ntmps50 rfl rfl rfl ?_
    intro RhR265 hR265
    refine Go1.seq ?_
    refine Go1.region ?_
    refine GoR.op ((op_assign rfl) _) rfl rfl ?_
    refine GoR.nil ?_
    refine Go1.seq ?_
    refine Go1.drawS 0 [(0, .pure), (1, .pure), (2, .pure), (3, .pure), (4, .stable), (5, .pure), (6, .pure), (7, .pure), (8, .pure), (9, .stable), (10, .pure), (11, .pure), (12, .pure)] mixed (by kernel_rfl) ?_
    intro Bl Jy
    have nT := Stp.same hO Jy
    replace du := du.ch nT.ch
    replace dj := dj.ch nT.ch
    replace dp := dp.ch nT.ch
    replace dq := dq.ch nT.ch
    replace dr := dr.ch nT.ch
    replace dt := dt.ch nT.ch
    replace dw := dw.ch nT.ch
    replace dx := dx.ch nT.ch
    replace dy := dy.ch nT.ch
    replace hO := nT.own
    replace ah := ah.ch nT.ch
    replace ae := ae.ch nT.ch
    replace ad := ad.ch nT.ch
    replace ai := ai.ch nT.ch
    replace af := af.ch nT.ch
    replace ag := ag.ch nT.ch
    replace hB := hB.trans nT.fr
    refine GoQ.pure rfl (op_move rfl) rfl rfl ?_
    refine GoQ.pure rfl (op_nilCheck rfl) rfl rfl ?_
    refine GoQ.pure rfl (op_fieldAddr Try.underlying72 rfl ti29 rfl (by decide)) rfl rfl ?_
    refine GoQ.pure rfl (op_fieldAddr Try.underlying29 rfl ti3 rfl (by decide)) rfl rfl ?_
    refine GoQ.stable rfl (oblk (i := 8) 0 hO rfl rfl Try.underlying3 rfl rfl) rfl rfl ?_
    refine GoQ.pure rfl (op_move rfl) rfl rfl ?_
    refine GoQ.pure rfl (op_nilCheck rfl) rfl rfl ?_
    refine GoQ.pure rfl (op_fieldAddr Try.underlying72 rfl ti29 rfl (by decide)) rfl rfl ?_
    refine GoQ.pure rfl (op_fieldAddr Try.underlying29 rfl ti22 rfl (by decide)) rfl rfl ?_
    refine GoQ.stable rfl (oblk (i := 3) 0 hO rfl rfl Try.underlying22 rfl rfl) rfl rfl ?_
    refine GoQ.pure rfl (op_lenN Try.underlying22 rfl (dj.neq hO 2 rfl)) rfl rfl ?_
    by_cases CF : k4_205 = (d_212.length : Int)
    ·replace H := ifp CF H
     refine GoQ.pure rfl (fun w => opB (op_eql rfl rfl w) (decide_eq_true CF)) rfl rfl ?_
     refine GoQ.pure rfl (op_assign rfl) rfl rfl ?_
     refine GoQ.nil ?_
     refine Go1.ret1V Try.func50 rfl (show _ = .bool true from rfl) ?_
     refine hR265 _ _ ?_
     refine GoR.op ((op_move rfl) _) rfl rfl ?_
     refine GoR.pass rfl rfl ?_
     refine GoR.pass rfl rfl ?_
     refine GoR.pass rfl rfl ?_
     refine GoR.op ((op_pickT rfl rfl rfl) _) rfl rfl ?_
     refine GoR.nil ?_
     refine Go1.condT rfl rfl ?_
     refine Go1.seq ?_
     refine Go1.cut [] trivial ?_
     intro σ _
     refine Go1.region ?_
     refine GoR.op ((op_assign rfl) _) rfl rfl ?_
     refine GoR.op ((op_assign rfl) _) rfl rfl ?_
     refine GoR.nil ?_
     refine Go1.ret2 Try.func53 rfl ?_
     exact Or.inl ⟨false, rfl, hB.same, H⟩
    replace H := ifn CF H
    refine GoQ.pure rfl (fun w => opB (op_eql rfl rfl w) (decide_eq_false CF)) rfl rfl ?_
    refine GoQ.pure rfl (op_assign rfl) rfl rfl ?_
    refine GoQ.nil ?_
    refine Go1.ret1V Try.func50 rfl (show _ = .bool false from rfl) ?_
    refine hR265 _ _ ?_
    refine GoR.op ((op_move rfl) _) rfl rfl ?_
    refine GoR.op ((op_move rfl) _) rfl rfl ?_
    have Ej : Owns w0.heap.size Bl ([.blk eM (.cells #[.int .i64 k4_203, .bool b4_204, .slice fG fF fH, .slice eW fv eX, .slice eY fw e8, .slice e9 fx fd, .slice fe fy ff, .slice fg fA fh, .int .i64 k4_205, .map (some a5), .slice fJ fI fK, .slice fM fL fN, .slice fP fO fQ] 72 (0, 0)), .row 26 1 fG fF fH gU, .row 26 1 eW fv eX i7, .row 3 1 eY fw e8 i8, .row 3 1 e9 fx fd i9, .row 26 1 fe fy ff ja, .row 39 2 fg fA fh jb, .row 9 1 fJ fI fK jc, .row 3 1 fM fL fN jd, .row 3 1 fP fO fQ je, .any (mapE (fun a : List UInt8 => Value.string (gstr a)) (fun a : Int => Value.int .i64 a) a5 m4_260)] ++ [.blk B2 (.cells #[.int .i64 e.Points, .bool e.Monoid, .slice aY e.Gens.length aZ, .slice az e.Elems.length aA, .slice ao e.Prefix.length ap, .slice aW e.Last.length aX, .slice aB e.Right.length aC, .slice aD e.Rules.length aE, .int .i64 e.Done] 29 (0, 0))]) A := hO
    have Jz := Owns.split Ej
    have hca272 : Ch (bl [.blk eM (.cells #[.int .i64 k4_203, .bool b4_204, .slice fG fF fH, .slice eW fv eX, .slice eY fw e8, .slice e9 fx fd, .slice fe fy ff, .slice fg fA fh, .int .i64 k4_205, .map (some a5), .slice fJ fI fK, .slice fM fL fN, .slice fP fO fQ] 72 (0, 0)), .row 26 1 fG fF fH gU, .row 26 1 eW fv eX i7, .row 3 1 eY fw e8 i8, .row 3 1 e9 fx fd i9, .row 26 1 fe fy ff ja, .row 39 2 fg fA fh jb, .row 9 1 fJ fI fK jc, .row 3 1 fM fL fN jd, .row 3 1 fP fO fQ je, .any (mapE (fun a : List UInt8 => Value.string (gstr a)) (fun a : Int => Value.int .i64 a) a5 m4_260), .blk B2 (.cells #[.int .i64 e.Points, .bool e.Monoid, .slice aY e.Gens.length aZ, .slice az e.Elems.length aA, .slice ao e.Prefix.length ap, .slice aW e.Last.length aX, .slice aB e.Right.length aC, .slice aD e.Rules.length aE, .int .i64 e.Done] 29 (0, 0))] ++ A) Bl (bl [.blk eM (.cells #[.int .i64 k4_203, .bool b4_204, .slice fG fF fH, .slice eW fv eX, .slice eY fw e8, .slice e9 fx fd, .slice fe fy ff, .slice fg fA fh, .int .i64 k4_205, .map (some a5), .slice fJ fI fK, .slice fM fL fN, .slice fP fO fQ] 72 (0, 0)), .row 26 1 fG fF fH gU, .row 26 1 eW fv eX i7, .row 3 1 eY fw e8 i8, .row 3 1 e9 fx fd i9, .row 26 1 fe fy ff ja, .row 39 2 fg fA fh jb, .row 9 1 fJ fI fK jc, .row 3 1 fM fL fN jd, .row 3 1 fP fO fQ je, .any (mapE (fun a : List UInt8 => Value.string (gstr a)) (fun a : Int => Value.int .i64 a) a5 m4_260)] ++ (bl [.blk B2 (.cells #[.int .i64 e.Points, .bool e.Monoid, .slice aY e.Gens.length aZ, .slice az e.Elems.length aA, .slice ao e.Prefix.length ap, .slice aW e.Last.length aX, .slice aB e.Right.length aC, .slice aD e.Rules.length aE, .int .i64 e.Done] 29 (0, 0))] ++ A)) Bl := Ch.assoc' [.blk eM (.cells #[.int .i64 k4_203, .bool b4_204, .slice fG fF fH, .slice eW fv eX, .slice eY fw e8, .slice e9 fx fd, .slice fe fy ff, .slice fg fA fh, .int .i64 k4_205, .map (some a5), .slice fJ fI fK, .slice fM fL fN, .slice fP fO fQ] 72 (0, 0)), .row 26 1 fG fF fH gU, .row 26 1 eW fv eX i7, .row 3 1 eY fw e8 i8, .row 3 1 e9 fx fd i9, .row 26 1 fe fy ff ja, .row 39 2 fg fA fh jb, .row 9 1 fJ fI fK jc, .row 3 1 fM fL fN jd, .row 3 1 fP fO fQ je, .any (mapE (fun a : List UInt8 => Value.string (gstr a)) (fun a : Int => Value.int .i64 a) a5 m4_260)] [.blk B2 (.cells #[.int .i64 e.Points, .bool e.Monoid, .slice aY e.Gens.length aZ, .slice az e.Elems.length aA, .slice ao e.Prefix.length ap, .slice aW e.Last.length aX, .slice aB e.Right.length aC, .slice aD e.Rules.length aE, .int .i64 e.Done] 29 (0, 0))] A Bl
    refine GoR.call (op_call body51 rfl (walk_enumerate_run_process (a0 := (⟨(⟨k4_203, b4_204, d_206, d_212, d_218, d_224, d_230, d_236, k4_205⟩ : Enum), m4_260, d_242, d_248, d_254⟩ : run)) Jz (du.ch hca272) (dj.ch hca272) (dp.ch hca272) (dq.ch hca272) (dr.ch hca272) (dt.ch hca272) (dw.ch hca272) (dx.ch hca272) (dy.ch hca272) H)) rfl rfl ?_
    intro P8 CG
    refine exE fun r273 => exE fun q274 => exE fun jf => exE fun jg => exE fun jh => exE fun oT => exE fun ii => exE fun ik => exE fun il => exE fun nU => exE fun gK => exE fun gL => exE fun gM => exE fun m7 => exE fun ji => exE fun jj => exE fun jk => exE fun oU => exE fun io => exE fun ip => exE fun iq => exE fun nV => exE fun ir => exE fun iu => exE fun iv => exE fun nW => exE fun mt => exE fun mv => exE fun mw => exE fun sT => exE fun kX => exE fun kY => exE fun kZ => exE fun rg => exE fun k8 => exE fun k9 => exE fun la => exE fun rh => andE fun hv280 => andE fun hN277 => andE fun ui => andE fun tZ => andE fun tg => andE fun uj => andE fun t0 => andE fun t3 => andE fun vE => andE fun u9 => andE fun va => andE fun hF278 => fun H => ?_
    subst hv280
    have vB : Stp w0.heap.size A Bl [.blk eM (.cells #[.int .i64 k4_203, .bool b4_204, .slice fG fF fH, .slice eW fv eX, .slice eY fw e8, .slice e9 fx fd, .slice fe fy ff, .slice fg fA fh, .int .i64 k4_205, .map (some a5), .slice fJ fI fK, .slice fM fL fN, .slice fP fO fQ] 72 (0, 0)), .row 26 1 fG fF fH gU, .row 26 1 eW fv eX i7, .row 3 1 eY fw e8 i8, .row 3 1 e9 fx fd i9, .row 26 1 fe fy ff ja, .row 39 2 fg fA fh jb, .row 9 1 fJ fI fK jc, .row 3 1 fM fL fN jd, .row 3 1 fP fO fQ je, .any (mapE (fun a : List UInt8 => Value.string (gstr a)) (fun a : Int => Value.int .i64 a) a5 m4_260), .blk B2 (.cells #[.int .i64 e.Points, .bool e.Monoid, .slice aY e.Gens.length aZ, .slice az e.Elems.length aA, .slice ao e.Prefix.length ap, .slice aW e.Last.length aX, .slice aB e.Right.length aC, .slice aD e.Rules.length aE, .int .i64 e.Done] 29 (0, 0))] CG [.blk eM (.cells #[.int .i64 q274.Enum.Points, .bool q274.Enum.Monoid, .slice jg jf jh, .slice ik ii il, .slice gL gK gM, .slice jj ji jk, .slice ip io iq, .slice iu ir iv, .int .i64 q274.Enum.Done, .map (some a5), .slice mv mt mw, .slice kY kX kZ, .slice k9 k8 la] 72 (0, 0)), .row 26 1 jg jf jh oT, .row 26 1 ik ii il nU, .row 3 1 gL gK gM m7, .row 3 1 jj ji jk oU, .row 26 1 ip io iq nV, .row 39 2 iu ir iv nW, .row 9 1 mv mt mw sT, .row 3 1 kY kX kZ rg, .row 3 1 k9 k8 la rh, .any (mapE (fun a : List UInt8 => Value.string (gstr a)) (fun a : Int => Value.int .i64 a) a5 q274.number), .blk B2 (.cells #[.int .i64 e.Points, .bool e.Monoid, .slice aY e.Gens.length aZ, .slice az e.Elems.length aA, .slice ao e.Prefix.length ap, .slice aW e.Last.length aX, .slice aB e.Right.length aC, .slice aD e.Rules.length aE, .int .i64 e.Done] 29 (0, 0))] := Stp.join Ej hN277 hF278
    replace hO := vB.own
    replace ah := ah.ch vB.ch
    replace ae := ae.ch vB.ch
    replace ad := ad.ch vB.ch
    replace ai := ai.ch vB.ch
    replace af := af.ch vB.ch
    replace ag := ag.ch vB.ch
    replace hB := hB.trans vB.fr
    have hca281 : Ch (bl [.blk eM (.cells #[.int .i64 q274.Enum.Points, .bool q274.Enum.Monoid, .slice jg jf jh, .slice ik ii il, .slice gL gK gM, .slice jj ji jk, .slice ip io iq, .slice iu ir iv, .int .i64 q274.Enum.Done, .map (some a5), .slice mv mt mw, .slice kY kX kZ, .slice k9 k8 la] 72 (0, 0)), .row 26 1 jg jf jh oT, .row 26 1 ik ii il nU, .row 3 1 gL gK gM m7, .row 3 1 jj ji jk oU, .row 26 1 ip io iq nV, .row 39 2 iu ir iv nW, .row 9 1 mv mt mw sT, .row 3 1 kY kX kZ rg, .row 3 1 k9 k8 la rh, .any (mapE (fun a : List UInt8 => Value.string (gstr a)) (fun a : Int => Value.int .i64 a) a5 q274.number)] ++ (bl [.blk B2 (.cells #[.int .i64 e.Points, .bool e.Monoid, .slice aY e.Gens.length aZ, .slice az e.Elems.length aA, .slice ao e.Prefix.length ap, .slice aW e.Last.length aX, .slice aB e.Right.length aC, .slice aD e.Rules.length aE, .int .i64 e.Done] 29 (0, 0))] ++ A)) CG (bl [.blk eM (.cells #[.int .i64 q274.Enum.Points, .bool q274.Enum.Monoid, .slice jg jf jh, .slice ik ii il, .slice gL gK gM, .slice jj ji jk, .slice ip io iq, .slice iu ir iv, .int .i64 q274.Enum.Done, .map (some a5), .slice mv mt mw, .slice kY kX kZ, .slice k9 k8 la] 72 (0, 0)), .row 26 1 jg jf jh oT, .row 26 1 ik ii il nU, .row 3 1 gL gK gM m7, .row 3 1 jj ji jk oU, .row 26 1 ip io iq nV, .row 39 2 iu ir iv nW, .row 9 1 mv mt mw sT, .row 3 1 kY kX kZ rg, .row 3 1 k9 k8 la rh, .any (mapE (fun a : List UInt8 => Value.string (gstr a)) (fun a : Int => Value.int .i64 a) a5 q274.number), .blk B2 (.cells #[.int .i64 e.Points, .bool e.Monoid, .slice aY e.Gens.length aZ, .slice az e.Elems.length aA, .slice ao e.Prefix.length ap, .slice aW e.Last.length aX, .slice aB e.Right.length aC, .slice aD e.Rules.length aE, .int .i64 e.Done] 29 (0, 0))] ++ A) CG := Ch.assoc [.blk eM (.cells #[.int .i64 q274.Enum.Points, .bool q274.Enum.Monoid, .slice jg jf jh, .slice ik ii il, .slice gL gK gM, .slice jj ji jk, .slice ip io iq, .slice iu ir iv, .int .i64 q274.Enum.Done, .map (some a5), .slice mv mt mw, .slice kY kX kZ, .slice k9 k8 la] 72 (0, 0)), .row 26 1 jg jf jh oT, .row 26 1 ik ii il nU, .row 3 1 gL gK gM m7, .row 3 1 jj ji jk oU, .row 26 1 ip io iq nV, .row 39 2 iu ir iv nW, .row 9 1 mv mt mw sT, .row 3 1 kY kX kZ rg, .row 3 1 k9 k8 la rh, .any (mapE (fun a : List UInt8 => Value.string (gstr a)) (fun a : Int => Value.int .i64 a) a5 q274.number)] [.blk B2 (.cells #[.int .i64 e.Points, .bool e.Monoid, .slice aY e.Gens.length aZ, .slice az e.Elems.length aA, .slice ao e.Prefix.length ap, .slice aW e.Last.length aX, .slice aB e.Right.length aC, .slice aD e.Rules.length aE, .int .i64 e.Done] 29 (0, 0))] A CG
    replace ui := ui.ch hca281
    replace tZ := tZ.ch hca281
    replace tg := tg.ch hca281
    replace uj := uj.ch hca281
    replace t0 := t0.ch hca281
    replace t3 := t3.ch hca281
    replace vE := vE.ch hca281
    replace u9 := u9.ch hca281
    replace va := va.ch hca281
    by_cases CH : r273 = (0 : Int)
    ·replace H := ifp CH H
     refine GoR.op ((fun w => opB (op_neq rfl rfl w) (ndT CH)) _) rfl rfl ?_
     refine GoR.op ((op_pickF rfl rfl rfl) _) rfl rfl ?_
     refine GoR.nil ?_
     refine Go1.condF rfl rfl ?_
     refine Go1.skip ?_
     refine Go1.inBlock ?_
     exact hX4 _ H _ _ ⟨jf, jg, jh, oT, ii, ik, il, nU, gK, gL, gM, m7, ji, jj, jk, oU, io, ip, iq, nV, ir, iu, iv, nW, mt, mv, mw, sT, kX, kY, kZ, rg, k8, k9, la, rh, ⟨rfl, rfl, trivial⟩, hO, ui, tZ, tg, uj, t0, t3, vE, u9, va, ah, ae, ad, ai, af, ag, hB⟩
    replace H := ifn CH H
    refine GoR.op ((fun w => opB (op_neq rfl rfl w) (ndF CH)) _) rfl rfl ?_
    refine GoR.op ((op_pickF rfl rfl rfl) _) rfl rfl ?_
    refine GoR.nil ?_
    refine Go1.condT rfl rfl ?_
    refine Go1.seq ?_
    refine Go1.region ?_
    refine GoR.op ((op_assign rfl) _) rfl rfl ?_
    refine GoR.op ((op_assign rfl) _) rfl rfl ?_
    refine GoR.nil ?_
    refine Go1.ret2 Try.func53 rfl ?_
    exact Or.inl ⟨false, rfl, hB.same, H⟩
   replace H := ifn CE H
   refine GoQ.pure rfl (fun w => opB (op_lss rfl rfl w) (decide_eq_false CE)) rfl rfl ?_
   refine GoQ.nil ?_
   refine Go1.condF rfl rfl ?_
   refine Go1.exit rfl ?_
   refine Go1.seq ?_
   refine Go1.region ?_
   refine GoR.op ((op_move rfl) _) rfl rfl ?_
   refine GoR.op ((op_move rfl) _) rfl rfl ?_
   refine GoR.op ((oblkAgg (vs := [.int .i64 e.Points, .bool e.Monoid, .slice aY e.Gens.length aZ, .slice az e.Elems.length aA, .slice ao e.Prefix.length ap, .slice aW e.Last.length aX, .slice aB e.Right.length aC, .slice aD e.Rules.length aE, .int .i64 e.Done]) (i := 0) 11 hO rfl rfl Try.underlying29 rfl ti29 rfl) _ (Same.refl _)) rfl rfl ?_
   refine GoR.inl (vs := [.pointer (some ⟨eM, 0, none⟩), .agg #[.int .i64 e.Points, .bool e.Monoid, .slice aY e.Gens.length aZ, .slice az e.Elems.length aA, .slice ao e.Prefix.length ap, .slice aW e.Last.length aX, .slice aB e.Right.length aC, .slice aD e.Rules.length aE, .int .i64 e.Done]]) (caps := []) rfl rfl body68 Try.func68 rfl Try.ntmps68 rfl rfl rfl ?_
   intro RhR283 hR283
   refine Go1.seq ?_
   refine Go1.region ?_
   have hobt := obox (t := 29) (v := .agg #[.int .i64 e.Points, .bool e.Monoid, .slice aY e.Gens.length aZ, .slice az e.Elems.length aA, .slice ao e.Prefix.length ap, .slice aW e.Last.length aX, .slice aB e.Right.length aC, .slice aD e.Rules.length aE, .int .i64 e.Done]) (cs := #[.int .i64 e.Points, .bool e.Monoid, .slice aY e.Gens.length aZ, .slice az e.Elems.length aA, .slice ao e.Prefix.length ap, .slice aW e.Last.length aX, .slice aB e.Right.length aC, .slice aD e.Rules.length aE, .int .i64 e.Done]) hO rfl
   obtain ⟨KH, B285, nX, MX, Gt⟩ := hobt
   refine GoR.op (Gt rfl) rfl rfl ?_
   replace du := du.ch nX.ch
   replace dj := dj.ch nX.ch
   replace dp := dp.ch nX.ch
   replace dq := dq.ch nX.ch
   replace dr := dr.ch nX.ch
   replace dt := dt.ch nX.ch
   replace dw := dw.ch nX.ch
   replace dx := dx.ch nX.ch
   replace dy := dy.ch nX.ch
   replace hO := nX.own
   replace ah := ah.ch nX.ch
   replace ae := ae.ch nX.ch
   replace ad := ad.ch nX.ch
   replace ai := ai.ch nX.ch
   replace af := af.ch nX.ch
   replace ag := ag.ch nX.ch
   replace hB := hB.trans nX.fr
   refine GoR.op ((op_assign rfl) _) rfl rfl ?_
   refine GoR.nil ?_
   refine Go1.seq ?_
   refine Go1.drawS 0 [(0, .pure), (1, .pure), (2, .pure), (3, .pure), (4, .stable), (5, .pure), (6, .stable), (7, .pure), (8, .pure), (9, .pure), (10, .pure), (11, .pure), (12, .pure), (13, .stable), (14, .pure), (15, .stable), (16, .pure), (17, .pure), (18, .pure), (19, .pure), (20, .pure), (21, .pure), (22, .pure), (23, .stable), (24, .pure), (25, .stable), (26, .loud), (27, .pure), (28, .pure), (29, .pure), (30, .pure), (31, .pure), (32, .pure), (33, .stable), (34, .pure), (35, .stable), (36, .loud), (37, .pure), (38, .pure), (39, .pure), (40, .pure), (41, .pure), (42, .pure), (43, .stable), (44, .pure), (45, .stable), (46, .loud), (47, .pure), (48, .pure), (49, .pure), (50, .pure), (51, .pure), (52, .pure), (53, .stable), (54, .pure), (55, .stable), (56, .loud), (57, .pure), (58, .pure), (59, .pure), (60, .pure), (61, .pure), (62, .pure), (63, .stable), (64, .pure), (65, .stable), (66, .loud), (67, .pure), (68, .pure)] mixed (by kernel_rfl) ?_
   intro P9 JA
   have nY := Stp.same hO JA
   replace du := du.ch nY.ch
   replace dj := dj.ch nY.ch
   replace dp := dp.ch nY.ch
   replace dq := dq.ch nY.ch
   replace dr := dr.ch nY.ch
   replace dt := dt.ch nY.ch
   replace dw := dw.ch nY.ch
   replace dx := dx.ch nY.ch
   replace dy := dy.ch nY.ch
   replace hO := nY.own
   replace ah := ah.ch nY.ch
   replace ae := ae.ch nY.ch
   replace ad := ad.ch nY.ch
   replace ai := ai.ch nY.ch
   replace af := af.ch nY.ch
   replace ag := ag.ch nY.ch
   replace hB := hB.trans nY.fr
   refine GoQ.pure rfl (op_move rfl) rfl rfl ?_
   refine GoQ.pure rfl (op_nilCheck rfl) rfl rfl ?_
   refine GoQ.pure rfl (op_fieldAddr Try.underlying72 rfl ti29 rfl (by decide)) rfl rfl ?_
   refine GoQ.pure rfl (op_fieldAddr Try.underlying29 rfl ti3 rfl (by decide)) rfl rfl ?_
   refine GoQ.stable rfl (oblk (i := 0) 1 hO rfl rfl Try.underlying3 rfl rfl) rfl rfl ?_
   refine GoQ.pure rfl (op_fieldAddr Try.underlying29 rfl ti3 rfl (by decide)) rfl rfl ?_
   refine GoQ.stable rfl (oblk (i := 0) 0 hO rfl rfl Try.underlying3 rfl rfl) rfl rfl ?_
   by_cases CJ : k4_203 = e.Points
   ·replace H := ifp CJ H
    refine GoQ.pure rfl (fun w => opB (op_eql rfl rfl w) (decide_eq_true CJ)) rfl rfl ?_
    refine GoQ.pure rfl (op_move rfl) rfl rfl ?_
    refine GoQ.pure rfl (op_move rfl) rfl rfl ?_
    refine GoQ.pure rfl (op_nilCheck rfl) rfl rfl ?_
    refine GoQ.pure rfl (op_fieldAddr Try.underlying72 rfl ti29 rfl (by decide)) rfl rfl ?_
    refine GoQ.pure rfl (op_fieldAddr Try.underlying29 rfl ti3 rfl (by decide)) rfl rfl ?_
    refine GoQ.stable rfl (oblk (i := 8) 1 hO rfl rfl Try.underlying3 rfl rfl) rfl rfl ?_
    refine GoQ.pure rfl (op_fieldAddr Try.underlying29 rfl ti3 rfl (by decide)) rfl rfl ?_
    refine GoQ.stable rfl (oblk (i := 8) 0 hO rfl rfl Try.underlying3 rfl rfl) rfl rfl ?_
    by_cases CK : k4_205 = e.Done
    ·replace H := ifp CK H
     refine GoQ.pure rfl (fun w => opB (op_eql rfl rfl w) (decide_eq_true CK)) rfl rfl ?_
     refine GoQ.pure rfl (op_pickT rfl rfl rfl) rfl rfl ?_
     refine GoQ.pure rfl (op_move rfl) rfl rfl ?_
     refine GoQ.pure rfl (op_move rfl) rfl rfl ?_
     refine GoQ.pure rfl (op_nilCheck rfl) rfl rfl ?_
     refine GoQ.pure rfl (op_fieldAddr Try.underlying72 rfl ti29 rfl (by decide)) rfl rfl ?_
     refine GoQ.pure rfl (op_fieldAddr Try.underlying29 rfl ti22 rfl (by decide)) rfl rfl ?_
     refine GoQ.stable rfl (oblk (i := 3) 1 hO rfl rfl Try.underlying22 rfl rfl) rfl rfl ?_
     refine GoQ.pure rfl (op_fieldAddr Try.underlying29 rfl ti22 rfl (by decide)) rfl rfl ?_
     refine GoQ.stable rfl (oblk (i := 3) 0 hO rfl rfl Try.underlying22 rfl rfl) rfl rfl ?_
     have hobt := rowlend 3 hO rfl dj
     obtain ⟨JB, JC⟩ := hobt
     have hOc297 := hO.drop 3
     refine GoQ.call rfl (op_call body69 (show ([.slice eW fv eX, .slice az e.Elems.length aA, .func (.func 70) #[] #[]] : List Value) = [.slice eW d_212.length eX, .slice az e.Elems.length aA, .func (.func 70) #[] #[]] from by rw [← JC]) (walk_slices_EqualFunc_int hOc297.lt JB (ae.ch (Owns.dropCh _ _ 3)) H)) (fun v w hr => by obtain ⟨_, _, hs, _⟩ := hr; assumption) rfl rfl ?_
     rintro Qa Qb ⟨r298, rfl, Ed, H⟩
     have nZ := Stp.same hO Ed
     replace du := du.ch nZ.ch
     replace dj := dj.ch nZ.ch
     replace dp := dp.ch nZ.ch
     replace dq := dq.ch nZ.ch
     replace dr := dr.ch nZ.ch
     replace dt := dt.ch nZ.ch
     replace dw := dw.ch nZ.ch
     replace dx := dx.ch nZ.ch
     replace dy := dy.ch nZ.ch
     replace hO := nZ.own
     replace ah := ah.ch nZ.ch
     replace ae := ae.ch nZ.ch
     replace ad := ad.ch nZ.ch
     replace ai := ai.ch nZ.ch
     replace af := af.ch nZ.ch
     replace ag := ag.ch nZ.ch
     replace hB := hB.trans nZ.fr
     refine GoQ.pure rfl (op_pickT rfl rfl rfl) rfl rfl ?_
     refine GoQ.pure rfl (op_move rfl) rfl rfl ?_
     cases r298
     ·replace H := ifn Bool.false_ne_true H
      refine GoQ.pass rfl rfl rfl ?_
      refine GoQ.pass rfl rfl rfl ?_
      refine GoQ.pass rfl rfl rfl ?_
      refine GoQ.pass rfl rfl rfl ?_
      refine GoQ.pass rfl rfl rfl ?_
      refine GoQ.pass rfl rfl rfl ?_
      refine GoQ.pass rfl rfl rfl ?_
      refine GoQ.pass rfl rfl rfl ?_
      refine GoQ.pure rfl (op_pickF rfl rfl rfl) rfl rfl ?_
      refine GoQ.pure rfl (op_move rfl) rfl rfl ?_
      refine GoQ.pass rfl rfl rfl ?_
      refine GoQ.pass rfl rfl rfl ?_
      refine GoQ.pass rfl rfl rfl ?_
      refine GoQ.pass rfl rfl rfl ?_
      refine GoQ.pass rfl rfl rfl ?_
      refine GoQ.pass rfl rfl rfl ?_
      refine GoQ.pass rfl rfl rfl ?_
      refine GoQ.pass rfl rfl rfl ?_
      refine GoQ.pure rfl (op_pickF rfl rfl rfl) rfl rfl ?_
      refine GoQ.pure rfl (op_move rfl) rfl rfl ?_
      refine GoQ.pass rfl rfl rfl ?_
      refine GoQ.pass rfl rfl rfl ?_
      refine GoQ.pass rfl rfl rfl ?_
      refine GoQ.pass rfl rfl rfl ?_
      refine GoQ.pass rfl rfl rfl ?_
      refine GoQ.pass rfl rfl rfl ?_
      refine GoQ.pass rfl rfl rfl ?_
      refine GoQ.pass rfl rfl rfl ?_
      refine GoQ.pure rfl (op_pickF rfl rfl rfl) rfl rfl ?_
      refine GoQ.pure rfl (op_move rfl) rfl rfl ?_
      refine GoQ.pass rfl rfl rfl ?_
      refine GoQ.pass rfl rfl rfl ?_
      refine GoQ.pass rfl rfl rfl ?_
      refine GoQ.pass rfl rfl rfl ?_
      refine GoQ.pass rfl rfl rfl ?_
      refine GoQ.pass rfl rfl rfl ?_
      refine GoQ.pass rfl rfl rfl ?_
      refine GoQ.pass rfl rfl rfl ?_
      refine GoQ.pure rfl (op_pickF rfl rfl rfl) rfl rfl ?_
      refine GoQ.pure rfl (op_assign rfl) rfl rfl ?_
      refine GoQ.nil ?_
      refine Go1.ret1V Try.func68 rfl (show _ = .bool false from rfl) ?_
      refine hR283 _ _ ?_
      refine GoR.op ((op_assign rfl) _) rfl rfl ?_
      refine GoR.op ((op_assign rfl) _) rfl rfl ?_
      refine GoR.nil ?_
      replace ah := ah.ch (Owns.dropCh _ _ 0)
      replace ae := ae.ch (Owns.dropCh _ _ 0)
      replace ad := ad.ch (Owns.dropCh _ _ 0)
      replace ai := ai.ch (Owns.dropCh _ _ 0)
      replace af := af.ch (Owns.dropCh _ _ 0)
      replace ag := ag.ch (Owns.dropCh _ _ 0)
      replace du := du.ch (Owns.dropCh _ _ 0)
      replace dj := dj.ch (Owns.dropCh _ _ 0)
      replace dp := dp.ch (Owns.dropCh _ _ 0)
      replace dq := dq.ch (Owns.dropCh _ _ 0)
      replace dr := dr.ch (Owns.dropCh _ _ 0)
      replace dt := dt.ch (Owns.dropCh _ _ 0)
      replace dw := dw.ch (Owns.dropCh _ _ 0)
      replace dx := dx.ch (Owns.dropCh _ _ 0)
      replace dy := dy.ch (Owns.dropCh _ _ 0)
      replace hB := hB.trans (Owns.dropFr _ _ 0)
      replace hO := hO.drop 0
      dsimp only [eS, eZ] at hB hO ah ae ad ai af ag du dj dp dq dr dt dw dx dy
      replace ah := ah.ch (Owns.dropCh _ _ 11)
      replace ae := ae.ch (Owns.dropCh _ _ 11)
      replace ad := ad.ch (Owns.dropCh _ _ 11)
      replace ai := ai.ch (Owns.dropCh _ _ 11)
      replace af := af.ch (Owns.dropCh _ _ 11)
      replace ag := ag.ch (Owns.dropCh _ _ 11)
      replace du := du.ch (Owns.dropCh _ _ 11)
      replace dj := dj.ch (Owns.dropCh _ _ 11)
      replace dp := dp.ch (Owns.dropCh _ _ 11)
      replace dq := dq.ch (Owns.dropCh _ _ 11)
      replace dr := dr.ch (Owns.dropCh _ _ 11)
      replace dt := dt.ch (Owns.dropCh _ _ 11)
      replace dw := dw.ch (Owns.dropCh _ _ 11)
      replace dx := dx.ch (Owns.dropCh _ _ 11)
      replace dy := dy.ch (Owns.dropCh _ _ 11)
      replace hB := hB.trans (Owns.dropFr _ _ 11)
      replace hO := hO.drop 11
      dsimp only [eS, eZ] at hB hO ah ae ad ai af ag du dj dp dq dr dt dw dx dy
      refine Go1.ret2 Try.func53 rfl ?_
      exact Or.inr ⟨(⟨(⟨k4_203, b4_204, d_206, d_212, d_218, d_224, d_230, d_236, k4_205⟩ : Enum), m4_260, d_242, d_248, d_254⟩ : run), false, eM, fF, fG, fH, gU, fv, eW, eX, i7, fw, eY, e8, i8, fx, e9, fd, i9, fy, fe, ff, ja, fA, fg, fh, jb, a5, fI, fJ, fK, jc, fL, fM, fN, jd, fO, fP, fQ, je, rfl, hB.same, hO, du, dj, dp, dq, dr, dt, dw, dx, dy, H⟩
     replace H := ifp rfl H
     refine GoQ.pure rfl (op_move rfl) rfl rfl ?_
     refine GoQ.pure rfl (op_nilCheck rfl) rfl rfl ?_
     refine GoQ.pure rfl (op_fieldAddr Try.underlying72 rfl ti29 rfl (by decide)) rfl rfl ?_
     refine GoQ.pure rfl (op_fieldAddr Try.underlying29 rfl ti26 rfl (by decide)) rfl rfl ?_
     refine GoQ.stable rfl (oblk (i := 4) 1 hO rfl rfl Try.underlying26 rfl rfl) rfl rfl ?_
     refine GoQ.pure rfl (op_fieldAddr Try.underlying29 rfl ti26 rfl (by decide)) rfl rfl ?_
     refine GoQ.stable rfl (oblk (i := 4) 0 hO rfl rfl Try.underlying26 rfl rfl) rfl rfl ?_
     have hobt := rowlend 4 hO rfl dp
     obtain ⟨JD, JE⟩ := hobt
     have hOc306 := hO.drop 4
     refine GoQ.call rfl (op_call body70 (show ([.slice eY fw e8, .slice ao e.Prefix.length ap] : List Value) = [.slice eY d_218.length e8, .slice ao e.Prefix.length ap] from by rw [← JE]) (walk_slices_Equal_int hOc306.lt JD (ad.ch (Owns.dropCh _ _ 4)) H)) (fun v w hr => by obtain ⟨_, _, hs, _⟩ := hr; assumption) rfl rfl ?_
     rintro Qc Qd ⟨r307, rfl, JF, H⟩
     have n7 := Stp.same hO JF
     replace du := du.ch n7.ch
     replace dj := dj.ch n7.ch
     replace dp := dp.ch n7.ch
     replace dq := dq.ch n7.ch
     replace dr := dr.ch n7.ch
     replace dt := dt.ch n7.ch
     replace dw := dw.ch n7.ch
     replace dx := dx.ch n7.ch
     replace dy := dy.ch n7.ch
     replace hO := n7.own
     replace ah := ah.ch n7.ch
     replace ae := ae.ch n7.ch
     replace ad := ad.ch n7.ch
     replace ai := ai.ch n7.ch
     replace af := af.ch n7.ch
     replace ag := ag.ch n7.ch
     replace hB := hB.trans n7.fr
     refine GoQ.pure rfl (op_pickT rfl rfl rfl) rfl rfl ?_
     refine GoQ.pure rfl (op_move rfl) rfl rfl ?_
     cases r307
     ·replace H := ifn Bool.false_ne_true H
      refine GoQ.pass rfl rfl rfl ?_
      refine GoQ.pass rfl rfl rfl ?_
      refine GoQ.pass rfl rfl rfl ?_
      refine GoQ.pass rfl rfl rfl ?_
      refine GoQ.pass rfl rfl rfl ?_
      refine GoQ.pass rfl rfl rfl ?_
      refine GoQ.pass rfl rfl rfl ?_
      refine GoQ.pass rfl rfl rfl ?_
      refine GoQ.pure rfl (op_pickF rfl rfl rfl) rfl rfl ?_
      refine GoQ.pure rfl (op_move rfl) rfl rfl ?_
      refine GoQ.pass rfl rfl rfl ?_
      refine GoQ.pass rfl rfl rfl ?_
      refine GoQ.pass rfl rfl rfl ?_
      refine GoQ.pass rfl rfl rfl ?_
      refine GoQ.pass rfl rfl rfl ?_
      refine GoQ.pass rfl rfl rfl ?_
      refine GoQ.pass rfl rfl rfl ?_
      refine GoQ.pass rfl rfl rfl ?_
      refine GoQ.pure rfl (op_pickF rfl rfl rfl) rfl rfl ?_
      refine GoQ.pure rfl (op_move rfl) rfl rfl ?_
      refine GoQ.pass rfl rfl rfl ?_
      refine GoQ.pass rfl rfl rfl ?_
      refine GoQ.pass rfl rfl rfl ?_
      refine GoQ.pass rfl rfl rfl ?_
      refine GoQ.pass rfl rfl rfl ?_
      refine GoQ.pass rfl rfl rfl ?_
      refine GoQ.pass rfl rfl rfl ?_
      refine GoQ.pass rfl rfl rfl ?_
      refine GoQ.pure rfl (op_pickF rfl rfl rfl) rfl rfl ?_
      refine GoQ.pure rfl (op_assign rfl) rfl rfl ?_
      refine GoQ.nil ?_
      refine Go1.ret1V Try.func68 rfl (show _ = .bool false from rfl) ?_
      refine hR283 _ _ ?_
      refine GoR.op ((op_assign rfl) _) rfl rfl ?_
      refine GoR.op ((op_assign rfl) _) rfl rfl ?_
      refine GoR.nil ?_
      replace ah := ah.ch (Owns.dropCh _ _ 0)
      replace ae := ae.ch (Owns.dropCh _ _ 0)
      replace ad := ad.ch (Owns.dropCh _ _ 0)
      replace ai := ai.ch (Owns.dropCh _ _ 0)
      replace af := af.ch (Owns.dropCh _ _ 0)
      replace ag := ag.ch (Owns.dropCh _ _ 0)
      replace du := du.ch (Owns.dropCh _ _ 0)
      replace dj := dj.ch (Owns.dropCh _ _ 0)
      replace dp := dp.ch (Owns.dropCh _ _ 0)
      replace dq := dq.ch (Owns.dropCh _ _ 0)
      replace dr := dr.ch (Owns.dropCh _ _ 0)
      replace dt := dt.ch (Owns.dropCh _ _ 0)
      replace dw := dw.ch (Owns.dropCh _ _ 0)
      replace dx := dx.ch (Owns.dropCh _ _ 0)
      replace dy := dy.ch (Owns.dropCh _ _ 0)
      replace hB := hB.trans (Owns.dropFr _ _ 0)
      replace hO := hO.drop 0
      dsimp only [eS, eZ] at hB hO ah ae ad ai af ag du dj dp dq dr dt dw dx dy
      replace ah := ah.ch (Owns.dropCh _ _ 11)
      replace ae := ae.ch (Owns.dropCh _ _ 11)
      replace ad := ad.ch (Owns.dropCh _ _ 11)
      replace ai := ai.ch (Owns.dropCh _ _ 11)
      replace af := af.ch (Owns.dropCh _ _ 11)
      replace ag := ag.ch (Owns.dropCh _ _ 11)
      replace du := du.ch (Owns.dropCh _ _ 11)
      replace dj := dj.ch (Owns.dropCh _ _ 11)
      replace dp := dp.ch (Owns.dropCh _ _ 11)
      replace dq := dq.ch (Owns.dropCh _ _ 11)
      replace dr := dr.ch (Owns.dropCh _ _ 11)
      replace dt := dt.ch (Owns.dropCh _ _ 11)
      replace dw := dw.ch (Owns.dropCh _ _ 11)
      replace dx := dx.ch (Owns.dropCh _ _ 11)
      replace dy := dy.ch (Owns.dropCh _ _ 11)
      replace hB := hB.trans (Owns.dropFr _ _ 11)
      replace hO := hO.drop 11
      dsimp only [eS, eZ] at hB hO ah ae ad ai af ag du dj dp dq dr dt dw dx dy
      refine Go1.ret2 Try.func53 rfl ?_
      exact Or.inr ⟨(⟨(⟨k4_203, b4_204, d_206, d_212, d_218, d_224, d_230, d_236, k4_205⟩ : Enum), m4_260, d_242, d_248, d_254⟩ : run), false, eM, fF, fG, fH, gU, fv, eW, eX, i7, fw, eY, e8, i8, fx, e9, fd, i9, fy, fe, ff, ja, fA, fg, fh, jb, a5, fI, fJ, fK, jc, fL, fM, fN, jd, fO, fP, fQ, je, rfl, hB.same, hO, du, dj, dp, dq, dr, dt, dw, dx, dy, H⟩
     replace H := ifp rfl H
     refine GoQ.pure rfl (op_move rfl) rfl rfl ?_
     refine GoQ.pure rfl (op_nilCheck rfl) rfl rfl ?_
     refine GoQ.pure rfl (op_fieldAddr Try.underlying72 rfl ti29 rfl (by decide)) rfl rfl ?_
     refine GoQ.pure rfl (op_fieldAddr Try.underlying29 rfl ti26 rfl (by decide)) rfl rfl ?_
     refine GoQ.stable rfl (oblk (i := 5) 1 hO rfl rfl Try.underlying26 rfl rfl) rfl rfl ?_
     refine GoQ.pure rfl (op_fieldAddr Try.underlying29 rfl ti26 rfl (by decide)) rfl rfl ?_
     refine GoQ.stable rfl (oblk (i := 5) 0 hO rfl rfl Try.underlying26 rfl rfl) rfl rfl ?_
     have hobt := rowlend 5 hO rfl dq
     obtain ⟨JG, JH⟩ := hobt
     have hOc315 := hO.drop 5
     refine GoQ.call rfl (op_call body70 (show ([.slice e9 fx fd, .slice aW e.Last.length aX] : List Value) = [.slice e9 d_224.length fd, .slice aW e.Last.length aX] from by rw [← JH]) (walk_slices_Equal_int hOc315.lt JG (ai.ch (Owns.dropCh _ _ 5)) H)) (fun v w hr => by obtain ⟨_, _, hs, _⟩ := hr; assumption) rfl rfl ?_
     rintro Qe KJ ⟨r316, rfl, JI, H⟩
     have n8 := Stp.same hO JI
     replace du := du.ch n8.ch
     replace dj := dj.ch n8.ch
     replace dp := dp.ch n8.ch
     replace dq := dq.ch n8.ch
     replace dr := dr.ch n8.ch
     replace dt := dt.ch n8.ch
     replace dw := dw.ch n8.ch
     replace dx := dx.ch n8.ch
     replace dy := dy.ch n8.ch
     replace hO := n8.own
     replace ah := ah.ch n8.ch
     replace ae := ae.ch n8.ch
     replace ad := ad.ch n8.ch
     replace ai := ai.ch n8.ch
     replace af := af.ch n8.ch
     replace ag := ag.ch n8.ch
     replace hB := hB.trans n8.fr
     refine GoQ.pure rfl (op_pickT rfl rfl rfl) rfl rfl ?_
     refine GoQ.pure rfl (op_move rfl) rfl rfl ?_
     cases r316
     ·replace H := ifn Bool.false_ne_true H
      refine GoQ.pass rfl rfl rfl ?_
      refine GoQ.pass rfl rfl rfl ?_
      refine GoQ.pass rfl rfl rfl ?_
      refine GoQ.pass rfl rfl rfl ?_
      refine GoQ.pass rfl rfl rfl ?_
      refine GoQ.pass rfl rfl rfl ?_
      refine GoQ.pass rfl rfl rfl ?_
      refine GoQ.pass rfl rfl rfl ?_
      refine GoQ.pure rfl (op_pickF rfl rfl rfl) rfl rfl ?_
      refine GoQ.pure rfl (op_move rfl) rfl rfl ?_
      refine GoQ.pass rfl rfl rfl ?_
      refine GoQ.pass rfl rfl rfl ?_
      refine GoQ.pass rfl rfl rfl ?_
      refine GoQ.pass rfl rfl rfl ?_
      refine GoQ.pass rfl rfl rfl ?_
      refine GoQ.pass rfl rfl rfl ?_
      refine GoQ.pass rfl rfl rfl ?_
      refine GoQ.pass rfl rfl rfl ?_
      refine GoQ.pure rfl (op_pickF rfl rfl rfl) rfl rfl ?_
      refine GoQ.pure rfl (op_assign rfl) rfl rfl ?_
      refine GoQ.nil ?_
      refine Go1.ret1V Try.func68 rfl (show _ = .bool false from rfl) ?_
      refine hR283 _ _ ?_
      refine GoR.op ((op_assign rfl) _) rfl rfl ?_
      refine GoR.op ((op_assign rfl) _) rfl rfl ?_
      refine GoR.nil ?_
      replace ah := ah.ch (Owns.dropCh _ _ 0)
      replace ae := ae.ch (Owns.dropCh _ _ 0)
      replace ad := ad.ch (Owns.dropCh _ _ 0)
      replace ai := ai.ch (Owns.dropCh _ _ 0)
      replace af := af.ch (Owns.dropCh _ _ 0)
      replace ag := ag.ch (Owns.dropCh _ _ 0)
      replace du := du.ch (Owns.dropCh _ _ 0)
      replace dj := dj.ch (Owns.dropCh _ _ 0)
      replace dp := dp.ch (Owns.dropCh _ _ 0)
      replace dq := dq.ch (Owns.dropCh _ _ 0)
      replace dr := dr.ch (Owns.dropCh _ _ 0)
      replace dt := dt.ch (Owns.dropCh _ _ 0)
      replace dw := dw.ch (Owns.dropCh _ _ 0)
      replace dx := dx.ch (Owns.dropCh _ _ 0)
      replace dy := dy.ch (Owns.dropCh _ _ 0)
      replace hB := hB.trans (Owns.dropFr _ _ 0)
      replace hO := hO.drop 0
      dsimp only [eS, eZ] at hB hO ah ae ad ai af ag du dj dp dq dr dt dw dx dy
      replace ah := ah.ch (Owns.dropCh _ _ 11)
      replace ae := ae.ch (Owns.dropCh _ _ 11)
      replace ad := ad.ch (Owns.dropCh _ _ 11)
      replace ai := ai.ch (Owns.dropCh _ _ 11)
      replace af := af.ch (Owns.dropCh _ _ 11)
      replace ag := ag.ch (Owns.dropCh _ _ 11)
      replace du := du.ch (Owns.dropCh _ _ 11)
      replace dj := dj.ch (Owns.dropCh _ _ 11)
      replace dp := dp.ch (Owns.dropCh _ _ 11)
      replace dq := dq.ch (Owns.dropCh _ _ 11)
      replace dr := dr.ch (Owns.dropCh _ _ 11)
      replace dt := dt.ch (Owns.dropCh _ _ 11)
      replace dw := dw.ch (Owns.dropCh _ _ 11)
      replace dx := dx.ch (Owns.dropCh _ _ 11)
      replace dy := dy.ch (Owns.dropCh _ _ 11)
      replace hB := hB.trans (Owns.dropFr _ _ 11)
      replace hO := hO.drop 11
      dsimp only [eS, eZ] at hB hO ah ae ad ai af ag du dj dp dq dr dt dw dx dy
      refine Go1.ret2 Try.func53 rfl ?_
      exact Or.inr ⟨(⟨(⟨k4_203, b4_204, d_206, d_212, d_218, d_224, d_230, d_236, k4_205⟩ : Enum), m4_260, d_242, d_248, d_254⟩ : run), false, eM, fF, fG, fH, gU, fv, eW, eX, i7, fw, eY, e8, i8, fx, e9, fd, i9, fy, fe, ff, ja, fA, fg, fh, jb, a5, fI, fJ, fK, jc, fL, fM, fN, jd, fO, fP, fQ, je, rfl, hB.same, hO, du, dj, dp, dq, dr, dt, dw, dx, dy, H⟩
     replace H := ifp rfl H
     refine GoQ.pure rfl (op_move rfl) rfl rfl ?_
     refine GoQ.pure rfl (op_nilCheck rfl) rfl rfl ?_
     refine GoQ.pure rfl (op_fieldAddr Try.underlying72 rfl ti29 rfl (by decide)) rfl rfl ?_
     refine GoQ.pure rfl (op_fieldAddr Try.underlying29 rfl ti22 rfl (by decide)) rfl rfl ?_
     refine GoQ.stable rfl (oblk (i := 6) 1 hO rfl rfl Try.underlying22 rfl rfl) rfl rfl ?_
     refine GoQ.pure rfl (op_fieldAddr Try.underlying29 rfl ti22 rfl (by decide)) rfl rfl ?_
     refine GoQ.stable rfl (oblk (i := 6) 0 hO rfl rfl Try.underlying22 rfl rfl) rfl rfl ?_
     have hobt := rowlend 6 hO rfl dr
     obtain ⟨JJ, JK⟩ := hobt
     have hOc324 := hO.drop 6
     refine GoQ.call rfl (op_call body69 (show ([.slice fe fy ff, .slice aB e.Right.length aC, .func (.func 70) #[] #[]] : List Value) = [.slice fe d_230.length ff, .slice aB e.Right.length aC, .func (.func 70) #[] #[]] from by rw [← JK]) (walk_slices_EqualFunc_int hOc324.lt JJ (af.ch (Owns.dropCh _ _ 6)) H)) (fun v w hr => by obtain ⟨_, _, hs, _⟩ := hr; assumption) rfl rfl ?_
     rintro Qf Qg ⟨r325, rfl, JL, H⟩
     have n9 := Stp.same hO JL
     replace du := du.ch n9.ch
     replace dj := dj.ch n9.ch
     replace dp := dp.ch n9.ch
     replace dq := dq.ch n9.ch
     replace dr := dr.ch n9.ch
     replace dt := dt.ch n9.ch
     replace dw := dw.ch n9.ch
     replace dx := dx.ch n9.ch
     replace dy := dy.ch n9.ch
     replace hO := n9.own
     replace ah := ah.ch n9.ch
     replace ae := ae.ch n9.ch
     replace ad := ad.ch n9.ch
     replace ai := ai.ch n9.ch
     replace af := af.ch n9.ch
     replace ag := ag.ch n9.ch
     replace hB := hB.trans n9.fr
     refine GoQ.pure rfl (op_pickT rfl rfl rfl) rfl rfl ?_
     refine GoQ.pure rfl (op_move rfl) rfl rfl ?_
     cases r325
     ·replace H := ifn Bool.false_ne_true H
      refine GoQ.pass rfl rfl rfl ?_
      refine GoQ.pass rfl rfl rfl ?_
      refine GoQ.pass rfl rfl rfl ?_
      refine GoQ.pass rfl rfl rfl ?_
      refine GoQ.pass rfl rfl rfl ?_
      refine GoQ.pass rfl rfl rfl ?_
      refine GoQ.pass rfl rfl rfl ?_
      refine GoQ.pass rfl rfl rfl ?_
      refine GoQ.pure rfl (op_pickF rfl rfl rfl) rfl rfl ?_
      refine GoQ.pure rfl (op_assign rfl) rfl rfl ?_
      refine GoQ.nil ?_
      refine Go1.ret1V Try.func68 rfl (show _ = .bool false from rfl) ?_
      refine hR283 _ _ ?_
      refine GoR.op ((op_assign rfl) _) rfl rfl ?_
      refine GoR.op ((op_assign rfl) _) rfl rfl ?_
      refine GoR.nil ?_
      replace ah := ah.ch (Owns.dropCh _ _ 0)
      replace ae := ae.ch (Owns.dropCh _ _ 0)
      replace ad := ad.ch (Owns.dropCh _ _ 0)
      replace ai := ai.ch (Owns.dropCh _ _ 0)
      replace af := af.ch (Owns.dropCh _ _ 0)
      replace ag := ag.ch (Owns.dropCh _ _ 0)
      replace du := du.ch (Owns.dropCh _ _ 0)
      replace dj := dj.ch (Owns.dropCh _ _ 0)
      replace dp := dp.ch (Owns.dropCh _ _ 0)
      replace dq := dq.ch (Owns.dropCh _ _ 0)
      replace dr := dr.ch (Owns.dropCh _ _ 0)
      replace dt := dt.ch (Owns.dropCh _ _ 0)
      replace dw := dw.ch (Owns.dropCh _ _ 0)
      replace dx := dx.ch (Owns.dropCh _ _ 0)
      replace dy := dy.ch (Owns.dropCh _ _ 0)
      replace hB := hB.trans (Owns.dropFr _ _ 0)
      replace hO := hO.drop 0
      dsimp only [eS, eZ] at hB hO ah ae ad ai af ag du dj dp dq dr dt dw dx dy
      replace ah := ah.ch (Owns.dropCh _ _ 11)
      replace ae := ae.ch (Owns.dropCh _ _ 11)
      replace ad := ad.ch (Owns.dropCh _ _ 11)
      replace ai := ai.ch (Owns.dropCh _ _ 11)
      replace af := af.ch (Owns.dropCh _ _ 11)
      replace ag := ag.ch (Owns.dropCh _ _ 11)
      replace du := du.ch (Owns.dropCh _ _ 11)
      replace dj := dj.ch (Owns.dropCh _ _ 11)
      replace dp := dp.ch (Owns.dropCh _ _ 11)
      replace dq := dq.ch (Owns.dropCh _ _ 11)
      replace dr := dr.ch (Owns.dropCh _ _ 11)
      replace dt := dt.ch (Owns.dropCh _ _ 11)
      replace dw := dw.ch (Owns.dropCh _ _ 11)
      replace dx := dx.ch (Owns.dropCh _ _ 11)
      replace dy := dy.ch (Owns.dropCh _ _ 11)
      replace hB := hB.trans (Owns.dropFr _ _ 11)
      replace hO := hO.drop 11
      dsimp only [eS, eZ] at hB hO ah ae ad ai af ag du dj dp dq dr dt dw dx dy
      refine Go1.ret2 Try.func53 rfl ?_
      exact Or.inr ⟨(⟨(⟨k4_203, b4_204, d_206, d_212, d_218, d_224, d_230, d_236, k4_205⟩ : Enum), m4_260, d_242, d_248, d_254⟩ : run), false, eM, fF, fG, fH, gU, fv, eW, eX, i7, fw, eY, e8, i8, fx, e9, fd, i9, fy, fe, ff, ja, fA, fg, fh, jb, a5, fI, fJ, fK, jc, fL, fM, fN, jd, fO, fP, fQ, je, rfl, hB.same, hO, du, dj, dp, dq, dr, dt, dw, dx, dy, H⟩
     replace H := ifp rfl H
     refine GoQ.pure rfl (op_move rfl) rfl rfl ?_
     refine GoQ.pure rfl (op_nilCheck rfl) rfl rfl ?_
     refine GoQ.pure rfl (op_fieldAddr Try.underlying72 rfl ti29 rfl (by decide)) rfl rfl ?_
     refine GoQ.pure rfl (op_fieldAddr Try.underlying29 rfl ti27 rfl (by decide)) rfl rfl ?_
     refine GoQ.stable rfl (oblk (i := 7) 1 hO rfl rfl Try.underlying27 rfl rfl) rfl rfl ?_
     refine GoQ.pure rfl (op_fieldAddr Try.underlying29 rfl ti27 rfl (by decide)) rfl rfl ?_
     refine GoQ.stable rfl (oblk (i := 7) 0 hO rfl rfl Try.underlying27 rfl rfl) rfl rfl ?_
     have hobt := rowlend 7 hO rfl dt
     obtain ⟨JM, JN⟩ := hobt
     have hOc333 := hO.drop 7
     refine GoQ.call rfl (op_call body71 (show ([.slice fg fA fh, .slice aD e.Rules.length aE] : List Value) = [.slice fg d_236.length fh, .slice aD e.Rules.length aE] from by rw [← JN]) (walk_slices_Equal_api_Rule hOc333.lt JM (ag.ch (Owns.dropCh _ _ 7)) H)) (fun v w hr => by obtain ⟨_, _, hs, _⟩ := hr; assumption) rfl rfl ?_
     rintro Qh Qi ⟨r334, rfl, JO, H⟩
     have oa := Stp.same hO JO
     replace du := du.ch oa.ch
     replace dj := dj.ch oa.ch
     replace dp := dp.ch oa.ch
     replace dq := dq.ch oa.ch
     replace dr := dr.ch oa.ch
     replace dt := dt.ch oa.ch
     replace dw := dw.ch oa.ch
     replace dx := dx.ch oa.ch
     replace dy := dy.ch oa.ch
     replace hO := oa.own
     replace ah := ah.ch oa.ch
     replace ae := ae.ch oa.ch
     replace ad := ad.ch oa.ch
     replace ai := ai.ch oa.ch
     replace af := af.ch oa.ch
     replace ag := ag.ch oa.ch
     replace hB := hB.trans oa.fr
     refine GoQ.pure rfl (op_pickT rfl rfl rfl) rfl rfl ?_
     refine GoQ.pure rfl (op_assign rfl) rfl rfl ?_
     refine GoQ.nil ?_
     refine Go1.ret1V Try.func68 rfl (show _ = .bool r334 from rfl) ?_
     refine hR283 _ _ ?_
     refine GoR.op ((op_assign rfl) _) rfl rfl ?_
     refine GoR.op ((op_assign rfl) _) rfl rfl ?_
     refine GoR.nil ?_
     replace ah := ah.ch (Owns.dropCh _ _ 0)
     replace ae := ae.ch (Owns.dropCh _ _ 0)
     replace ad := ad.ch (Owns.dropCh _ _ 0)
     replace ai := ai.ch (Owns.dropCh _ _ 0)
     replace af := af.ch (Owns.dropCh _ _ 0)
     replace ag := ag.ch (Owns.dropCh _ _ 0)
     replace du := du.ch (Owns.dropCh _ _ 0)
     replace dj := dj.ch (Owns.dropCh _ _ 0)
     replace dp := dp.ch (Owns.dropCh _ _ 0)
     replace dq := dq.ch (Owns.dropCh _ _ 0)
     replace dr := dr.ch (Owns.dropCh _ _ 0)
     replace dt := dt.ch (Owns.dropCh _ _ 0)
     replace dw := dw.ch (Owns.dropCh _ _ 0)
     replace dx := dx.ch (Owns.dropCh _ _ 0)
     replace dy := dy.ch (Owns.dropCh _ _ 0)
     replace hB := hB.trans (Owns.dropFr _ _ 0)
     replace hO := hO.drop 0
     dsimp only [eS, eZ] at hB hO ah ae ad ai af ag du dj dp dq dr dt dw dx dy
     replace ah := ah.ch (Owns.dropCh _ _ 11)
     replace ae := ae.ch (Owns.dropCh _ _ 11)
     replace ad := ad.ch (Owns.dropCh _ _ 11)
     replace ai := ai.ch (Owns.dropCh _ _ 11)
     replace af := af.ch (Owns.dropCh _ _ 11)
     replace ag := ag.ch (Owns.dropCh _ _ 11)
     replace du := du.ch (Owns.dropCh _ _ 11)
     replace dj := dj.ch (Owns.dropCh _ _ 11)
     replace dp := dp.ch (Owns.dropCh _ _ 11)
     replace dq := dq.ch (Owns.dropCh _ _ 11)
     replace dr := dr.ch (Owns.dropCh _ _ 11)
     replace dt := dt.ch (Owns.dropCh _ _ 11)
     replace dw := dw.ch (Owns.dropCh _ _ 11)
     replace dx := dx.ch (Owns.dropCh _ _ 11)
     replace dy := dy.ch (Owns.dropCh _ _ 11)
     replace hB := hB.trans (Owns.dropFr _ _ 11)
     replace hO := hO.drop 11
     dsimp only [eS, eZ] at hB hO ah ae ad ai af ag du dj dp dq dr dt dw dx dy
     refine Go1.ret2 Try.func53 rfl ?_
     exact Or.inr ⟨(⟨(⟨k4_203, b4_204, d_206, d_212, d_218, d_224, d_230, d_236, k4_205⟩ : Enum), m4_260, d_242, d_248, d_254⟩ : run), r334, eM, fF, fG, fH, gU, fv, eW, eX, i7, fw, eY, e8, i8, fx, e9, fd, i9, fy, fe, ff, ja, fA, fg, fh, jb, a5, fI, fJ, fK, jc, fL, fM, fN, jd, fO, fP, fQ, je, rfl, hB.same, hO, du, dj, dp, dq, dr, dt, dw, dx, dy, H⟩
    replace H := ifn CK H
    refine GoQ.pure rfl (fun w => opB (op_eql rfl rfl w) (decide_eq_false CK)) rfl rfl ?_
    refine GoQ.pure rfl (op_pickT rfl rfl rfl) rfl rfl ?_
    refine GoQ.pure rfl (op_move rfl) rfl rfl ?_
    refine GoQ.pass rfl rfl rfl ?_
    refine GoQ.pass rfl rfl rfl ?_
    refine GoQ.pass rfl rfl rfl ?_
    refine GoQ.pass rfl rfl rfl ?_
    refine GoQ.pass rfl rfl rfl ?_
    refine GoQ.pass rfl rfl rfl ?_
    refine GoQ.pass rfl rfl rfl ?_
    refine GoQ.pass rfl rfl rfl ?_
    refine GoQ.pure rfl (op_pickF rfl rfl rfl) rfl rfl ?_
    refine GoQ.pure rfl (op_move rfl) rfl rfl ?_
    refine GoQ.pass rfl rfl rfl ?_
    refine GoQ.pass rfl rfl rfl ?_
    refine GoQ.pass rfl rfl rfl ?_
    refine GoQ.pass rfl rfl rfl ?_
    refine GoQ.pass rfl rfl rfl ?_
    refine GoQ.pass rfl rfl rfl ?_
    refine GoQ.pass rfl rfl rfl ?_
    refine GoQ.pass rfl rfl rfl ?_
    refine GoQ.pure rfl (op_pickF rfl rfl rfl) rfl rfl ?_
    refine GoQ.pure rfl (op_move rfl) rfl rfl ?_
    refine GoQ.pass rfl rfl rfl ?_
    refine GoQ.pass rfl rfl rfl ?_
    refine GoQ.pass rfl rfl rfl ?_
    refine GoQ.pass rfl rfl rfl ?_
    refine GoQ.pass rfl rfl rfl ?_
    refine GoQ.pass rfl rfl rfl ?_
    refine GoQ.pass rfl rfl rfl ?_
    refine GoQ.pass rfl rfl rfl ?_
    refine GoQ.pure rfl (op_pickF rfl rfl rfl) rfl rfl ?_
    refine GoQ.pure rfl (op_move rfl) rfl rfl ?_
    refine GoQ.pass rfl rfl rfl ?_
    refine GoQ.pass rfl rfl rfl ?_
    refine GoQ.pass rfl rfl rfl ?_
    refine GoQ.pass rfl rfl rfl ?_
    refine GoQ.pass rfl rfl rfl ?_
    refine GoQ.pass rfl rfl rfl ?_
    refine GoQ.pass rfl rfl rfl ?_
    refine GoQ.pass rfl rfl rfl ?_
    refine GoQ.pure rfl (op_pickF rfl rfl rfl) rfl rfl ?_
    refine GoQ.pure rfl (op_move rfl) rfl rfl ?_
    refine GoQ.pass rfl rfl rfl ?_
    refine GoQ.pass rfl rfl rfl ?_
    refine GoQ.pass rfl rfl rfl ?_
    refine GoQ.pass rfl rfl rfl ?_
    refine GoQ.pass rfl rfl rfl ?_
    refine GoQ.pass rfl rfl rfl ?_
    refine GoQ.pass rfl rfl rfl ?_
    refine GoQ.pass rfl rfl rfl ?_
    refine GoQ.pure rfl (op_pickF rfl rfl rfl) rfl rfl ?_
    refine GoQ.pure rfl (op_assign rfl) rfl rfl ?_
    refine GoQ.nil ?_
    refine Go1.ret1V Try.func68 rfl (show _ = .bool false from rfl) ?_
    refine hR283 _ _ ?_
    refine GoR.op ((op_assign rfl) _) rfl rfl ?_
    refine GoR.op ((op_assign rfl) _) rfl rfl ?_
    refine GoR.nil ?_
    replace ah := ah.ch (Owns.dropCh _ _ 0)
    replace ae := ae.ch (Owns.dropCh _ _ 0)
    replace ad := ad.ch (Owns.dropCh _ _ 0)
    replace ai := ai.ch (Owns.dropCh _ _ 0)
    replace af := af.ch (Owns.dropCh _ _ 0)
    replace ag := ag.ch (Owns.dropCh _ _ 0)
    replace du := du.ch (Owns.dropCh _ _ 0)
    replace dj := dj.ch (Owns.dropCh _ _ 0)
    replace dp := dp.ch (Owns.dropCh _ _ 0)
    replace dq := dq.ch (Owns.dropCh _ _ 0)
    replace dr := dr.ch (Owns.dropCh _ _ 0)
    replace dt := dt.ch (Owns.dropCh _ _ 0)
    replace dw := dw.ch (Owns.dropCh _ _ 0)
    replace dx := dx.ch (Owns.dropCh _ _ 0)
    replace dy := dy.ch (Owns.dropCh _ _ 0)
    replace hB := hB.trans (Owns.dropFr _ _ 0)
    replace hO := hO.drop 0
    dsimp only [eS, eZ] at hB hO ah ae ad ai af ag du dj dp dq dr dt dw dx dy
    replace ah := ah.ch (Owns.dropCh _ _ 11)
    replace ae := ae.ch (Owns.dropCh _ _ 11)
    replace ad := ad.ch (Owns.dropCh _ _ 11)
    replace ai := ai.ch (Owns.dropCh _ _ 11)
    replace af := af.ch (Owns.dropCh _ _ 11)
    replace ag := ag.ch (Owns.dropCh _ _ 11)
    replace du := du.ch (Owns.dropCh _ _ 11)
    replace dj := dj.ch (Owns.dropCh _ _ 11)
    replace dp := dp.ch (Owns.dropCh _ _ 11)
    replace dq := dq.ch (Owns.dropCh _ _ 11)
    replace dr := dr.ch (Owns.dropCh _ _ 11)
    replace dt := dt.ch (Owns.dropCh _ _ 11)
    replace dw := dw.ch (Owns.dropCh _ _ 11)
    replace dx := dx.ch (Owns.dropCh _ _ 11)
    replace dy := dy.ch (Owns.dropCh _ _ 11)
    replace hB := hB.trans (Owns.dropFr _ _ 11)
    replace hO := hO.drop 11
    dsimp only [eS, eZ] at hB hO ah ae ad ai af ag du dj dp dq dr dt dw dx dy
    refine Go1.ret2 Try.func53 rfl ?_
    exact Or.inr ⟨(⟨(⟨k4_203, b4_204, d_206, d_212, d_218, d_224, d_230, d_236, k4_205⟩ : Enum), m4_260, d_242, d_248, d_254⟩ : run), false, eM, fF, fG, fH, gU, fv, eW, eX, i7, fw, eY, e8, i8, fx, e9, fd, i9, fy, fe, ff, ja, fA, fg, fh, jb, a5, fI, fJ, fK, jc, fL, fM, fN, jd, fO, fP, fQ, je, rfl, hB.same, hO, du, dj, dp, dq, dr, dt, dw, dx, dy, H⟩
   replace H := ifn CJ H
   refine GoQ.pure rfl (fun w => opB (op_eql rfl rfl w) (decide_eq_false CJ)) rfl rfl ?_
   refine GoQ.pure rfl (op_move rfl) rfl rfl ?_
   refine GoQ.pass rfl rfl rfl ?_
   refine GoQ.pass rfl rfl rfl ?_
   refine GoQ.pass rfl rfl rfl ?_
   refine GoQ.pass rfl rfl rfl ?_
   refine GoQ.pass rfl rfl rfl ?_
   refine GoQ.pass rfl rfl rfl ?_
   refine GoQ.pass rfl rfl rfl ?_
   refine GoQ.pass rfl rfl rfl ?_
   refine GoQ.pure rfl (op_pickF rfl rfl rfl) rfl rfl ?_
   refine GoQ.pure rfl (op_move rfl) rfl rfl ?_
   refine GoQ.pass rfl rfl rfl ?_
   refine GoQ.pass rfl rfl rfl ?_
   refine GoQ.pass rfl rfl rfl ?_
   refine GoQ.pass rfl rfl rfl ?_
   refine GoQ.pass rfl rfl rfl ?_
   refine GoQ.pass rfl rfl rfl ?_
   refine GoQ.pass rfl rfl rfl ?_
   refine GoQ.pass rfl rfl rfl ?_
   refine GoQ.pure rfl (op_pickF rfl rfl rfl) rfl rfl ?_
   refine GoQ.pure rfl (op_move rfl) rfl rfl ?_
   refine GoQ.pass rfl rfl rfl ?_
   refine GoQ.pass rfl rfl rfl ?_
   refine GoQ.pass rfl rfl rfl ?_
   refine GoQ.pass rfl rfl rfl ?_
   refine GoQ.pass rfl rfl rfl ?_
   refine GoQ.pass rfl rfl rfl ?_
   refine GoQ.pass rfl rfl rfl ?_
   refine GoQ.pass rfl rfl rfl ?_
   refine GoQ.pure rfl (op_pickF rfl rfl rfl) rfl rfl ?_
   refine GoQ.pure rfl (op_move rfl) rfl rfl ?_
   refine GoQ.pass rfl rfl rfl ?_
   refine GoQ.pass rfl rfl rfl ?_
   refine GoQ.pass rfl rfl rfl ?_
   refine GoQ.pass rfl rfl rfl ?_
   refine GoQ.pass rfl rfl rfl ?_
   refine GoQ.pass rfl rfl rfl ?_
   refine GoQ.pass rfl rfl rfl ?_
   refine GoQ.pass rfl rfl rfl ?_
   refine GoQ.pure rfl (op_pickF rfl rfl rfl) rfl rfl ?_
   refine GoQ.pure rfl (op_move rfl) rfl rfl ?_
   refine GoQ.pass rfl rfl rfl ?_
   refine GoQ.pass rfl rfl rfl ?_
   refine GoQ.pass rfl rfl rfl ?_
   refine GoQ.pass rfl rfl rfl ?_
   refine GoQ.pass rfl rfl rfl ?_
   refine GoQ.pass rfl rfl rfl ?_
   refine GoQ.pass rfl rfl rfl ?_
   refine GoQ.pass rfl rfl rfl ?_
   refine GoQ.pure rfl (op_pickF rfl rfl rfl) rfl rfl ?_
   refine GoQ.pure rfl (op_move rfl) rfl rfl ?_
   refine GoQ.pass rfl rfl rfl ?_
   refine GoQ.pass rfl rfl rfl ?_
   refine GoQ.pass rfl rfl rfl ?_
   refine GoQ.pass rfl rfl rfl ?_
   refine GoQ.pass rfl rfl rfl ?_
   refine GoQ.pass rfl rfl rfl ?_
   refine GoQ.pass rfl rfl rfl ?_
   refine GoQ.pass rfl rfl rfl ?_
   refine GoQ.pure rfl (op_pickF rfl rfl rfl) rfl rfl ?_
   refine GoQ.pure rfl (op_assign rfl) rfl rfl ?_
   refine GoQ.nil ?_
   refine Go1.ret1V Try.func68 rfl (show _ = .bool false from rfl) ?_
   refine hR283 _ _ ?_
   refine GoR.op ((op_assign rfl) _) rfl rfl ?_
   refine GoR.op ((op_assign rfl) _) rfl rfl ?_
   refine GoR.nil ?_
   replace ah := ah.ch (Owns.dropCh _ _ 0)
   replace ae := ae.ch (Owns.dropCh _ _ 0)
   replace ad := ad.ch (Owns.dropCh _ _ 0)
   replace ai := ai.ch (Owns.dropCh _ _ 0)
   replace af := af.ch (Owns.dropCh _ _ 0)
   replace ag := ag.ch (Owns.dropCh _ _ 0)
   replace du := du.ch (Owns.dropCh _ _ 0)
   replace dj := dj.ch (Owns.dropCh _ _ 0)
   replace dp := dp.ch (Owns.dropCh _ _ 0)
   replace dq := dq.ch (Owns.dropCh _ _ 0)
   replace dr := dr.ch (Owns.dropCh _ _ 0)
   replace dt := dt.ch (Owns.dropCh _ _ 0)
   replace dw := dw.ch (Owns.dropCh _ _ 0)
   replace dx := dx.ch (Owns.dropCh _ _ 0)
   replace dy := dy.ch (Owns.dropCh _ _ 0)
   replace hB := hB.trans (Owns.dropFr _ _ 0)
   replace hO := hO.drop 0
   dsimp only [eS, eZ] at hB hO ah ae ad ai af ag du dj dp dq dr dt dw dx dy
   replace ah := ah.ch (Owns.dropCh _ _ 11)
   replace ae := ae.ch (Owns.dropCh _ _ 11)
   replace ad := ad.ch (Owns.dropCh _ _ 11)
   replace ai := ai.ch (Owns.dropCh _ _ 11)
   replace af := af.ch (Owns.dropCh _ _ 11)
   replace ag := ag.ch (Owns.dropCh _ _ 11)
   replace du := du.ch (Owns.dropCh _ _ 11)
   replace dj := dj.ch (Owns.dropCh _ _ 11)
   replace dp := dp.ch (Owns.dropCh _ _ 11)
   replace dq := dq.ch (Owns.dropCh _ _ 11)
   replace dr := dr.ch (Owns.dropCh _ _ 11)
   replace dt := dt.ch (Owns.dropCh _ _ 11)
   replace dw := dw.ch (Owns.dropCh _ _ 11)
   replace dx := dx.ch (Owns.dropCh _ _ 11)
   replace dy := dy.ch (Owns.dropCh _ _ 11)
   replace hB := hB.trans (Owns.dropFr _ _ 11)
   replace hO := hO.drop 11
   dsimp only [eS, eZ] at hB hO ah ae ad ai af ag du dj dp dq dr dt dw dx dy
   refine Go1.ret2 Try.func53 rfl ?_
   exact Or.inr ⟨(⟨(⟨k4_203, b4_204, d_206, d_212, d_218, d_224, d_230, d_236, k4_205⟩ : Enum), m4_260, d_242, d_248, d_254⟩ : run), false, eM, fF, fG, fH, gU, fv, eW, eX, i7, fw, eY, e8, i8, fx, e9, fd, i9, fy, fe, ff, ja, fA, fg, fh, jb, a5, fI, fJ, fK, jc, fL, fM, fN, jd, fO, fP, fQ, je, rfl, hB.same, hO, du, dj, dp, dq, dr, dt, dw, dx, dy, H⟩
  replace H := ifn CD H
  refine GoR.op ((fun w => opB (op_neq rfl rfl w) (ndF CD)) _) rfl rfl ?_
  refine GoR.nil ?_
  refine Go1.condT rfl rfl ?_
  refine Go1.seq ?_
  refine Go1.cut [] trivial ?_
  intro σ _
  refine Go1.region ?_
  refine GoR.op ((op_assign rfl) _) rfl rfl ?_
  refine GoR.op ((op_assign rfl) _) rfl rfl ?_
  refine GoR.nil ?_
  refine Go1.ret2 Try.func53 rfl ?_
  exact Or.inl ⟨false, rfl, hB.same, H⟩
theorem body29 : Body Try.prog 29 := ⟨Try.f29, Try.func29, rfl, by kernel_rfl⟩
theorem walk_enumerate_Word {A : List Nat} {w0 : World} {aY : Option Addr} {aZ : Nat} {az : Option Addr} {aA : Nat} {ao : Option Addr} {ap : Nat} {aW : Option Addr} {aX : Nat} {aB : Option Addr} {aC : Nat} {aD : Option Addr} {aE : Nat} {e : Enum} {i : Int} (hA : ∀ b ∈ A, b < w0.heap.size) (ah : ISl (Rp.sl (Rp.int .i64)) A w0 aY aZ e.Gens) (ae : ISl (Rp.sl (Rp.int .i64)) A w0 az aA e.Elems) (ad : ISl (Rp.int .i64) A w0 ao ap e.Prefix) (ai : ISl (Rp.int .i64) A w0 aW aX e.Last) (af : ISl (Rp.sl (Rp.int .i64)) A w0 aB aC e.Right) (ag : ISl (rpRule) A w0 aD aE e.Rules) {K : Str → Prop} (H : enumerate_Word e i K) :
    CallsV Try.prog 29 #[.agg #[.int .i64 e.Points, .bool e.Monoid, .slice aY e.Gens.length aZ, .slice az e.Elems.length aA, .slice ao e.Prefix.length ap, .slice aW e.Last.length aX, .slice aB e.Right.length aC, .slice aD e.Rules.length aE, .int .i64 e.Done], .int .i64 i] w0 (fun v w' => ∃ (r0 : Str), v = .string (gstr r0) ∧ Same w0 w' ∧ r0.length ≤ mx ∧ K r0) := by
 refine CallsV.of (l := [.agg #[.int .i64 e.Points, .bool e.Monoid, .slice aY e.Gens.length aZ, .slice az e.Elems.length aA, .slice ao e.Prefix.length ap, .slice aW e.Last.length aX, .slice aB e.Right.length aC, .slice aD e.Rules.length aE, .int .i64 e.Done], .int .i64 i]) Try.func29 rfl Try.ntmps29 rfl ?_
 have hO := Owns.start hA
 have hB := Fr.refl (bl []) w0
 unfold enumerate_Word at H
 replace ah := ah.ch (Ch.start A w0)
 replace ae := ae.ch (Ch.start A w0)
 replace ad := ad.ch (Ch.start A w0)
 replace ai := ai.ch (Ch.start A w0)
 replace af := af.ch (Ch.start A w0)
 replace ag := ag.ch (Ch.start A w0)
 refine Go1.seq ?_
 refine Go1.region ?_
 have hobt := obox (t := 29) (v := .agg #[.int .i64 e.Points, .bool e.Monoid, .slice aY e.Gens.length aZ, .slice az e.Elems.length aA, .slice ao e.Prefix.length ap, .slice aW e.Last.length aX, .slice aB e.Right.length aC, .slice aD e.Rules.length aE, .int .i64 e.Done]) (cs := #[.int .i64 e.Points, .bool e.Monoid, .slice aY e.Gens.length aZ, .slice az e.Elems.length aA, .slice ao e.Prefix.length ap, .slice aW e.Last.length aX, .slice aB e.Right.length aC, .slice aD e.Rules.length aE, .int .i64 e.Done]) hO rfl
 obtain ⟨w1, B2, fE, hs4, wb⟩ := hobt
 refine GoR.op (wb rfl) rfl rfl ?_
 replace hO := fE.own
 replace ah := ah.ch fE.ch
 replace ae := ae.ch fE.ch
 replace ad := ad.ch fE.ch
 replace ai := ai.ch fE.ch
 replace af := af.ch fE.ch
 replace ag := ag.ch fE.ch
 replace hB := hB.trans fE.fr
 refine GoR.op ((op_assign rfl) _) rfl rfl ?_
 refine GoR.nil ?_
 refine Go1.seq ?_
 refine Go1.region ?_
 refine GoR.op ((oblkAgg (vs := [.int .i64 e.Points, .bool e.Monoid, .slice aY e.Gens.length aZ, .slice az e.Elems.length aA, .slice ao e.Prefix.length ap, .slice aW e.Last.length aX, .slice aB e.Right.length aC, .slice aD e.Rules.length aE, .int .i64 e.Done]) (i := 0) 0 hO rfl rfl Try.underlying29 rfl ti29 rfl) _ (Same.refl _)) rfl rfl ?_
 refine GoR.call (op_call body53 rfl (walk_enumerate_replay (e := e) hO.lt ah ae ad ai af ag H)) rfl rfl ?_
 intro v9 w10 hcase13
 refine Or.elim hcase13 ?_ ?_
 ·refine exE fun r8 => andE fun hv14 => andE fun wc => fun H => ?_
  subst hv14
  clear hcase13
  replace H := oElimN H
  have qJ := Stp.same hO wc
  replace hO := qJ.own
  replace ah := ah.ch qJ.ch
  replace ae := ae.ch qJ.ch
  replace ad := ad.ch qJ.ch
  replace ai := ai.ch qJ.ch
  replace af := af.ch qJ.ch
  replace ag := ag.ch qJ.ch
  replace hB := hB.trans qJ.fr
  refine GoR.op ((op_move rfl) _) rfl rfl ?_
  refine GoR.op ((op_extract rfl rfl) _) rfl rfl ?_
  refine GoR.op ((op_extract rfl rfl) _) rfl rfl ?_
  refine GoR.op ((op_assign rfl) _) rfl rfl ?_
  refine GoR.op ((op_assign rfl) _) rfl rfl ?_
  refine GoR.nil ?_
  refine Go1.seq ?_
  refine Go1.seq ?_
  refine Go1.region ?_
  refine GoR.op ((op_move rfl) _) rfl rfl ?_
  cases r8
  ·replace H := ifn Bool.false_ne_true H
   refine GoR.op ((op_not rfl) _) rfl rfl ?_
   refine GoR.op ((op_move rfl) _) rfl rfl ?_
   refine GoR.pass rfl rfl ?_
   refine GoR.pass rfl rfl ?_
   refine GoR.op ((op_pickT rfl rfl rfl) _) rfl rfl ?_
   refine GoR.op ((op_move rfl) _) rfl rfl ?_
   refine GoR.pass rfl rfl ?_
   refine GoR.pass rfl rfl ?_
   refine GoR.pass rfl rfl ?_
   refine GoR.pass rfl rfl ?_
   refine GoR.pass rfl rfl ?_
   refine GoR.pass rfl rfl ?_
   refine GoR.pass rfl rfl ?_
   refine GoR.pass rfl rfl ?_
   refine GoR.op ((op_pickT rfl rfl rfl) _) rfl rfl ?_
   refine GoR.nil ?_
   refine Go1.condT rfl rfl ?_
   refine Go1.seq ?_
   refine Go1.cut [] trivial ?_
   intro σ _
   refine Go1.region ?_
   refine GoR.op ((op_assign rfl) _) rfl rfl ?_
   refine GoR.nil ?_
   refine Go1.ret1 Try.func29 rfl ?_
   exact ⟨([] : Str), rfl, hB.same, (by decide), H⟩
  replace H := ifp rfl H
  refine GoR.op ((op_not rfl) _) rfl rfl ?_
  refine GoR.op ((op_move rfl) _) rfl rfl ?_
  refine GoR.op ((op_move rfl) _) rfl rfl ?_
  by_cases h16 : i < (0 : Int)
  ·replace H := ifp h16 H
   refine GoR.op ((fun w => opB (op_lss rfl rfl w) (decide_eq_true h16)) _) rfl rfl ?_
   refine GoR.op ((op_pickF rfl rfl rfl) _) rfl rfl ?_
   refine GoR.op ((op_move rfl) _) rfl rfl ?_
   refine GoR.pass rfl rfl ?_
   refine GoR.pass rfl rfl ?_
   refine GoR.pass rfl rfl ?_
   refine GoR.pass rfl rfl ?_
   refine GoR.pass rfl rfl ?_
   refine GoR.pass rfl rfl ?_
   refine GoR.pass rfl rfl ?_
   refine GoR.pass rfl rfl ?_
   refine GoR.op ((op_pickT rfl rfl rfl) _) rfl rfl ?_
   refine GoR.nil ?_
   refine Go1.condT rfl rfl ?_
   refine Go1.seq ?_
   refine Go1.region ?_
   refine GoR.op ((op_assign rfl) _) rfl rfl ?_
   refine GoR.nil ?_
   refine Go1.ret1 Try.func29 rfl ?_
   exact ⟨([] : Str), rfl, hB.same, (by decide), H⟩
  replace H := ifn h16 H
  refine GoR.op ((fun w => opB (op_lss rfl rfl w) (decide_eq_false h16)) _) rfl rfl ?_
  refine GoR.op ((op_pickF rfl rfl rfl) _) rfl rfl ?_
  refine GoR.op ((op_move rfl) _) rfl rfl ?_
  refine GoR.op ((op_move rfl) _) rfl rfl ?_
  refine GoR.op ((op_move rfl) _) rfl rfl ?_
  exact H.elim
 ·refine exE fun r7 => exE fun r8 => exE fun mG => exE fun nf => exE fun kb => exE fun kc => exE fun uT => exE fun mh => exE fun jI => exE fun jJ => exE fun uG => exE fun lx => exE fun iO => exE fun iP => exE fun uf => exE fun ng => exE fun kd => exE fun ke => exE fun uU => exE fun mj => exE fun jK => exE fun jL => exE fun uH => exE fun ml => exE fun jM => exE fun jN => exE fun uI => exE fun bO => exE fun xL => exE fun xM => exE fun xN => exE fun wM => exE fun wN => exE fun wO => exE fun wP => exE fun we => exE fun wQ => exE fun wR => exE fun wS => exE fun wg => andE fun hv17 => andE fun wc => andE fun hN12 => andE fun dO => andE fun cU => andE fun cu => andE fun cH => andE fun b8 => andE fun bN => andE fun cO => andE fun cR => andE fun cS => fun H => ?_
  subst hv17
  clear hcase13
  replace H := oElimS H
  have pX := Stp.more hO wc hN12
  dsimp only [List.cons_append, List.nil_append] at pX
  replace hO := pX.own
  replace ah := ah.ch pX.ch
  replace ae := ae.ch pX.ch
  replace ad := ad.ch pX.ch
  replace ai := ai.ch pX.ch
  replace af := af.ch pX.ch
  replace ag := ag.ch pX.ch
  replace hB := hB.trans pX.fr
  replace dO := dO.ch (Ch.assoc _ _ _ _)
  dsimp only [List.cons_append, List.nil_append] at dO
  replace cU := cU.ch (Ch.assoc _ _ _ _)
  dsimp only [List.cons_append, List.nil_append] at cU
  replace cu := cu.ch (Ch.assoc _ _ _ _)
  dsimp only [List.cons_append, List.nil_append] at cu
  replace cH := cH.ch (Ch.assoc _ _ _ _)
  dsimp only [List.cons_append, List.nil_append] at cH
  replace b8 := b8.ch (Ch.assoc _ _ _ _)
  dsimp only [List.cons_append, List.nil_append] at b8
  replace bN := bN.ch (Ch.assoc _ _ _ _)
  dsimp only [List.cons_append, List.nil_append] at bN
  replace cO := cO.ch (Ch.assoc _ _ _ _)
  dsimp only [List.cons_append, List.nil_append] at cO
  replace cR := cR.ch (Ch.assoc _ _ _ _)
  dsimp only [List.cons_append, List.nil_append] at cR
  replace cS := cS.ch (Ch.assoc _ _ _ _)
  dsimp only [List.cons_append, List.nil_append] at cS
  refine GoR.op ((op_move rfl) _) rfl rfl ?_
  refine GoR.op ((op_extract rfl rfl) _) rfl rfl ?_
  refine GoR.op ((op_extract rfl rfl) _) rfl rfl ?_
  refine GoR.op ((op_assign rfl) _) rfl rfl ?_
  refine GoR.op ((op_assign rfl) _) rfl rfl ?_
  refine GoR.nil ?_
  refine Go1.seq ?_
  refine Go1.seq ?_
  refine Go1.cut [(1, .int .i64 i), (5, .pointer (some ⟨mG, 0, none⟩)), (6, .bool r8)] ⟨rfl, rfl, rfl, trivial⟩ ?_
  intro σ _
  refine Go1.region ?_
  refine GoR.op ((op_move rfl) _) rfl rfl ?_
  cases r8
  ·replace H := ifn Bool.false_ne_true H
   refine GoR.op ((op_not rfl) _) rfl rfl ?_
   refine GoR.op ((op_move rfl) _) rfl rfl ?_
   refine GoR.pass rfl rfl ?_
   refine GoR.pass rfl rfl ?_
   refine GoR.op ((op_pickT rfl rfl rfl) _) rfl rfl ?_
   refine GoR.op ((op_move rfl) _) rfl rfl ?_
   refine GoR.pass rfl rfl ?_
   refine GoR.pass rfl rfl ?_
   refine GoR.pass rfl rfl ?_
   refine GoR.pass rfl rfl ?_
   refine GoR.pass rfl rfl ?_
   refine GoR.pass rfl rfl ?_
   refine GoR.pass rfl rfl ?_
   refine GoR.pass rfl rfl ?_
   refine GoR.op ((op_pickT rfl rfl rfl) _) rfl rfl ?_
   refine GoR.nil ?_
   refine Go1.condT rfl rfl ?_
   refine Go1.seq ?_
   refine Go1.region ?_
   refine GoR.op ((op_assign rfl) _) rfl rfl ?_
   refine GoR.nil ?_
   refine Go1.ret1 Try.func29 rfl ?_
   exact ⟨([] : Str), rfl, hB.same, (by decide), H⟩
  replace H := ifp rfl H
  refine GoR.op ((op_not rfl) _) rfl rfl ?_
  refine GoR.op ((op_move rfl) _) rfl rfl ?_
  refine GoR.op ((op_move rfl) _) rfl rfl ?_
  by_cases h30 : i < (0 : Int)
  ·replace H := ifp h30 H
   refine GoR.op ((fun w => opB (op_lss rfl rfl w) (decide_eq_true h30)) _) rfl rfl ?_
   refine GoR.op ((op_pickF rfl rfl rfl) _) rfl rfl ?_
   refine GoR.op ((op_move rfl) _) rfl rfl ?_
   refine GoR.pass rfl rfl ?_
   refine GoR.pass rfl rfl ?_
   refine GoR.pass rfl rfl ?_
   refine GoR.pass rfl rfl ?_
   refine GoR.pass rfl rfl ?_
   refine GoR.pass rfl rfl ?_
   refine GoR.pass rfl rfl ?_
   refine GoR.pass rfl rfl ?_
   refine GoR.op ((op_pickT rfl rfl rfl) _) rfl rfl ?_
   refine GoR.nil ?_
   refine Go1.condT rfl rfl ?_
   refine Go1.seq ?_
   refine Go1.cut [] trivial ?_
   intro σ _
   refine Go1.region ?_
   refine GoR.op ((op_assign rfl) _) rfl rfl ?_
   refine GoR.nil ?_
   refine Go1.ret1 Try.func29 rfl ?_
   exact ⟨([] : Str), rfl, hB.same, (by decide), H⟩
  replace H := ifn h30 H
  refine GoR.op ((fun w => opB (op_lss rfl rfl w) (decide_eq_false h30)) _) rfl rfl ?_
  refine GoR.op ((op_pickF rfl rfl rfl) _) rfl rfl ?_
  refine GoR.op ((op_move rfl) _) rfl rfl ?_
  refine GoR.op ((op_move rfl) _) rfl rfl ?_
  refine GoR.op ((op_move rfl) _) rfl rfl ?_
  refine GoR.op ((op_nilCheck rfl) _) rfl rfl ?_
  refine GoR.op ((op_fieldAddr Try.underlying72 rfl ti29 rfl (by decide)) _) rfl rfl ?_
  refine GoR.op ((op_fieldAddr Try.underlying29 rfl ti22 rfl (by decide)) _) rfl rfl ?_
  refine GoR.op ((oblk (i := 3) 0 hO rfl rfl Try.underlying22 rfl rfl) _ (Same.refl _)) rfl rfl ?_
  refine GoR.op ((op_lenN Try.underlying22 rfl (cU.neq hO 2 rfl)) _) rfl rfl ?_
  by_cases h31 : (r7.Enum.Elems.length : Int) ≤ i
  ·replace H := ifp h31 H
   refine GoR.op ((fun w => opB (op_geq rfl rfl w) (decide_eq_true h31)) _) rfl rfl ?_
   refine GoR.op ((op_pickF rfl rfl rfl) _) rfl rfl ?_
   refine GoR.nil ?_
   refine Go1.condT rfl rfl ?_
   refine Go1.seq ?_
   refine Go1.region ?_
   refine GoR.op ((op_assign rfl) _) rfl rfl ?_
   refine GoR.nil ?_
   refine Go1.ret1 Try.func29 rfl ?_
   exact ⟨([] : Str), rfl, hB.same, (by decide), H⟩
  replace H := ifn h31 H
  refine GoR.op ((fun w => opB (op_geq rfl rfl w) (decide_eq_false h31)) _) rfl rfl ?_
  refine GoR.op ((op_pickF rfl rfl rfl) _) rfl rfl ?_
  refine GoR.nil ?_
  refine Go1.condF rfl rfl ?_
  refine Go1.skip ?_
  refine Go1.seq ?_
  refine Go1.region ?_
  refine GoR.op ((op_move rfl) _) rfl rfl ?_
  refine GoR.op ((op_nilCheck rfl) _) rfl rfl ?_
  refine GoR.op ((op_fieldAddr Try.underlying72 rfl ti70 rfl (by decide)) _) rfl rfl ?_
  refine GoR.op ((oblk (i := 10) 0 hO rfl rfl Try.underlying70 rfl rfl) _ (Same.refl _)) rfl rfl ?_
  refine GoR.op ((op_move rfl) _) rfl rfl ?_
  obtain ⟨h32, H⟩ := H
  obtain ⟨h33, H⟩ := H
  refine GoR.op ((op_index Try.underlying70 ti9 rfl rfl h32 (ltn (cO.neq hO 7 rfl) h33) (cO.psome hO 7 rfl h32 h33)) _) rfl rfl ?_
  refine GoR.op ((oldStr 7 hO rfl cO h32 h33 Try.underlying9 rfl rfl) _ (Same.refl _)) rfl rfl ?_
  have hle34 := Els.str_le cO h32 h33
  refine GoR.op ((op_assign rfl) _) rfl rfl ?_
  refine GoR.nil ?_
  refine Go1.ret1 Try.func29 rfl ?_
  exact ⟨ix r7.words i, rfl, hB.same, hle34, H⟩
end Sg
