/- The walks: each call keeps to its plain transformer. Printed by walkgen.py. -/
import Derived.Test.YtjegjjdfgefkoaaTi
import Derived.Test.YtjegjjdfgefkoaaWEnumerateBuilds
import Derived.Test.YtjegjjdfgefkoaaWEnumerateBuildsb
namespace Sg
open Go Go.RowKit Go.Proofs
set_option linter.unusedVariables false
set_option linter.unusedSimpArgs false
set_option maxRecDepth 100000
set_option maxHeartbeats 4000000
theorem body68 : Body Try.prog 68 := ⟨Try.f68, Try.func68, rfl, by kernel_rfl⟩
theorem body53 : Body Try.prog 53 := ⟨Try.f53, Try.func53, rfl, by kernel_rfl⟩
theorem walk_enumerate_replay {A : List Nat} {w0 : World} {bp : Option Addr} {bq : Nat} {aO : Option Addr} {aP : Nat} {ar : Option Addr} {au : Nat} {bg : Option Addr} {bh : Nat} {aQ : Option Addr} {aR : Nat} {aS : Option Addr} {aT : Nat} {e : Enum} (hA : ∀ b ∈ A, b < w0.heap.size) (ah : ISl (Rp.sl (Rp.int .i64)) A w0 bp bq e.Gens) (ae : ISl (Rp.sl (Rp.int .i64)) A w0 aO aP e.Elems) (ad : ISl (Rp.int .i64) A w0 ar au e.Prefix) (ai : ISl (Rp.int .i64) A w0 bg bh e.Last) (af : ISl (Rp.sl (Rp.int .i64)) A w0 aQ aR e.Right) (ag : ISl (rpRule) A w0 aS aT e.Rules) {K : Option run → Bool → Prop} (H : enumerate_replay e K) :
    CallsV Try.prog 53 #[.agg #[.int .i64 e.Points, .bool e.Monoid, .slice bp e.Gens.length bq, .slice aO e.Elems.length aP, .slice ar e.Prefix.length au, .slice bg e.Last.length bh, .slice aQ e.Right.length aR, .slice aS e.Rules.length aT, .int .i64 e.Done]] w0 (fun v w' => (∃ (r1 : Bool), v = .tuple #[.pointer none, .bool r1] ∧ Same w0 w' ∧ K none r1) ∨ (∃ (q : run), ∃ (r1 : Bool), ∃ (b_q : Nat), ∃ (bi : Nat), ∃ (bj : Option Addr), ∃ (bk : Nat), ∃ (cq : List Value), ∃ (aY : Nat), ∃ (aZ : Option Addr), ∃ (a5 : Nat), ∃ (cl : List Value), ∃ (aL : Nat), ∃ (aM : Option Addr), ∃ (aN : Nat), ∃ (cb : List Value), ∃ (bm : Nat), ∃ (bn : Option Addr), ∃ (bo : Nat), ∃ (cr : List Value), ∃ (a6 : Nat), ∃ (a7 : Option Addr), ∃ (a8 : Nat), ∃ (co : List Value), ∃ (a9 : Nat), ∃ (ba : Option Addr), ∃ (bc : Nat), ∃ (cp : List Value), ∃ (cR : Nat), ∃ (cf : Nat), ∃ (cg : Option Addr), ∃ (ci : Nat), ∃ (dq : List Value), ∃ (bQ : Nat), ∃ (bS : Option Addr), ∃ (bT : Nat), ∃ (da : List Value), ∃ (bU : Nat), ∃ (bV : Option Addr), ∃ (bW : Nat), ∃ (db : List Value), v = .tuple #[.pointer (some ⟨b_q, 0, none⟩), .bool r1] ∧ Same w0 w' ∧ Owns w0.heap.size w' [.blk b_q (.cells #[.int .i64 q.Enum.Points, .bool q.Enum.Monoid, .slice bj bi bk, .slice aZ aY a5, .slice aM aL aN, .slice bn bm bo, .slice a7 a6 a8, .slice ba a9 bc, .int .i64 q.Enum.Done, .map (some cR), .slice cg cf ci, .slice bS bQ bT, .slice bV bU bW] 72 (0, 0)), .row 26 1 bj bi bk cq, .row 26 1 aZ aY a5 cl, .row 3 1 aM aL aN cb, .row 3 1 bn bm bo cr, .row 26 1 a7 a6 a8 co, .row 39 2 ba a9 bc cp, .row 9 1 cg cf ci dq, .row 3 1 bS bQ bT da, .row 3 1 bV bU bW db, .any (mapE (fun a : List UInt8 => Value.string (gstr a)) (fun a : Int => Value.int .i64 a) cR q.number)] A ∧ Els (Rp.sl (Rp.int .i64)) (bl [.blk b_q (.cells #[.int .i64 q.Enum.Points, .bool q.Enum.Monoid, .slice bj bi bk, .slice aZ aY a5, .slice aM aL aN, .slice bn bm bo, .slice a7 a6 a8, .slice ba a9 bc, .int .i64 q.Enum.Done, .map (some cR), .slice cg cf ci, .slice bS bQ bT, .slice bV bU bW] 72 (0, 0)), .row 26 1 bj bi bk cq, .row 26 1 aZ aY a5 cl, .row 3 1 aM aL aN cb, .row 3 1 bn bm bo cr, .row 26 1 a7 a6 a8 co, .row 39 2 ba a9 bc cp, .row 9 1 cg cf ci dq, .row 3 1 bS bQ bT da, .row 3 1 bV bU bW db, .any (mapE (fun a : List UInt8 => Value.string (gstr a)) (fun a : Int => Value.int .i64 a) cR q.number)] ++ A) w' cq q.Enum.Gens ∧ Els (Rp.sl (Rp.int .i64)) (bl [.blk b_q (.cells #[.int .i64 q.Enum.Points, .bool q.Enum.Monoid, .slice bj bi bk, .slice aZ aY a5, .slice aM aL aN, .slice bn bm bo, .slice a7 a6 a8, .slice ba a9 bc, .int .i64 q.Enum.Done, .map (some cR), .slice cg cf ci, .slice bS bQ bT, .slice bV bU bW] 72 (0, 0)), .row 26 1 bj bi bk cq, .row 26 1 aZ aY a5 cl, .row 3 1 aM aL aN cb, .row 3 1 bn bm bo cr, .row 26 1 a7 a6 a8 co, .row 39 2 ba a9 bc cp, .row 9 1 cg cf ci dq, .row 3 1 bS bQ bT da, .row 3 1 bV bU bW db, .any (mapE (fun a : List UInt8 => Value.string (gstr a)) (fun a : Int => Value.int .i64 a) cR q.number)] ++ A) w' cl q.Enum.Elems ∧ Els (Rp.int .i64) (bl [.blk b_q (.cells #[.int .i64 q.Enum.Points, .bool q.Enum.Monoid, .slice bj bi bk, .slice aZ aY a5, .slice aM aL aN, .slice bn bm bo, .slice a7 a6 a8, .slice ba a9 bc, .int .i64 q.Enum.Done, .map (some cR), .slice cg cf ci, .slice bS bQ bT, .slice bV bU bW] 72 (0, 0)), .row 26 1 bj bi bk cq, .row 26 1 aZ aY a5 cl, .row 3 1 aM aL aN cb, .row 3 1 bn bm bo cr, .row 26 1 a7 a6 a8 co, .row 39 2 ba a9 bc cp, .row 9 1 cg cf ci dq, .row 3 1 bS bQ bT da, .row 3 1 bV bU bW db, .any (mapE (fun a : List UInt8 => Value.string (gstr a)) (fun a : Int => Value.int .i64 a) cR q.number)] ++ A) w' cb q.Enum.Prefix ∧ Els (Rp.int .i64) (bl [.blk b_q (.cells #[.int .i64 q.Enum.Points, .bool q.Enum.Monoid, .slice bj bi bk, .slice aZ aY a5, .slice aM aL aN, .slice bn bm bo, .slice a7 a6 a8, .slice ba a9 bc, .int .i64 q.Enum.Done, .map (some cR), .slice cg cf ci, .slice bS bQ bT, .slice bV bU bW] 72 (0, 0)), .row 26 1 bj bi bk cq, .row 26 1 aZ aY a5 cl, .row 3 1 aM aL aN cb, .row 3 1 bn bm bo cr, .row 26 1 a7 a6 a8 co, .row 39 2 ba a9 bc cp, .row 9 1 cg cf ci dq, .row 3 1 bS bQ bT da, .row 3 1 bV bU bW db, .any (mapE (fun a : List UInt8 => Value.string (gstr a)) (fun a : Int => Value.int .i64 a) cR q.number)] ++ A) w' cr q.Enum.Last ∧ Els (Rp.sl (Rp.int .i64)) (bl [.blk b_q (.cells #[.int .i64 q.Enum.Points, .bool q.Enum.Monoid, .slice bj bi bk, .slice aZ aY a5, .slice aM aL aN, .slice bn bm bo, .slice a7 a6 a8, .slice ba a9 bc, .int .i64 q.Enum.Done, .map (some cR), .slice cg cf ci, .slice bS bQ bT, .slice bV bU bW] 72 (0, 0)), .row 26 1 bj bi bk cq, .row 26 1 aZ aY a5 cl, .row 3 1 aM aL aN cb, .row 3 1 bn bm bo cr, .row 26 1 a7 a6 a8 co, .row 39 2 ba a9 bc cp, .row 9 1 cg cf ci dq, .row 3 1 bS bQ bT da, .row 3 1 bV bU bW db, .any (mapE (fun a : List UInt8 => Value.string (gstr a)) (fun a : Int => Value.int .i64 a) cR q.number)] ++ A) w' co q.Enum.Right ∧ Els (rpRule) (bl [.blk b_q (.cells #[.int .i64 q.Enum.Points, .bool q.Enum.Monoid, .slice bj bi bk, .slice aZ aY a5, .slice aM aL aN, .slice bn bm bo, .slice a7 a6 a8, .slice ba a9 bc, .int .i64 q.Enum.Done, .map (some cR), .slice cg cf ci, .slice bS bQ bT, .slice bV bU bW] 72 (0, 0)), .row 26 1 bj bi bk cq, .row 26 1 aZ aY a5 cl, .row 3 1 aM aL aN cb, .row 3 1 bn bm bo cr, .row 26 1 a7 a6 a8 co, .row 39 2 ba a9 bc cp, .row 9 1 cg cf ci dq, .row 3 1 bS bQ bT da, .row 3 1 bV bU bW db, .any (mapE (fun a : List UInt8 => Value.string (gstr a)) (fun a : Int => Value.int .i64 a) cR q.number)] ++ A) w' cp q.Enum.Rules ∧ Els (Rp.str) (bl [.blk b_q (.cells #[.int .i64 q.Enum.Points, .bool q.Enum.Monoid, .slice bj bi bk, .slice aZ aY a5, .slice aM aL aN, .slice bn bm bo, .slice a7 a6 a8, .slice ba a9 bc, .int .i64 q.Enum.Done, .map (some cR), .slice cg cf ci, .slice bS bQ bT, .slice bV bU bW] 72 (0, 0)), .row 26 1 bj bi bk cq, .row 26 1 aZ aY a5 cl, .row 3 1 aM aL aN cb, .row 3 1 bn bm bo cr, .row 26 1 a7 a6 a8 co, .row 39 2 ba a9 bc cp, .row 9 1 cg cf ci dq, .row 3 1 bS bQ bT da, .row 3 1 bV bU bW db, .any (mapE (fun a : List UInt8 => Value.string (gstr a)) (fun a : Int => Value.int .i64 a) cR q.number)] ++ A) w' dq q.words ∧ Els (Rp.int .i64) (bl [.blk b_q (.cells #[.int .i64 q.Enum.Points, .bool q.Enum.Monoid, .slice bj bi bk, .slice aZ aY a5, .slice aM aL aN, .slice bn bm bo, .slice a7 a6 a8, .slice ba a9 bc, .int .i64 q.Enum.Done, .map (some cR), .slice cg cf ci, .slice bS bQ bT, .slice bV bU bW] 72 (0, 0)), .row 26 1 bj bi bk cq, .row 26 1 aZ aY a5 cl, .row 3 1 aM aL aN cb, .row 3 1 bn bm bo cr, .row 26 1 a7 a6 a8 co, .row 39 2 ba a9 bc cp, .row 9 1 cg cf ci dq, .row 3 1 bS bQ bT da, .row 3 1 bV bU bW db, .any (mapE (fun a : List UInt8 => Value.string (gstr a)) (fun a : Int => Value.int .i64 a) cR q.number)] ++ A) w' da q.behind ∧ Els (Rp.int .i64) (bl [.blk b_q (.cells #[.int .i64 q.Enum.Points, .bool q.Enum.Monoid, .slice bj bi bk, .slice aZ aY a5, .slice aM aL aN, .slice bn bm bo, .slice a7 a6 a8, .slice ba a9 bc, .int .i64 q.Enum.Done, .map (some cR), .slice cg cf ci, .slice bS bQ bT, .slice bV bU bW] 72 (0, 0)), .row 26 1 bj bi bk cq, .row 26 1 aZ aY a5 cl, .row 3 1 aM aL aN cb, .row 3 1 bn bm bo cr, .row 26 1 a7 a6 a8 co, .row 39 2 ba a9 bc cp, .row 9 1 cg cf ci dq, .row 3 1 bS bQ bT da, .row 3 1 bV bU bW db, .any (mapE (fun a : List UInt8 => Value.string (gstr a)) (fun a : Int => Value.int .i64 a) cR q.number)] ++ A) w' db q.single ∧ K (some q) r1)) := by
 refine CallsV.of (l := [.agg #[.int .i64 e.Points, .bool e.Monoid, .slice bp e.Gens.length bq, .slice aO e.Elems.length aP, .slice ar e.Prefix.length au, .slice bg e.Last.length bh, .slice aQ e.Right.length aR, .slice aS e.Rules.length aT, .int .i64 e.Done]]) Try.func53 rfl Try.ntmps53 rfl ?_
 have hO := Owns.start hA
 have hB := Fr.refl (bl []) w0
 unfold enumerate_replay at H
 replace ah := ah.ch (Ch.start A w0)
 replace ae := ae.ch (Ch.start A w0)
 replace ad := ad.ch (Ch.start A w0)
 replace ai := ai.ch (Ch.start A w0)
 replace af := af.ch (Ch.start A w0)
 replace ag := ag.ch (Ch.start A w0)
 refine Go1.seq ?_
 refine Go1.region ?_
 have hobt := obox (t := 29) (v := .agg #[.int .i64 e.Points, .bool e.Monoid, .slice bp e.Gens.length bq, .slice aO e.Elems.length aP, .slice ar e.Prefix.length au, .slice bg e.Last.length bh, .slice aQ e.Right.length aR, .slice aS e.Rules.length aT, .int .i64 e.Done]) (cs := #[.int .i64 e.Points, .bool e.Monoid, .slice bp e.Gens.length bq, .slice aO e.Elems.length aP, .slice ar e.Prefix.length au, .slice bg e.Last.length bh, .slice aQ e.Right.length aR, .slice aS e.Rules.length aT, .int .i64 e.Done]) hO rfl
 obtain ⟨w1, B2, jj, hs4, vZ⟩ := hobt
 refine GoR.op (vZ rfl) rfl rfl ?_
 replace hO := jj.own
 replace ah := ah.ch jj.ch
 replace ae := ae.ch jj.ch
 replace ad := ad.ch jj.ch
 replace ai := ai.ch jj.ch
 replace af := af.ch jj.ch
 replace ag := ag.ch jj.ch
 replace hB := hB.trans jj.fr
 refine GoR.op ((op_assign rfl) _) rfl rfl ?_
 refine GoR.op ((op_assign rfl) _) rfl rfl ?_
 refine GoR.nil ?_
 refine Go1.seq ?_
 refine Go1.region ?_
 refine GoR.op ((op_fieldAddr Try.underlying29 rfl ti22 rfl (by decide)) _) rfl rfl ?_
 refine GoR.op ((oblk (i := 2) 0 hO rfl rfl Try.underlying22 rfl rfl) _ (Same.refl _)) rfl rfl ?_
 refine GoR.op ((op_fieldAddr Try.underlying29 rfl ti4 rfl (by decide)) _) rfl rfl ?_
 by_cases h7 : e.Monoid = true
 ·replace H := ifp h7 H
  refine GoR.op (opB ((oblk (i := 1) 0 hO rfl rfl Try.underlying4 rfl rfl) _ (Same.refl _)) (h7)) rfl rfl ?_
  refine GoR.call (op_call body49 rfl (walk_enumerate_begin hO.lt ah H)) rfl rfl ?_
  intro v10 w11 hcase14
  refine Or.elim hcase14 ?_ ?_
  ·refine exE fun r9 => andE fun hv15 => andE fun xG => fun H => ?_
   subst hv15
   clear hcase14
   replace H := oElimN H
   have tX := Stp.same hO xG
   replace hO := tX.own
   replace ah := ah.ch tX.ch
   replace ae := ae.ch tX.ch
   replace ad := ad.ch tX.ch
   replace ai := ai.ch tX.ch
   replace af := af.ch tX.ch
   replace ag := ag.ch tX.ch
   replace hB := hB.trans tX.fr
   refine GoR.op ((op_move rfl) _) rfl rfl ?_
   refine GoR.op ((op_extract rfl rfl) _) rfl rfl ?_
   refine GoR.op ((op_extract rfl rfl) _) rfl rfl ?_
   refine GoR.op ((op_assign rfl) _) rfl rfl ?_
   refine GoR.op ((op_assign rfl) _) rfl rfl ?_
   refine GoR.nil ?_
   refine Go1.seq ?_
   refine Go1.seq ?_
   refine Go1.region ?_
   refine GoR.op ((op_move rfl) _) rfl rfl ?_
   by_cases h17 : r9 = (0 : Int)
   ·replace H := ifp h17 H
    refine GoR.op ((fun w => opB (op_neq rfl rfl w) (ndT h17)) _) rfl rfl ?_
    refine GoR.nil ?_
    refine Go1.condF rfl rfl ?_
    refine Go1.skip ?_
    refine Go1.seq ?_
    refine Go1.block ?_
    refine Go1.loopW (S := Unit) (fun s σ w => agrees σ [(1, .pointer (some ⟨B2, 0, none⟩)), (4, .pointer none)] ∧ Owns w0.heap.size w [.blk B2 (.cells #[.int .i64 e.Points, .bool e.Monoid, .slice bp e.Gens.length bq, .slice aO e.Elems.length aP, .slice ar e.Prefix.length au, .slice bg e.Last.length bh, .slice aQ e.Right.length aR, .slice aS e.Rules.length aT, .int .i64 e.Done] 29 (0, 0))] A ∧ ISl (Rp.sl (Rp.int .i64)) (bl [.blk B2 (.cells #[.int .i64 e.Points, .bool e.Monoid, .slice bp e.Gens.length bq, .slice aO e.Elems.length aP, .slice ar e.Prefix.length au, .slice bg e.Last.length bh, .slice aQ e.Right.length aR, .slice aS e.Rules.length aT, .int .i64 e.Done] 29 (0, 0))] ++ A) w bp bq e.Gens ∧ ISl (Rp.sl (Rp.int .i64)) (bl [.blk B2 (.cells #[.int .i64 e.Points, .bool e.Monoid, .slice bp e.Gens.length bq, .slice aO e.Elems.length aP, .slice ar e.Prefix.length au, .slice bg e.Last.length bh, .slice aQ e.Right.length aR, .slice aS e.Rules.length aT, .int .i64 e.Done] 29 (0, 0))] ++ A) w aO aP e.Elems ∧ ISl (Rp.int .i64) (bl [.blk B2 (.cells #[.int .i64 e.Points, .bool e.Monoid, .slice bp e.Gens.length bq, .slice aO e.Elems.length aP, .slice ar e.Prefix.length au, .slice bg e.Last.length bh, .slice aQ e.Right.length aR, .slice aS e.Rules.length aT, .int .i64 e.Done] 29 (0, 0))] ++ A) w ar au e.Prefix ∧ ISl (Rp.int .i64) (bl [.blk B2 (.cells #[.int .i64 e.Points, .bool e.Monoid, .slice bp e.Gens.length bq, .slice aO e.Elems.length aP, .slice ar e.Prefix.length au, .slice bg e.Last.length bh, .slice aQ e.Right.length aR, .slice aS e.Rules.length aT, .int .i64 e.Done] 29 (0, 0))] ++ A) w bg bh e.Last ∧ ISl (Rp.sl (Rp.int .i64)) (bl [.blk B2 (.cells #[.int .i64 e.Points, .bool e.Monoid, .slice bp e.Gens.length bq, .slice aO e.Elems.length aP, .slice ar e.Prefix.length au, .slice bg e.Last.length bh, .slice aQ e.Right.length aR, .slice aS e.Rules.length aT, .int .i64 e.Done] 29 (0, 0))] ++ A) w aQ aR e.Right ∧ ISl (rpRule) (bl [.blk B2 (.cells #[.int .i64 e.Points, .bool e.Monoid, .slice bp e.Gens.length bq, .slice aO e.Elems.length aP, .slice ar e.Prefix.length au, .slice bg e.Last.length bh, .slice aQ e.Right.length aR, .slice aS e.Rules.length aT, .int .i64 e.Done] 29 (0, 0))] ++ A) w aS aT e.Rules ∧ Fr (bl []) w0 (bl [.blk B2 (.cells #[.int .i64 e.Points, .bool e.Monoid, .slice bp e.Gens.length bq, .slice aO e.Elems.length aP, .slice ar e.Prefix.length au, .slice bg e.Last.length bh, .slice aQ e.Right.length aR, .slice aS e.Rules.length aT, .int .i64 e.Done] 29 (0, 0))]) w) H ⟨⟨rfl, rfl, trivial⟩, hO, ah, ae, ad, ai, af, ag, hB⟩ ?_
    intro X1 _
    intro H hX1 σ w18
    refine andE fun hag => andE fun hO => andE fun ah => andE fun ae => andE fun ad => andE fun ai => andE fun af => andE fun ag => fun hB => ?_
    refine Go1.keep [(1, .pointer (some ⟨B2, 0, none⟩)), (4, .pointer none)] hag ?_
    refine Go1.seq ?_
    refine Go1.seq ?_
    refine Go1.drawS 0 [(0, .pure), (1, .pure), (2, .pure), (3, .pure), (4, .stable), (5, .pure), (6, .stable), (7, .pure)] mixed (by kernel_rfl) ?_
    intro w19 Ay
    have rU := Stp.same hO Ay
    replace hO := rU.own
    replace ah := ah.ch rU.ch
    replace ae := ae.ch rU.ch
    replace ad := ad.ch rU.ch
    replace ai := ai.ch rU.ch
    replace af := af.ch rU.ch
    replace ag := ag.ch rU.ch
    replace hB := hB.trans rU.fr
    refine GoQ.pure rfl (op_move rfl) rfl rfl ?_
    exact H.elim
   replace H := ifn h17 H
   refine GoR.op ((fun w => opB (op_neq rfl rfl w) (ndF h17)) _) rfl rfl ?_
   refine GoR.nil ?_
   refine Go1.condT rfl rfl ?_
   refine Go1.seq ?_
   refine Go1.region ?_
   refine GoR.op ((op_assign rfl) _) rfl rfl ?_
   refine GoR.op ((op_assign rfl) _) rfl rfl ?_
   refine GoR.nil ?_
   refine Go1.ret2 Try.func53 rfl ?_
   exact Or.inl ⟨false, rfl, hB.same, H⟩
  ·refine exE fun r8 => exE fun r9 => exE fun iO => exE fun wY => exE fun wZ => exE fun w7 => exE fun wB => exE fun wC => exE fun wD => exE fun wE => exE fun v3 => exE fun v4 => exE fun v7 => exE fun v8 => exE fun vk => exE fun xa => exE fun xb => exE fun xc => exE fun wF => exE fun wG => exE fun wH => exE fun wI => exE fun wa => exE fun wJ => exE fun wK => exE fun wL => exE fun wb => exE fun bP => exE fun y7 => exE fun y8 => exE fun y9 => exE fun x9 => exE fun ya => exE fun yb => exE fun yc => exE fun xW => exE fun yd => exE fun ye => exE fun yf => exE fun xX => andE fun hv22 => andE fun xG => andE fun hN13 => andE fun qB => andE fun o7 => andE fun n7 => andE fun qC => andE fun o8 => andE fun o9 => andE fun sC => andE fun rV => andE fun rW => fun H => ?_
   subst hv22
   clear hcase14
   replace H := oElimS H
   have jt := Stp.more hO xG hN13
   dsimp only [List.cons_append, List.nil_append] at jt
   replace hO := jt.own
   replace ah := ah.ch jt.ch
   replace ae := ae.ch jt.ch
   replace ad := ad.ch jt.ch
   replace ai := ai.ch jt.ch
   replace af := af.ch jt.ch
   replace ag := ag.ch jt.ch
   replace hB := hB.trans jt.fr
   replace qB := qB.ch (Ch.assoc _ _ _ _)
   dsimp only [List.cons_append, List.nil_append] at qB
   replace o7 := o7.ch (Ch.assoc _ _ _ _)
   dsimp only [List.cons_append, List.nil_append] at o7
   replace n7 := n7.ch (Ch.assoc _ _ _ _)
   dsimp only [List.cons_append, List.nil_append] at n7
   replace qC := qC.ch (Ch.assoc _ _ _ _)
   dsimp only [List.cons_append, List.nil_append] at qC
   replace o8 := o8.ch (Ch.assoc _ _ _ _)
   dsimp only [List.cons_append, List.nil_append] at o8
   replace o9 := o9.ch (Ch.assoc _ _ _ _)
   dsimp only [List.cons_append, List.nil_append] at o9
   replace sC := sC.ch (Ch.assoc _ _ _ _)
   dsimp only [List.cons_append, List.nil_append] at sC
   replace rV := rV.ch (Ch.assoc _ _ _ _)
   dsimp only [List.cons_append, List.nil_append] at rV
   replace rW := rW.ch (Ch.assoc _ _ _ _)
   dsimp only [List.cons_append, List.nil_append] at rW
   refine GoR.op ((op_move rfl) _) rfl rfl ?_
   refine GoR.op ((op_extract rfl rfl) _) rfl rfl ?_
   refine GoR.op ((op_extract rfl rfl) _) rfl rfl ?_
   refine GoR.op ((op_assign rfl) _) rfl rfl ?_
   refine GoR.op ((op_assign rfl) _) rfl rfl ?_
   refine GoR.nil ?_
   refine Go1.seq ?_
   refine Go1.seq ?_
   refine Go1.region ?_
   refine GoR.op ((op_move rfl) _) rfl rfl ?_
   by_cases h35 : r9 = (0 : Int)
   ·replace H := ifp h35 H
    refine GoR.op ((fun w => opB (op_neq rfl rfl w) (ndT h35)) _) rfl rfl ?_
    refine GoR.nil ?_
    refine Go1.condF rfl rfl ?_
    refine Go1.skip ?_
    refine Go1.seq ?_
    refine Go1.block ?_
    refine Go1.loopW (S := Int × Bool × Int × List (List Int) × List (List Int) × List Int × List Int × List (List Int) × List Rule × List Str × List Int × List Int × (List (Str × Int))) (fun s σ w => match s with | (k2_37, b2_38, k2_39, d_40, d_46, d_52, d_58, d_64, d_70, d_76, d_82, d_88, m2_94) => ∃ (n45 : Nat), ∃ (p43 : Option Addr), ∃ (c44 : Nat), ∃ (eB : List Value), ∃ (n51 : Nat), ∃ (p49 : Option Addr), ∃ (c50 : Nat), ∃ (eC : List Value), ∃ (n57 : Nat), ∃ (p55 : Option Addr), ∃ (c56 : Nat), ∃ (jT : List Value), ∃ (n63 : Nat), ∃ (p61 : Option Addr), ∃ (c62 : Nat), ∃ (jU : List Value), ∃ (n69 : Nat), ∃ (p67 : Option Addr), ∃ (c68 : Nat), ∃ (jV : List Value), ∃ (n75 : Nat), ∃ (p73 : Option Addr), ∃ (c74 : Nat), ∃ (jW : List Value), ∃ (n81 : Nat), ∃ (p79 : Option Addr), ∃ (c80 : Nat), ∃ (jX : List Value), ∃ (n87 : Nat), ∃ (p85 : Option Addr), ∃ (c86 : Nat), ∃ (jY : List Value), ∃ (n93 : Nat), ∃ (p91 : Option Addr), ∃ (c92 : Nat), ∃ (jZ : List Value), agrees σ [(1, .pointer (some ⟨B2, 0, none⟩)), (4, .pointer (some ⟨iO, 0, none⟩))] ∧ Owns w0.heap.size w [.blk iO (.cells #[.int .i64 k2_37, .bool b2_38, .slice p43 n45 c44, .slice p49 n51 c50, .slice p55 n57 c56, .slice p61 n63 c62, .slice p67 n69 c68, .slice p73 n75 c74, .int .i64 k2_39, .map (some bP), .slice p79 n81 c80, .slice p85 n87 c86, .slice p91 n93 c92] 72 (0, 0)), .row 26 1 p43 n45 c44 eB, .row 26 1 p49 n51 c50 eC, .row 3 1 p55 n57 c56 jT, .row 3 1 p61 n63 c62 jU, .row 26 1 p67 n69 c68 jV, .row 39 2 p73 n75 c74 jW, .row 9 1 p79 n81 c80 jX, .row 3 1 p85 n87 c86 jY, .row 3 1 p91 n93 c92 jZ, .any (mapE (fun a : List UInt8 => Value.string (gstr a)) (fun a : Int => Value.int .i64 a) bP m2_94), .blk B2 (.cells #[.int .i64 e.Points, .bool e.Monoid, .slice bp e.Gens.length bq, .slice aO e.Elems.length aP, .slice ar e.Prefix.length au, .slice bg e.Last.length bh, .slice aQ e.Right.length aR, .slice aS e.Rules.length aT, .int .i64 e.Done] 29 (0, 0))] A ∧ Els (Rp.sl (Rp.int .i64)) (bl [.blk iO (.cells #[.int .i64 k2_37, .bool b2_38, .slice p43 n45 c44, .slice p49 n51 c50, .slice p55 n57 c56, .slice p61 n63 c62, .slice p67 n69 c68, .slice p73 n75 c74, .int .i64 k2_39, .map (some bP), .slice p79 n81 c80, .slice p85 n87 c86, .slice p91 n93 c92] 72 (0, 0)), .row 26 1 p43 n45 c44 eB, .row 26 1 p49 n51 c50 eC, .row 3 1 p55 n57 c56 jT, .row 3 1 p61 n63 c62 jU, .row 26 1 p67 n69 c68 jV, .row 39 2 p73 n75 c74 jW, .row 9 1 p79 n81 c80 jX, .row 3 1 p85 n87 c86 jY, .row 3 1 p91 n93 c92 jZ, .any (mapE (fun a : List UInt8 => Value.string (gstr a)) (fun a : Int => Value.int .i64 a) bP m2_94), .blk B2 (.cells #[.int .i64 e.Points, .bool e.Monoid, .slice bp e.Gens.length bq, .slice aO e.Elems.length aP, .slice ar e.Prefix.length au, .slice bg e.Last.length bh, .slice aQ e.Right.length aR, .slice aS e.Rules.length aT, .int .i64 e.Done] 29 (0, 0))] ++ A) w eB d_40 ∧ Els (Rp.sl (Rp.int .i64)) (bl [.blk iO (.cells #[.int .i64 k2_37, .bool b2_38, .slice p43 n45 c44, .slice p49 n51 c50, .slice p55 n57 c56, .slice p61 n63 c62, .slice p67 n69 c68, .slice p73 n75 c74, .int .i64 k2_39, .map (some bP), .slice p79 n81 c80, .slice p85 n87 c86, .slice p91 n93 c92] 72 (0, 0)), .row 26 1 p43 n45 c44 eB, .row 26 1 p49 n51 c50 eC, .row 3 1 p55 n57 c56 jT, .row 3 1 p61 n63 c62 jU, .row 26 1 p67 n69 c68 jV, .row 39 2 p73 n75 c74 jW, .row 9 1 p79 n81 c80 jX, .row 3 1 p85 n87 c86 jY, .row 3 1 p91 n93 c92 jZ, .any (mapE (fun a : List UInt8 => Value.string (gstr a)) (fun a : Int => Value.int .i64 a) bP m2_94), .blk B2 (.cells #[.int .i64 e.Points, .bool e.Monoid, .slice bp e.Gens.length bq, .slice aO e.Elems.length aP, .slice ar e.Prefix.length au, .slice bg e.Last.length bh, .slice aQ e.Right.length aR, .slice aS e.Rules.length aT, .int .i64 e.Done] 29 (0, 0))] ++ A) w eC d_46 ∧ Els (Rp.int .i64) (bl [.blk iO (.cells #[.int .i64 k2_37, .bool b2_38, .slice p43 n45 c44, .slice p49 n51 c50, .slice p55 n57 c56, .slice p61 n63 c62, .slice p67 n69 c68, .slice p73 n75 c74, .int .i64 k2_39, .map (some bP), .slice p79 n81 c80, .slice p85 n87 c86, .slice p91 n93 c92] 72 (0, 0)), .row 26 1 p43 n45 c44 eB, .row 26 1 p49 n51 c50 eC, .row 3 1 p55 n57 c56 jT, .row 3 1 p61 n63 c62 jU, .row 26 1 p67 n69 c68 jV, .row 39 2 p73 n75 c74 jW, .row 9 1 p79 n81 c80 jX, .row 3 1 p85 n87 c86 jY, .row 3 1 p91 n93 c92 jZ, .any (mapE (fun a : List UInt8 => Value.string (gstr a)) (fun a : Int => Value.int .i64 a) bP m2_94), .blk B2 (.cells #[.int .i64 e.Points, .bool e.Monoid, .slice bp e.Gens.length bq, .slice aO e.Elems.length aP, .slice ar e.Prefix.length au, .slice bg e.Last.length bh, .slice aQ e.Right.length aR, .slice aS e.Rules.length aT, .int .i64 e.Done] 29 (0, 0))] ++ A) w jT d_52 ∧ Els (Rp.int .i64) (bl [.blk iO (.cells #[.int .i64 k2_37, .bool b2_38, .slice p43 n45 c44, .slice p49 n51 c50, .slice p55 n57 c56, .slice p61 n63 c62, .slice p67 n69 c68, .slice p73 n75 c74, .int .i64 k2_39, .map (some bP), .slice p79 n81 c80, .slice p85 n87 c86, .slice p91 n93 c92] 72 (0, 0)), .row 26 1 p43 n45 c44 eB, .row 26 1 p49 n51 c50 eC, .row 3 1 p55 n57 c56 jT, .row 3 1 p61 n63 c62 jU, .row 26 1 p67 n69 c68 jV, .row 39 2 p73 n75 c74 jW, .row 9 1 p79 n81 c80 jX, .row 3 1 p85 n87 c86 jY, .row 3 1 p91 n93 c92 jZ, .any (mapE (fun a : List UInt8 => Value.string (gstr a)) (fun a : Int => Value.int .i64 a) bP m2_94), .blk B2 (.cells #[.int .i64 e.Points, .bool e.Monoid, .slice bp e.Gens.length bq, .slice aO e.Elems.length aP, .slice ar e.Prefix.length au, .slice bg e.Last.length bh, .slice aQ e.Right.length aR, .slice aS e.Rules.length aT, .int .i64 e.Done] 29 (0, 0))] ++ A) w jU d_58 ∧ Els (Rp.sl (Rp.int .i64)) (bl [.blk iO (.cells #[.int .i64 k2_37, .bool b2_38, .slice p43 n45 c44, .slice p49 n51 c50, .slice p55 n57 c56, .slice p61 n63 c62, .slice p67 n69 c68, .slice p73 n75 c74, .int .i64 k2_39, .map (some bP), .slice p79 n81 c80, .slice p85 n87 c86, .slice p91 n93 c92] 72 (0, 0)), .row 26 1 p43 n45 c44 eB, .row 26 1 p49 n51 c50 eC, .row 3 1 p55 n57 c56 jT, .row 3 1 p61 n63 c62 jU, .row 26 1 p67 n69 c68 jV, .row 39 2 p73 n75 c74 jW, .row 9 1 p79 n81 c80 jX, .row 3 1 p85 n87 c86 jY, .row 3 1 p91 n93 c92 jZ, .any (mapE (fun a : List UInt8 => Value.string (gstr a)) (fun a : Int => Value.int .i64 a) bP m2_94), .blk B2 (.cells #[.int .i64 e.Points, .bool e.Monoid, .slice bp e.Gens.length bq, .slice aO e.Elems.length aP, .slice ar e.Prefix.length au, .slice bg e.Last.length bh, .slice aQ e.Right.length aR, .slice aS e.Rules.length aT, .int .i64 e.Done] 29 (0, 0))] ++ A) w jV d_64 ∧ Els (rpRule) (bl [.blk iO (.cells #[.int .i64 k2_37, .bool b2_38, .slice p43 n45 c44, .slice p49 n51 c50, .slice p55 n57 c56, .slice p61 n63 c62, .slice p67 n69 c68, .slice p73 n75 c74, .int .i64 k2_39, .map (some bP), .slice p79 n81 c80, .slice p85 n87 c86, .slice p91 n93 c92] 72 (0, 0)), .row 26 1 p43 n45 c44 eB, .row 26 1 p49 n51 c50 eC, .row 3 1 p55 n57 c56 jT, .row 3 1 p61 n63 c62 jU, .row 26 1 p67 n69 c68 jV, .row 39 2 p73 n75 c74 jW, .row 9 1 p79 n81 c80 jX, .row 3 1 p85 n87 c86 jY, .row 3 1 p91 n93 c92 jZ, .any (mapE (fun a : List UInt8 => Value.string (gstr a)) (fun a : Int => Value.int .i64 a) bP m2_94), .blk B2 (.cells #[.int .i64 e.Points, .bool e.Monoid, .slice bp e.Gens.length bq, .slice aO e.Elems.length aP, .slice ar e.Prefix.length au, .slice bg e.Last.length bh, .slice aQ e.Right.length aR, .slice aS e.Rules.length aT, .int .i64 e.Done] 29 (0, 0))] ++ A) w jW d_70 ∧ Els (Rp.str) (bl [.blk iO (.cells #[.int .i64 k2_37, .bool b2_38, .slice p43 n45 c44, .slice p49 n51 c50, .slice p55 n57 c56, .slice p61 n63 c62, .slice p67 n69 c68, .slice p73 n75 c74, .int .i64 k2_39, .map (some bP), .slice p79 n81 c80, .slice p85 n87 c86, .slice p91 n93 c92] 72 (0, 0)), .row 26 1 p43 n45 c44 eB, .row 26 1 p49 n51 c50 eC, .row 3 1 p55 n57 c56 jT, .row 3 1 p61 n63 c62 jU, .row 26 1 p67 n69 c68 jV, .row 39 2 p73 n75 c74 jW, .row 9 1 p79 n81 c80 jX, .row 3 1 p85 n87 c86 jY, .row 3 1 p91 n93 c92 jZ, .any (mapE (fun a : List UInt8 => Value.string (gstr a)) (fun a : Int => Value.int .i64 a) bP m2_94), .blk B2 (.cells #[.int .i64 e.Points, .bool e.Monoid, .slice bp e.Gens.length bq, .slice aO e.Elems.length aP, .slice ar e.Prefix.length au, .slice bg e.Last.length bh, .slice aQ e.Right.length aR, .slice aS e.Rules.length aT, .int .i64 e.Done] 29 (0, 0))] ++ A) w jX d_76 ∧ Els (Rp.int .i64) (bl [.blk iO (.cells #[.int .i64 k2_37, .bool b2_38, .slice p43 n45 c44, .slice p49 n51 c50, .slice p55 n57 c56, .slice p61 n63 c62, .slice p67 n69 c68, .slice p73 n75 c74, .int .i64 k2_39, .map (some bP), .slice p79 n81 c80, .slice p85 n87 c86, .slice p91 n93 c92] 72 (0, 0)), .row 26 1 p43 n45 c44 eB, .row 26 1 p49 n51 c50 eC, .row 3 1 p55 n57 c56 jT, .row 3 1 p61 n63 c62 jU, .row 26 1 p67 n69 c68 jV, .row 39 2 p73 n75 c74 jW, .row 9 1 p79 n81 c80 jX, .row 3 1 p85 n87 c86 jY, .row 3 1 p91 n93 c92 jZ, .any (mapE (fun a : List UInt8 => Value.string (gstr a)) (fun a : Int => Value.int .i64 a) bP m2_94), .blk B2 (.cells #[.int .i64 e.Points, .bool e.Monoid, .slice bp e.Gens.length bq, .slice aO e.Elems.length aP, .slice ar e.Prefix.length au, .slice bg e.Last.length bh, .slice aQ e.Right.length aR, .slice aS e.Rules.length aT, .int .i64 e.Done] 29 (0, 0))] ++ A) w jY d_82 ∧ Els (Rp.int .i64) (bl [.blk iO (.cells #[.int .i64 k2_37, .bool b2_38, .slice p43 n45 c44, .slice p49 n51 c50, .slice p55 n57 c56, .slice p61 n63 c62, .slice p67 n69 c68, .slice p73 n75 c74, .int .i64 k2_39, .map (some bP), .slice p79 n81 c80, .slice p85 n87 c86, .slice p91 n93 c92] 72 (0, 0)), .row 26 1 p43 n45 c44 eB, .row 26 1 p49 n51 c50 eC, .row 3 1 p55 n57 c56 jT, .row 3 1 p61 n63 c62 jU, .row 26 1 p67 n69 c68 jV, .row 39 2 p73 n75 c74 jW, .row 9 1 p79 n81 c80 jX, .row 3 1 p85 n87 c86 jY, .row 3 1 p91 n93 c92 jZ, .any (mapE (fun a : List UInt8 => Value.string (gstr a)) (fun a : Int => Value.int .i64 a) bP m2_94), .blk B2 (.cells #[.int .i64 e.Points, .bool e.Monoid, .slice bp e.Gens.length bq, .slice aO e.Elems.length aP, .slice ar e.Prefix.length au, .slice bg e.Last.length bh, .slice aQ e.Right.length aR, .slice aS e.Rules.length aT, .int .i64 e.Done] 29 (0, 0))] ++ A) w jZ d_88 ∧ ISl (Rp.sl (Rp.int .i64)) (bl [.blk iO (.cells #[.int .i64 k2_37, .bool b2_38, .slice p43 n45 c44, .slice p49 n51 c50, .slice p55 n57 c56, .slice p61 n63 c62, .slice p67 n69 c68, .slice p73 n75 c74, .int .i64 k2_39, .map (some bP), .slice p79 n81 c80, .slice p85 n87 c86, .slice p91 n93 c92] 72 (0, 0)), .row 26 1 p43 n45 c44 eB, .row 26 1 p49 n51 c50 eC, .row 3 1 p55 n57 c56 jT, .row 3 1 p61 n63 c62 jU, .row 26 1 p67 n69 c68 jV, .row 39 2 p73 n75 c74 jW, .row 9 1 p79 n81 c80 jX, .row 3 1 p85 n87 c86 jY, .row 3 1 p91 n93 c92 jZ, .any (mapE (fun a : List UInt8 => Value.string (gstr a)) (fun a : Int => Value.int .i64 a) bP m2_94), .blk B2 (.cells #[.int .i64 e.Points, .bool e.Monoid, .slice bp e.Gens.length bq, .slice aO e.Elems.length aP, .slice ar e.Prefix.length au, .slice bg e.Last.length bh, .slice aQ e.Right.length aR, .slice aS e.Rules.length aT, .int .i64 e.Done] 29 (0, 0))] ++ A) w bp bq e.Gens ∧ ISl (Rp.sl (Rp.int .i64)) (bl [.blk iO (.cells #[.int .i64 k2_37, .bool b2_38, .slice p43 n45 c44, .slice p49 n51 c50, .slice p55 n57 c56, .slice p61 n63 c62, .slice p67 n69 c68, .slice p73 n75 c74, .int .i64 k2_39, .map (some bP), .slice p79 n81 c80, .slice p85 n87 c86, .slice p91 n93 c92] 72 (0, 0)), .row 26 1 p43 n45 c44 eB, .row 26 1 p49 n51 c50 eC, .row 3 1 p55 n57 c56 jT, .row 3 1 p61 n63 c62 jU, .row 26 1 p67 n69 c68 jV, .row 39 2 p73 n75 c74 jW, .row 9 1 p79 n81 c80 jX, .row 3 1 p85 n87 c86 jY, .row 3 1 p91 n93 c92 jZ, .any (mapE (fun a : List UInt8 => Value.string (gstr a)) (fun a : Int => Value.int .i64 a) bP m2_94), .blk B2 (.cells #[.int .i64 e.Points, .bool e.Monoid, .slice bp e.Gens.length bq, .slice aO e.Elems.length aP, .slice ar e.Prefix.length au, .slice bg e.Last.length bh, .slice aQ e.Right.length aR, .slice aS e.Rules.length aT, .int .i64 e.Done] 29 (0, 0))] ++ A) w aO aP e.Elems ∧ ISl (Rp.int .i64) (bl [.blk iO (.cells #[.int .i64 k2_37, .bool b2_38, .slice p43 n45 c44, .slice p49 n51 c50, .slice p55 n57 c56, .slice p61 n63 c62, .slice p67 n69 c68, .slice p73 n75 c74, .int .i64 k2_39, .map (some bP), .slice p79 n81 c80, .slice p85 n87 c86, .slice p91 n93 c92] 72 (0, 0)), .row 26 1 p43 n45 c44 eB, .row 26 1 p49 n51 c50 eC, .row 3 1 p55 n57 c56 jT, .row 3 1 p61 n63 c62 jU, .row 26 1 p67 n69 c68 jV, .row 39 2 p73 n75 c74 jW, .row 9 1 p79 n81 c80 jX, .row 3 1 p85 n87 c86 jY, .row 3 1 p91 n93 c92 jZ, .any (mapE (fun a : List UInt8 => Value.string (gstr a)) (fun a : Int => Value.int .i64 a) bP m2_94), .blk B2 (.cells #[.int .i64 e.Points, .bool e.Monoid, .slice bp e.Gens.length bq, .slice aO e.Elems.length aP, .slice ar e.Prefix.length au, .slice bg e.Last.length bh, .slice aQ e.Right.length aR, .slice aS e.Rules.length aT, .int .i64 e.Done] 29 (0, 0))] ++ A) w ar au e.Prefix ∧ ISl (Rp.int .i64) (bl [.blk iO (.cells #[.int .i64 k2_37, .bool b2_38, .slice p43 n45 c44, .slice p49 n51 c50, .slice p55 n57 c56, .slice p61 n63 c62, .slice p67 n69 c68, .slice p73 n75 c74, .int .i64 k2_39, .map (some bP), .slice p79 n81 c80, .slice p85 n87 c86, .slice p91 n93 c92] 72 (0, 0)), .row 26 1 p43 n45 c44 eB, .row 26 1 p49 n51 c50 eC, .row 3 1 p55 n57 c56 jT, .row 3 1 p61 n63 c62 jU, .row 26 1 p67 n69 c68 jV, .row 39 2 p73 n75 c74 jW, .row 9 1 p79 n81 c80 jX, .row 3 1 p85 n87 c86 jY, .row 3 1 p91 n93 c92 jZ, .any (mapE (fun a : List UInt8 => Value.string (gstr a)) (fun a : Int => Value.int .i64 a) bP m2_94), .blk B2 (.cells #[.int .i64 e.Points, .bool e.Monoid, .slice bp e.Gens.length bq, .slice aO e.Elems.length aP, .slice ar e.Prefix.length au, .slice bg e.Last.length bh, .slice aQ e.Right.length aR, .slice aS e.Rules.length aT, .int .i64 e.Done] 29 (0, 0))] ++ A) w bg bh e.Last ∧ ISl (Rp.sl (Rp.int .i64)) (bl [.blk iO (.cells #[.int .i64 k2_37, .bool b2_38, .slice p43 n45 c44, .slice p49 n51 c50, .slice p55 n57 c56, .slice p61 n63 c62, .slice p67 n69 c68, .slice p73 n75 c74, .int .i64 k2_39, .map (some bP), .slice p79 n81 c80, .slice p85 n87 c86, .slice p91 n93 c92] 72 (0, 0)), .row 26 1 p43 n45 c44 eB, .row 26 1 p49 n51 c50 eC, .row 3 1 p55 n57 c56 jT, .row 3 1 p61 n63 c62 jU, .row 26 1 p67 n69 c68 jV, .row 39 2 p73 n75 c74 jW, .row 9 1 p79 n81 c80 jX, .row 3 1 p85 n87 c86 jY, .row 3 1 p91 n93 c92 jZ, .any (mapE (fun a : List UInt8 => Value.string (gstr a)) (fun a : Int => Value.int .i64 a) bP m2_94), .blk B2 (.cells #[.int .i64 e.Points, .bool e.Monoid, .slice bp e.Gens.length bq, .slice aO e.Elems.length aP, .slice ar e.Prefix.length au, .slice bg e.Last.length bh, .slice aQ e.Right.length aR, .slice aS e.Rules.length aT, .int .i64 e.Done] 29 (0, 0))] ++ A) w aQ aR e.Right ∧ ISl (rpRule) (bl [.blk iO (.cells #[.int .i64 k2_37, .bool b2_38, .slice p43 n45 c44, .slice p49 n51 c50, .slice p55 n57 c56, .slice p61 n63 c62, .slice p67 n69 c68, .slice p73 n75 c74, .int .i64 k2_39, .map (some bP), .slice p79 n81 c80, .slice p85 n87 c86, .slice p91 n93 c92] 72 (0, 0)), .row 26 1 p43 n45 c44 eB, .row 26 1 p49 n51 c50 eC, .row 3 1 p55 n57 c56 jT, .row 3 1 p61 n63 c62 jU, .row 26 1 p67 n69 c68 jV, .row 39 2 p73 n75 c74 jW, .row 9 1 p79 n81 c80 jX, .row 3 1 p85 n87 c86 jY, .row 3 1 p91 n93 c92 jZ, .any (mapE (fun a : List UInt8 => Value.string (gstr a)) (fun a : Int => Value.int .i64 a) bP m2_94), .blk B2 (.cells #[.int .i64 e.Points, .bool e.Monoid, .slice bp e.Gens.length bq, .slice aO e.Elems.length aP, .slice ar e.Prefix.length au, .slice bg e.Last.length bh, .slice aQ e.Right.length aR, .slice aS e.Rules.length aT, .int .i64 e.Done] 29 (0, 0))] ++ A) w aS aT e.Rules ∧ Fr (bl []) w0 (bl [.blk iO (.cells #[.int .i64 k2_37, .bool b2_38, .slice p43 n45 c44, .slice p49 n51 c50, .slice p55 n57 c56, .slice p61 n63 c62, .slice p67 n69 c68, .slice p73 n75 c74, .int .i64 k2_39, .map (some bP), .slice p79 n81 c80, .slice p85 n87 c86, .slice p91 n93 c92] 72 (0, 0)), .row 26 1 p43 n45 c44 eB, .row 26 1 p49 n51 c50 eC, .row 3 1 p55 n57 c56 jT, .row 3 1 p61 n63 c62 jU, .row 26 1 p67 n69 c68 jV, .row 39 2 p73 n75 c74 jW, .row 9 1 p79 n81 c80 jX, .row 3 1 p85 n87 c86 jY, .row 3 1 p91 n93 c92 jZ, .any (mapE (fun a : List UInt8 => Value.string (gstr a)) (fun a : Int => Value.int .i64 a) bP m2_94), .blk B2 (.cells #[.int .i64 e.Points, .bool e.Monoid, .slice bp e.Gens.length bq, .slice aO e.Elems.length aP, .slice ar e.Prefix.length au, .slice bg e.Last.length bh, .slice aQ e.Right.length aR, .slice aS e.Rules.length aT, .int .i64 e.Done] 29 (0, 0))]) w) H ⟨wY, wZ, w7, wB, wC, wD, wE, v3, v4, v7, v8, vk, xa, xb, xc, wF, wG, wH, wI, wa, wJ, wK, wL, wb, y7, y8, y9, x9, ya, yb, yc, xW, yd, ye, yf, xX, ⟨rfl, rfl, trivial⟩, hO, qB, o7, n7, qC, o8, o9, sC, rV, rW, ah, ae, ad, ai, af, ag, hB⟩ ?_
    intro X2
    refine prE fun k2_37 => prE fun b2_38 => prE fun k2_39 => prE fun d_40 => prE fun d_46 => prE fun d_52 => prE fun d_58 => prE fun d_64 => prE fun d_70 => prE fun d_76 => prE fun d_82 => prE fun d_88 => fun m2_94 => ?_
    intro H hX2 σ w36
    refine exE fun n45 => exE fun p43 => exE fun c44 => exE fun eB => exE fun n51 => exE fun p49 => exE fun c50 => exE fun eC => exE fun n57 => exE fun p55 => exE fun c56 => exE fun jT => exE fun n63 => exE fun p61 => exE fun c62 => exE fun jU => exE fun n69 => exE fun p67 => exE fun c68 => exE fun jV => exE fun n75 => exE fun p73 => exE fun c74 => exE fun jW => exE fun n81 => exE fun p79 => exE fun c80 => exE fun jX => exE fun n87 => exE fun p85 => exE fun c86 => exE fun jY => exE fun n93 => exE fun p91 => exE fun c92 => exE fun jZ => andE fun hag => andE fun hO => andE fun bf => andE fun aX => andE fun dS => andE fun dT => andE fun dU => andE fun dV => andE fun dW => andE fun dX => andE fun dH => andE fun ah => andE fun ae => andE fun ad => andE fun ai => andE fun af => andE fun ag => fun hB => ?_
    dsimp only at H
    refine Go1.keep [(1, .pointer (some ⟨B2, 0, none⟩)), (4, .pointer (some ⟨iO, 0, none⟩))] hag ?_
    refine Go1.seq ?_
    refine Go1.seq ?_
    refine Go1.drawS 0 [(0, .pure), (1, .pure), (2, .pure), (3, .pure), (4, .stable), (5, .pure), (6, .stable), (7, .pure)] mixed (by kernel_rfl) ?_
    intro w95 Ik
    have gh := Stp.same hO Ik
    replace bf := bf.ch gh.ch
    replace aX := aX.ch gh.ch
    replace dS := dS.ch gh.ch
    replace dT := dT.ch gh.ch
    replace dU := dU.ch gh.ch
    replace dV := dV.ch gh.ch
    replace dW := dW.ch gh.ch
    replace dX := dX.ch gh.ch
    replace dH := dH.ch gh.ch
    replace hO := gh.own
    replace ah := ah.ch gh.ch
    replace ae := ae.ch gh.ch
    replace ad := ad.ch gh.ch
    replace ai := ai.ch gh.ch
    replace af := af.ch gh.ch
    replace ag := ag.ch gh.ch
    replace hB := hB.trans gh.fr
    refine GoQ.pure rfl (op_move rfl) rfl rfl ?_
    refine GoQ.pure rfl (op_nilCheck rfl) rfl rfl ?_
    refine GoQ.pure rfl (op_fieldAddr Try.underlying72 rfl ti29 rfl (by decide)) rfl rfl ?_
    refine GoQ.pure rfl (op_fieldAddr Try.underlying29 rfl ti3 rfl (by decide)) rfl rfl ?_
    refine GoQ.stable rfl (oblk (i := 8) 0 hO rfl rfl Try.underlying3 rfl rfl) rfl rfl ?_
    refine GoQ.pure rfl (op_fieldAddr Try.underlying29 rfl ti3 rfl (by decide)) rfl rfl ?_
    refine GoQ.stable rfl (oblk (i := 8) 11 hO rfl rfl Try.underlying3 rfl rfl) rfl rfl ?_
    by_cases h98 : k2_39 < e.Done
    ·replace H := ifp h98 H
     refine GoQ.pure rfl (fun w => opB (op_lss rfl rfl w) (decide_eq_true h98)) rfl rfl ?_
     refine GoQ.nil ?_
     refine Go1.condT rfl rfl ?_
     refine Go1.skip ?_
     refine Go1.block ?_
     refine Go1.seq ?_
     refine Go1.region ?_
     refine GoR.op ((op_move rfl) _) rfl rfl ?_
     refine GoR.inl (vs := [.pointer (some ⟨iO, 0, none⟩)]) (caps := []) rfl rfl body50 Try.func50 rfl Try.ntmps50 rfl rfl rfl ?_
     intro RhR99 hR99
     refine Go1.seq ?_
     refine Go1.region ?_
     refine GoR.op ((op_assign rfl) _) rfl rfl ?_
     refine GoR.nil ?_
     refine Go1.seq ?_
     refine Go1.drawS 0 [(0, .pure), (1, .pure), (2, .pure), (3, .pure), (4, .stable), (5, .pure), (6, .pure), (7, .pure), (8, .pure), (9, .stable), (10, .pure), (11, .pure), (12, .pure)] mixed (by kernel_rfl) ?_
     intro xY FV
     have lU := Stp.same hO FV
     replace bf := bf.ch lU.ch
     replace aX := aX.ch lU.ch
     replace dS := dS.ch lU.ch
     replace dT := dT.ch lU.ch
     replace dU := dU.ch lU.ch
     replace dV := dV.ch lU.ch
     replace dW := dW.ch lU.ch
     replace dX := dX.ch lU.ch
     replace dH := dH.ch lU.ch
     replace hO := lU.own
     replace ah := ah.ch lU.ch
     replace ae := ae.ch lU.ch
     replace ad := ad.ch lU.ch
     replace ai := ai.ch lU.ch
     replace af := af.ch lU.ch
     replace ag := ag.ch lU.ch
     replace hB := hB.trans lU.fr
     refine GoQ.pure rfl (op_move rfl) rfl rfl ?_
     refine GoQ.pure rfl (op_nilCheck rfl) rfl rfl ?_
     refine GoQ.pure rfl (op_fieldAddr Try.underlying72 rfl ti29 rfl (by decide)) rfl rfl ?_
     refine GoQ.pure rfl (op_fieldAddr Try.underlying29 rfl ti3 rfl (by decide)) rfl rfl ?_
     refine GoQ.stable rfl (oblk (i := 8) 0 hO rfl rfl Try.underlying3 rfl rfl) rfl rfl ?_
     refine GoQ.pure rfl (op_move rfl) rfl rfl ?_
     refine GoQ.pure rfl (op_nilCheck rfl) rfl rfl ?_
     refine GoQ.pure rfl (op_fieldAddr Try.underlying72 rfl ti29 rfl (by decide)) rfl rfl ?_
     refine GoQ.pure rfl (op_fieldAddr Try.underlying29 rfl ti22 rfl (by decide)) rfl rfl ?_
     refine GoQ.stable rfl (oblk (i := 3) 0 hO rfl rfl Try.underlying22 rfl rfl) rfl rfl ?_
     refine GoQ.pure rfl (op_lenN Try.underlying22 rfl (aX.neq hO 2 rfl)) rfl rfl ?_
     by_cases uX : k2_39 = (d_46.length : Int)
     ·replace H := ifp uX H
      refine GoQ.pure rfl (fun w => opB (op_eql rfl rfl w) (decide_eq_true uX)) rfl rfl ?_
      refine GoQ.pure rfl (op_assign rfl) rfl rfl ?_
      refine GoQ.nil ?_
      refine Go1.ret1V Try.func50 rfl (show _ = .bool true from rfl) ?_
      refine hR99 _ _ ?_
      refine GoR.op ((op_move rfl) _) rfl rfl ?_
      refine GoR.pass rfl rfl ?_
      refine GoR.pass rfl rfl ?_
      refine GoR.pass rfl rfl ?_
      refine GoR.op ((op_pickT rfl rfl rfl) _) rfl rfl ?_
      refine GoR.nil ?_
      refine Go1.condT rfl rfl ?_
      refine Go1.seq ?_
      refine Go1.cut [] trivial ?_
      intro σ _
      refine Go1.region ?_
      refine GoR.op ((op_assign rfl) _) rfl rfl ?_
      refine GoR.op ((op_assign rfl) _) rfl rfl ?_
      refine GoR.nil ?_
      refine Go1.ret2 Try.func53 rfl ?_
      exact Or.inl ⟨false, rfl, hB.same, H⟩
     replace H := ifn uX H
     refine GoQ.pure rfl (fun w => opB (op_eql rfl rfl w) (decide_eq_false uX)) rfl rfl ?_
     refine GoQ.pure rfl (op_assign rfl) rfl rfl ?_
     refine GoQ.nil ?_
     refine Go1.ret1V Try.func50 rfl (show _ = .bool false from rfl) ?_
     refine hR99 _ _ ?_
     refine GoR.op ((op_move rfl) _) rfl rfl ?_
     refine GoR.op ((op_move rfl) _) rfl rfl ?_
     have AO : Owns w0.heap.size xY ([.blk iO (.cells #[.int .i64 k2_37, .bool b2_38, .slice p43 n45 c44, .slice p49 n51 c50, .slice p55 n57 c56, .slice p61 n63 c62, .slice p67 n69 c68, .slice p73 n75 c74, .int .i64 k2_39, .map (some bP), .slice p79 n81 c80, .slice p85 n87 c86, .slice p91 n93 c92] 72 (0, 0)), .row 26 1 p43 n45 c44 eB, .row 26 1 p49 n51 c50 eC, .row 3 1 p55 n57 c56 jT, .row 3 1 p61 n63 c62 jU, .row 26 1 p67 n69 c68 jV, .row 39 2 p73 n75 c74 jW, .row 9 1 p79 n81 c80 jX, .row 3 1 p85 n87 c86 jY, .row 3 1 p91 n93 c92 jZ, .any (mapE (fun a : List UInt8 => Value.string (gstr a)) (fun a : Int => Value.int .i64 a) bP m2_94)] ++ [.blk B2 (.cells #[.int .i64 e.Points, .bool e.Monoid, .slice bp e.Gens.length bq, .slice aO e.Elems.length aP, .slice ar e.Prefix.length au, .slice bg e.Last.length bh, .slice aQ e.Right.length aR, .slice aS e.Rules.length aT, .int .i64 e.Done] 29 (0, 0))]) A := hO
     have FW := Owns.split AO
     have hca106 : Ch (bl [.blk iO (.cells #[.int .i64 k2_37, .bool b2_38, .slice p43 n45 c44, .slice p49 n51 c50, .slice p55 n57 c56, .slice p61 n63 c62, .slice p67 n69 c68, .slice p73 n75 c74, .int .i64 k2_39, .map (some bP), .slice p79 n81 c80, .slice p85 n87 c86, .slice p91 n93 c92] 72 (0, 0)), .row 26 1 p43 n45 c44 eB, .row 26 1 p49 n51 c50 eC, .row 3 1 p55 n57 c56 jT, .row 3 1 p61 n63 c62 jU, .row 26 1 p67 n69 c68 jV, .row 39 2 p73 n75 c74 jW, .row 9 1 p79 n81 c80 jX, .row 3 1 p85 n87 c86 jY, .row 3 1 p91 n93 c92 jZ, .any (mapE (fun a : List UInt8 => Value.string (gstr a)) (fun a : Int => Value.int .i64 a) bP m2_94), .blk B2 (.cells #[.int .i64 e.Points, .bool e.Monoid, .slice bp e.Gens.length bq, .slice aO e.Elems.length aP, .slice ar e.Prefix.length au, .slice bg e.Last.length bh, .slice aQ e.Right.length aR, .slice aS e.Rules.length aT, .int .i64 e.Done] 29 (0, 0))] ++ A) xY (bl [.blk iO (.cells #[.int .i64 k2_37, .bool b2_38, .slice p43 n45 c44, .slice p49 n51 c50, .slice p55 n57 c56, .slice p61 n63 c62, .slice p67 n69 c68, .slice p73 n75 c74, .int .i64 k2_39, .map (some bP), .slice p79 n81 c80, .slice p85 n87 c86, .slice p91 n93 c92] 72 (0, 0)), .row 26 1 p43 n45 c44 eB, .row 26 1 p49 n51 c50 eC, .row 3 1 p55 n57 c56 jT, .row 3 1 p61 n63 c62 jU, .row 26 1 p67 n69 c68 jV, .row 39 2 p73 n75 c74 jW, .row 9 1 p79 n81 c80 jX, .row 3 1 p85 n87 c86 jY, .row 3 1 p91 n93 c92 jZ, .any (mapE (fun a : List UInt8 => Value.string (gstr a)) (fun a : Int => Value.int .i64 a) bP m2_94)] ++ (bl [.blk B2 (.cells #[.int .i64 e.Points, .bool e.Monoid, .slice bp e.Gens.length bq, .slice aO e.Elems.length aP, .slice ar e.Prefix.length au, .slice bg e.Last.length bh, .slice aQ e.Right.length aR, .slice aS e.Rules.length aT, .int .i64 e.Done] 29 (0, 0))] ++ A)) xY := Ch.assoc' [.blk iO (.cells #[.int .i64 k2_37, .bool b2_38, .slice p43 n45 c44, .slice p49 n51 c50, .slice p55 n57 c56, .slice p61 n63 c62, .slice p67 n69 c68, .slice p73 n75 c74, .int .i64 k2_39, .map (some bP), .slice p79 n81 c80, .slice p85 n87 c86, .slice p91 n93 c92] 72 (0, 0)), .row 26 1 p43 n45 c44 eB, .row 26 1 p49 n51 c50 eC, .row 3 1 p55 n57 c56 jT, .row 3 1 p61 n63 c62 jU, .row 26 1 p67 n69 c68 jV, .row 39 2 p73 n75 c74 jW, .row 9 1 p79 n81 c80 jX, .row 3 1 p85 n87 c86 jY, .row 3 1 p91 n93 c92 jZ, .any (mapE (fun a : List UInt8 => Value.string (gstr a)) (fun a : Int => Value.int .i64 a) bP m2_94)] [.blk B2 (.cells #[.int .i64 e.Points, .bool e.Monoid, .slice bp e.Gens.length bq, .slice aO e.Elems.length aP, .slice ar e.Prefix.length au, .slice bg e.Last.length bh, .slice aQ e.Right.length aR, .slice aS e.Rules.length aT, .int .i64 e.Done] 29 (0, 0))] A xY
     refine GoR.call (op_call body51 rfl (walk_enumerate_run_process (a0 := (⟨(⟨k2_37, b2_38, d_40, d_46, d_52, d_58, d_64, d_70, k2_39⟩ : Enum), m2_94, d_76, d_82, d_88⟩ : run)) FW (bf.ch hca106) (aX.ch hca106) (dS.ch hca106) (dT.ch hca106) (dU.ch hca106) (dV.ch hca106) (dW.ch hca106) (dX.ch hca106) (dH.ch hca106) H)) rfl rfl ?_
     intro Ms wN
     refine exE fun r107 => exE fun q108 => exE fun g9 => exE fun hV => exE fun hZ => exE fun mU => exE fun gt => exE fun gu => exE fun gv => exE fun lV => exE fun fZ => exE fun f0 => exE fun f5 => exE fun lv => exE fun ia => exE fun ib => exE fun ic => exE fun mV => exE fun gw => exE fun gx => exE fun gy => exE fun lW => exE fun gz => exE fun gA => exE fun gB => exE fun lX => exE fun kK => exE fun kM => exE fun kN => exE fun qc => exE fun jA => exE fun jB => exE fun jC => exE fun oB => exE fun jD => exE fun jE => exE fun jF => exE fun oC => andE fun hv114 => andE fun hN111 => andE fun rf => andE fun qN => andE fun qm => andE fun rg => andE fun qO => andE fun qP => andE fun sW => andE fun sj => andE fun sk => andE fun hF112 => fun H => ?_
     subst hv114
     have sI : Stp w0.heap.size A xY [.blk iO (.cells #[.int .i64 k2_37, .bool b2_38, .slice p43 n45 c44, .slice p49 n51 c50, .slice p55 n57 c56, .slice p61 n63 c62, .slice p67 n69 c68, .slice p73 n75 c74, .int .i64 k2_39, .map (some bP), .slice p79 n81 c80, .slice p85 n87 c86, .slice p91 n93 c92] 72 (0, 0)), .row 26 1 p43 n45 c44 eB, .row 26 1 p49 n51 c50 eC, .row 3 1 p55 n57 c56 jT, .row 3 1 p61 n63 c62 jU, .row 26 1 p67 n69 c68 jV, .row 39 2 p73 n75 c74 jW, .row 9 1 p79 n81 c80 jX, .row 3 1 p85 n87 c86 jY, .row 3 1 p91 n93 c92 jZ, .any (mapE (fun a : List UInt8 => Value.string (gstr a)) (fun a : Int => Value.int .i64 a) bP m2_94), .blk B2 (.cells #[.int .i64 e.Points, .bool e.Monoid, .slice bp e.Gens.length bq, .slice aO e.Elems.length aP, .slice ar e.Prefix.length au, .slice bg e.Last.length bh, .slice aQ e.Right.length aR, .slice aS e.Rules.length aT, .int .i64 e.Done] 29 (0, 0))] wN [.blk iO (.cells #[.int .i64 q108.Enum.Points, .bool q108.Enum.Monoid, .slice hV g9 hZ, .slice gu gt gv, .slice f0 fZ f5, .slice ib ia ic, .slice gx gw gy, .slice gA gz gB, .int .i64 q108.Enum.Done, .map (some bP), .slice kM kK kN, .slice jB jA jC, .slice jE jD jF] 72 (0, 0)), .row 26 1 hV g9 hZ mU, .row 26 1 gu gt gv lV, .row 3 1 f0 fZ f5 lv, .row 3 1 ib ia ic mV, .row 26 1 gx gw gy lW, .row 39 2 gA gz gB lX, .row 9 1 kM kK kN qc, .row 3 1 jB jA jC oB, .row 3 1 jE jD jF oC, .any (mapE (fun a : List UInt8 => Value.string (gstr a)) (fun a : Int => Value.int .i64 a) bP q108.number), .blk B2 (.cells #[.int .i64 e.Points, .bool e.Monoid, .slice bp e.Gens.length bq, .slice aO e.Elems.length aP, .slice ar e.Prefix.length au, .slice bg e.Last.length bh, .slice aQ e.Right.length aR, .slice aS e.Rules.length aT, .int .i64 e.Done] 29 (0, 0))] := Stp.join AO hN111 hF112
     replace hO := sI.own
     replace ah := ah.ch sI.ch
     replace ae := ae.ch sI.ch
     replace ad := ad.ch sI.ch
     replace ai := ai.ch sI.ch
     replace af := af.ch sI.ch
     replace ag := ag.ch sI.ch
     replace hB := hB.trans sI.fr
     have hca115 : Ch (bl [.blk iO (.cells #[.int .i64 q108.Enum.Points, .bool q108.Enum.Monoid, .slice hV g9 hZ, .slice gu gt gv, .slice f0 fZ f5, .slice ib ia ic, .slice gx gw gy, .slice gA gz gB, .int .i64 q108.Enum.Done, .map (some bP), .slice kM kK kN, .slice jB jA jC, .slice jE jD jF] 72 (0, 0)), .row 26 1 hV g9 hZ mU, .row 26 1 gu gt gv lV, .row 3 1 f0 fZ f5 lv, .row 3 1 ib ia ic mV, .row 26 1 gx gw gy lW, .row 39 2 gA gz gB lX, .row 9 1 kM kK kN qc, .row 3 1 jB jA jC oB, .row 3 1 jE jD jF oC, .any (mapE (fun a : List UInt8 => Value.string (gstr a)) (fun a : Int => Value.int .i64 a) bP q108.number)] ++ (bl [.blk B2 (.cells #[.int .i64 e.Points, .bool e.Monoid, .slice bp e.Gens.length bq, .slice aO e.Elems.length aP, .slice ar e.Prefix.length au, .slice bg e.Last.length bh, .slice aQ e.Right.length aR, .slice aS e.Rules.length aT, .int .i64 e.Done] 29 (0, 0))] ++ A)) wN (bl [.blk iO (.cells #[.int .i64 q108.Enum.Points, .bool q108.Enum.Monoid, .slice hV g9 hZ, .slice gu gt gv, .slice f0 fZ f5, .slice ib ia ic, .slice gx gw gy, .slice gA gz gB, .int .i64 q108.Enum.Done, .map (some bP), .slice kM kK kN, .slice jB jA jC, .slice jE jD jF] 72 (0, 0)), .row 26 1 hV g9 hZ mU, .row 26 1 gu gt gv lV, .row 3 1 f0 fZ f5 lv, .row 3 1 ib ia ic mV, .row 26 1 gx gw gy lW, .row 39 2 gA gz gB lX, .row 9 1 kM kK kN qc, .row 3 1 jB jA jC oB, .row 3 1 jE jD jF oC, .any (mapE (fun a : List UInt8 => Value.string (gstr a)) (fun a : Int => Value.int .i64 a) bP q108.number), .blk B2 (.cells #[.int .i64 e.Points, .bool e.Monoid, .slice bp e.Gens.length bq, .slice aO e.Elems.length aP, .slice ar e.Prefix.length au, .slice bg e.Last.length bh, .slice aQ e.Right.length aR, .slice aS e.Rules.length aT, .int .i64 e.Done] 29 (0, 0))] ++ A) wN := Ch.assoc [.blk iO (.cells #[.int .i64 q108.Enum.Points, .bool q108.Enum.Monoid, .slice hV g9 hZ, .slice gu gt gv, .slice f0 fZ f5, .slice ib ia ic, .slice gx gw gy, .slice gA gz gB, .int .i64 q108.Enum.Done, .map (some bP), .slice kM kK kN, .slice jB jA jC, .slice jE jD jF] 72 (0, 0)), .row 26 1 hV g9 hZ mU, .row 26 1 gu gt gv lV, .row 3 1 f0 fZ f5 lv, .row 3 1 ib ia ic mV, .row 26 1 gx gw gy lW, .row 39 2 gA gz gB lX, .row 9 1 kM kK kN qc, .row 3 1 jB jA jC oB, .row 3 1 jE jD jF oC, .any (mapE (fun a : List UInt8 => Value.string (gstr a)) (fun a : Int => Value.int .i64 a) bP q108.number)] [.blk B2 (.cells #[.int .i64 e.Points, .bool e.Monoid, .slice bp e.Gens.length bq, .slice aO e.Elems.length aP, .slice ar e.Prefix.length au, .slice bg e.Last.length bh, .slice aQ e.Right.length aR, .slice aS e.Rules.length aT, .int .i64 e.Done] 29 (0, 0))] A wN
     replace rf := rf.ch hca115
     replace qN := qN.ch hca115
     replace qm := qm.ch hca115
     replace rg := rg.ch hca115
     replace qO := qO.ch hca115
     replace qP := qP.ch hca115
     replace sW := sW.ch hca115
     replace sj := sj.ch hca115
     replace sk := sk.ch hca115
     by_cases uv : r107 = (0 : Int)
     ·replace H := ifp uv H
      refine GoR.op ((fun w => opB (op_neq rfl rfl w) (ndT uv)) _) rfl rfl ?_
      refine GoR.op ((op_pickF rfl rfl rfl) _) rfl rfl ?_
      refine GoR.nil ?_
      refine Go1.condF rfl rfl ?_
      refine Go1.skip ?_
      refine Go1.inBlock ?_
      exact hX2 _ H _ _ ⟨g9, hV, hZ, mU, gt, gu, gv, lV, fZ, f0, f5, lv, ia, ib, ic, mV, gw, gx, gy, lW, gz, gA, gB, lX, kK, kM, kN, qc, jA, jB, jC, oB, jD, jE, jF, oC, ⟨rfl, rfl, trivial⟩, hO, rf, qN, qm, rg, qO, qP, sW, sj, sk, ah, ae, ad, ai, af, ag, hB⟩
     replace H := ifn uv H
     refine GoR.op ((fun w => opB (op_neq rfl rfl w) (ndF uv)) _) rfl rfl ?_
     refine GoR.op ((op_pickF rfl rfl rfl) _) rfl rfl ?_
     refine GoR.nil ?_
     refine Go1.condT rfl rfl ?_
     refine Go1.seq ?_
     refine Go1.region ?_
     refine GoR.op ((op_assign rfl) _) rfl rfl ?_
     refine GoR.op ((op_assign rfl) _) rfl rfl ?_
     refine GoR.nil ?_
     refine Go1.ret2 Try.func53 rfl ?_
     exact Or.inl ⟨false, rfl, hB.same, H⟩
    replace H := ifn h98 H
    refine GoQ.pure rfl (fun w => opB (op_lss rfl rfl w) (decide_eq_false h98)) rfl rfl ?_
    refine GoQ.nil ?_
    refine Go1.condF rfl rfl ?_
    refine Go1.exit rfl ?_
    refine Go1.seq ?_
    refine Go1.region ?_
    refine GoR.op ((op_move rfl) _) rfl rfl ?_
    refine GoR.op ((op_move rfl) _) rfl rfl ?_
    refine GoR.op ((oblkAgg (vs := [.int .i64 e.Points, .bool e.Monoid, .slice bp e.Gens.length bq, .slice aO e.Elems.length aP, .slice ar e.Prefix.length au, .slice bg e.Last.length bh, .slice aQ e.Right.length aR, .slice aS e.Rules.length aT, .int .i64 e.Done]) (i := 0) 11 hO rfl rfl Try.underlying29 rfl ti29 rfl) _ (Same.refl _)) rfl rfl ?_
    refine GoR.inl (vs := [.pointer (some ⟨iO, 0, none⟩), .agg #[.int .i64 e.Points, .bool e.Monoid, .slice bp e.Gens.length bq, .slice aO e.Elems.length aP, .slice ar e.Prefix.length au, .slice bg e.Last.length bh, .slice aQ e.Right.length aR, .slice aS e.Rules.length aT, .int .i64 e.Done]]) (caps := []) rfl rfl body68 Try.func68 rfl Try.ntmps68 rfl rfl rfl ?_
    intro RhR117 hR117
    refine Go1.seq ?_
    refine Go1.region ?_
    have hobt := obox (t := 29) (v := .agg #[.int .i64 e.Points, .bool e.Monoid, .slice bp e.Gens.length bq, .slice aO e.Elems.length aP, .slice ar e.Prefix.length au, .slice bg e.Last.length bh, .slice aQ e.Right.length aR, .slice aS e.Rules.length aT, .int .i64 e.Done]) (cs := #[.int .i64 e.Points, .bool e.Monoid, .slice bp e.Gens.length bq, .slice aO e.Elems.length aP, .slice ar e.Prefix.length au, .slice bg e.Last.length bh, .slice aQ e.Right.length aR, .slice aS e.Rules.length aT, .int .i64 e.Done]) hO rfl
    obtain ⟨Mt, B119, lY, Ju, C3⟩ := hobt
    refine GoR.op (C3 rfl) rfl rfl ?_
    replace bf := bf.ch lY.ch
    replace aX := aX.ch lY.ch
    replace dS := dS.ch lY.ch
    replace dT := dT.ch lY.ch
    replace dU := dU.ch lY.ch
    replace dV := dV.ch lY.ch
    replace dW := dW.ch lY.ch
    replace dX := dX.ch lY.ch
    replace dH := dH.ch lY.ch
    replace hO := lY.own
    replace ah := ah.ch lY.ch
    replace ae := ae.ch lY.ch
    replace ad := ad.ch lY.ch
    replace ai := ai.ch lY.ch
    replace af := af.ch lY.ch
    replace ag := ag.ch lY.ch
    replace hB := hB.trans lY.fr
    refine GoR.op ((op_assign rfl) _) rfl rfl ?_
    refine GoR.nil ?_
    refine Go1.seq ?_
    refine Go1.drawS 0 [(0, .pure), (1, .pure), (2, .pure), (3, .pure), (4, .stable), (5, .pure), (6, .stable), (7, .pure), (8, .pure), (9, .pure), (10, .pure), (11, .pure), (12, .pure), (13, .stable), (14, .pure), (15, .stable), (16, .pure), (17, .pure), (18, .pure), (19, .pure), (20, .pure), (21, .pure), (22, .pure), (23, .stable), (24, .pure), (25, .stable), (26, .loud), (27, .pure), (28, .pure), (29, .pure), (30, .pure), (31, .pure), (32, .pure), (33, .stable), (34, .pure), (35, .stable), (36, .loud), (37, .pure), (38, .pure), (39, .pure), (40, .pure), (41, .pure), (42, .pure), (43, .stable), (44, .pure), (45, .stable), (46, .loud), (47, .pure), (48, .pure), (49, .pure), (50, .pure), (51, .pure), (52, .pure), (53, .stable), (54, .pure), (55, .stable), (56, .loud), (57, .pure), (58, .pure), (59, .pure), (60, .pure), (61, .pure), (62, .pure), (63, .stable), (64, .pure), (65, .stable), (66, .loud), (67, .pure), (68, .pure)] mixed (by kernel_rfl) ?_
    intro Mu FX
    have lZ := Stp.same hO FX
    replace bf := bf.ch lZ.ch
    replace aX := aX.ch lZ.ch
    replace dS := dS.ch lZ.ch
    replace dT := dT.ch lZ.ch
    replace dU := dU.ch lZ.ch
    replace dV := dV.ch lZ.ch
    replace dW := dW.ch lZ.ch
    replace dX := dX.ch lZ.ch
    replace dH := dH.ch lZ.ch
    replace hO := lZ.own
    replace ah := ah.ch lZ.ch
    replace ae := ae.ch lZ.ch
    replace ad := ad.ch lZ.ch
    replace ai := ai.ch lZ.ch
    replace af := af.ch lZ.ch
    replace ag := ag.ch lZ.ch
    replace hB := hB.trans lZ.fr
    refine GoQ.pure rfl (op_move rfl) rfl rfl ?_
    refine GoQ.pure rfl (op_nilCheck rfl) rfl rfl ?_
    refine GoQ.pure rfl (op_fieldAddr Try.underlying72 rfl ti29 rfl (by decide)) rfl rfl ?_
    refine GoQ.pure rfl (op_fieldAddr Try.underlying29 rfl ti3 rfl (by decide)) rfl rfl ?_
    refine GoQ.stable rfl (oblk (i := 0) 1 hO rfl rfl Try.underlying3 rfl rfl) rfl rfl ?_
    refine GoQ.pure rfl (op_fieldAddr Try.underlying29 rfl ti3 rfl (by decide)) rfl rfl ?_
    refine GoQ.stable rfl (oblk (i := 0) 0 hO rfl rfl Try.underlying3 rfl rfl) rfl rfl ?_
    by_cases za : k2_37 = e.Points
    ·replace H := ifp za H
     refine GoQ.pure rfl (fun w => opB (op_eql rfl rfl w) (decide_eq_true za)) rfl rfl ?_
     refine GoQ.pure rfl (op_move rfl) rfl rfl ?_
     refine GoQ.pure rfl (op_move rfl) rfl rfl ?_
     refine GoQ.pure rfl (op_nilCheck rfl) rfl rfl ?_
     refine GoQ.pure rfl (op_fieldAddr Try.underlying72 rfl ti29 rfl (by decide)) rfl rfl ?_
     refine GoQ.pure rfl (op_fieldAddr Try.underlying29 rfl ti3 rfl (by decide)) rfl rfl ?_
     refine GoQ.stable rfl (oblk (i := 8) 1 hO rfl rfl Try.underlying3 rfl rfl) rfl rfl ?_
     refine GoQ.pure rfl (op_fieldAddr Try.underlying29 rfl ti3 rfl (by decide)) rfl rfl ?_
     refine GoQ.stable rfl (oblk (i := 8) 0 hO rfl rfl Try.underlying3 rfl rfl) rfl rfl ?_
     by_cases zb : k2_39 = e.Done
     ·replace H := ifp zb H
      refine GoQ.pure rfl (fun w => opB (op_eql rfl rfl w) (decide_eq_true zb)) rfl rfl ?_
      refine GoQ.pure rfl (op_pickT rfl rfl rfl) rfl rfl ?_
      refine GoQ.pure rfl (op_move rfl) rfl rfl ?_
      refine GoQ.pure rfl (op_move rfl) rfl rfl ?_
      refine GoQ.pure rfl (op_nilCheck rfl) rfl rfl ?_
      refine GoQ.pure rfl (op_fieldAddr Try.underlying72 rfl ti29 rfl (by decide)) rfl rfl ?_
      refine GoQ.pure rfl (op_fieldAddr Try.underlying29 rfl ti22 rfl (by decide)) rfl rfl ?_
      refine GoQ.stable rfl (oblk (i := 3) 1 hO rfl rfl Try.underlying22 rfl rfl) rfl rfl ?_
      refine GoQ.pure rfl (op_fieldAddr Try.underlying29 rfl ti22 rfl (by decide)) rfl rfl ?_
      refine GoQ.stable rfl (oblk (i := 3) 0 hO rfl rfl Try.underlying22 rfl rfl) rfl rfl ?_
      have hobt := rowlend 3 hO rfl aX
      obtain ⟨FY, FZ⟩ := hobt
      have hOc131 := hO.drop 3
      refine GoQ.call rfl (op_call body69 (show ([.slice p49 n51 c50, .slice aO e.Elems.length aP, .func (.func 70) #[] #[]] : List Value) = [.slice p49 d_46.length c50, .slice aO e.Elems.length aP, .func (.func 70) #[] #[]] from by rw [← FZ]) (walk_slices_EqualFunc_int hOc131.lt FY (ae.ch (Owns.dropCh _ _ 3)) H)) (fun v w hr => by obtain ⟨_, _, hs, _⟩ := hr; assumption) rfl rfl ?_
      rintro Mv Mw ⟨r132, rfl, F0, H⟩
      have l5 := Stp.same hO F0
      replace bf := bf.ch l5.ch
      replace aX := aX.ch l5.ch
      replace dS := dS.ch l5.ch
      replace dT := dT.ch l5.ch
      replace dU := dU.ch l5.ch
      replace dV := dV.ch l5.ch
      replace dW := dW.ch l5.ch
      replace dX := dX.ch l5.ch
      replace dH := dH.ch l5.ch
      replace hO := l5.own
      replace ah := ah.ch l5.ch
      replace ae := ae.ch l5.ch
      replace ad := ad.ch l5.ch
      replace ai := ai.ch l5.ch
      replace af := af.ch l5.ch
      replace ag := ag.ch l5.ch
      replace hB := hB.trans l5.fr
      refine GoQ.pure rfl (op_pickT rfl rfl rfl) rfl rfl ?_
      refine GoQ.pure rfl (op_move rfl) rfl rfl ?_
      cases r132
      ·replace H := ifn Bool.false_ne_true H
       refine GoQ.pass rfl rfl rfl ?_
       refine GoQ.pass rfl rfl rfl ?_
       refine GoQ.pass rfl rfl rfl ?_
       refine GoQ.pass rfl rfl rfl ?_
       refine GoQ.pass rfl rfl rfl ?_
       refine GoQ.pass rfl rfl rfl ?_
       refine GoQ.pass rfl rfl rfl ?_
       refine GoQ.pass rfl rfl rfl ?_
       refine GoQ.pure rfl (op_pickF rfl rfl rfl) rfl rfl ?_
       refine GoQ.pure rfl (op_move rfl) rfl rfl ?_
       refine GoQ.pass rfl rfl rfl ?_
       refine GoQ.pass rfl rfl rfl ?_
       refine GoQ.pass rfl rfl rfl ?_
       refine GoQ.pass rfl rfl rfl ?_
       refine GoQ.pass rfl rfl rfl ?_
       refine GoQ.pass rfl rfl rfl ?_
       refine GoQ.pass rfl rfl rfl ?_
       refine GoQ.pass rfl rfl rfl ?_
       refine GoQ.pure rfl (op_pickF rfl rfl rfl) rfl rfl ?_
       refine GoQ.pure rfl (op_move rfl) rfl rfl ?_
       refine GoQ.pass rfl rfl rfl ?_
       refine GoQ.pass rfl rfl rfl ?_
       refine GoQ.pass rfl rfl rfl ?_
       refine GoQ.pass rfl rfl rfl ?_
       refine GoQ.pass rfl rfl rfl ?_
       refine GoQ.pass rfl rfl rfl ?_
       refine GoQ.pass rfl rfl rfl ?_
       refine GoQ.pass rfl rfl rfl ?_
       refine GoQ.pure rfl (op_pickF rfl rfl rfl) rfl rfl ?_
       refine GoQ.pure rfl (op_move rfl) rfl rfl ?_
       refine GoQ.pass rfl rfl rfl ?_
       refine GoQ.pass rfl rfl rfl ?_
       refine GoQ.pass rfl rfl rfl ?_
       refine GoQ.pass rfl rfl rfl ?_
       refine GoQ.pass rfl rfl rfl ?_
       refine GoQ.pass rfl rfl rfl ?_
       refine GoQ.pass rfl rfl rfl ?_
       refine GoQ.pass rfl rfl rfl ?_
       refine GoQ.pure rfl (op_pickF rfl rfl rfl) rfl rfl ?_
       refine GoQ.pure rfl (op_assign rfl) rfl rfl ?_
       refine GoQ.nil ?_
       refine Go1.ret1V Try.func68 rfl (show _ = .bool false from rfl) ?_
       refine hR117 _ _ ?_
       refine GoR.op ((op_assign rfl) _) rfl rfl ?_
       refine GoR.op ((op_assign rfl) _) rfl rfl ?_
       refine GoR.nil ?_
       replace ah := ah.ch (Owns.dropCh _ _ 0)
       replace ae := ae.ch (Owns.dropCh _ _ 0)
       replace ad := ad.ch (Owns.dropCh _ _ 0)
       replace ai := ai.ch (Owns.dropCh _ _ 0)
       replace af := af.ch (Owns.dropCh _ _ 0)
       replace ag := ag.ch (Owns.dropCh _ _ 0)
       replace bf := bf.ch (Owns.dropCh _ _ 0)
       replace aX := aX.ch (Owns.dropCh _ _ 0)
       replace dS := dS.ch (Owns.dropCh _ _ 0)
       replace dT := dT.ch (Owns.dropCh _ _ 0)
       replace dU := dU.ch (Owns.dropCh _ _ 0)
       replace dV := dV.ch (Owns.dropCh _ _ 0)
       replace dW := dW.ch (Owns.dropCh _ _ 0)
       replace dX := dX.ch (Owns.dropCh _ _ 0)
       replace dH := dH.ch (Owns.dropCh _ _ 0)
       replace hB := hB.trans (Owns.dropFr _ _ 0)
       replace hO := hO.drop 0
       dsimp only [eS, eZ] at hB hO ah ae ad ai af ag bf aX dS dT dU dV dW dX dH
       replace ah := ah.ch (Owns.dropCh _ _ 11)
       replace ae := ae.ch (Owns.dropCh _ _ 11)
       replace ad := ad.ch (Owns.dropCh _ _ 11)
       replace ai := ai.ch (Owns.dropCh _ _ 11)
       replace af := af.ch (Owns.dropCh _ _ 11)
       replace ag := ag.ch (Owns.dropCh _ _ 11)
       replace bf := bf.ch (Owns.dropCh _ _ 11)
       replace aX := aX.ch (Owns.dropCh _ _ 11)
       replace dS := dS.ch (Owns.dropCh _ _ 11)
       replace dT := dT.ch (Owns.dropCh _ _ 11)
       replace dU := dU.ch (Owns.dropCh _ _ 11)
       replace dV := dV.ch (Owns.dropCh _ _ 11)
       replace dW := dW.ch (Owns.dropCh _ _ 11)
       replace dX := dX.ch (Owns.dropCh _ _ 11)
       replace dH := dH.ch (Owns.dropCh _ _ 11)
       replace hB := hB.trans (Owns.dropFr _ _ 11)
       replace hO := hO.drop 11
       dsimp only [eS, eZ] at hB hO ah ae ad ai af ag bf aX dS dT dU dV dW dX dH
       refine Go1.ret2 Try.func53 rfl ?_
       exact Or.inr ⟨(⟨(⟨k2_37, b2_38, d_40, d_46, d_52, d_58, d_64, d_70, k2_39⟩ : Enum), m2_94, d_76, d_82, d_88⟩ : run), false, iO, n45, p43, c44, eB, n51, p49, c50, eC, n57, p55, c56, jT, n63, p61, c62, jU, n69, p67, c68, jV, n75, p73, c74, jW, bP, n81, p79, c80, jX, n87, p85, c86, jY, n93, p91, c92, jZ, rfl, hB.same, hO, bf, aX, dS, dT, dU, dV, dW, dX, dH, H⟩
      replace H := ifp rfl H
      refine GoQ.pure rfl (op_move rfl) rfl rfl ?_
      refine GoQ.pure rfl (op_nilCheck rfl) rfl rfl ?_
      refine GoQ.pure rfl (op_fieldAddr Try.underlying72 rfl ti29 rfl (by decide)) rfl rfl ?_
      refine GoQ.pure rfl (op_fieldAddr Try.underlying29 rfl ti26 rfl (by decide)) rfl rfl ?_
      refine GoQ.stable rfl (oblk (i := 4) 1 hO rfl rfl Try.underlying26 rfl rfl) rfl rfl ?_
      refine GoQ.pure rfl (op_fieldAddr Try.underlying29 rfl ti26 rfl (by decide)) rfl rfl ?_
      refine GoQ.stable rfl (oblk (i := 4) 0 hO rfl rfl Try.underlying26 rfl rfl) rfl rfl ?_
      have hobt := rowlend 4 hO rfl dS
      obtain ⟨F1, F2⟩ := hobt
      have hOc140 := hO.drop 4
      refine GoQ.call rfl (op_call body70 (show ([.slice p55 n57 c56, .slice ar e.Prefix.length au] : List Value) = [.slice p55 d_52.length c56, .slice ar e.Prefix.length au] from by rw [← F2]) (walk_slices_Equal_int hOc140.lt F1 (ad.ch (Owns.dropCh _ _ 4)) H)) (fun v w hr => by obtain ⟨_, _, hs, _⟩ := hr; assumption) rfl rfl ?_
      rintro Mx My ⟨r141, rfl, AP, H⟩
      have l7 := Stp.same hO AP
      replace bf := bf.ch l7.ch
      replace aX := aX.ch l7.ch
      replace dS := dS.ch l7.ch
      replace dT := dT.ch l7.ch
      replace dU := dU.ch l7.ch
      replace dV := dV.ch l7.ch
      replace dW := dW.ch l7.ch
      replace dX := dX.ch l7.ch
      replace dH := dH.ch l7.ch
      replace hO := l7.own
      replace ah := ah.ch l7.ch
      replace ae := ae.ch l7.ch
      replace ad := ad.ch l7.ch
      replace ai := ai.ch l7.ch
      replace af := af.ch l7.ch
      replace ag := ag.ch l7.ch
      replace hB := hB.trans l7.fr
      refine GoQ.pure rfl (op_pickT rfl rfl rfl) rfl rfl ?_
      refine GoQ.pure rfl (op_move rfl) rfl rfl ?_
      cases r141
      ·replace H := ifn Bool.false_ne_true H
       refine GoQ.pass rfl rfl rfl ?_
       refine GoQ.pass rfl rfl rfl ?_
       refine GoQ.pass rfl rfl rfl ?_
       refine GoQ.pass rfl rfl rfl ?_
       refine GoQ.pass rfl rfl rfl ?_
       refine GoQ.pass rfl rfl rfl ?_
       refine GoQ.pass rfl rfl rfl ?_
       refine GoQ.pass rfl rfl rfl ?_
       refine GoQ.pure rfl (op_pickF rfl rfl rfl) rfl rfl ?_
       refine GoQ.pure rfl (op_move rfl) rfl rfl ?_
       refine GoQ.pass rfl rfl rfl ?_
       refine GoQ.pass rfl rfl rfl ?_
       refine GoQ.pass rfl rfl rfl ?_
       refine GoQ.pass rfl rfl rfl ?_
       refine GoQ.pass rfl rfl rfl ?_
       refine GoQ.pass rfl rfl rfl ?_
       refine GoQ.pass rfl rfl rfl ?_
       refine GoQ.pass rfl rfl rfl ?_
       refine GoQ.pure rfl (op_pickF rfl rfl rfl) rfl rfl ?_
       refine GoQ.pure rfl (op_move rfl) rfl rfl ?_
       refine GoQ.pass rfl rfl rfl ?_
       refine GoQ.pass rfl rfl rfl ?_
       refine GoQ.pass rfl rfl rfl ?_
       refine GoQ.pass rfl rfl rfl ?_
       refine GoQ.pass rfl rfl rfl ?_
       refine GoQ.pass rfl rfl rfl ?_
       refine GoQ.pass rfl rfl rfl ?_
       refine GoQ.pass rfl rfl rfl ?_
       refine GoQ.pure rfl (op_pickF rfl rfl rfl) rfl rfl ?_
       refine GoQ.pure rfl (op_assign rfl) rfl rfl ?_
       refine GoQ.nil ?_
       refine Go1.ret1V Try.func68 rfl (show _ = .bool false from rfl) ?_
       refine hR117 _ _ ?_
       refine GoR.op ((op_assign rfl) _) rfl rfl ?_
       refine GoR.op ((op_assign rfl) _) rfl rfl ?_
       refine GoR.nil ?_
       replace ah := ah.ch (Owns.dropCh _ _ 0)
       replace ae := ae.ch (Owns.dropCh _ _ 0)
       replace ad := ad.ch (Owns.dropCh _ _ 0)
       replace ai := ai.ch (Owns.dropCh _ _ 0)
       replace af := af.ch (Owns.dropCh _ _ 0)
       replace ag := ag.ch (Owns.dropCh _ _ 0)
       replace bf := bf.ch (Owns.dropCh _ _ 0)
       replace aX := aX.ch (Owns.dropCh _ _ 0)
       replace dS := dS.ch (Owns.dropCh _ _ 0)
       replace dT := dT.ch (Owns.dropCh _ _ 0)
       replace dU := dU.ch (Owns.dropCh _ _ 0)
       replace dV := dV.ch (Owns.dropCh _ _ 0)
       replace dW := dW.ch (Owns.dropCh _ _ 0)
       replace dX := dX.ch (Owns.dropCh _ _ 0)
       replace dH := dH.ch (Owns.dropCh _ _ 0)
       replace hB := hB.trans (Owns.dropFr _ _ 0)
       replace hO := hO.drop 0
       dsimp only [eS, eZ] at hB hO ah ae ad ai af ag bf aX dS dT dU dV dW dX dH
       replace ah := ah.ch (Owns.dropCh _ _ 11)
       replace ae := ae.ch (Owns.dropCh _ _ 11)
       replace ad := ad.ch (Owns.dropCh _ _ 11)
       replace ai := ai.ch (Owns.dropCh _ _ 11)
       replace af := af.ch (Owns.dropCh _ _ 11)
       replace ag := ag.ch (Owns.dropCh _ _ 11)
       replace bf := bf.ch (Owns.dropCh _ _ 11)
       replace aX := aX.ch (Owns.dropCh _ _ 11)
       replace dS := dS.ch (Owns.dropCh _ _ 11)
       replace dT := dT.ch (Owns.dropCh _ _ 11)
       replace dU := dU.ch (Owns.dropCh _ _ 11)
       replace dV := dV.ch (Owns.dropCh _ _ 11)
       replace dW := dW.ch (Owns.dropCh _ _ 11)
       replace dX := dX.ch (Owns.dropCh _ _ 11)
       replace dH := dH.ch (Owns.dropCh _ _ 11)
       replace hB := hB.trans (Owns.dropFr _ _ 11)
       replace hO := hO.drop 11
       dsimp only [eS, eZ] at hB hO ah ae ad ai af ag bf aX dS dT dU dV dW dX dH
       refine Go1.ret2 Try.func53 rfl ?_
       exact Or.inr ⟨(⟨(⟨k2_37, b2_38, d_40, d_46, d_52, d_58, d_64, d_70, k2_39⟩ : Enum), m2_94, d_76, d_82, d_88⟩ : run), false, iO, n45, p43, c44, eB, n51, p49, c50, eC, n57, p55, c56, jT, n63, p61, c62, jU, n69, p67, c68, jV, n75, p73, c74, jW, bP, n81, p79, c80, jX, n87, p85, c86, jY, n93, p91, c92, jZ, rfl, hB.same, hO, bf, aX, dS, dT, dU, dV, dW, dX, dH, H⟩
      replace H := ifp rfl H
      refine GoQ.pure rfl (op_move rfl) rfl rfl ?_
      refine GoQ.pure rfl (op_nilCheck rfl) rfl rfl ?_
      refine GoQ.pure rfl (op_fieldAddr Try.underlying72 rfl ti29 rfl (by decide)) rfl rfl ?_
      refine GoQ.pure rfl (op_fieldAddr Try.underlying29 rfl ti26 rfl (by decide)) rfl rfl ?_
      refine GoQ.stable rfl (oblk (i := 5) 1 hO rfl rfl Try.underlying26 rfl rfl) rfl rfl ?_
      refine GoQ.pure rfl (op_fieldAddr Try.underlying29 rfl ti26 rfl (by decide)) rfl rfl ?_
      refine GoQ.stable rfl (oblk (i := 5) 0 hO rfl rfl Try.underlying26 rfl rfl) rfl rfl ?_
      have hobt := rowlend 5 hO rfl dT
      obtain ⟨F3, F4⟩ := hobt
      have hOc149 := hO.drop 5
      refine GoQ.call rfl (op_call body70 (show ([.slice p61 n63 c62, .slice bg e.Last.length bh] : List Value) = [.slice p61 d_58.length c62, .slice bg e.Last.length bh] from by rw [← F4]) (walk_slices_Equal_int hOc149.lt F3 (ai.ch (Owns.dropCh _ _ 5)) H)) (fun v w hr => by obtain ⟨_, _, hs, _⟩ := hr; assumption) rfl rfl ?_
      rintro Mz MA ⟨r150, rfl, F5, H⟩
      have l8 := Stp.same hO F5
      replace bf := bf.ch l8.ch
      replace aX := aX.ch l8.ch
      replace dS := dS.ch l8.ch
      replace dT := dT.ch l8.ch
      replace dU := dU.ch l8.ch
      replace dV := dV.ch l8.ch
      replace dW := dW.ch l8.ch
      replace dX := dX.ch l8.ch
      replace dH := dH.ch l8.ch
      replace hO := l8.own
      replace ah := ah.ch l8.ch
      replace ae := ae.ch l8.ch
      replace ad := ad.ch l8.ch
      replace ai := ai.ch l8.ch
      replace af := af.ch l8.ch
      replace ag := ag.ch l8.ch
      replace hB := hB.trans l8.fr
      refine GoQ.pure rfl (op_pickT rfl rfl rfl) rfl rfl ?_
      refine GoQ.pure rfl (op_move rfl) rfl rfl ?_
      cases r150
      ·replace H := ifn Bool.false_ne_true H
       refine GoQ.pass rfl rfl rfl ?_
       refine GoQ.pass rfl rfl rfl ?_
       refine GoQ.pass rfl rfl rfl ?_
       refine GoQ.pass rfl rfl rfl ?_
       refine GoQ.pass rfl rfl rfl ?_
       refine GoQ.pass rfl rfl rfl ?_
       refine GoQ.pass rfl rfl rfl ?_
       refine GoQ.pass rfl rfl rfl ?_
       refine GoQ.pure rfl (op_pickF rfl rfl rfl) rfl rfl ?_
       refine GoQ.pure rfl (op_move rfl) rfl rfl ?_
       refine GoQ.pass rfl rfl rfl ?_
       refine GoQ.pass rfl rfl rfl ?_
       refine GoQ.pass rfl rfl rfl ?_
       refine GoQ.pass rfl rfl rfl ?_
       refine GoQ.pass rfl rfl rfl ?_
       refine GoQ.pass rfl rfl rfl ?_
       refine GoQ.pass rfl rfl rfl ?_
       refine GoQ.pass rfl rfl rfl ?_
       refine GoQ.pure rfl (op_pickF rfl rfl rfl) rfl rfl ?_
       refine GoQ.pure rfl (op_assign rfl) rfl rfl ?_
       refine GoQ.nil ?_
       refine Go1.ret1V Try.func68 rfl (show _ = .bool false from rfl) ?_
       refine hR117 _ _ ?_
       refine GoR.op ((op_assign rfl) _) rfl rfl ?_
       refine GoR.op ((op_assign rfl) _) rfl rfl ?_
       refine GoR.nil ?_
       replace ah := ah.ch (Owns.dropCh _ _ 0)
       replace ae := ae.ch (Owns.dropCh _ _ 0)
       replace ad := ad.ch (Owns.dropCh _ _ 0)
       replace ai := ai.ch (Owns.dropCh _ _ 0)
       replace af := af.ch (Owns.dropCh _ _ 0)
       replace ag := ag.ch (Owns.dropCh _ _ 0)
       replace bf := bf.ch (Owns.dropCh _ _ 0)
       replace aX := aX.ch (Owns.dropCh _ _ 0)
       replace dS := dS.ch (Owns.dropCh _ _ 0)
       replace dT := dT.ch (Owns.dropCh _ _ 0)
       replace dU := dU.ch (Owns.dropCh _ _ 0)
       replace dV := dV.ch (Owns.dropCh _ _ 0)
       replace dW := dW.ch (Owns.dropCh _ _ 0)
       replace dX := dX.ch (Owns.dropCh _ _ 0)
       replace dH := dH.ch (Owns.dropCh _ _ 0)
       replace hB := hB.trans (Owns.dropFr _ _ 0)
       replace hO := hO.drop 0
       dsimp only [eS, eZ] at hB hO ah ae ad ai af ag bf aX dS dT dU dV dW dX dH
       replace ah := ah.ch (Owns.dropCh _ _ 11)
       replace ae := ae.ch (Owns.dropCh _ _ 11)
       replace ad := ad.ch (Owns.dropCh _ _ 11)
       replace ai := ai.ch (Owns.dropCh _ _ 11)
       replace af := af.ch (Owns.dropCh _ _ 11)
       replace ag := ag.ch (Owns.dropCh _ _ 11)
       replace bf := bf.ch (Owns.dropCh _ _ 11)
       replace aX := aX.ch (Owns.dropCh _ _ 11)
       replace dS := dS.ch (Owns.dropCh _ _ 11)
       replace dT := dT.ch (Owns.dropCh _ _ 11)
       replace dU := dU.ch (Owns.dropCh _ _ 11)
       replace dV := dV.ch (Owns.dropCh _ _ 11)
       replace dW := dW.ch (Owns.dropCh _ _ 11)
       replace dX := dX.ch (Owns.dropCh _ _ 11)
       replace dH := dH.ch (Owns.dropCh _ _ 11)
       replace hB := hB.trans (Owns.dropFr _ _ 11)
       replace hO := hO.drop 11
       dsimp only [eS, eZ] at hB hO ah ae ad ai af ag bf aX dS dT dU dV dW dX dH
       refine Go1.ret2 Try.func53 rfl ?_
       exact Or.inr ⟨(⟨(⟨k2_37, b2_38, d_40, d_46, d_52, d_58, d_64, d_70, k2_39⟩ : Enum), m2_94, d_76, d_82, d_88⟩ : run), false, iO, n45, p43, c44, eB, n51, p49, c50, eC, n57, p55, c56, jT, n63, p61, c62, jU, n69, p67, c68, jV, n75, p73, c74, jW, bP, n81, p79, c80, jX, n87, p85, c86, jY, n93, p91, c92, jZ, rfl, hB.same, hO, bf, aX, dS, dT, dU, dV, dW, dX, dH, H⟩
      replace H := ifp rfl H
      refine GoQ.pure rfl (op_move rfl) rfl rfl ?_
      refine GoQ.pure rfl (op_nilCheck rfl) rfl rfl ?_
      refine GoQ.pure rfl (op_fieldAddr Try.underlying72 rfl ti29 rfl (by decide)) rfl rfl ?_
      refine GoQ.pure rfl (op_fieldAddr Try.underlying29 rfl ti22 rfl (by decide)) rfl rfl ?_
      refine GoQ.stable rfl (oblk (i := 6) 1 hO rfl rfl Try.underlying22 rfl rfl) rfl rfl ?_
      refine GoQ.pure rfl (op_fieldAddr Try.underlying29 rfl ti22 rfl (by decide)) rfl rfl ?_
      refine GoQ.stable rfl (oblk (i := 6) 0 hO rfl rfl Try.underlying22 rfl rfl) rfl rfl ?_
      have hobt := rowlend 6 hO rfl dU
      obtain ⟨F6, F7⟩ := hobt
      have hOc158 := hO.drop 6
      refine GoQ.call rfl (op_call body69 (show ([.slice p67 n69 c68, .slice aQ e.Right.length aR, .func (.func 70) #[] #[]] : List Value) = [.slice p67 d_64.length c68, .slice aQ e.Right.length aR, .func (.func 70) #[] #[]] from by rw [← F7]) (walk_slices_EqualFunc_int hOc158.lt F6 (af.ch (Owns.dropCh _ _ 6)) H)) (fun v w hr => by obtain ⟨_, _, hs, _⟩ := hr; assumption) rfl rfl ?_
      rintro MB MC ⟨r159, rfl, F8, H⟩
      have gY := Stp.same hO F8
      replace bf := bf.ch gY.ch
      replace aX := aX.ch gY.ch
      replace dS := dS.ch gY.ch
      replace dT := dT.ch gY.ch
      replace dU := dU.ch gY.ch
      replace dV := dV.ch gY.ch
      replace dW := dW.ch gY.ch
      replace dX := dX.ch gY.ch
      replace dH := dH.ch gY.ch
      replace hO := gY.own
      replace ah := ah.ch gY.ch
      replace ae := ae.ch gY.ch
      replace ad := ad.ch gY.ch
      replace ai := ai.ch gY.ch
      replace af := af.ch gY.ch
      replace ag := ag.ch gY.ch
      replace hB := hB.trans gY.fr
      refine GoQ.pure rfl (op_pickT rfl rfl rfl) rfl rfl ?_
      refine GoQ.pure rfl (op_move rfl) rfl rfl ?_
      cases r159
      ·replace H := ifn Bool.false_ne_true H
       refine GoQ.pass rfl rfl rfl ?_
       refine GoQ.pass rfl rfl rfl ?_
       refine GoQ.pass rfl rfl rfl ?_
       refine GoQ.pass rfl rfl rfl ?_
       refine GoQ.pass rfl rfl rfl ?_
       refine GoQ.pass rfl rfl rfl ?_
       refine GoQ.pass rfl rfl rfl ?_
       refine GoQ.pass rfl rfl rfl ?_
       refine GoQ.pure rfl (op_pickF rfl rfl rfl) rfl rfl ?_
       refine GoQ.pure rfl (op_assign rfl) rfl rfl ?_
       refine GoQ.nil ?_
       refine Go1.ret1V Try.func68 rfl (show _ = .bool false from rfl) ?_
       refine hR117 _ _ ?_
       refine GoR.op ((op_assign rfl) _) rfl rfl ?_
       refine GoR.op ((op_assign rfl) _) rfl rfl ?_
       refine GoR.nil ?_
       replace ah := ah.ch (Owns.dropCh _ _ 0)
       replace ae := ae.ch (Owns.dropCh _ _ 0)
       replace ad := ad.ch (Owns.dropCh _ _ 0)
       replace ai := ai.ch (Owns.dropCh _ _ 0)
       replace af := af.ch (Owns.dropCh _ _ 0)
       replace ag := ag.ch (Owns.dropCh _ _ 0)
       replace bf := bf.ch (Owns.dropCh _ _ 0)
       replace aX := aX.ch (Owns.dropCh _ _ 0)
       replace dS := dS.ch (Owns.dropCh _ _ 0)
       replace dT := dT.ch (Owns.dropCh _ _ 0)
       replace dU := dU.ch (Owns.dropCh _ _ 0)
       replace dV := dV.ch (Owns.dropCh _ _ 0)
       replace dW := dW.ch (Owns.dropCh _ _ 0)
       replace dX := dX.ch (Owns.dropCh _ _ 0)
       replace dH := dH.ch (Owns.dropCh _ _ 0)
       replace hB := hB.trans (Owns.dropFr _ _ 0)
       replace hO := hO.drop 0
       dsimp only [eS, eZ] at hB hO ah ae ad ai af ag bf aX dS dT dU dV dW dX dH
       replace ah := ah.ch (Owns.dropCh _ _ 11)
       replace ae := ae.ch (Owns.dropCh _ _ 11)
       replace ad := ad.ch (Owns.dropCh _ _ 11)
       replace ai := ai.ch (Owns.dropCh _ _ 11)
       replace af := af.ch (Owns.dropCh _ _ 11)
       replace ag := ag.ch (Owns.dropCh _ _ 11)
       replace bf := bf.ch (Owns.dropCh _ _ 11)
       replace aX := aX.ch (Owns.dropCh _ _ 11)
       replace dS := dS.ch (Owns.dropCh _ _ 11)
       replace dT := dT.ch (Owns.dropCh _ _ 11)
       replace dU := dU.ch (Owns.dropCh _ _ 11)
       replace dV := dV.ch (Owns.dropCh _ _ 11)
       replace dW := dW.ch (Owns.dropCh _ _ 11)
       replace dX := dX.ch (Owns.dropCh _ _ 11)
       replace dH := dH.ch (Owns.dropCh _ _ 11)
       replace hB := hB.trans (Owns.dropFr _ _ 11)
       replace hO := hO.drop 11
       dsimp only [eS, eZ] at hB hO ah ae ad ai af ag bf aX dS dT dU dV dW dX dH
       refine Go1.ret2 Try.func53 rfl ?_
       exact Or.inr ⟨(⟨(⟨k2_37, b2_38, d_40, d_46, d_52, d_58, d_64, d_70, k2_39⟩ : Enum), m2_94, d_76, d_82, d_88⟩ : run), false, iO, n45, p43, c44, eB, n51, p49, c50, eC, n57, p55, c56, jT, n63, p61, c62, jU, n69, p67, c68, jV, n75, p73, c74, jW, bP, n81, p79, c80, jX, n87, p85, c86, jY, n93, p91, c92, jZ, rfl, hB.same, hO, bf, aX, dS, dT, dU, dV, dW, dX, dH, H⟩
      replace H := ifp rfl H
      refine GoQ.pure rfl (op_move rfl) rfl rfl ?_
      refine GoQ.pure rfl (op_nilCheck rfl) rfl rfl ?_
      refine GoQ.pure rfl (op_fieldAddr Try.underlying72 rfl ti29 rfl (by decide)) rfl rfl ?_
      refine GoQ.pure rfl (op_fieldAddr Try.underlying29 rfl ti27 rfl (by decide)) rfl rfl ?_
      refine GoQ.stable rfl (oblk (i := 7) 1 hO rfl rfl Try.underlying27 rfl rfl) rfl rfl ?_
      refine GoQ.pure rfl (op_fieldAddr Try.underlying29 rfl ti27 rfl (by decide)) rfl rfl ?_
      refine GoQ.stable rfl (oblk (i := 7) 0 hO rfl rfl Try.underlying27 rfl rfl) rfl rfl ?_
      have hobt := rowlend 7 hO rfl dV
      obtain ⟨F9, Ga⟩ := hobt
      have hOc167 := hO.drop 7
      refine GoQ.call rfl (op_call body71 (show ([.slice p73 n75 c74, .slice aS e.Rules.length aT] : List Value) = [.slice p73 d_70.length c74, .slice aS e.Rules.length aT] from by rw [← Ga]) (walk_slices_Equal_api_Rule hOc167.lt F9 (ag.ch (Owns.dropCh _ _ 7)) H)) (fun v w hr => by obtain ⟨_, _, hs, _⟩ := hr; assumption) rfl rfl ?_
      rintro MD ME ⟨r168, rfl, Gb, H⟩
      have l9 := Stp.same hO Gb
      replace bf := bf.ch l9.ch
      replace aX := aX.ch l9.ch
      replace dS := dS.ch l9.ch
      replace dT := dT.ch l9.ch
      replace dU := dU.ch l9.ch
      replace dV := dV.ch l9.ch
      replace dW := dW.ch l9.ch
      replace dX := dX.ch l9.ch
      replace dH := dH.ch l9.ch
      replace hO := l9.own
      replace ah := ah.ch l9.ch
      replace ae := ae.ch l9.ch
      replace ad := ad.ch l9.ch
      replace ai := ai.ch l9.ch
      replace af := af.ch l9.ch
      replace ag := ag.ch l9.ch
      replace hB := hB.trans l9.fr
      refine GoQ.pure rfl (op_pickT rfl rfl rfl) rfl rfl ?_
      refine GoQ.pure rfl (op_assign rfl) rfl rfl ?_
      refine GoQ.nil ?_
      refine Go1.ret1V Try.func68 rfl (show _ = .bool r168 from rfl) ?_
      refine hR117 _ _ ?_
      refine GoR.op ((op_assign rfl) _) rfl rfl ?_
      refine GoR.op ((op_assign rfl) _) rfl rfl ?_
      refine GoR.nil ?_
      replace ah := ah.ch (Owns.dropCh _ _ 0)
      replace ae := ae.ch (Owns.dropCh _ _ 0)
      replace ad := ad.ch (Owns.dropCh _ _ 0)
      replace ai := ai.ch (Owns.dropCh _ _ 0)
      replace af := af.ch (Owns.dropCh _ _ 0)
      replace ag := ag.ch (Owns.dropCh _ _ 0)
      replace bf := bf.ch (Owns.dropCh _ _ 0)
      replace aX := aX.ch (Owns.dropCh _ _ 0)
      replace dS := dS.ch (Owns.dropCh _ _ 0)
      replace dT := dT.ch (Owns.dropCh _ _ 0)
      replace dU := dU.ch (Owns.dropCh _ _ 0)
      replace dV := dV.ch (Owns.dropCh _ _ 0)
      replace dW := dW.ch (Owns.dropCh _ _ 0)
      replace dX := dX.ch (Owns.dropCh _ _ 0)
      replace dH := dH.ch (Owns.dropCh _ _ 0)
      replace hB := hB.trans (Owns.dropFr _ _ 0)
      replace hO := hO.drop 0
      dsimp only [eS, eZ] at hB hO ah ae ad ai af ag bf aX dS dT dU dV dW dX dH
      replace ah := ah.ch (Owns.dropCh _ _ 11)
      replace ae := ae.ch (Owns.dropCh _ _ 11)
      replace ad := ad.ch (Owns.dropCh _ _ 11)
      replace ai := ai.ch (Owns.dropCh _ _ 11)
      replace af := af.ch (Owns.dropCh _ _ 11)
      replace ag := ag.ch (Owns.dropCh _ _ 11)
      replace bf := bf.ch (Owns.dropCh _ _ 11)
      replace aX := aX.ch (Owns.dropCh _ _ 11)
      replace dS := dS.ch (Owns.dropCh _ _ 11)
      replace dT := dT.ch (Owns.dropCh _ _ 11)
      replace dU := dU.ch (Owns.dropCh _ _ 11)
      replace dV := dV.ch (Owns.dropCh _ _ 11)
      replace dW := dW.ch (Owns.dropCh _ _ 11)
      replace dX := dX.ch (Owns.dropCh _ _ 11)
      replace dH := dH.ch (Owns.dropCh _ _ 11)
      replace hB := hB.trans (Owns.dropFr _ _ 11)
      replace hO := hO.drop 11
      dsimp only [eS, eZ] at hB hO ah ae ad ai af ag bf aX dS dT dU dV dW dX dH
      refine Go1.ret2 Try.func53 rfl ?_
      exact Or.inr ⟨(⟨(⟨k2_37, b2_38, d_40, d_46, d_52, d_58, d_64, d_70, k2_39⟩ : Enum), m2_94, d_76, d_82, d_88⟩ : run), r168, iO, n45, p43, c44, eB, n51, p49, c50, eC, n57, p55, c56, jT, n63, p61, c62, jU, n69, p67, c68, jV, n75, p73, c74, jW, bP, n81, p79, c80, jX, n87, p85, c86, jY, n93, p91, c92, jZ, rfl, hB.same, hO, bf, aX, dS, dT, dU, dV, dW, dX, dH, H⟩
     replace H := ifn zb H
     refine GoQ.pure rfl (fun w => opB (op_eql rfl rfl w) (decide_eq_false zb)) rfl rfl ?_
     refine GoQ.pure rfl (op_pickT rfl rfl rfl) rfl rfl ?_
     refine GoQ.pure rfl (op_move rfl) rfl rfl ?_
     refine GoQ.pass rfl rfl rfl ?_
     refine GoQ.pass rfl rfl rfl ?_
     refine GoQ.pass rfl rfl rfl ?_
     refine GoQ.pass rfl rfl rfl ?_
     refine GoQ.pass rfl rfl rfl ?_
     refine GoQ.pass rfl rfl rfl ?_
     refine GoQ.pass rfl rfl rfl ?_
     refine GoQ.pass rfl rfl rfl ?_
     refine GoQ.pure rfl (op_pickF rfl rfl rfl) rfl rfl ?_
     refine GoQ.pure rfl (op_move rfl) rfl rfl ?_
     refine GoQ.pass rfl rfl rfl ?_
     refine GoQ.pass rfl rfl rfl ?_
     refine GoQ.pass rfl rfl rfl ?_
     refine GoQ.pass rfl rfl rfl ?_
     refine GoQ.pass rfl rfl rfl ?_
     refine GoQ.pass rfl rfl rfl ?_
     refine GoQ.pass rfl rfl rfl ?_
     refine GoQ.pass rfl rfl rfl ?_
     refine GoQ.pure rfl (op_pickF rfl rfl rfl) rfl rfl ?_
     refine GoQ.pure rfl (op_move rfl) rfl rfl ?_
     refine GoQ.pass rfl rfl rfl ?_
     refine GoQ.pass rfl rfl rfl ?_
     refine GoQ.pass rfl rfl rfl ?_
     refine GoQ.pass rfl rfl rfl ?_
     refine GoQ.pass rfl rfl rfl ?_
     refine GoQ.pass rfl rfl rfl ?_
     refine GoQ.pass rfl rfl rfl ?_
     refine GoQ.pass rfl rfl rfl ?_
     refine GoQ.pure rfl (op_pickF rfl rfl rfl) rfl rfl ?_
     refine GoQ.pure rfl (op_move rfl) rfl rfl ?_
     refine GoQ.pass rfl rfl rfl ?_
     refine GoQ.pass rfl rfl rfl ?_
     refine GoQ.pass rfl rfl rfl ?_
     refine GoQ.pass rfl rfl rfl ?_
     refine GoQ.pass rfl rfl rfl ?_
     refine GoQ.pass rfl rfl rfl ?_
     refine GoQ.pass rfl rfl rfl ?_
     refine GoQ.pass rfl rfl rfl ?_
     refine GoQ.pure rfl (op_pickF rfl rfl rfl) rfl rfl ?_
     refine GoQ.pure rfl (op_move rfl) rfl rfl ?_
     refine GoQ.pass rfl rfl rfl ?_
     refine GoQ.pass rfl rfl rfl ?_
     refine GoQ.pass rfl rfl rfl ?_
     refine GoQ.pass rfl rfl rfl ?_
     refine GoQ.pass rfl rfl rfl ?_
     refine GoQ.pass rfl rfl rfl ?_
     refine GoQ.pass rfl rfl rfl ?_
     refine GoQ.pass rfl rfl rfl ?_
     refine GoQ.pure rfl (op_pickF rfl rfl rfl) rfl rfl ?_
     refine GoQ.pure rfl (op_assign rfl) rfl rfl ?_
     refine GoQ.nil ?_
     refine Go1.ret1V Try.func68 rfl (show _ = .bool false from rfl) ?_
     refine hR117 _ _ ?_
     refine GoR.op ((op_assign rfl) _) rfl rfl ?_
     refine GoR.op ((op_assign rfl) _) rfl rfl ?_
     refine GoR.nil ?_
     replace ah := ah.ch (Owns.dropCh _ _ 0)
     replace ae := ae.ch (Owns.dropCh _ _ 0)
     replace ad := ad.ch (Owns.dropCh _ _ 0)
     replace ai := ai.ch (Owns.dropCh _ _ 0)
     replace af := af.ch (Owns.dropCh _ _ 0)
     replace ag := ag.ch (Owns.dropCh _ _ 0)
     replace bf := bf.ch (Owns.dropCh _ _ 0)
     replace aX := aX.ch (Owns.dropCh _ _ 0)
     replace dS := dS.ch (Owns.dropCh _ _ 0)
     replace dT := dT.ch (Owns.dropCh _ _ 0)
     replace dU := dU.ch (Owns.dropCh _ _ 0)
     replace dV := dV.ch (Owns.dropCh _ _ 0)
     replace dW := dW.ch (Owns.dropCh _ _ 0)
     replace dX := dX.ch (Owns.dropCh _ _ 0)
     replace dH := dH.ch (Owns.dropCh _ _ 0)
     replace hB := hB.trans (Owns.dropFr _ _ 0)
     replace hO := hO.drop 0
     dsimp only [eS, eZ] at hB hO ah ae ad ai af ag bf aX dS dT dU dV dW dX dH
     replace ah := ah.ch (Owns.dropCh _ _ 11)
     replace ae := ae.ch (Owns.dropCh _ _ 11)
     replace ad := ad.ch (Owns.dropCh _ _ 11)
     replace ai := ai.ch (Owns.dropCh _ _ 11)
     replace af := af.ch (Owns.dropCh _ _ 11)
     replace ag := ag.ch (Owns.dropCh _ _ 11)
     replace bf := bf.ch (Owns.dropCh _ _ 11)
     replace aX := aX.ch (Owns.dropCh _ _ 11)
     replace dS := dS.ch (Owns.dropCh _ _ 11)
     replace dT := dT.ch (Owns.dropCh _ _ 11)
     replace dU := dU.ch (Owns.dropCh _ _ 11)
     replace dV := dV.ch (Owns.dropCh _ _ 11)
     replace dW := dW.ch (Owns.dropCh _ _ 11)
     replace dX := dX.ch (Owns.dropCh _ _ 11)
     replace dH := dH.ch (Owns.dropCh _ _ 11)
     replace hB := hB.trans (Owns.dropFr _ _ 11)
     replace hO := hO.drop 11
     dsimp only [eS, eZ] at hB hO ah ae ad ai af ag bf aX dS dT dU dV dW dX dH
     refine Go1.ret2 Try.func53 rfl ?_
     exact Or.inr ⟨(⟨(⟨k2_37, b2_38, d_40, d_46, d_52, d_58, d_64, d_70, k2_39⟩ : Enum), m2_94, d_76, d_82, d_88⟩ : run), false, iO, n45, p43, c44, eB, n51, p49, c50, eC, n57, p55, c56, jT, n63, p61, c62, jU, n69, p67, c68, jV, n75, p73, c74, jW, bP, n81, p79, c80, jX, n87, p85, c86, jY, n93, p91, c92, jZ, rfl, hB.same, hO, bf, aX, dS, dT, dU, dV, dW, dX, dH, H⟩
    replace H := ifn za H
    refine GoQ.pure rfl (fun w => opB (op_eql rfl rfl w) (decide_eq_false za)) rfl rfl ?_
    refine GoQ.pure rfl (op_move rfl) rfl rfl ?_
    refine GoQ.pass rfl rfl rfl ?_
    refine GoQ.pass rfl rfl rfl ?_
    refine GoQ.pass rfl rfl rfl ?_
    refine GoQ.pass rfl rfl rfl ?_
    refine GoQ.pass rfl rfl rfl ?_
    refine GoQ.pass rfl rfl rfl ?_
    refine GoQ.pass rfl rfl rfl ?_
    refine GoQ.pass rfl rfl rfl ?_
    refine GoQ.pure rfl (op_pickF rfl rfl rfl) rfl rfl ?_
    refine GoQ.pure rfl (op_move rfl) rfl rfl ?_
    refine GoQ.pass rfl rfl rfl ?_
    refine GoQ.pass rfl rfl rfl ?_
    refine GoQ.pass rfl rfl rfl ?_
    refine GoQ.pass rfl rfl rfl ?_
    refine GoQ.pass rfl rfl rfl ?_
    refine GoQ.pass rfl rfl rfl ?_
    refine GoQ.pass rfl rfl rfl ?_
    refine GoQ.pass rfl rfl rfl ?_
    refine GoQ.pure rfl (op_pickF rfl rfl rfl) rfl rfl ?_
    refine GoQ.pure rfl (op_move rfl) rfl rfl ?_
    refine GoQ.pass rfl rfl rfl ?_
    refine GoQ.pass rfl rfl rfl ?_
    refine GoQ.pass rfl rfl rfl ?_
    refine GoQ.pass rfl rfl rfl ?_
    refine GoQ.pass rfl rfl rfl ?_
    refine GoQ.pass rfl rfl rfl ?_
    refine GoQ.pass rfl rfl rfl ?_
    refine GoQ.pass rfl rfl rfl ?_
    refine GoQ.pure rfl (op_pickF rfl rfl rfl) rfl rfl ?_
    refine GoQ.pure rfl (op_move rfl) rfl rfl ?_
    refine GoQ.pass rfl rfl rfl ?_
    refine GoQ.pass rfl rfl rfl ?_
    refine GoQ.pass rfl rfl rfl ?_
    refine GoQ.pass rfl rfl rfl ?_
    refine GoQ.pass rfl rfl rfl ?_
    refine GoQ.pass rfl rfl rfl ?_
    refine GoQ.pass rfl rfl rfl ?_
    refine GoQ.pass rfl rfl rfl ?_
    refine GoQ.pure rfl (op_pickF rfl rfl rfl) rfl rfl ?_
    refine GoQ.pure rfl (op_move rfl) rfl rfl ?_
    refine GoQ.pass rfl rfl rfl ?_
    refine GoQ.pass rfl rfl rfl ?_
    refine GoQ.pass rfl rfl rfl ?_
    refine GoQ.pass rfl rfl rfl ?_
    refine GoQ.pass rfl rfl rfl ?_
    refine GoQ.pass rfl rfl rfl ?_
    refine GoQ.pass rfl rfl rfl ?_
    refine GoQ.pass rfl rfl rfl ?_
    refine GoQ.pure rfl (op_pickF rfl rfl rfl) rfl rfl ?_
    refine GoQ.pure rfl (op_move rfl) rfl rfl ?_
    refine GoQ.pass rfl rfl rfl ?_
    refine GoQ.pass rfl rfl rfl ?_
    refine GoQ.pass rfl rfl rfl ?_
    refine GoQ.pass rfl rfl rfl ?_
    refine GoQ.pass rfl rfl rfl ?_
    refine GoQ.pass rfl rfl rfl ?_
    refine GoQ.pass rfl rfl rfl ?_
    refine GoQ.pass rfl rfl rfl ?_
    refine GoQ.pure rfl (op_pickF rfl rfl rfl) rfl rfl ?_
    refine GoQ.pure rfl (op_assign rfl) rfl rfl ?_
    refine GoQ.nil ?_
    refine Go1.ret1V Try.func68 rfl (show _ = .bool false from rfl) ?_
    refine hR117 _ _ ?_
    refine GoR.op ((op_assign rfl) _) rfl rfl ?_
    refine GoR.op ((op_assign rfl) _) rfl rfl ?_
    refine GoR.nil ?_
    replace ah := ah.ch (Owns.dropCh _ _ 0)
    replace ae := ae.ch (Owns.dropCh _ _ 0)
    replace ad := ad.ch (Owns.dropCh _ _ 0)
    replace ai := ai.ch (Owns.dropCh _ _ 0)
    replace af := af.ch (Owns.dropCh _ _ 0)
    replace ag := ag.ch (Owns.dropCh _ _ 0)
    replace bf := bf.ch (Owns.dropCh _ _ 0)
    replace aX := aX.ch (Owns.dropCh _ _ 0)
    replace dS := dS.ch (Owns.dropCh _ _ 0)
    replace dT := dT.ch (Owns.dropCh _ _ 0)
    replace dU := dU.ch (Owns.dropCh _ _ 0)
    replace dV := dV.ch (Owns.dropCh _ _ 0)
    replace dW := dW.ch (Owns.dropCh _ _ 0)
    replace dX := dX.ch (Owns.dropCh _ _ 0)
    replace dH := dH.ch (Owns.dropCh _ _ 0)
    replace hB := hB.trans (Owns.dropFr _ _ 0)
    replace hO := hO.drop 0
    dsimp only [eS, eZ] at hB hO ah ae ad ai af ag bf aX dS dT dU dV dW dX dH
    replace ah := ah.ch (Owns.dropCh _ _ 11)
    replace ae := ae.ch (Owns.dropCh _ _ 11)
    replace ad := ad.ch (Owns.dropCh _ _ 11)
    replace ai := ai.ch (Owns.dropCh _ _ 11)
    replace af := af.ch (Owns.dropCh _ _ 11)
    replace ag := ag.ch (Owns.dropCh _ _ 11)
    replace bf := bf.ch (Owns.dropCh _ _ 11)
    replace aX := aX.ch (Owns.dropCh _ _ 11)
    replace dS := dS.ch (Owns.dropCh _ _ 11)
    replace dT := dT.ch (Owns.dropCh _ _ 11)
    replace dU := dU.ch (Owns.dropCh _ _ 11)
    replace dV := dV.ch (Owns.dropCh _ _ 11)
    replace dW := dW.ch (Owns.dropCh _ _ 11)
    replace dX := dX.ch (Owns.dropCh _ _ 11)
    replace dH := dH.ch (Owns.dropCh _ _ 11)
    replace hB := hB.trans (Owns.dropFr _ _ 11)
    replace hO := hO.drop 11
    dsimp only [eS, eZ] at hB hO ah ae ad ai af ag bf aX dS dT dU dV dW dX dH
    refine Go1.ret2 Try.func53 rfl ?_
    exact Or.inr ⟨(⟨(⟨k2_37, b2_38, d_40, d_46, d_52, d_58, d_64, d_70, k2_39⟩ : Enum), m2_94, d_76, d_82, d_88⟩ : run), false, iO, n45, p43, c44, eB, n51, p49, c50, eC, n57, p55, c56, jT, n63, p61, c62, jU, n69, p67, c68, jV, n75, p73, c74, jW, bP, n81, p79, c80, jX, n87, p85, c86, jY, n93, p91, c92, jZ, rfl, hB.same, hO, bf, aX, dS, dT, dU, dV, dW, dX, dH, H⟩
   replace H := ifn h35 H
   refine GoR.op ((fun w => opB (op_neq rfl rfl w) (ndF h35)) _) rfl rfl ?_
   refine GoR.nil ?_
   refine Go1.condT rfl rfl ?_
   refine Go1.seq ?_
   refine Go1.cut [] trivial ?_
   intro σ _
   refine Go1.region ?_
   refine GoR.op ((op_assign rfl) _) rfl rfl ?_
   refine GoR.op ((op_assign rfl) _) rfl rfl ?_
   refine GoR.nil ?_
   refine Go1.ret2 Try.func53 rfl ?_
   exact Or.inl ⟨false, rfl, hB.same, H⟩
 replace H := ifn h7 H
 refine GoR.op (opB ((oblk (i := 1) 0 hO rfl rfl Try.underlying4 rfl rfl) _ (Same.refl _)) (Bool.eq_false_iff.2 h7)) rfl rfl ?_
 refine GoR.call (op_call body49 rfl (walk_enumerate_begin hO.lt ah H)) rfl rfl ?_
 intro MF MG hcase180
 refine Or.elim hcase180 ?_ ?_
 ·refine exE fun r175 => andE fun hv181 => andE fun zc => fun H => ?_
  subst hv181
  clear hcase180
  replace H := oElimN H
  have j4 := Stp.same hO zc
  replace hO := j4.own
  replace ah := ah.ch j4.ch
  replace ae := ae.ch j4.ch
  replace ad := ad.ch j4.ch
  replace ai := ai.ch j4.ch
  replace af := af.ch j4.ch
  replace ag := ag.ch j4.ch
  replace hB := hB.trans j4.fr
  refine GoR.op ((op_move rfl) _) rfl rfl ?_
  refine GoR.op ((op_extract rfl rfl) _) rfl rfl ?_
  refine GoR.op ((op_extract rfl rfl) _) rfl rfl ?_
  refine GoR.op ((op_assign rfl) _) rfl rfl ?_
  refine GoR.op ((op_assign rfl) _) rfl rfl ?_
  refine GoR.nil ?_
  refine Go1.seq ?_
  refine Go1.seq ?_
  refine Go1.region ?_
  refine GoR.op ((op_move rfl) _) rfl rfl ?_
  by_cases zd : r175 = (0 : Int)
  ·replace H := ifp zd H
   refine GoR.op ((fun w => opB (op_neq rfl rfl w) (ndT zd)) _) rfl rfl ?_
   refine GoR.nil ?_
   refine Go1.condF rfl rfl ?_
   refine Go1.skip ?_
   refine Go1.seq ?_
   refine Go1.block ?_
   refine Go1.loopW (S := Unit) (fun s σ w => agrees σ [(1, .pointer (some ⟨B2, 0, none⟩)), (4, .pointer none)] ∧ Owns w0.heap.size w [.blk B2 (.cells #[.int .i64 e.Points, .bool e.Monoid, .slice bp e.Gens.length bq, .slice aO e.Elems.length aP, .slice ar e.Prefix.length au, .slice bg e.Last.length bh, .slice aQ e.Right.length aR, .slice aS e.Rules.length aT, .int .i64 e.Done] 29 (0, 0))] A ∧ ISl (Rp.sl (Rp.int .i64)) (bl [.blk B2 (.cells #[.int .i64 e.Points, .bool e.Monoid, .slice bp e.Gens.length bq, .slice aO e.Elems.length aP, .slice ar e.Prefix.length au, .slice bg e.Last.length bh, .slice aQ e.Right.length aR, .slice aS e.Rules.length aT, .int .i64 e.Done] 29 (0, 0))] ++ A) w bp bq e.Gens ∧ ISl (Rp.sl (Rp.int .i64)) (bl [.blk B2 (.cells #[.int .i64 e.Points, .bool e.Monoid, .slice bp e.Gens.length bq, .slice aO e.Elems.length aP, .slice ar e.Prefix.length au, .slice bg e.Last.length bh, .slice aQ e.Right.length aR, .slice aS e.Rules.length aT, .int .i64 e.Done] 29 (0, 0))] ++ A) w aO aP e.Elems ∧ ISl (Rp.int .i64) (bl [.blk B2 (.cells #[.int .i64 e.Points, .bool e.Monoid, .slice bp e.Gens.length bq, .slice aO e.Elems.length aP, .slice ar e.Prefix.length au, .slice bg e.Last.length bh, .slice aQ e.Right.length aR, .slice aS e.Rules.length aT, .int .i64 e.Done] 29 (0, 0))] ++ A) w ar au e.Prefix ∧ ISl (Rp.int .i64) (bl [.blk B2 (.cells #[.int .i64 e.Points, .bool e.Monoid, .slice bp e.Gens.length bq, .slice aO e.Elems.length aP, .slice ar e.Prefix.length au, .slice bg e.Last.length bh, .slice aQ e.Right.length aR, .slice aS e.Rules.length aT, .int .i64 e.Done] 29 (0, 0))] ++ A) w bg bh e.Last ∧ ISl (Rp.sl (Rp.int .i64)) (bl [.blk B2 (.cells #[.int .i64 e.Points, .bool e.Monoid, .slice bp e.Gens.length bq, .slice aO e.Elems.length aP, .slice ar e.Prefix.length au, .slice bg e.Last.length bh, .slice aQ e.Right.length aR, .slice aS e.Rules.length aT, .int .i64 e.Done] 29 (0, 0))] ++ A) w aQ aR e.Right ∧ ISl (rpRule) (bl [.blk B2 (.cells #[.int .i64 e.Points, .bool e.Monoid, .slice bp e.Gens.length bq, .slice aO e.Elems.length aP, .slice ar e.Prefix.length au, .slice bg e.Last.length bh, .slice aQ e.Right.length aR, .slice aS e.Rules.length aT, .int .i64 e.Done] 29 (0, 0))] ++ A) w aS aT e.Rules ∧ Fr (bl []) w0 (bl [.blk B2 (.cells #[.int .i64 e.Points, .bool e.Monoid, .slice bp e.Gens.length bq, .slice aO e.Elems.length aP, .slice ar e.Prefix.length au, .slice bg e.Last.length bh, .slice aQ e.Right.length aR, .slice aS e.Rules.length aT, .int .i64 e.Done] 29 (0, 0))]) w) H ⟨⟨rfl, rfl, trivial⟩, hO, ah, ae, ad, ai, af, ag, hB⟩ ?_
   intro X3 _
   intro H hX3 σ MH
   refine andE fun hag => andE fun hO => andE fun ah => andE fun ae => andE fun ad => andE fun ai => andE fun af => andE fun ag => fun hB => ?_
   refine Go1.keep [(1, .pointer (some ⟨B2, 0, none⟩)), (4, .pointer none)] hag ?_
   refine Go1.seq ?_
   refine Go1.seq ?_
   refine Go1.drawS 0 [(0, .pure), (1, .pure), (2, .pure), (3, .pure), (4, .stable), (5, .pure), (6, .stable), (7, .pure)] mixed (by kernel_rfl) ?_
   intro MJ yR
   have sJ := Stp.same hO yR
   replace hO := sJ.own
   replace ah := ah.ch sJ.ch
   replace ae := ae.ch sJ.ch
   replace ad := ad.ch sJ.ch
   replace ai := ai.ch sJ.ch
   replace af := af.ch sJ.ch
   replace ag := ag.ch sJ.ch
   replace hB := hB.trans sJ.fr
   refine GoQ.pure rfl (op_move rfl) rfl rfl ?_
   exact H.elim
  replace H := ifn zd H
  refine GoR.op ((fun w => opB (op_neq rfl rfl w) (ndF zd)) _) rfl rfl ?_
  refine GoR.nil ?_
  refine Go1.condT rfl rfl ?_
  refine Go1.seq ?_
  refine Go1.region ?_
  refine GoR.op ((op_assign rfl) _) rfl rfl ?_
  refine GoR.op ((op_assign rfl) _) rfl rfl ?_
  refine GoR.nil ?_
  refine Go1.ret2 Try.func53 rfl ?_
  exact Or.inl ⟨false, rfl, hB.same, H⟩
 ·refine exE fun r174 => exE fun r175 => exE fun er => exE fun wc => exE fun we => exE fun wg => exE fun vl => exE fun vm => exE fun vn => exE fun vo => exE fun uY => exE fun uZ => exE fun u0 => exE fun u3 => exE fun uC => exE fun wh => exE fun wi => exE fun wj => exE fun vp => exE fun vq => exE fun vr => exE fun vt => exE fun u4 => exE fun vu => exE fun vw => exE fun vy => exE fun u5 => exE fun bC => exE fun xZ => exE fun x2 => exE fun x3 => exE fun xk => exE fun xl => exE fun xm => exE fun xn => exE fun xd => exE fun xo => exE fun xp => exE fun xq => exE fun xe => andE fun hv188 => andE fun zc => andE fun hN179 => andE fun n8 => andE fun nH => andE fun ns => andE fun n9 => andE fun nI => andE fun nJ => andE fun rH => andE fun qZ => andE fun q7 => fun H => ?_
  subst hv188
  clear hcase180
  replace H := oElimS H
  have rX := Stp.more hO zc hN179
  dsimp only [List.cons_append, List.nil_append] at rX
  replace hO := rX.own
  replace ah := ah.ch rX.ch
  replace ae := ae.ch rX.ch
  replace ad := ad.ch rX.ch
  replace ai := ai.ch rX.ch
  replace af := af.ch rX.ch
  replace ag := ag.ch rX.ch
  replace hB := hB.trans rX.fr
  replace n8 := n8.ch (Ch.assoc _ _ _ _)
  dsimp only [List.cons_append, List.nil_append] at n8
  replace nH := nH.ch (Ch.assoc _ _ _ _)
  dsimp only [List.cons_append, List.nil_append] at nH
  replace ns := ns.ch (Ch.assoc _ _ _ _)
  dsimp only [List.cons_append, List.nil_append] at ns
  replace n9 := n9.ch (Ch.assoc _ _ _ _)
  dsimp only [List.cons_append, List.nil_append] at n9
  replace nI := nI.ch (Ch.assoc _ _ _ _)
  dsimp only [List.cons_append, List.nil_append] at nI
  replace nJ := nJ.ch (Ch.assoc _ _ _ _)
  dsimp only [List.cons_append, List.nil_append] at nJ
  replace rH := rH.ch (Ch.assoc _ _ _ _)
  dsimp only [List.cons_append, List.nil_append] at rH
  replace qZ := qZ.ch (Ch.assoc _ _ _ _)
  dsimp only [List.cons_append, List.nil_append] at qZ
  replace q7 := q7.ch (Ch.assoc _ _ _ _)
  dsimp only [List.cons_append, List.nil_append] at q7
  refine GoR.op ((op_move rfl) _) rfl rfl ?_
  refine GoR.op ((op_extract rfl rfl) _) rfl rfl ?_
  refine GoR.op ((op_extract rfl rfl) _) rfl rfl ?_
  refine GoR.op ((op_assign rfl) _) rfl rfl ?_
  refine GoR.op ((op_assign rfl) _) rfl rfl ?_
  refine GoR.nil ?_
  refine Go1.seq ?_
  refine Go1.seq ?_
  refine Go1.region ?_
  refine GoR.op ((op_move rfl) _) rfl rfl ?_
  by_cases zf : r175 = (0 : Int)
  ·replace H := ifp zf H
   refine GoR.op ((fun w => opB (op_neq rfl rfl w) (ndT zf)) _) rfl rfl ?_
   refine GoR.nil ?_
   refine Go1.condF rfl rfl ?_
   refine Go1.skip ?_
   refine Go1.seq ?_
   refine Go1.block ?_
   refine Go1.loopW (S := Int × Bool × Int × List (List Int) × List (List Int) × List Int × List Int × List (List Int) × List Rule × List Str × List Int × List Int × (List (Str × Int))) (fun s σ w => match s with | (k4_203, b4_204, k4_205, d_206, d_212, d_218, d_224, d_230, d_236, d_242, d_248, d_254, m4_260) => ∃ (fd : Nat), ∃ (fe : Option Addr), ∃ (ff : Nat), ∃ (gi : List Value), ∃ (eV : Nat), ∃ (eG : Option Addr), ∃ (eH : Nat), ∃ (ie : List Value), ∃ (eW : Nat), ∃ (eI : Option Addr), ∃ (eK : Nat), ∃ (ig : List Value), ∃ (eX : Nat), ∃ (eM : Option Addr), ∃ (eN : Nat), ∃ (ii : List Value), ∃ (eY : Nat), ∃ (eO : Option Addr), ∃ (eP : Nat), ∃ (ik : List Value), ∃ (e8 : Nat), ∃ (eQ : Option Addr), ∃ (eU : Nat), ∃ (il : List Value), ∃ (fg : Nat), ∃ (fh : Option Addr), ∃ (fk : Nat), ∃ (io : List Value), ∃ (fm : Nat), ∃ (fo : Option Addr), ∃ (fq : Nat), ∃ (ip : List Value), ∃ (ft : Nat), ∃ (fu : Option Addr), ∃ (fv : Nat), ∃ (iq : List Value), agrees σ [(1, .pointer (some ⟨B2, 0, none⟩)), (4, .pointer (some ⟨er, 0, none⟩))] ∧ Owns w0.heap.size w [.blk er (.cells #[.int .i64 k4_203, .bool b4_204, .slice fe fd ff, .slice eG eV eH, .slice eI eW eK, .slice eM eX eN, .slice eO eY eP, .slice eQ e8 eU, .int .i64 k4_205, .map (some bC), .slice fh fg fk, .slice fo fm fq, .slice fu ft fv] 72 (0, 0)), .row 26 1 fe fd ff gi, .row 26 1 eG eV eH ie, .row 3 1 eI eW eK ig, .row 3 1 eM eX eN ii, .row 26 1 eO eY eP ik, .row 39 2 eQ e8 eU il, .row 9 1 fh fg fk io, .row 3 1 fo fm fq ip, .row 3 1 fu ft fv iq, .any (mapE (fun a : List UInt8 => Value.string (gstr a)) (fun a : Int => Value.int .i64 a) bC m4_260), .blk B2 (.cells #[.int .i64 e.Points, .bool e.Monoid, .slice bp e.Gens.length bq, .slice aO e.Elems.length aP, .slice ar e.Prefix.length au, .slice bg e.Last.length bh, .slice aQ e.Right.length aR, .slice aS e.Rules.length aT, .int .i64 e.Done] 29 (0, 0))] A ∧ Els (Rp.sl (Rp.int .i64)) (bl [.blk er (.cells #[.int .i64 k4_203, .bool b4_204, .slice fe fd ff, .slice eG eV eH, .slice eI eW eK, .slice eM eX eN, .slice eO eY eP, .slice eQ e8 eU, .int .i64 k4_205, .map (some bC), .slice fh fg fk, .slice fo fm fq, .slice fu ft fv] 72 (0, 0)), .row 26 1 fe fd ff gi, .row 26 1 eG eV eH ie, .row 3 1 eI eW eK ig, .row 3 1 eM eX eN ii, .row 26 1 eO eY eP ik, .row 39 2 eQ e8 eU il, .row 9 1 fh fg fk io, .row 3 1 fo fm fq ip, .row 3 1 fu ft fv iq, .any (mapE (fun a : List UInt8 => Value.string (gstr a)) (fun a : Int => Value.int .i64 a) bC m4_260), .blk B2 (.cells #[.int .i64 e.Points, .bool e.Monoid, .slice bp e.Gens.length bq, .slice aO e.Elems.length aP, .slice ar e.Prefix.length au, .slice bg e.Last.length bh, .slice aQ e.Right.length aR, .slice aS e.Rules.length aT, .int .i64 e.Done] 29 (0, 0))] ++ A) w gi d_206 ∧ Els (Rp.sl (Rp.int .i64)) (bl [.blk er (.cells #[.int .i64 k4_203, .bool b4_204, .slice fe fd ff, .slice eG eV eH, .slice eI eW eK, .slice eM eX eN, .slice eO eY eP, .slice eQ e8 eU, .int .i64 k4_205, .map (some bC), .slice fh fg fk, .slice fo fm fq, .slice fu ft fv] 72 (0, 0)), .row 26 1 fe fd ff gi, .row 26 1 eG eV eH ie, .row 3 1 eI eW eK ig, .row 3 1 eM eX eN ii, .row 26 1 eO eY eP ik, .row 39 2 eQ e8 eU il, .row 9 1 fh fg fk io, .row 3 1 fo fm fq ip, .row 3 1 fu ft fv iq, .any (mapE (fun a : List UInt8 => Value.string (gstr a)) (fun a : Int => Value.int .i64 a) bC m4_260), .blk B2 (.cells #[.int .i64 e.Points, .bool e.Monoid, .slice bp e.Gens.length bq, .slice aO e.Elems.length aP, .slice ar e.Prefix.length au, .slice bg e.Last.length bh, .slice aQ e.Right.length aR, .slice aS e.Rules.length aT, .int .i64 e.Done] 29 (0, 0))] ++ A) w ie d_212 ∧ Els (Rp.int .i64) (bl [.blk er (.cells #[.int .i64 k4_203, .bool b4_204, .slice fe fd ff, .slice eG eV eH, .slice eI eW eK, .slice eM eX eN, .slice eO eY eP, .slice eQ e8 eU, .int .i64 k4_205, .map (some bC), .slice fh fg fk, .slice fo fm fq, .slice fu ft fv] 72 (0, 0)), .row 26 1 fe fd ff gi, .row 26 1 eG eV eH ie, .row 3 1 eI eW eK ig, .row 3 1 eM eX eN ii, .row 26 1 eO eY eP ik, .row 39 2 eQ e8 eU il, .row 9 1 fh fg fk io, .row 3 1 fo fm fq ip, .row 3 1 fu ft fv iq, .any (mapE (fun a : List UInt8 => Value.string (gstr a)) (fun a : Int => Value.int .i64 a) bC m4_260), .blk B2 (.cells #[.int .i64 e.Points, .bool e.Monoid, .slice bp e.Gens.length bq, .slice aO e.Elems.length aP, .slice ar e.Prefix.length au, .slice bg e.Last.length bh, .slice aQ e.Right.length aR, .slice aS e.Rules.length aT, .int .i64 e.Done] 29 (0, 0))] ++ A) w ig d_218 ∧ Els (Rp.int .i64) (bl [.blk er (.cells #[.int .i64 k4_203, .bool b4_204, .slice fe fd ff, .slice eG eV eH, .slice eI eW eK, .slice eM eX eN, .slice eO eY eP, .slice eQ e8 eU, .int .i64 k4_205, .map (some bC), .slice fh fg fk, .slice fo fm fq, .slice fu ft fv] 72 (0, 0)), .row 26 1 fe fd ff gi, .row 26 1 eG eV eH ie, .row 3 1 eI eW eK ig, .row 3 1 eM eX eN ii, .row 26 1 eO eY eP ik, .row 39 2 eQ e8 eU il, .row 9 1 fh fg fk io, .row 3 1 fo fm fq ip, .row 3 1 fu ft fv iq, .any (mapE (fun a : List UInt8 => Value.string (gstr a)) (fun a : Int => Value.int .i64 a) bC m4_260), .blk B2 (.cells #[.int .i64 e.Points, .bool e.Monoid, .slice bp e.Gens.length bq, .slice aO e.Elems.length aP, .slice ar e.Prefix.length au, .slice bg e.Last.length bh, .slice aQ e.Right.length aR, .slice aS e.Rules.length aT, .int .i64 e.Done] 29 (0, 0))] ++ A) w ii d_224 ∧ Els (Rp.sl (Rp.int .i64)) (bl [.blk er (.cells #[.int .i64 k4_203, .bool b4_204, .slice fe fd ff, .slice eG eV eH, .slice eI eW eK, .slice eM eX eN, .slice eO eY eP, .slice eQ e8 eU, .int .i64 k4_205, .map (some bC), .slice fh fg fk, .slice fo fm fq, .slice fu ft fv] 72 (0, 0)), .row 26 1 fe fd ff gi, .row 26 1 eG eV eH ie, .row 3 1 eI eW eK ig, .row 3 1 eM eX eN ii, .row 26 1 eO eY eP ik, .row 39 2 eQ e8 eU il, .row 9 1 fh fg fk io, .row 3 1 fo fm fq ip, .row 3 1 fu ft fv iq, .any (mapE (fun a : List UInt8 => Value.string (gstr a)) (fun a : Int => Value.int .i64 a) bC m4_260), .blk B2 (.cells #[.int .i64 e.Points, .bool e.Monoid, .slice bp e.Gens.length bq, .slice aO e.Elems.length aP, .slice ar e.Prefix.length au, .slice bg e.Last.length bh, .slice aQ e.Right.length aR, .slice aS e.Rules.length aT, .int .i64 e.Done] 29 (0, 0))] ++ A) w ik d_230 ∧ Els (rpRule) (bl [.blk er (.cells #[.int .i64 k4_203, .bool b4_204, .slice fe fd ff, .slice eG eV eH, .slice eI eW eK, .slice eM eX eN, .slice eO eY eP, .slice eQ e8 eU, .int .i64 k4_205, .map (some bC), .slice fh fg fk, .slice fo fm fq, .slice fu ft fv] 72 (0, 0)), .row 26 1 fe fd ff gi, .row 26 1 eG eV eH ie, .row 3 1 eI eW eK ig, .row 3 1 eM eX eN ii, .row 26 1 eO eY eP ik, .row 39 2 eQ e8 eU il, .row 9 1 fh fg fk io, .row 3 1 fo fm fq ip, .row 3 1 fu ft fv iq, .any (mapE (fun a : List UInt8 => Value.string (gstr a)) (fun a : Int => Value.int .i64 a) bC m4_260), .blk B2 (.cells #[.int .i64 e.Points, .bool e.Monoid, .slice bp e.Gens.length bq, .slice aO e.Elems.length aP, .slice ar e.Prefix.length au, .slice bg e.Last.length bh, .slice aQ e.Right.length aR, .slice aS e.Rules.length aT, .int .i64 e.Done] 29 (0, 0))] ++ A) w il d_236 ∧ Els (Rp.str) (bl [.blk er (.cells #[.int .i64 k4_203, .bool b4_204, .slice fe fd ff, .slice eG eV eH, .slice eI eW eK, .slice eM eX eN, .slice eO eY eP, .slice eQ e8 eU, .int .i64 k4_205, .map (some bC), .slice fh fg fk, .slice fo fm fq, .slice fu ft fv] 72 (0, 0)), .row 26 1 fe fd ff gi, .row 26 1 eG eV eH ie, .row 3 1 eI eW eK ig, .row 3 1 eM eX eN ii, .row 26 1 eO eY eP ik, .row 39 2 eQ e8 eU il, .row 9 1 fh fg fk io, .row 3 1 fo fm fq ip, .row 3 1 fu ft fv iq, .any (mapE (fun a : List UInt8 => Value.string (gstr a)) (fun a : Int => Value.int .i64 a) bC m4_260), .blk B2 (.cells #[.int .i64 e.Points, .bool e.Monoid, .slice bp e.Gens.length bq, .slice aO e.Elems.length aP, .slice ar e.Prefix.length au, .slice bg e.Last.length bh, .slice aQ e.Right.length aR, .slice aS e.Rules.length aT, .int .i64 e.Done] 29 (0, 0))] ++ A) w io d_242 ∧ Els (Rp.int .i64) (bl [.blk er (.cells #[.int .i64 k4_203, .bool b4_204, .slice fe fd ff, .slice eG eV eH, .slice eI eW eK, .slice eM eX eN, .slice eO eY eP, .slice eQ e8 eU, .int .i64 k4_205, .map (some bC), .slice fh fg fk, .slice fo fm fq, .slice fu ft fv] 72 (0, 0)), .row 26 1 fe fd ff gi, .row 26 1 eG eV eH ie, .row 3 1 eI eW eK ig, .row 3 1 eM eX eN ii, .row 26 1 eO eY eP ik, .row 39 2 eQ e8 eU il, .row 9 1 fh fg fk io, .row 3 1 fo fm fq ip, .row 3 1 fu ft fv iq, .any (mapE (fun a : List UInt8 => Value.string (gstr a)) (fun a : Int => Value.int .i64 a) bC m4_260), .blk B2 (.cells #[.int .i64 e.Points, .bool e.Monoid, .slice bp e.Gens.length bq, .slice aO e.Elems.length aP, .slice ar e.Prefix.length au, .slice bg e.Last.length bh, .slice aQ e.Right.length aR, .slice aS e.Rules.length aT, .int .i64 e.Done] 29 (0, 0))] ++ A) w ip d_248 ∧ Els (Rp.int .i64) (bl [.blk er (.cells #[.int .i64 k4_203, .bool b4_204, .slice fe fd ff, .slice eG eV eH, .slice eI eW eK, .slice eM eX eN, .slice eO eY eP, .slice eQ e8 eU, .int .i64 k4_205, .map (some bC), .slice fh fg fk, .slice fo fm fq, .slice fu ft fv] 72 (0, 0)), .row 26 1 fe fd ff gi, .row 26 1 eG eV eH ie, .row 3 1 eI eW eK ig, .row 3 1 eM eX eN ii, .row 26 1 eO eY eP ik, .row 39 2 eQ e8 eU il, .row 9 1 fh fg fk io, .row 3 1 fo fm fq ip, .row 3 1 fu ft fv iq, .any (mapE (fun a : List UInt8 => Value.string (gstr a)) (fun a : Int => Value.int .i64 a) bC m4_260), .blk B2 (.cells #[.int .i64 e.Points, .bool e.Monoid, .slice bp e.Gens.length bq, .slice aO e.Elems.length aP, .slice ar e.Prefix.length au, .slice bg e.Last.length bh, .slice aQ e.Right.length aR, .slice aS e.Rules.length aT, .int .i64 e.Done] 29 (0, 0))] ++ A) w iq d_254 ∧ ISl (Rp.sl (Rp.int .i64)) (bl [.blk er (.cells #[.int .i64 k4_203, .bool b4_204, .slice fe fd ff, .slice eG eV eH, .slice eI eW eK, .slice eM eX eN, .slice eO eY eP, .slice eQ e8 eU, .int .i64 k4_205, .map (some bC), .slice fh fg fk, .slice fo fm fq, .slice fu ft fv] 72 (0, 0)), .row 26 1 fe fd ff gi, .row 26 1 eG eV eH ie, .row 3 1 eI eW eK ig, .row 3 1 eM eX eN ii, .row 26 1 eO eY eP ik, .row 39 2 eQ e8 eU il, .row 9 1 fh fg fk io, .row 3 1 fo fm fq ip, .row 3 1 fu ft fv iq, .any (mapE (fun a : List UInt8 => Value.string (gstr a)) (fun a : Int => Value.int .i64 a) bC m4_260), .blk B2 (.cells #[.int .i64 e.Points, .bool e.Monoid, .slice bp e.Gens.length bq, .slice aO e.Elems.length aP, .slice ar e.Prefix.length au, .slice bg e.Last.length bh, .slice aQ e.Right.length aR, .slice aS e.Rules.length aT, .int .i64 e.Done] 29 (0, 0))] ++ A) w bp bq e.Gens ∧ ISl (Rp.sl (Rp.int .i64)) (bl [.blk er (.cells #[.int .i64 k4_203, .bool b4_204, .slice fe fd ff, .slice eG eV eH, .slice eI eW eK, .slice eM eX eN, .slice eO eY eP, .slice eQ e8 eU, .int .i64 k4_205, .map (some bC), .slice fh fg fk, .slice fo fm fq, .slice fu ft fv] 72 (0, 0)), .row 26 1 fe fd ff gi, .row 26 1 eG eV eH ie, .row 3 1 eI eW eK ig, .row 3 1 eM eX eN ii, .row 26 1 eO eY eP ik, .row 39 2 eQ e8 eU il, .row 9 1 fh fg fk io, .row 3 1 fo fm fq ip, .row 3 1 fu ft fv iq, .any (mapE (fun a : List UInt8 => Value.string (gstr a)) (fun a : Int => Value.int .i64 a) bC m4_260), .blk B2 (.cells #[.int .i64 e.Points, .bool e.Monoid, .slice bp e.Gens.length bq, .slice aO e.Elems.length aP, .slice ar e.Prefix.length au, .slice bg e.Last.length bh, .slice aQ e.Right.length aR, .slice aS e.Rules.length aT, .int .i64 e.Done] 29 (0, 0))] ++ A) w aO aP e.Elems ∧ ISl (Rp.int .i64) (bl [.blk er (.cells #[.int .i64 k4_203, .bool b4_204, .slice fe fd ff, .slice eG eV eH, .slice eI eW eK, .slice eM eX eN, .slice eO eY eP, .slice eQ e8 eU, .int .i64 k4_205, .map (some bC), .slice fh fg fk, .slice fo fm fq, .slice fu ft fv] 72 (0, 0)), .row 26 1 fe fd ff gi, .row 26 1 eG eV eH ie, .row 3 1 eI eW eK ig, .row 3 1 eM eX eN ii, .row 26 1 eO eY eP ik, .row 39 2 eQ e8 eU il, .row 9 1 fh fg fk io, .row 3 1 fo fm fq ip, .row 3 1 fu ft fv iq, .any (mapE (fun a : List UInt8 => Value.string (gstr a)) (fun a : Int => Value.int .i64 a) bC m4_260), .blk B2 (.cells #[.int .i64 e.Points, .bool e.Monoid, .slice bp e.Gens.length bq, .slice aO e.Elems.length aP, .slice ar e.Prefix.length au, .slice bg e.Last.length bh, .slice aQ e.Right.length aR, .slice aS e.Rules.length aT, .int .i64 e.Done] 29 (0, 0))] ++ A) w ar au e.Prefix ∧ ISl (Rp.int .i64) (bl [.blk er (.cells #[.int .i64 k4_203, .bool b4_204, .slice fe fd ff, .slice eG eV eH, .slice eI eW eK, .slice eM eX eN, .slice eO eY eP, .slice eQ e8 eU, .int .i64 k4_205, .map (some bC), .slice fh fg fk, .slice fo fm fq, .slice fu ft fv] 72 (0, 0)), .row 26 1 fe fd ff gi, .row 26 1 eG eV eH ie, .row 3 1 eI eW eK ig, .row 3 1 eM eX eN ii, .row 26 1 eO eY eP ik, .row 39 2 eQ e8 eU il, .row 9 1 fh fg fk io, .row 3 1 fo fm fq ip, .row 3 1 fu ft fv iq, .any (mapE (fun a : List UInt8 => Value.string (gstr a)) (fun a : Int => Value.int .i64 a) bC m4_260), .blk B2 (.cells #[.int .i64 e.Points, .bool e.Monoid, .slice bp e.Gens.length bq, .slice aO e.Elems.length aP, .slice ar e.Prefix.length au, .slice bg e.Last.length bh, .slice aQ e.Right.length aR, .slice aS e.Rules.length aT, .int .i64 e.Done] 29 (0, 0))] ++ A) w bg bh e.Last ∧ ISl (Rp.sl (Rp.int .i64)) (bl [.blk er (.cells #[.int .i64 k4_203, .bool b4_204, .slice fe fd ff, .slice eG eV eH, .slice eI eW eK, .slice eM eX eN, .slice eO eY eP, .slice eQ e8 eU, .int .i64 k4_205, .map (some bC), .slice fh fg fk, .slice fo fm fq, .slice fu ft fv] 72 (0, 0)), .row 26 1 fe fd ff gi, .row 26 1 eG eV eH ie, .row 3 1 eI eW eK ig, .row 3 1 eM eX eN ii, .row 26 1 eO eY eP ik, .row 39 2 eQ e8 eU il, .row 9 1 fh fg fk io, .row 3 1 fo fm fq ip, .row 3 1 fu ft fv iq, .any (mapE (fun a : List UInt8 => Value.string (gstr a)) (fun a : Int => Value.int .i64 a) bC m4_260), .blk B2 (.cells #[.int .i64 e.Points, .bool e.Monoid, .slice bp e.Gens.length bq, .slice aO e.Elems.length aP, .slice ar e.Prefix.length au, .slice bg e.Last.length bh, .slice aQ e.Right.length aR, .slice aS e.Rules.length aT, .int .i64 e.Done] 29 (0, 0))] ++ A) w aQ aR e.Right ∧ ISl (rpRule) (bl [.blk er (.cells #[.int .i64 k4_203, .bool b4_204, .slice fe fd ff, .slice eG eV eH, .slice eI eW eK, .slice eM eX eN, .slice eO eY eP, .slice eQ e8 eU, .int .i64 k4_205, .map (some bC), .slice fh fg fk, .slice fo fm fq, .slice fu ft fv] 72 (0, 0)), .row 26 1 fe fd ff gi, .row 26 1 eG eV eH ie, .row 3 1 eI eW eK ig, .row 3 1 eM eX eN ii, .row 26 1 eO eY eP ik, .row 39 2 eQ e8 eU il, .row 9 1 fh fg fk io, .row 3 1 fo fm fq ip, .row 3 1 fu ft fv iq, .any (mapE (fun a : List UInt8 => Value.string (gstr a)) (fun a : Int => Value.int .i64 a) bC m4_260), .blk B2 (.cells #[.int .i64 e.Points, .bool e.Monoid, .slice bp e.Gens.length bq, .slice aO e.Elems.length aP, .slice ar e.Prefix.length au, .slice bg e.Last.length bh, .slice aQ e.Right.length aR, .slice aS e.Rules.length aT, .int .i64 e.Done] 29 (0, 0))] ++ A) w aS aT e.Rules ∧ Fr (bl []) w0 (bl [.blk er (.cells #[.int .i64 k4_203, .bool b4_204, .slice fe fd ff, .slice eG eV eH, .slice eI eW eK, .slice eM eX eN, .slice eO eY eP, .slice eQ e8 eU, .int .i64 k4_205, .map (some bC), .slice fh fg fk, .slice fo fm fq, .slice fu ft fv] 72 (0, 0)), .row 26 1 fe fd ff gi, .row 26 1 eG eV eH ie, .row 3 1 eI eW eK ig, .row 3 1 eM eX eN ii, .row 26 1 eO eY eP ik, .row 39 2 eQ e8 eU il, .row 9 1 fh fg fk io, .row 3 1 fo fm fq ip, .row 3 1 fu ft fv iq, .any (mapE (fun a : List UInt8 => Value.string (gstr a)) (fun a : Int => Value.int .i64 a) bC m4_260), .blk B2 (.cells #[.int .i64 e.Points, .bool e.Monoid, .slice bp e.Gens.length bq, .slice aO e.Elems.length aP, .slice ar e.Prefix.length au, .slice bg e.Last.length bh, .slice aQ e.Right.length aR, .slice aS e.Rules.length aT, .int .i64 e.Done] 29 (0, 0))]) w) H ⟨wc, we, wg, vl, vm, vn, vo, uY, uZ, u0, u3, uC, wh, wi, wj, vp, vq, vr, vt, u4, vu, vw, vy, u5, xZ, x2, x3, xk, xl, xm, xn, xd, xo, xp, xq, xe, ⟨rfl, rfl, trivial⟩, hO, n8, nH, ns, n9, nI, nJ, rH, qZ, q7, ah, ae, ad, ai, af, ag, hB⟩ ?_
   intro X4
   refine prE fun k4_203 => prE fun b4_204 => prE fun k4_205 => prE fun d_206 => prE fun d_212 => prE fun d_218 => prE fun d_224 => prE fun d_230 => prE fun d_236 => prE fun d_242 => prE fun d_248 => prE fun d_254 => fun m4_260 => ?_
   intro H hX4 σ He
   refine exE fun fd => exE fun fe => exE fun ff => exE fun gi => exE fun eV => exE fun eG => exE fun eH => exE fun ie => exE fun eW => exE fun eI => exE fun eK => exE fun ig => exE fun eX => exE fun eM => exE fun eN => exE fun ii => exE fun eY => exE fun eO => exE fun eP => exE fun ik => exE fun e8 => exE fun eQ => exE fun eU => exE fun il => exE fun fg => exE fun fh => exE fun fk => exE fun io => exE fun fm => exE fun fo => exE fun fq => exE fun ip => exE fun ft => exE fun fu => exE fun fv => exE fun iq => andE fun hag => andE fun hO => andE fun dB => andE fun dw => andE fun dx => andE fun dy => andE fun dz => andE fun dA => andE fun dC => andE fun dD => andE fun dE => andE fun ah => andE fun ae => andE fun ad => andE fun ai => andE fun af => andE fun ag => fun hB => ?_
   dsimp only at H
   refine Go1.keep [(1, .pointer (some ⟨B2, 0, none⟩)), (4, .pointer (some ⟨er, 0, none⟩))] hag ?_
   refine Go1.seq ?_
   refine Go1.seq ?_
   refine Go1.drawS 0 [(0, .pure), (1, .pure), (2, .pure), (3, .pure), (4, .stable), (5, .pure), (6, .stable), (7, .pure)] mixed (by kernel_rfl) ?_
   intro ML Gc
   have ma := Stp.same hO Gc
   replace dB := dB.ch ma.ch
   replace dw := dw.ch ma.ch
   replace dx := dx.ch ma.ch
   replace dy := dy.ch ma.ch
   replace dz := dz.ch ma.ch
   replace dA := dA.ch ma.ch
   replace dC := dC.ch ma.ch
   replace dD := dD.ch ma.ch
   replace dE := dE.ch ma.ch
   replace hO := ma.own
   replace ah := ah.ch ma.ch
   replace ae := ae.ch ma.ch
   replace ad := ad.ch ma.ch
   replace ai := ai.ch ma.ch
   replace af := af.ch ma.ch
   replace ag := ag.ch ma.ch
   replace hB := hB.trans ma.fr
   refine GoQ.pure rfl (op_move rfl) rfl rfl ?_
   refine GoQ.pure rfl (op_nilCheck rfl) rfl rfl ?_
   refine GoQ.pure rfl (op_fieldAddr Try.underlying72 rfl ti29 rfl (by decide)) rfl rfl ?_
   refine GoQ.pure rfl (op_fieldAddr Try.underlying29 rfl ti3 rfl (by decide)) rfl rfl ?_
   refine GoQ.stable rfl (oblk (i := 8) 0 hO rfl rfl Try.underlying3 rfl rfl) rfl rfl ?_
   refine GoQ.pure rfl (op_fieldAddr Try.underlying29 rfl ti3 rfl (by decide)) rfl rfl ?_
   refine GoQ.stable rfl (oblk (i := 8) 11 hO rfl rfl Try.underlying3 rfl rfl) rfl rfl ?_
   by_cases zg : k4_205 < e.Done
   ·replace H := ifp zg H
    refine GoQ.pure rfl (fun w => opB (op_lss rfl rfl w) (decide_eq_true zg)) rfl rfl ?_
    refine GoQ.nil ?_
    refine Go1.condT rfl rfl ?_
    refine Go1.skip ?_
    refine Go1.block ?_
    refine Go1.seq ?_
    refine Go1.region ?_
    refine GoR.op ((op_move rfl) _) rfl rfl ?_
    refine GoR.inl (vs := [.pointer (some ⟨er, 0, none⟩)]) (caps := []) rfl rfl body50 Try.func50 rfl Try.ntmps50 rfl rfl rfl ?_
    intro RhR265 hR265
    refine Go1.seq ?_
    refine Go1.region ?_
    refine GoR.op ((op_assign rfl) _) rfl rfl ?_
    refine GoR.nil ?_
    refine Go1.seq ?_
    refine Go1.drawS 0 [(0, .pure), (1, .pure), (2, .pure), (3, .pure), (4, .stable), (5, .pure), (6, .pure), (7, .pure), (8, .pure), (9, .stable), (10, .pure), (11, .pure), (12, .pure)] mixed (by kernel_rfl) ?_
    intro x4 Gd
    have mb := Stp.same hO Gd
    replace dB := dB.ch mb.ch
    replace dw := dw.ch mb.ch
    replace dx := dx.ch mb.ch
    replace dy := dy.ch mb.ch
    replace dz := dz.ch mb.ch
    replace dA := dA.ch mb.ch
    replace dC := dC.ch mb.ch
    replace dD := dD.ch mb.ch
    replace dE := dE.ch mb.ch
    replace hO := mb.own
    replace ah := ah.ch mb.ch
    replace ae := ae.ch mb.ch
    replace ad := ad.ch mb.ch
    replace ai := ai.ch mb.ch
    replace af := af.ch mb.ch
    replace ag := ag.ch mb.ch
    replace hB := hB.trans mb.fr
    refine GoQ.pure rfl (op_move rfl) rfl rfl ?_
    refine GoQ.pure rfl (op_nilCheck rfl) rfl rfl ?_
    refine GoQ.pure rfl (op_fieldAddr Try.underlying72 rfl ti29 rfl (by decide)) rfl rfl ?_
    refine GoQ.pure rfl (op_fieldAddr Try.underlying29 rfl ti3 rfl (by decide)) rfl rfl ?_
    refine GoQ.stable rfl (oblk (i := 8) 0 hO rfl rfl Try.underlying3 rfl rfl) rfl rfl ?_
    refine GoQ.pure rfl (op_move rfl) rfl rfl ?_
    refine GoQ.pure rfl (op_nilCheck rfl) rfl rfl ?_
    refine GoQ.pure rfl (op_fieldAddr Try.underlying72 rfl ti29 rfl (by decide)) rfl rfl ?_
    refine GoQ.pure rfl (op_fieldAddr Try.underlying29 rfl ti22 rfl (by decide)) rfl rfl ?_
    refine GoQ.stable rfl (oblk (i := 3) 0 hO rfl rfl Try.underlying22 rfl rfl) rfl rfl ?_
    refine GoQ.pure rfl (op_lenN Try.underlying22 rfl (dw.neq hO 2 rfl)) rfl rfl ?_
    by_cases zh : k4_205 = (d_212.length : Int)
    ·replace H := ifp zh H
     refine GoQ.pure rfl (fun w => opB (op_eql rfl rfl w) (decide_eq_true zh)) rfl rfl ?_
     refine GoQ.pure rfl (op_assign rfl) rfl rfl ?_
     refine GoQ.nil ?_
     refine Go1.ret1V Try.func50 rfl (show _ = .bool true from rfl) ?_
     refine hR265 _ _ ?_
     refine GoR.op ((op_move rfl) _) rfl rfl ?_
     refine GoR.pass rfl rfl ?_
     refine GoR.pass rfl rfl ?_
     refine GoR.pass rfl rfl ?_
     refine GoR.op ((op_pickT rfl rfl rfl) _) rfl rfl ?_
     refine GoR.nil ?_
     refine Go1.condT rfl rfl ?_
     refine Go1.seq ?_
     refine Go1.cut [] trivial ?_
     intro σ _
     refine Go1.region ?_
     refine GoR.op ((op_assign rfl) _) rfl rfl ?_
     refine GoR.op ((op_assign rfl) _) rfl rfl ?_
     refine GoR.nil ?_
     refine Go1.ret2 Try.func53 rfl ?_
     exact Or.inl ⟨false, rfl, hB.same, H⟩
    replace H := ifn zh H
    refine GoQ.pure rfl (fun w => opB (op_eql rfl rfl w) (decide_eq_false zh)) rfl rfl ?_
    refine GoQ.pure rfl (op_assign rfl) rfl rfl ?_
    refine GoQ.nil ?_
    refine Go1.ret1V Try.func50 rfl (show _ = .bool false from rfl) ?_
    refine hR265 _ _ ?_
    refine GoR.op ((op_move rfl) _) rfl rfl ?_
    refine GoR.op ((op_move rfl) _) rfl rfl ?_
    have AQ : Owns w0.heap.size x4 ([.blk er (.cells #[.int .i64 k4_203, .bool b4_204, .slice fe fd ff, .slice eG eV eH, .slice eI eW eK, .slice eM eX eN, .slice eO eY eP, .slice eQ e8 eU, .int .i64 k4_205, .map (some bC), .slice fh fg fk, .slice fo fm fq, .slice fu ft fv] 72 (0, 0)), .row 26 1 fe fd ff gi, .row 26 1 eG eV eH ie, .row 3 1 eI eW eK ig, .row 3 1 eM eX eN ii, .row 26 1 eO eY eP ik, .row 39 2 eQ e8 eU il, .row 9 1 fh fg fk io, .row 3 1 fo fm fq ip, .row 3 1 fu ft fv iq, .any (mapE (fun a : List UInt8 => Value.string (gstr a)) (fun a : Int => Value.int .i64 a) bC m4_260)] ++ [.blk B2 (.cells #[.int .i64 e.Points, .bool e.Monoid, .slice bp e.Gens.length bq, .slice aO e.Elems.length aP, .slice ar e.Prefix.length au, .slice bg e.Last.length bh, .slice aQ e.Right.length aR, .slice aS e.Rules.length aT, .int .i64 e.Done] 29 (0, 0))]) A := hO
    have Ge := Owns.split AQ
    have hca272 : Ch (bl [.blk er (.cells #[.int .i64 k4_203, .bool b4_204, .slice fe fd ff, .slice eG eV eH, .slice eI eW eK, .slice eM eX eN, .slice eO eY eP, .slice eQ e8 eU, .int .i64 k4_205, .map (some bC), .slice fh fg fk, .slice fo fm fq, .slice fu ft fv] 72 (0, 0)), .row 26 1 fe fd ff gi, .row 26 1 eG eV eH ie, .row 3 1 eI eW eK ig, .row 3 1 eM eX eN ii, .row 26 1 eO eY eP ik, .row 39 2 eQ e8 eU il, .row 9 1 fh fg fk io, .row 3 1 fo fm fq ip, .row 3 1 fu ft fv iq, .any (mapE (fun a : List UInt8 => Value.string (gstr a)) (fun a : Int => Value.int .i64 a) bC m4_260), .blk B2 (.cells #[.int .i64 e.Points, .bool e.Monoid, .slice bp e.Gens.length bq, .slice aO e.Elems.length aP, .slice ar e.Prefix.length au, .slice bg e.Last.length bh, .slice aQ e.Right.length aR, .slice aS e.Rules.length aT, .int .i64 e.Done] 29 (0, 0))] ++ A) x4 (bl [.blk er (.cells #[.int .i64 k4_203, .bool b4_204, .slice fe fd ff, .slice eG eV eH, .slice eI eW eK, .slice eM eX eN, .slice eO eY eP, .slice eQ e8 eU, .int .i64 k4_205, .map (some bC), .slice fh fg fk, .slice fo fm fq, .slice fu ft fv] 72 (0, 0)), .row 26 1 fe fd ff gi, .row 26 1 eG eV eH ie, .row 3 1 eI eW eK ig, .row 3 1 eM eX eN ii, .row 26 1 eO eY eP ik, .row 39 2 eQ e8 eU il, .row 9 1 fh fg fk io, .row 3 1 fo fm fq ip, .row 3 1 fu ft fv iq, .any (mapE (fun a : List UInt8 => Value.string (gstr a)) (fun a : Int => Value.int .i64 a) bC m4_260)] ++ (bl [.blk B2 (.cells #[.int .i64 e.Points, .bool e.Monoid, .slice bp e.Gens.length bq, .slice aO e.Elems.length aP, .slice ar e.Prefix.length au, .slice bg e.Last.length bh, .slice aQ e.Right.length aR, .slice aS e.Rules.length aT, .int .i64 e.Done] 29 (0, 0))] ++ A)) x4 := Ch.assoc' [.blk er (.cells #[.int .i64 k4_203, .bool b4_204, .slice fe fd ff, .slice eG eV eH, .slice eI eW eK, .slice eM eX eN, .slice eO eY eP, .slice eQ e8 eU, .int .i64 k4_205, .map (some bC), .slice fh fg fk, .slice fo fm fq, .slice fu ft fv] 72 (0, 0)), .row 26 1 fe fd ff gi, .row 26 1 eG eV eH ie, .row 3 1 eI eW eK ig, .row 3 1 eM eX eN ii, .row 26 1 eO eY eP ik, .row 39 2 eQ e8 eU il, .row 9 1 fh fg fk io, .row 3 1 fo fm fq ip, .row 3 1 fu ft fv iq, .any (mapE (fun a : List UInt8 => Value.string (gstr a)) (fun a : Int => Value.int .i64 a) bC m4_260)] [.blk B2 (.cells #[.int .i64 e.Points, .bool e.Monoid, .slice bp e.Gens.length bq, .slice aO e.Elems.length aP, .slice ar e.Prefix.length au, .slice bg e.Last.length bh, .slice aQ e.Right.length aR, .slice aS e.Rules.length aT, .int .i64 e.Done] 29 (0, 0))] A x4
    refine GoR.call (op_call body51 rfl (walk_enumerate_run_process (a0 := (⟨(⟨k4_203, b4_204, d_206, d_212, d_218, d_224, d_230, d_236, k4_205⟩ : Enum), m4_260, d_242, d_248, d_254⟩ : run)) Ge (dB.ch hca272) (dw.ch hca272) (dx.ch hca272) (dy.ch hca272) (dz.ch hca272) (dA.ch hca272) (dC.ch hca272) (dD.ch hca272) (dE.ch hca272) H)) rfl rfl ?_
    intro MM zi
    refine exE fun r273 => exE fun q274 => exE fun ir => exE fun iu => exE fun iv => exE fun mW => exE fun gC => exE fun gD => exE fun gE => exE fun mc => exE fun f6 => exE fun f7 => exE fun f8 => exE fun lw => exE fun iw => exE fun iA => exE fun iB => exE fun mX => exE fun gF => exE fun gG => exE fun gH => exE fun me => exE fun gI => exE fun gJ => exE fun gK => exE fun mf => exE fun kO => exE fun kP => exE fun kQ => exE fun qd => exE fun jG => exE fun jH => exE fun jI => exE fun oD => exE fun jJ => exE fun jK => exE fun jL => exE fun oE => andE fun hv280 => andE fun hN277 => andE fun rh => andE fun qQ => andE fun qn => andE fun ri => andE fun qR => andE fun qS => andE fun sX => andE fun sm => andE fun sn => andE fun hF278 => fun H => ?_
    subst hv280
    have sK : Stp w0.heap.size A x4 [.blk er (.cells #[.int .i64 k4_203, .bool b4_204, .slice fe fd ff, .slice eG eV eH, .slice eI eW eK, .slice eM eX eN, .slice eO eY eP, .slice eQ e8 eU, .int .i64 k4_205, .map (some bC), .slice fh fg fk, .slice fo fm fq, .slice fu ft fv] 72 (0, 0)), .row 26 1 fe fd ff gi, .row 26 1 eG eV eH ie, .row 3 1 eI eW eK ig, .row 3 1 eM eX eN ii, .row 26 1 eO eY eP ik, .row 39 2 eQ e8 eU il, .row 9 1 fh fg fk io, .row 3 1 fo fm fq ip, .row 3 1 fu ft fv iq, .any (mapE (fun a : List UInt8 => Value.string (gstr a)) (fun a : Int => Value.int .i64 a) bC m4_260), .blk B2 (.cells #[.int .i64 e.Points, .bool e.Monoid, .slice bp e.Gens.length bq, .slice aO e.Elems.length aP, .slice ar e.Prefix.length au, .slice bg e.Last.length bh, .slice aQ e.Right.length aR, .slice aS e.Rules.length aT, .int .i64 e.Done] 29 (0, 0))] zi [.blk er (.cells #[.int .i64 q274.Enum.Points, .bool q274.Enum.Monoid, .slice iu ir iv, .slice gD gC gE, .slice f7 f6 f8, .slice iA iw iB, .slice gG gF gH, .slice gJ gI gK, .int .i64 q274.Enum.Done, .map (some bC), .slice kP kO kQ, .slice jH jG jI, .slice jK jJ jL] 72 (0, 0)), .row 26 1 iu ir iv mW, .row 26 1 gD gC gE mc, .row 3 1 f7 f6 f8 lw, .row 3 1 iA iw iB mX, .row 26 1 gG gF gH me, .row 39 2 gJ gI gK mf, .row 9 1 kP kO kQ qd, .row 3 1 jH jG jI oD, .row 3 1 jK jJ jL oE, .any (mapE (fun a : List UInt8 => Value.string (gstr a)) (fun a : Int => Value.int .i64 a) bC q274.number), .blk B2 (.cells #[.int .i64 e.Points, .bool e.Monoid, .slice bp e.Gens.length bq, .slice aO e.Elems.length aP, .slice ar e.Prefix.length au, .slice bg e.Last.length bh, .slice aQ e.Right.length aR, .slice aS e.Rules.length aT, .int .i64 e.Done] 29 (0, 0))] := Stp.join AQ hN277 hF278
    replace hO := sK.own
    replace ah := ah.ch sK.ch
    replace ae := ae.ch sK.ch
    replace ad := ad.ch sK.ch
    replace ai := ai.ch sK.ch
    replace af := af.ch sK.ch
    replace ag := ag.ch sK.ch
    replace hB := hB.trans sK.fr
    have hca281 : Ch (bl [.blk er (.cells #[.int .i64 q274.Enum.Points, .bool q274.Enum.Monoid, .slice iu ir iv, .slice gD gC gE, .slice f7 f6 f8, .slice iA iw iB, .slice gG gF gH, .slice gJ gI gK, .int .i64 q274.Enum.Done, .map (some bC), .slice kP kO kQ, .slice jH jG jI, .slice jK jJ jL] 72 (0, 0)), .row 26 1 iu ir iv mW, .row 26 1 gD gC gE mc, .row 3 1 f7 f6 f8 lw, .row 3 1 iA iw iB mX, .row 26 1 gG gF gH me, .row 39 2 gJ gI gK mf, .row 9 1 kP kO kQ qd, .row 3 1 jH jG jI oD, .row 3 1 jK jJ jL oE, .any (mapE (fun a : List UInt8 => Value.string (gstr a)) (fun a : Int => Value.int .i64 a) bC q274.number)] ++ (bl [.blk B2 (.cells #[.int .i64 e.Points, .bool e.Monoid, .slice bp e.Gens.length bq, .slice aO e.Elems.length aP, .slice ar e.Prefix.length au, .slice bg e.Last.length bh, .slice aQ e.Right.length aR, .slice aS e.Rules.length aT, .int .i64 e.Done] 29 (0, 0))] ++ A)) zi (bl [.blk er (.cells #[.int .i64 q274.Enum.Points, .bool q274.Enum.Monoid, .slice iu ir iv, .slice gD gC gE, .slice f7 f6 f8, .slice iA iw iB, .slice gG gF gH, .slice gJ gI gK, .int .i64 q274.Enum.Done, .map (some bC), .slice kP kO kQ, .slice jH jG jI, .slice jK jJ jL] 72 (0, 0)), .row 26 1 iu ir iv mW, .row 26 1 gD gC gE mc, .row 3 1 f7 f6 f8 lw, .row 3 1 iA iw iB mX, .row 26 1 gG gF gH me, .row 39 2 gJ gI gK mf, .row 9 1 kP kO kQ qd, .row 3 1 jH jG jI oD, .row 3 1 jK jJ jL oE, .any (mapE (fun a : List UInt8 => Value.string (gstr a)) (fun a : Int => Value.int .i64 a) bC q274.number), .blk B2 (.cells #[.int .i64 e.Points, .bool e.Monoid, .slice bp e.Gens.length bq, .slice aO e.Elems.length aP, .slice ar e.Prefix.length au, .slice bg e.Last.length bh, .slice aQ e.Right.length aR, .slice aS e.Rules.length aT, .int .i64 e.Done] 29 (0, 0))] ++ A) zi := Ch.assoc [.blk er (.cells #[.int .i64 q274.Enum.Points, .bool q274.Enum.Monoid, .slice iu ir iv, .slice gD gC gE, .slice f7 f6 f8, .slice iA iw iB, .slice gG gF gH, .slice gJ gI gK, .int .i64 q274.Enum.Done, .map (some bC), .slice kP kO kQ, .slice jH jG jI, .slice jK jJ jL] 72 (0, 0)), .row 26 1 iu ir iv mW, .row 26 1 gD gC gE mc, .row 3 1 f7 f6 f8 lw, .row 3 1 iA iw iB mX, .row 26 1 gG gF gH me, .row 39 2 gJ gI gK mf, .row 9 1 kP kO kQ qd, .row 3 1 jH jG jI oD, .row 3 1 jK jJ jL oE, .any (mapE (fun a : List UInt8 => Value.string (gstr a)) (fun a : Int => Value.int .i64 a) bC q274.number)] [.blk B2 (.cells #[.int .i64 e.Points, .bool e.Monoid, .slice bp e.Gens.length bq, .slice aO e.Elems.length aP, .slice ar e.Prefix.length au, .slice bg e.Last.length bh, .slice aQ e.Right.length aR, .slice aS e.Rules.length aT, .int .i64 e.Done] 29 (0, 0))] A zi
    replace rh := rh.ch hca281
    replace qQ := qQ.ch hca281
    replace qn := qn.ch hca281
    replace ri := ri.ch hca281
    replace qR := qR.ch hca281
    replace qS := qS.ch hca281
    replace sX := sX.ch hca281
    replace sm := sm.ch hca281
    replace sn := sn.ch hca281
    by_cases zj : r273 = (0 : Int)
    ·replace H := ifp zj H
     refine GoR.op ((fun w => opB (op_neq rfl rfl w) (ndT zj)) _) rfl rfl ?_
     refine GoR.op ((op_pickF rfl rfl rfl) _) rfl rfl ?_
     refine GoR.nil ?_
     refine Go1.condF rfl rfl ?_
     refine Go1.skip ?_
     refine Go1.inBlock ?_
     exact hX4 _ H _ _ ⟨ir, iu, iv, mW, gC, gD, gE, mc, f6, f7, f8, lw, iw, iA, iB, mX, gF, gG, gH, me, gI, gJ, gK, mf, kO, kP, kQ, qd, jG, jH, jI, oD, jJ, jK, jL, oE, ⟨rfl, rfl, trivial⟩, hO, rh, qQ, qn, ri, qR, qS, sX, sm, sn, ah, ae, ad, ai, af, ag, hB⟩
    replace H := ifn zj H
    refine GoR.op ((fun w => opB (op_neq rfl rfl w) (ndF zj)) _) rfl rfl ?_
    refine GoR.op ((op_pickF rfl rfl rfl) _) rfl rfl ?_
    refine GoR.nil ?_
    refine Go1.condT rfl rfl ?_
    refine Go1.seq ?_
    refine Go1.region ?_
    refine GoR.op ((op_assign rfl) _) rfl rfl ?_
    refine GoR.op ((op_assign rfl) _) rfl rfl ?_
    refine GoR.nil ?_
    refine Go1.ret2 Try.func53 rfl ?_
    exact Or.inl ⟨false, rfl, hB.same, H⟩
   replace H := ifn zg H
   refine GoQ.pure rfl (fun w => opB (op_lss rfl rfl w) (decide_eq_false zg)) rfl rfl ?_
   refine GoQ.nil ?_
   refine Go1.condF rfl rfl ?_
   refine Go1.exit rfl ?_
   refine Go1.seq ?_
   refine Go1.region ?_
   refine GoR.op ((op_move rfl) _) rfl rfl ?_
   refine GoR.op ((op_move rfl) _) rfl rfl ?_
   refine GoR.op ((oblkAgg (vs := [.int .i64 e.Points, .bool e.Monoid, .slice bp e.Gens.length bq, .slice aO e.Elems.length aP, .slice ar e.Prefix.length au, .slice bg e.Last.length bh, .slice aQ e.Right.length aR, .slice aS e.Rules.length aT, .int .i64 e.Done]) (i := 0) 11 hO rfl rfl Try.underlying29 rfl ti29 rfl) _ (Same.refl _)) rfl rfl ?_
   refine GoR.inl (vs := [.pointer (some ⟨er, 0, none⟩), .agg #[.int .i64 e.Points, .bool e.Monoid, .slice bp e.Gens.length bq, .slice aO e.Elems.length aP, .slice ar e.Prefix.length au, .slice bg e.Last.length bh, .slice aQ e.Right.length aR, .slice aS e.Rules.length aT, .int .i64 e.Done]]) (caps := []) rfl rfl body68 Try.func68 rfl Try.ntmps68 rfl rfl rfl ?_
   intro RhR283 hR283
   refine Go1.seq ?_
   refine Go1.region ?_
   have hobt := obox (t := 29) (v := .agg #[.int .i64 e.Points, .bool e.Monoid, .slice bp e.Gens.length bq, .slice aO e.Elems.length aP, .slice ar e.Prefix.length au, .slice bg e.Last.length bh, .slice aQ e.Right.length aR, .slice aS e.Rules.length aT, .int .i64 e.Done]) (cs := #[.int .i64 e.Points, .bool e.Monoid, .slice bp e.Gens.length bq, .slice aO e.Elems.length aP, .slice ar e.Prefix.length au, .slice bg e.Last.length bh, .slice aQ e.Right.length aR, .slice aS e.Rules.length aT, .int .i64 e.Done]) hO rfl
   obtain ⟨Hj, B285, mg, Jv, C4⟩ := hobt
   refine GoR.op (C4 rfl) rfl rfl ?_
   replace dB := dB.ch mg.ch
   replace dw := dw.ch mg.ch
   replace dx := dx.ch mg.ch
   replace dy := dy.ch mg.ch
   replace dz := dz.ch mg.ch
   replace dA := dA.ch mg.ch
   replace dC := dC.ch mg.ch
   replace dD := dD.ch mg.ch
   replace dE := dE.ch mg.ch
   replace hO := mg.own
   replace ah := ah.ch mg.ch
   replace ae := ae.ch mg.ch
   replace ad := ad.ch mg.ch
   replace ai := ai.ch mg.ch
   replace af := af.ch mg.ch
   replace ag := ag.ch mg.ch
   replace hB := hB.trans mg.fr
   refine GoR.op ((op_assign rfl) _) rfl rfl ?_
   refine GoR.nil ?_
   refine Go1.seq ?_
   refine Go1.drawS 0 [(0, .pure), (1, .pure), (2, .pure), (3, .pure), (4, .stable), (5, .pure), (6, .stable), (7, .pure), (8, .pure), (9, .pure), (10, .pure), (11, .pure), (12, .pure), (13, .stable), (14, .pure), (15, .stable), (16, .pure), (17, .pure), (18, .pure), (19, .pure), (20, .pure), (21, .pure), (22, .pure), (23, .stable), (24, .pure), (25, .stable), (26, .loud), (27, .pure), (28, .pure), (29, .pure), (30, .pure), (31, .pure), (32, .pure), (33, .stable), (34, .pure), (35, .stable), (36, .loud), (37, .pure), (38, .pure), (39, .pure), (40, .pure), (41, .pure), (42, .pure), (43, .stable), (44, .pure), (45, .stable), (46, .loud), (47, .pure), (48, .pure), (49, .pure), (50, .pure), (51, .pure), (52, .pure), (53, .stable), (54, .pure), (55, .stable), (56, .loud), (57, .pure), (58, .pure), (59, .pure), (60, .pure), (61, .pure), (62, .pure), (63, .stable), (64, .pure), (65, .stable), (66, .loud), (67, .pure), (68, .pure)] mixed (by kernel_rfl) ?_
   intro MN Gf
   have mh := Stp.same hO Gf
   replace dB := dB.ch mh.ch
   replace dw := dw.ch mh.ch
   replace dx := dx.ch mh.ch
   replace dy := dy.ch mh.ch
   replace dz := dz.ch mh.ch
   replace dA := dA.ch mh.ch
   replace dC := dC.ch mh.ch
   replace dD := dD.ch mh.ch
   replace dE := dE.ch mh.ch
   replace hO := mh.own
   replace ah := ah.ch mh.ch
   replace ae := ae.ch mh.ch
   replace ad := ad.ch mh.ch
   replace ai := ai.ch mh.ch
   replace af := af.ch mh.ch
   replace ag := ag.ch mh.ch
   replace hB := hB.trans mh.fr
   refine GoQ.pure rfl (op_move rfl) rfl rfl ?_
   refine GoQ.pure rfl (op_nilCheck rfl) rfl rfl ?_
   refine GoQ.pure rfl (op_fieldAddr Try.underlying72 rfl ti29 rfl (by decide)) rfl rfl ?_
   refine GoQ.pure rfl (op_fieldAddr Try.underlying29 rfl ti3 rfl (by decide)) rfl rfl ?_
   refine GoQ.stable rfl (oblk (i := 0) 1 hO rfl rfl Try.underlying3 rfl rfl) rfl rfl ?_
   refine GoQ.pure rfl (op_fieldAddr Try.underlying29 rfl ti3 rfl (by decide)) rfl rfl ?_
   refine GoQ.stable rfl (oblk (i := 0) 0 hO rfl rfl Try.underlying3 rfl rfl) rfl rfl ?_
   by_cases zk : k4_203 = e.Points
   ·replace H := ifp zk H
    refine GoQ.pure rfl (fun w => opB (op_eql rfl rfl w) (decide_eq_true zk)) rfl rfl ?_
    refine GoQ.pure rfl (op_move rfl) rfl rfl ?_
    refine GoQ.pure rfl (op_move rfl) rfl rfl ?_
    refine GoQ.pure rfl (op_nilCheck rfl) rfl rfl ?_
    refine GoQ.pure rfl (op_fieldAddr Try.underlying72 rfl ti29 rfl (by decide)) rfl rfl ?_
    refine GoQ.pure rfl (op_fieldAddr Try.underlying29 rfl ti3 rfl (by decide)) rfl rfl ?_
    refine GoQ.stable rfl (oblk (i := 8) 1 hO rfl rfl Try.underlying3 rfl rfl) rfl rfl ?_
    refine GoQ.pure rfl (op_fieldAddr Try.underlying29 rfl ti3 rfl (by decide)) rfl rfl ?_
    refine GoQ.stable rfl (oblk (i := 8) 0 hO rfl rfl Try.underlying3 rfl rfl) rfl rfl ?_
    by_cases zl : k4_205 = e.Done
    ·replace H := ifp zl H
     refine GoQ.pure rfl (fun w => opB (op_eql rfl rfl w) (decide_eq_true zl)) rfl rfl ?_
     refine GoQ.pure rfl (op_pickT rfl rfl rfl) rfl rfl ?_
     refine GoQ.pure rfl (op_move rfl) rfl rfl ?_
     refine GoQ.pure rfl (op_move rfl) rfl rfl ?_
     refine GoQ.pure rfl (op_nilCheck rfl) rfl rfl ?_
     refine GoQ.pure rfl (op_fieldAddr Try.underlying72 rfl ti29 rfl (by decide)) rfl rfl ?_
     refine GoQ.pure rfl (op_fieldAddr Try.underlying29 rfl ti22 rfl (by decide)) rfl rfl ?_
     refine GoQ.stable rfl (oblk (i := 3) 1 hO rfl rfl Try.underlying22 rfl rfl) rfl rfl ?_
     refine GoQ.pure rfl (op_fieldAddr Try.underlying29 rfl ti22 rfl (by decide)) rfl rfl ?_
     refine GoQ.stable rfl (oblk (i := 3) 0 hO rfl rfl Try.underlying22 rfl rfl) rfl rfl ?_
     have hobt := rowlend 3 hO rfl dw
     obtain ⟨Gg, Gh⟩ := hobt
     have hOc297 := hO.drop 3
     refine GoQ.call rfl (op_call body69 (show ([.slice eG eV eH, .slice aO e.Elems.length aP, .func (.func 70) #[] #[]] : List Value) = [.slice eG d_212.length eH, .slice aO e.Elems.length aP, .func (.func 70) #[] #[]] from by rw [← Gh]) (walk_slices_EqualFunc_int hOc297.lt Gg (ae.ch (Owns.dropCh _ _ 3)) H)) (fun v w hr => by obtain ⟨_, _, hs, _⟩ := hr; assumption) rfl rfl ?_
     rintro MO MP ⟨r298, rfl, AI, H⟩
     have mj := Stp.same hO AI
     replace dB := dB.ch mj.ch
     replace dw := dw.ch mj.ch
     replace dx := dx.ch mj.ch
     replace dy := dy.ch mj.ch
     replace dz := dz.ch mj.ch
     replace dA := dA.ch mj.ch
     replace dC := dC.ch mj.ch
     replace dD := dD.ch mj.ch
     replace dE := dE.ch mj.ch
     replace hO := mj.own
     replace ah := ah.ch mj.ch
     replace ae := ae.ch mj.ch
     replace ad := ad.ch mj.ch
     replace ai := ai.ch mj.ch
     replace af := af.ch mj.ch
     replace ag := ag.ch mj.ch
     replace hB := hB.trans mj.fr
     refine GoQ.pure rfl (op_pickT rfl rfl rfl) rfl rfl ?_
     refine GoQ.pure rfl (op_move rfl) rfl rfl ?_
     cases r298
     ·replace H := ifn Bool.false_ne_true H
      refine GoQ.pass rfl rfl rfl ?_
      refine GoQ.pass rfl rfl rfl ?_
      refine GoQ.pass rfl rfl rfl ?_
      refine GoQ.pass rfl rfl rfl ?_
      refine GoQ.pass rfl rfl rfl ?_
      refine GoQ.pass rfl rfl rfl ?_
      refine GoQ.pass rfl rfl rfl ?_
      refine GoQ.pass rfl rfl rfl ?_
      refine GoQ.pure rfl (op_pickF rfl rfl rfl) rfl rfl ?_
      refine GoQ.pure rfl (op_move rfl) rfl rfl ?_
      refine GoQ.pass rfl rfl rfl ?_
      refine GoQ.pass rfl rfl rfl ?_
      refine GoQ.pass rfl rfl rfl ?_
      refine GoQ.pass rfl rfl rfl ?_
      refine GoQ.pass rfl rfl rfl ?_
      refine GoQ.pass rfl rfl rfl ?_
      refine GoQ.pass rfl rfl rfl ?_
      refine GoQ.pass rfl rfl rfl ?_
      refine GoQ.pure rfl (op_pickF rfl rfl rfl) rfl rfl ?_
      refine GoQ.pure rfl (op_move rfl) rfl rfl ?_
      refine GoQ.pass rfl rfl rfl ?_
      refine GoQ.pass rfl rfl rfl ?_
      refine GoQ.pass rfl rfl rfl ?_
      refine GoQ.pass rfl rfl rfl ?_
      refine GoQ.pass rfl rfl rfl ?_
      refine GoQ.pass rfl rfl rfl ?_
      refine GoQ.pass rfl rfl rfl ?_
      refine GoQ.pass rfl rfl rfl ?_
      refine GoQ.pure rfl (op_pickF rfl rfl rfl) rfl rfl ?_
      refine GoQ.pure rfl (op_move rfl) rfl rfl ?_
      refine GoQ.pass rfl rfl rfl ?_
      refine GoQ.pass rfl rfl rfl ?_
      refine GoQ.pass rfl rfl rfl ?_
      refine GoQ.pass rfl rfl rfl ?_
      refine GoQ.pass rfl rfl rfl ?_
      refine GoQ.pass rfl rfl rfl ?_
      refine GoQ.pass rfl rfl rfl ?_
      refine GoQ.pass rfl rfl rfl ?_
      refine GoQ.pure rfl (op_pickF rfl rfl rfl) rfl rfl ?_
      refine GoQ.pure rfl (op_assign rfl) rfl rfl ?_
      refine GoQ.nil ?_
      refine Go1.ret1V Try.func68 rfl (show _ = .bool false from rfl) ?_
      refine hR283 _ _ ?_
      refine GoR.op ((op_assign rfl) _) rfl rfl ?_
      refine GoR.op ((op_assign rfl) _) rfl rfl ?_
      refine GoR.nil ?_
      replace ah := ah.ch (Owns.dropCh _ _ 0)
      replace ae := ae.ch (Owns.dropCh _ _ 0)
      replace ad := ad.ch (Owns.dropCh _ _ 0)
      replace ai := ai.ch (Owns.dropCh _ _ 0)
      replace af := af.ch (Owns.dropCh _ _ 0)
      replace ag := ag.ch (Owns.dropCh _ _ 0)
      replace dB := dB.ch (Owns.dropCh _ _ 0)
      replace dw := dw.ch (Owns.dropCh _ _ 0)
      replace dx := dx.ch (Owns.dropCh _ _ 0)
      replace dy := dy.ch (Owns.dropCh _ _ 0)
      replace dz := dz.ch (Owns.dropCh _ _ 0)
      replace dA := dA.ch (Owns.dropCh _ _ 0)
      replace dC := dC.ch (Owns.dropCh _ _ 0)
      replace dD := dD.ch (Owns.dropCh _ _ 0)
      replace dE := dE.ch (Owns.dropCh _ _ 0)
      replace hB := hB.trans (Owns.dropFr _ _ 0)
      replace hO := hO.drop 0
      dsimp only [eS, eZ] at hB hO ah ae ad ai af ag dB dw dx dy dz dA dC dD dE
      replace ah := ah.ch (Owns.dropCh _ _ 11)
      replace ae := ae.ch (Owns.dropCh _ _ 11)
      replace ad := ad.ch (Owns.dropCh _ _ 11)
      replace ai := ai.ch (Owns.dropCh _ _ 11)
      replace af := af.ch (Owns.dropCh _ _ 11)
      replace ag := ag.ch (Owns.dropCh _ _ 11)
      replace dB := dB.ch (Owns.dropCh _ _ 11)
      replace dw := dw.ch (Owns.dropCh _ _ 11)
      replace dx := dx.ch (Owns.dropCh _ _ 11)
      replace dy := dy.ch (Owns.dropCh _ _ 11)
      replace dz := dz.ch (Owns.dropCh _ _ 11)
      replace dA := dA.ch (Owns.dropCh _ _ 11)
      replace dC := dC.ch (Owns.dropCh _ _ 11)
      replace dD := dD.ch (Owns.dropCh _ _ 11)
      replace dE := dE.ch (Owns.dropCh _ _ 11)
      replace hB := hB.trans (Owns.dropFr _ _ 11)
      replace hO := hO.drop 11
      dsimp only [eS, eZ] at hB hO ah ae ad ai af ag dB dw dx dy dz dA dC dD dE
      refine Go1.ret2 Try.func53 rfl ?_
      exact Or.inr ⟨(⟨(⟨k4_203, b4_204, d_206, d_212, d_218, d_224, d_230, d_236, k4_205⟩ : Enum), m4_260, d_242, d_248, d_254⟩ : run), false, er, fd, fe, ff, gi, eV, eG, eH, ie, eW, eI, eK, ig, eX, eM, eN, ii, eY, eO, eP, ik, e8, eQ, eU, il, bC, fg, fh, fk, io, fm, fo, fq, ip, ft, fu, fv, iq, rfl, hB.same, hO, dB, dw, dx, dy, dz, dA, dC, dD, dE, H⟩
     replace H := ifp rfl H
     refine GoQ.pure rfl (op_move rfl) rfl rfl ?_
     refine GoQ.pure rfl (op_nilCheck rfl) rfl rfl ?_
     refine GoQ.pure rfl (op_fieldAddr Try.underlying72 rfl ti29 rfl (by decide)) rfl rfl ?_
     refine GoQ.pure rfl (op_fieldAddr Try.underlying29 rfl ti26 rfl (by decide)) rfl rfl ?_
     refine GoQ.stable rfl (oblk (i := 4) 1 hO rfl rfl Try.underlying26 rfl rfl) rfl rfl ?_
     refine GoQ.pure rfl (op_fieldAddr Try.underlying29 rfl ti26 rfl (by decide)) rfl rfl ?_
     refine GoQ.stable rfl (oblk (i := 4) 0 hO rfl rfl Try.underlying26 rfl rfl) rfl rfl ?_
     have hobt := rowlend 4 hO rfl dx
     obtain ⟨Gi, Gj⟩ := hobt
     have hOc306 := hO.drop 4
     refine GoQ.call rfl (op_call body70 (show ([.slice eI eW eK, .slice ar e.Prefix.length au] : List Value) = [.slice eI d_218.length eK, .slice ar e.Prefix.length au] from by rw [← Gj]) (walk_slices_Equal_int hOc306.lt Gi (ad.ch (Owns.dropCh _ _ 4)) H)) (fun v w hr => by obtain ⟨_, _, hs, _⟩ := hr; assumption) rfl rfl ?_
     rintro MQ MR ⟨r307, rfl, Gk, H⟩
     have ml := Stp.same hO Gk
     replace dB := dB.ch ml.ch
     replace dw := dw.ch ml.ch
     replace dx := dx.ch ml.ch
     replace dy := dy.ch ml.ch
     replace dz := dz.ch ml.ch
     replace dA := dA.ch ml.ch
     replace dC := dC.ch ml.ch
     replace dD := dD.ch ml.ch
     replace dE := dE.ch ml.ch
     replace hO := ml.own
     replace ah := ah.ch ml.ch
     replace ae := ae.ch ml.ch
     replace ad := ad.ch ml.ch
     replace ai := ai.ch ml.ch
     replace af := af.ch ml.ch
     replace ag := ag.ch ml.ch
     replace hB := hB.trans ml.fr
     refine GoQ.pure rfl (op_pickT rfl rfl rfl) rfl rfl ?_
     refine GoQ.pure rfl (op_move rfl) rfl rfl ?_
     cases r307
     ·replace H := ifn Bool.false_ne_true H
      refine GoQ.pass rfl rfl rfl ?_
      refine GoQ.pass rfl rfl rfl ?_
      refine GoQ.pass rfl rfl rfl ?_
      refine GoQ.pass rfl rfl rfl ?_
      refine GoQ.pass rfl rfl rfl ?_
      refine GoQ.pass rfl rfl rfl ?_
      refine GoQ.pass rfl rfl rfl ?_
      refine GoQ.pass rfl rfl rfl ?_
      refine GoQ.pure rfl (op_pickF rfl rfl rfl) rfl rfl ?_
      refine GoQ.pure rfl (op_move rfl) rfl rfl ?_
      refine GoQ.pass rfl rfl rfl ?_
      refine GoQ.pass rfl rfl rfl ?_
      refine GoQ.pass rfl rfl rfl ?_
      refine GoQ.pass rfl rfl rfl ?_
      refine GoQ.pass rfl rfl rfl ?_
      refine GoQ.pass rfl rfl rfl ?_
      refine GoQ.pass rfl rfl rfl ?_
      refine GoQ.pass rfl rfl rfl ?_
      refine GoQ.pure rfl (op_pickF rfl rfl rfl) rfl rfl ?_
      refine GoQ.pure rfl (op_move rfl) rfl rfl ?_
      refine GoQ.pass rfl rfl rfl ?_
      refine GoQ.pass rfl rfl rfl ?_
      refine GoQ.pass rfl rfl rfl ?_
      refine GoQ.pass rfl rfl rfl ?_
      refine GoQ.pass rfl rfl rfl ?_
      refine GoQ.pass rfl rfl rfl ?_
      refine GoQ.pass rfl rfl rfl ?_
      refine GoQ.pass rfl rfl rfl ?_
      refine GoQ.pure rfl (op_pickF rfl rfl rfl) rfl rfl ?_
      refine GoQ.pure rfl (op_assign rfl) rfl rfl ?_
      refine GoQ.nil ?_
      refine Go1.ret1V Try.func68 rfl (show _ = .bool false from rfl) ?_
      refine hR283 _ _ ?_
      refine GoR.op ((op_assign rfl) _) rfl rfl ?_
      refine GoR.op ((op_assign rfl) _) rfl rfl ?_
      refine GoR.nil ?_
      replace ah := ah.ch (Owns.dropCh _ _ 0)
      replace ae := ae.ch (Owns.dropCh _ _ 0)
      replace ad := ad.ch (Owns.dropCh _ _ 0)
      replace ai := ai.ch (Owns.dropCh _ _ 0)
      replace af := af.ch (Owns.dropCh _ _ 0)
      replace ag := ag.ch (Owns.dropCh _ _ 0)
      replace dB := dB.ch (Owns.dropCh _ _ 0)
      replace dw := dw.ch (Owns.dropCh _ _ 0)
      replace dx := dx.ch (Owns.dropCh _ _ 0)
      replace dy := dy.ch (Owns.dropCh _ _ 0)
      replace dz := dz.ch (Owns.dropCh _ _ 0)
      replace dA := dA.ch (Owns.dropCh _ _ 0)
      replace dC := dC.ch (Owns.dropCh _ _ 0)
      replace dD := dD.ch (Owns.dropCh _ _ 0)
      replace dE := dE.ch (Owns.dropCh _ _ 0)
      replace hB := hB.trans (Owns.dropFr _ _ 0)
      replace hO := hO.drop 0
      dsimp only [eS, eZ] at hB hO ah ae ad ai af ag dB dw dx dy dz dA dC dD dE
      replace ah := ah.ch (Owns.dropCh _ _ 11)
      replace ae := ae.ch (Owns.dropCh _ _ 11)
      replace ad := ad.ch (Owns.dropCh _ _ 11)
      replace ai := ai.ch (Owns.dropCh _ _ 11)
      replace af := af.ch (Owns.dropCh _ _ 11)
      replace ag := ag.ch (Owns.dropCh _ _ 11)
      replace dB := dB.ch (Owns.dropCh _ _ 11)
      replace dw := dw.ch (Owns.dropCh _ _ 11)
      replace dx := dx.ch (Owns.dropCh _ _ 11)
      replace dy := dy.ch (Owns.dropCh _ _ 11)
      replace dz := dz.ch (Owns.dropCh _ _ 11)
      replace dA := dA.ch (Owns.dropCh _ _ 11)
      replace dC := dC.ch (Owns.dropCh _ _ 11)
      replace dD := dD.ch (Owns.dropCh _ _ 11)
      replace dE := dE.ch (Owns.dropCh _ _ 11)
      replace hB := hB.trans (Owns.dropFr _ _ 11)
      replace hO := hO.drop 11
      dsimp only [eS, eZ] at hB hO ah ae ad ai af ag dB dw dx dy dz dA dC dD dE
      refine Go1.ret2 Try.func53 rfl ?_
      exact Or.inr ⟨(⟨(⟨k4_203, b4_204, d_206, d_212, d_218, d_224, d_230, d_236, k4_205⟩ : Enum), m4_260, d_242, d_248, d_254⟩ : run), false, er, fd, fe, ff, gi, eV, eG, eH, ie, eW, eI, eK, ig, eX, eM, eN, ii, eY, eO, eP, ik, e8, eQ, eU, il, bC, fg, fh, fk, io, fm, fo, fq, ip, ft, fu, fv, iq, rfl, hB.same, hO, dB, dw, dx, dy, dz, dA, dC, dD, dE, H⟩
     replace H := ifp rfl H
     refine GoQ.pure rfl (op_move rfl) rfl rfl ?_
     refine GoQ.pure rfl (op_nilCheck rfl) rfl rfl ?_
     refine GoQ.pure rfl (op_fieldAddr Try.underlying72 rfl ti29 rfl (by decide)) rfl rfl ?_
     refine GoQ.pure rfl (op_fieldAddr Try.underlying29 rfl ti26 rfl (by decide)) rfl rfl ?_
     refine GoQ.stable rfl (oblk (i := 5) 1 hO rfl rfl Try.underlying26 rfl rfl) rfl rfl ?_
     refine GoQ.pure rfl (op_fieldAddr Try.underlying29 rfl ti26 rfl (by decide)) rfl rfl ?_
     refine GoQ.stable rfl (oblk (i := 5) 0 hO rfl rfl Try.underlying26 rfl rfl) rfl rfl ?_
     have hobt := rowlend 5 hO rfl dy
     obtain ⟨Gl, Gm⟩ := hobt
     have hOc315 := hO.drop 5
     refine GoQ.call rfl (op_call body70 (show ([.slice eM eX eN, .slice bg e.Last.length bh] : List Value) = [.slice eM d_224.length eN, .slice bg e.Last.length bh] from by rw [← Gm]) (walk_slices_Equal_int hOc315.lt Gl (ai.ch (Owns.dropCh _ _ 5)) H)) (fun v w hr => by obtain ⟨_, _, hs, _⟩ := hr; assumption) rfl rfl ?_
     rintro MS Hl ⟨r316, rfl, Gn, H⟩
     have mm := Stp.same hO Gn
     replace dB := dB.ch mm.ch
     replace dw := dw.ch mm.ch
     replace dx := dx.ch mm.ch
     replace dy := dy.ch mm.ch
     replace dz := dz.ch mm.ch
     replace dA := dA.ch mm.ch
     replace dC := dC.ch mm.ch
     replace dD := dD.ch mm.ch
     replace dE := dE.ch mm.ch
     replace hO := mm.own
     replace ah := ah.ch mm.ch
     replace ae := ae.ch mm.ch
     replace ad := ad.ch mm.ch
     replace ai := ai.ch mm.ch
     replace af := af.ch mm.ch
     replace ag := ag.ch mm.ch
     replace hB := hB.trans mm.fr
     refine GoQ.pure rfl (op_pickT rfl rfl rfl) rfl rfl ?_
     refine GoQ.pure rfl (op_move rfl) rfl rfl ?_
     cases r316
     ·replace H := ifn Bool.false_ne_true H
      refine GoQ.pass rfl rfl rfl ?_
      refine GoQ.pass rfl rfl rfl ?_
      refine GoQ.pass rfl rfl rfl ?_
      refine GoQ.pass rfl rfl rfl ?_
      refine GoQ.pass rfl rfl rfl ?_
      refine GoQ.pass rfl rfl rfl ?_
      refine GoQ.pass rfl rfl rfl ?_
      refine GoQ.pass rfl rfl rfl ?_
      refine GoQ.pure rfl (op_pickF rfl rfl rfl) rfl rfl ?_
      refine GoQ.pure rfl (op_move rfl) rfl rfl ?_
      refine GoQ.pass rfl rfl rfl ?_
      refine GoQ.pass rfl rfl rfl ?_
      refine GoQ.pass rfl rfl rfl ?_
      refine GoQ.pass rfl rfl rfl ?_
      refine GoQ.pass rfl rfl rfl ?_
      refine GoQ.pass rfl rfl rfl ?_
      refine GoQ.pass rfl rfl rfl ?_
      refine GoQ.pass rfl rfl rfl ?_
      refine GoQ.pure rfl (op_pickF rfl rfl rfl) rfl rfl ?_
      refine GoQ.pure rfl (op_assign rfl) rfl rfl ?_
      refine GoQ.nil ?_
      refine Go1.ret1V Try.func68 rfl (show _ = .bool false from rfl) ?_
      refine hR283 _ _ ?_
      refine GoR.op ((op_assign rfl) _) rfl rfl ?_
      refine GoR.op ((op_assign rfl) _) rfl rfl ?_
      refine GoR.nil ?_
      replace ah := ah.ch (Owns.dropCh _ _ 0)
      replace ae := ae.ch (Owns.dropCh _ _ 0)
      replace ad := ad.ch (Owns.dropCh _ _ 0)
      replace ai := ai.ch (Owns.dropCh _ _ 0)
      replace af := af.ch (Owns.dropCh _ _ 0)
      replace ag := ag.ch (Owns.dropCh _ _ 0)
      replace dB := dB.ch (Owns.dropCh _ _ 0)
      replace dw := dw.ch (Owns.dropCh _ _ 0)
      replace dx := dx.ch (Owns.dropCh _ _ 0)
      replace dy := dy.ch (Owns.dropCh _ _ 0)
      replace dz := dz.ch (Owns.dropCh _ _ 0)
      replace dA := dA.ch (Owns.dropCh _ _ 0)
      replace dC := dC.ch (Owns.dropCh _ _ 0)
      replace dD := dD.ch (Owns.dropCh _ _ 0)
      replace dE := dE.ch (Owns.dropCh _ _ 0)
      replace hB := hB.trans (Owns.dropFr _ _ 0)
      replace hO := hO.drop 0
      dsimp only [eS, eZ] at hB hO ah ae ad ai af ag dB dw dx dy dz dA dC dD dE
      replace ah := ah.ch (Owns.dropCh _ _ 11)
      replace ae := ae.ch (Owns.dropCh _ _ 11)
      replace ad := ad.ch (Owns.dropCh _ _ 11)
      replace ai := ai.ch (Owns.dropCh _ _ 11)
      replace af := af.ch (Owns.dropCh _ _ 11)
      replace ag := ag.ch (Owns.dropCh _ _ 11)
      replace dB := dB.ch (Owns.dropCh _ _ 11)
      replace dw := dw.ch (Owns.dropCh _ _ 11)
      replace dx := dx.ch (Owns.dropCh _ _ 11)
      replace dy := dy.ch (Owns.dropCh _ _ 11)
      replace dz := dz.ch (Owns.dropCh _ _ 11)
      replace dA := dA.ch (Owns.dropCh _ _ 11)
      replace dC := dC.ch (Owns.dropCh _ _ 11)
      replace dD := dD.ch (Owns.dropCh _ _ 11)
      replace dE := dE.ch (Owns.dropCh _ _ 11)
      replace hB := hB.trans (Owns.dropFr _ _ 11)
      replace hO := hO.drop 11
      dsimp only [eS, eZ] at hB hO ah ae ad ai af ag dB dw dx dy dz dA dC dD dE
      refine Go1.ret2 Try.func53 rfl ?_
      exact Or.inr ⟨(⟨(⟨k4_203, b4_204, d_206, d_212, d_218, d_224, d_230, d_236, k4_205⟩ : Enum), m4_260, d_242, d_248, d_254⟩ : run), false, er, fd, fe, ff, gi, eV, eG, eH, ie, eW, eI, eK, ig, eX, eM, eN, ii, eY, eO, eP, ik, e8, eQ, eU, il, bC, fg, fh, fk, io, fm, fo, fq, ip, ft, fu, fv, iq, rfl, hB.same, hO, dB, dw, dx, dy, dz, dA, dC, dD, dE, H⟩
     replace H := ifp rfl H
     refine GoQ.pure rfl (op_move rfl) rfl rfl ?_
     refine GoQ.pure rfl (op_nilCheck rfl) rfl rfl ?_
     refine GoQ.pure rfl (op_fieldAddr Try.underlying72 rfl ti29 rfl (by decide)) rfl rfl ?_
     refine GoQ.pure rfl (op_fieldAddr Try.underlying29 rfl ti22 rfl (by decide)) rfl rfl ?_
     refine GoQ.stable rfl (oblk (i := 6) 1 hO rfl rfl Try.underlying22 rfl rfl) rfl rfl ?_
     refine GoQ.pure rfl (op_fieldAddr Try.underlying29 rfl ti22 rfl (by decide)) rfl rfl ?_
     refine GoQ.stable rfl (oblk (i := 6) 0 hO rfl rfl Try.underlying22 rfl rfl) rfl rfl ?_
     have hobt := rowlend 6 hO rfl dz
     obtain ⟨Gp, Gq⟩ := hobt
     have hOc324 := hO.drop 6
     refine GoQ.call rfl (op_call body69 (show ([.slice eO eY eP, .slice aQ e.Right.length aR, .func (.func 70) #[] #[]] : List Value) = [.slice eO d_230.length eP, .slice aQ e.Right.length aR, .func (.func 70) #[] #[]] from by rw [← Gq]) (walk_slices_EqualFunc_int hOc324.lt Gp (af.ch (Owns.dropCh _ _ 6)) H)) (fun v w hr => by obtain ⟨_, _, hs, _⟩ := hr; assumption) rfl rfl ?_
     rintro MT MU ⟨r325, rfl, Gr, H⟩
     have mo := Stp.same hO Gr
     replace dB := dB.ch mo.ch
     replace dw := dw.ch mo.ch
     replace dx := dx.ch mo.ch
     replace dy := dy.ch mo.ch
     replace dz := dz.ch mo.ch
     replace dA := dA.ch mo.ch
     replace dC := dC.ch mo.ch
     replace dD := dD.ch mo.ch
     replace dE := dE.ch mo.ch
     replace hO := mo.own
     replace ah := ah.ch mo.ch
     replace ae := ae.ch mo.ch
     replace ad := ad.ch mo.ch
     replace ai := ai.ch mo.ch
     replace af := af.ch mo.ch
     replace ag := ag.ch mo.ch
     replace hB := hB.trans mo.fr
     refine GoQ.pure rfl (op_pickT rfl rfl rfl) rfl rfl ?_
     refine GoQ.pure rfl (op_move rfl) rfl rfl ?_
     cases r325
     ·replace H := ifn Bool.false_ne_true H
      refine GoQ.pass rfl rfl rfl ?_
      refine GoQ.pass rfl rfl rfl ?_
      refine GoQ.pass rfl rfl rfl ?_
      refine GoQ.pass rfl rfl rfl ?_
      refine GoQ.pass rfl rfl rfl ?_
      refine GoQ.pass rfl rfl rfl ?_
      refine GoQ.pass rfl rfl rfl ?_
      refine GoQ.pass rfl rfl rfl ?_
      refine GoQ.pure rfl (op_pickF rfl rfl rfl) rfl rfl ?_
      refine GoQ.pure rfl (op_assign rfl) rfl rfl ?_
      refine GoQ.nil ?_
      refine Go1.ret1V Try.func68 rfl (show _ = .bool false from rfl) ?_
      refine hR283 _ _ ?_
      refine GoR.op ((op_assign rfl) _) rfl rfl ?_
      refine GoR.op ((op_assign rfl) _) rfl rfl ?_
      refine GoR.nil ?_
      replace ah := ah.ch (Owns.dropCh _ _ 0)
      replace ae := ae.ch (Owns.dropCh _ _ 0)
      replace ad := ad.ch (Owns.dropCh _ _ 0)
      replace ai := ai.ch (Owns.dropCh _ _ 0)
      replace af := af.ch (Owns.dropCh _ _ 0)
      replace ag := ag.ch (Owns.dropCh _ _ 0)
      replace dB := dB.ch (Owns.dropCh _ _ 0)
      replace dw := dw.ch (Owns.dropCh _ _ 0)
      replace dx := dx.ch (Owns.dropCh _ _ 0)
      replace dy := dy.ch (Owns.dropCh _ _ 0)
      replace dz := dz.ch (Owns.dropCh _ _ 0)
      replace dA := dA.ch (Owns.dropCh _ _ 0)
      replace dC := dC.ch (Owns.dropCh _ _ 0)
      replace dD := dD.ch (Owns.dropCh _ _ 0)
      replace dE := dE.ch (Owns.dropCh _ _ 0)
      replace hB := hB.trans (Owns.dropFr _ _ 0)
      replace hO := hO.drop 0
      dsimp only [eS, eZ] at hB hO ah ae ad ai af ag dB dw dx dy dz dA dC dD dE
      replace ah := ah.ch (Owns.dropCh _ _ 11)
      replace ae := ae.ch (Owns.dropCh _ _ 11)
      replace ad := ad.ch (Owns.dropCh _ _ 11)
      replace ai := ai.ch (Owns.dropCh _ _ 11)
      replace af := af.ch (Owns.dropCh _ _ 11)
      replace ag := ag.ch (Owns.dropCh _ _ 11)
      replace dB := dB.ch (Owns.dropCh _ _ 11)
      replace dw := dw.ch (Owns.dropCh _ _ 11)
      replace dx := dx.ch (Owns.dropCh _ _ 11)
      replace dy := dy.ch (Owns.dropCh _ _ 11)
      replace dz := dz.ch (Owns.dropCh _ _ 11)
      replace dA := dA.ch (Owns.dropCh _ _ 11)
      replace dC := dC.ch (Owns.dropCh _ _ 11)
      replace dD := dD.ch (Owns.dropCh _ _ 11)
      replace dE := dE.ch (Owns.dropCh _ _ 11)
      replace hB := hB.trans (Owns.dropFr _ _ 11)
      replace hO := hO.drop 11
      dsimp only [eS, eZ] at hB hO ah ae ad ai af ag dB dw dx dy dz dA dC dD dE
      refine Go1.ret2 Try.func53 rfl ?_
      exact Or.inr ⟨(⟨(⟨k4_203, b4_204, d_206, d_212, d_218, d_224, d_230, d_236, k4_205⟩ : Enum), m4_260, d_242, d_248, d_254⟩ : run), false, er, fd, fe, ff, gi, eV, eG, eH, ie, eW, eI, eK, ig, eX, eM, eN, ii, eY, eO, eP, ik, e8, eQ, eU, il, bC, fg, fh, fk, io, fm, fo, fq, ip, ft, fu, fv, iq, rfl, hB.same, hO, dB, dw, dx, dy, dz, dA, dC, dD, dE, H⟩
     replace H := ifp rfl H
     refine GoQ.pure rfl (op_move rfl) rfl rfl ?_
     refine GoQ.pure rfl (op_nilCheck rfl) rfl rfl ?_
     refine GoQ.pure rfl (op_fieldAddr Try.underlying72 rfl ti29 rfl (by decide)) rfl rfl ?_
     refine GoQ.pure rfl (op_fieldAddr Try.underlying29 rfl ti27 rfl (by decide)) rfl rfl ?_
     refine GoQ.stable rfl (oblk (i := 7) 1 hO rfl rfl Try.underlying27 rfl rfl) rfl rfl ?_
     refine GoQ.pure rfl (op_fieldAddr Try.underlying29 rfl ti27 rfl (by decide)) rfl rfl ?_
     refine GoQ.stable rfl (oblk (i := 7) 0 hO rfl rfl Try.underlying27 rfl rfl) rfl rfl ?_
     have hobt := rowlend 7 hO rfl dA
     obtain ⟨Gs, Gt⟩ := hobt
     have hOc333 := hO.drop 7
     refine GoQ.call rfl (op_call body71 (show ([.slice eQ e8 eU, .slice aS e.Rules.length aT] : List Value) = [.slice eQ d_236.length eU, .slice aS e.Rules.length aT] from by rw [← Gt]) (walk_slices_Equal_api_Rule hOc333.lt Gs (ag.ch (Owns.dropCh _ _ 7)) H)) (fun v w hr => by obtain ⟨_, _, hs, _⟩ := hr; assumption) rfl rfl ?_
     rintro MV MW ⟨r334, rfl, Gu, H⟩
     have mp := Stp.same hO Gu
     replace dB := dB.ch mp.ch
     replace dw := dw.ch mp.ch
     replace dx := dx.ch mp.ch
     replace dy := dy.ch mp.ch
     replace dz := dz.ch mp.ch
     replace dA := dA.ch mp.ch
     replace dC := dC.ch mp.ch
     replace dD := dD.ch mp.ch
     replace dE := dE.ch mp.ch
     replace hO := mp.own
     replace ah := ah.ch mp.ch
     replace ae := ae.ch mp.ch
     replace ad := ad.ch mp.ch
     replace ai := ai.ch mp.ch
     replace af := af.ch mp.ch
     replace ag := ag.ch mp.ch
     replace hB := hB.trans mp.fr
     refine GoQ.pure rfl (op_pickT rfl rfl rfl) rfl rfl ?_
     refine GoQ.pure rfl (op_assign rfl) rfl rfl ?_
     refine GoQ.nil ?_
     refine Go1.ret1V Try.func68 rfl (show _ = .bool r334 from rfl) ?_
     refine hR283 _ _ ?_
     refine GoR.op ((op_assign rfl) _) rfl rfl ?_
     refine GoR.op ((op_assign rfl) _) rfl rfl ?_
     refine GoR.nil ?_
     replace ah := ah.ch (Owns.dropCh _ _ 0)
     replace ae := ae.ch (Owns.dropCh _ _ 0)
     replace ad := ad.ch (Owns.dropCh _ _ 0)
     replace ai := ai.ch (Owns.dropCh _ _ 0)
     replace af := af.ch (Owns.dropCh _ _ 0)
     replace ag := ag.ch (Owns.dropCh _ _ 0)
     replace dB := dB.ch (Owns.dropCh _ _ 0)
     replace dw := dw.ch (Owns.dropCh _ _ 0)
     replace dx := dx.ch (Owns.dropCh _ _ 0)
     replace dy := dy.ch (Owns.dropCh _ _ 0)
     replace dz := dz.ch (Owns.dropCh _ _ 0)
     replace dA := dA.ch (Owns.dropCh _ _ 0)
     replace dC := dC.ch (Owns.dropCh _ _ 0)
     replace dD := dD.ch (Owns.dropCh _ _ 0)
     replace dE := dE.ch (Owns.dropCh _ _ 0)
     replace hB := hB.trans (Owns.dropFr _ _ 0)
     replace hO := hO.drop 0
     dsimp only [eS, eZ] at hB hO ah ae ad ai af ag dB dw dx dy dz dA dC dD dE
     replace ah := ah.ch (Owns.dropCh _ _ 11)
     replace ae := ae.ch (Owns.dropCh _ _ 11)
     replace ad := ad.ch (Owns.dropCh _ _ 11)
     replace ai := ai.ch (Owns.dropCh _ _ 11)
     replace af := af.ch (Owns.dropCh _ _ 11)
     replace ag := ag.ch (Owns.dropCh _ _ 11)
     replace dB := dB.ch (Owns.dropCh _ _ 11)
     replace dw := dw.ch (Owns.dropCh _ _ 11)
     replace dx := dx.ch (Owns.dropCh _ _ 11)
     replace dy := dy.ch (Owns.dropCh _ _ 11)
     replace dz := dz.ch (Owns.dropCh _ _ 11)
     replace dA := dA.ch (Owns.dropCh _ _ 11)
     replace dC := dC.ch (Owns.dropCh _ _ 11)
     replace dD := dD.ch (Owns.dropCh _ _ 11)
     replace dE := dE.ch (Owns.dropCh _ _ 11)
     replace hB := hB.trans (Owns.dropFr _ _ 11)
     replace hO := hO.drop 11
     dsimp only [eS, eZ] at hB hO ah ae ad ai af ag dB dw dx dy dz dA dC dD dE
     refine Go1.ret2 Try.func53 rfl ?_
     exact Or.inr ⟨(⟨(⟨k4_203, b4_204, d_206, d_212, d_218, d_224, d_230, d_236, k4_205⟩ : Enum), m4_260, d_242, d_248, d_254⟩ : run), r334, er, fd, fe, ff, gi, eV, eG, eH, ie, eW, eI, eK, ig, eX, eM, eN, ii, eY, eO, eP, ik, e8, eQ, eU, il, bC, fg, fh, fk, io, fm, fo, fq, ip, ft, fu, fv, iq, rfl, hB.same, hO, dB, dw, dx, dy, dz, dA, dC, dD, dE, H⟩
    replace H := ifn zl H
    refine GoQ.pure rfl (fun w => opB (op_eql rfl rfl w) (decide_eq_false zl)) rfl rfl ?_
    refine GoQ.pure rfl (op_pickT rfl rfl rfl) rfl rfl ?_
    refine GoQ.pure rfl (op_move rfl) rfl rfl ?_
    refine GoQ.pass rfl rfl rfl ?_
    refine GoQ.pass rfl rfl rfl ?_
    refine GoQ.pass rfl rfl rfl ?_
    refine GoQ.pass rfl rfl rfl ?_
    refine GoQ.pass rfl rfl rfl ?_
    refine GoQ.pass rfl rfl rfl ?_
    refine GoQ.pass rfl rfl rfl ?_
    refine GoQ.pass rfl rfl rfl ?_
    refine GoQ.pure rfl (op_pickF rfl rfl rfl) rfl rfl ?_
    refine GoQ.pure rfl (op_move rfl) rfl rfl ?_
    refine GoQ.pass rfl rfl rfl ?_
    refine GoQ.pass rfl rfl rfl ?_
    refine GoQ.pass rfl rfl rfl ?_
    refine GoQ.pass rfl rfl rfl ?_
    refine GoQ.pass rfl rfl rfl ?_
    refine GoQ.pass rfl rfl rfl ?_
    refine GoQ.pass rfl rfl rfl ?_
    refine GoQ.pass rfl rfl rfl ?_
    refine GoQ.pure rfl (op_pickF rfl rfl rfl) rfl rfl ?_
    refine GoQ.pure rfl (op_move rfl) rfl rfl ?_
    refine GoQ.pass rfl rfl rfl ?_
    refine GoQ.pass rfl rfl rfl ?_
    refine GoQ.pass rfl rfl rfl ?_
    refine GoQ.pass rfl rfl rfl ?_
    refine GoQ.pass rfl rfl rfl ?_
    refine GoQ.pass rfl rfl rfl ?_
    refine GoQ.pass rfl rfl rfl ?_
    refine GoQ.pass rfl rfl rfl ?_
    refine GoQ.pure rfl (op_pickF rfl rfl rfl) rfl rfl ?_
    refine GoQ.pure rfl (op_move rfl) rfl rfl ?_
    refine GoQ.pass rfl rfl rfl ?_
    refine GoQ.pass rfl rfl rfl ?_
    refine GoQ.pass rfl rfl rfl ?_
    refine GoQ.pass rfl rfl rfl ?_
    refine GoQ.pass rfl rfl rfl ?_
    refine GoQ.pass rfl rfl rfl ?_
    refine GoQ.pass rfl rfl rfl ?_
    refine GoQ.pass rfl rfl rfl ?_
    refine GoQ.pure rfl (op_pickF rfl rfl rfl) rfl rfl ?_
    refine GoQ.pure rfl (op_move rfl) rfl rfl ?_
    refine GoQ.pass rfl rfl rfl ?_
    refine GoQ.pass rfl rfl rfl ?_
    refine GoQ.pass rfl rfl rfl ?_
    refine GoQ.pass rfl rfl rfl ?_
    refine GoQ.pass rfl rfl rfl ?_
    refine GoQ.pass rfl rfl rfl ?_
    refine GoQ.pass rfl rfl rfl ?_
    refine GoQ.pass rfl rfl rfl ?_
    refine GoQ.pure rfl (op_pickF rfl rfl rfl) rfl rfl ?_
    refine GoQ.pure rfl (op_assign rfl) rfl rfl ?_
    refine GoQ.nil ?_
    refine Go1.ret1V Try.func68 rfl (show _ = .bool false from rfl) ?_
    refine hR283 _ _ ?_
    refine GoR.op ((op_assign rfl) _) rfl rfl ?_
    refine GoR.op ((op_assign rfl) _) rfl rfl ?_
    refine GoR.nil ?_
    replace ah := ah.ch (Owns.dropCh _ _ 0)
    replace ae := ae.ch (Owns.dropCh _ _ 0)
    replace ad := ad.ch (Owns.dropCh _ _ 0)
    replace ai := ai.ch (Owns.dropCh _ _ 0)
    replace af := af.ch (Owns.dropCh _ _ 0)
    replace ag := ag.ch (Owns.dropCh _ _ 0)
    replace dB := dB.ch (Owns.dropCh _ _ 0)
    replace dw := dw.ch (Owns.dropCh _ _ 0)
    replace dx := dx.ch (Owns.dropCh _ _ 0)
    replace dy := dy.ch (Owns.dropCh _ _ 0)
    replace dz := dz.ch (Owns.dropCh _ _ 0)
    replace dA := dA.ch (Owns.dropCh _ _ 0)
    replace dC := dC.ch (Owns.dropCh _ _ 0)
    replace dD := dD.ch (Owns.dropCh _ _ 0)
    replace dE := dE.ch (Owns.dropCh _ _ 0)
    replace hB := hB.trans (Owns.dropFr _ _ 0)
    replace hO := hO.drop 0
    dsimp only [eS, eZ] at hB hO ah ae ad ai af ag dB dw dx dy dz dA dC dD dE
    replace ah := ah.ch (Owns.dropCh _ _ 11)
    replace ae := ae.ch (Owns.dropCh _ _ 11)
    replace ad := ad.ch (Owns.dropCh _ _ 11)
    replace ai := ai.ch (Owns.dropCh _ _ 11)
    replace af := af.ch (Owns.dropCh _ _ 11)
    replace ag := ag.ch (Owns.dropCh _ _ 11)
    replace dB := dB.ch (Owns.dropCh _ _ 11)
    replace dw := dw.ch (Owns.dropCh _ _ 11)
    replace dx := dx.ch (Owns.dropCh _ _ 11)
    replace dy := dy.ch (Owns.dropCh _ _ 11)
    replace dz := dz.ch (Owns.dropCh _ _ 11)
    replace dA := dA.ch (Owns.dropCh _ _ 11)
    replace dC := dC.ch (Owns.dropCh _ _ 11)
    replace dD := dD.ch (Owns.dropCh _ _ 11)
    replace dE := dE.ch (Owns.dropCh _ _ 11)
    replace hB := hB.trans (Owns.dropFr _ _ 11)
    replace hO := hO.drop 11
    dsimp only [eS, eZ] at hB hO ah ae ad ai af ag dB dw dx dy dz dA dC dD dE
    refine Go1.ret2 Try.func53 rfl ?_
    exact Or.inr ⟨(⟨(⟨k4_203, b4_204, d_206, d_212, d_218, d_224, d_230, d_236, k4_205⟩ : Enum), m4_260, d_242, d_248, d_254⟩ : run), false, er, fd, fe, ff, gi, eV, eG, eH, ie, eW, eI, eK, ig, eX, eM, eN, ii, eY, eO, eP, ik, e8, eQ, eU, il, bC, fg, fh, fk, io, fm, fo, fq, ip, ft, fu, fv, iq, rfl, hB.same, hO, dB, dw, dx, dy, dz, dA, dC, dD, dE, H⟩
   replace H := ifn zk H
   refine GoQ.pure rfl (fun w => opB (op_eql rfl rfl w) (decide_eq_false zk)) rfl rfl ?_
   refine GoQ.pure rfl (op_move rfl) rfl rfl ?_
   refine GoQ.pass rfl rfl rfl ?_
   refine GoQ.pass rfl rfl rfl ?_
   refine GoQ.pass rfl rfl rfl ?_
   refine GoQ.pass rfl rfl rfl ?_
   refine GoQ.pass rfl rfl rfl ?_
   refine GoQ.pass rfl rfl rfl ?_
   refine GoQ.pass rfl rfl rfl ?_
   refine GoQ.pass rfl rfl rfl ?_
   refine GoQ.pure rfl (op_pickF rfl rfl rfl) rfl rfl ?_
   refine GoQ.pure rfl (op_move rfl) rfl rfl ?_
   refine GoQ.pass rfl rfl rfl ?_
   refine GoQ.pass rfl rfl rfl ?_
   refine GoQ.pass rfl rfl rfl ?_
   refine GoQ.pass rfl rfl rfl ?_
   refine GoQ.pass rfl rfl rfl ?_
   refine GoQ.pass rfl rfl rfl ?_
   refine GoQ.pass rfl rfl rfl ?_
   refine GoQ.pass rfl rfl rfl ?_
   refine GoQ.pure rfl (op_pickF rfl rfl rfl) rfl rfl ?_
   refine GoQ.pure rfl (op_move rfl) rfl rfl ?_
   refine GoQ.pass rfl rfl rfl ?_
   refine GoQ.pass rfl rfl rfl ?_
   refine GoQ.pass rfl rfl rfl ?_
   refine GoQ.pass rfl rfl rfl ?_
   refine GoQ.pass rfl rfl rfl ?_
   refine GoQ.pass rfl rfl rfl ?_
   refine GoQ.pass rfl rfl rfl ?_
   refine GoQ.pass rfl rfl rfl ?_
   refine GoQ.pure rfl (op_pickF rfl rfl rfl) rfl rfl ?_
   refine GoQ.pure rfl (op_move rfl) rfl rfl ?_
   refine GoQ.pass rfl rfl rfl ?_
   refine GoQ.pass rfl rfl rfl ?_
   refine GoQ.pass rfl rfl rfl ?_
   refine GoQ.pass rfl rfl rfl ?_
   refine GoQ.pass rfl rfl rfl ?_
   refine GoQ.pass rfl rfl rfl ?_
   refine GoQ.pass rfl rfl rfl ?_
   refine GoQ.pass rfl rfl rfl ?_
   refine GoQ.pure rfl (op_pickF rfl rfl rfl) rfl rfl ?_
   refine GoQ.pure rfl (op_move rfl) rfl rfl ?_
   refine GoQ.pass rfl rfl rfl ?_
   refine GoQ.pass rfl rfl rfl ?_
   refine GoQ.pass rfl rfl rfl ?_
   refine GoQ.pass rfl rfl rfl ?_
   refine GoQ.pass rfl rfl rfl ?_
   refine GoQ.pass rfl rfl rfl ?_
   refine GoQ.pass rfl rfl rfl ?_
   refine GoQ.pass rfl rfl rfl ?_
   refine GoQ.pure rfl (op_pickF rfl rfl rfl) rfl rfl ?_
   refine GoQ.pure rfl (op_move rfl) rfl rfl ?_
   refine GoQ.pass rfl rfl rfl ?_
   refine GoQ.pass rfl rfl rfl ?_
   refine GoQ.pass rfl rfl rfl ?_
   refine GoQ.pass rfl rfl rfl ?_
   refine GoQ.pass rfl rfl rfl ?_
   refine GoQ.pass rfl rfl rfl ?_
   refine GoQ.pass rfl rfl rfl ?_
   refine GoQ.pass rfl rfl rfl ?_
   refine GoQ.pure rfl (op_pickF rfl rfl rfl) rfl rfl ?_
   refine GoQ.pure rfl (op_assign rfl) rfl rfl ?_
   refine GoQ.nil ?_
   refine Go1.ret1V Try.func68 rfl (show _ = .bool false from rfl) ?_
   refine hR283 _ _ ?_
   refine GoR.op ((op_assign rfl) _) rfl rfl ?_
   refine GoR.op ((op_assign rfl) _) rfl rfl ?_
   refine GoR.nil ?_
   replace ah := ah.ch (Owns.dropCh _ _ 0)
   replace ae := ae.ch (Owns.dropCh _ _ 0)
   replace ad := ad.ch (Owns.dropCh _ _ 0)
   replace ai := ai.ch (Owns.dropCh _ _ 0)
   replace af := af.ch (Owns.dropCh _ _ 0)
   replace ag := ag.ch (Owns.dropCh _ _ 0)
   replace dB := dB.ch (Owns.dropCh _ _ 0)
   replace dw := dw.ch (Owns.dropCh _ _ 0)
   replace dx := dx.ch (Owns.dropCh _ _ 0)
   replace dy := dy.ch (Owns.dropCh _ _ 0)
   replace dz := dz.ch (Owns.dropCh _ _ 0)
   replace dA := dA.ch (Owns.dropCh _ _ 0)
   replace dC := dC.ch (Owns.dropCh _ _ 0)
   replace dD := dD.ch (Owns.dropCh _ _ 0)
   replace dE := dE.ch (Owns.dropCh _ _ 0)
   replace hB := hB.trans (Owns.dropFr _ _ 0)
   replace hO := hO.drop 0
   dsimp only [eS, eZ] at hB hO ah ae ad ai af ag dB dw dx dy dz dA dC dD dE
   replace ah := ah.ch (Owns.dropCh _ _ 11)
   replace ae := ae.ch (Owns.dropCh _ _ 11)
   replace ad := ad.ch (Owns.dropCh _ _ 11)
   replace ai := ai.ch (Owns.dropCh _ _ 11)
   replace af := af.ch (Owns.dropCh _ _ 11)
   replace ag := ag.ch (Owns.dropCh _ _ 11)
   replace dB := dB.ch (Owns.dropCh _ _ 11)
   replace dw := dw.ch (Owns.dropCh _ _ 11)
   replace dx := dx.ch (Owns.dropCh _ _ 11)
   replace dy := dy.ch (Owns.dropCh _ _ 11)
   replace dz := dz.ch (Owns.dropCh _ _ 11)
   replace dA := dA.ch (Owns.dropCh _ _ 11)
   replace dC := dC.ch (Owns.dropCh _ _ 11)
   replace dD := dD.ch (Owns.dropCh _ _ 11)
   replace dE := dE.ch (Owns.dropCh _ _ 11)
   replace hB := hB.trans (Owns.dropFr _ _ 11)
   replace hO := hO.drop 11
   dsimp only [eS, eZ] at hB hO ah ae ad ai af ag dB dw dx dy dz dA dC dD dE
   refine Go1.ret2 Try.func53 rfl ?_
   exact Or.inr ⟨(⟨(⟨k4_203, b4_204, d_206, d_212, d_218, d_224, d_230, d_236, k4_205⟩ : Enum), m4_260, d_242, d_248, d_254⟩ : run), false, er, fd, fe, ff, gi, eV, eG, eH, ie, eW, eI, eK, ig, eX, eM, eN, ii, eY, eO, eP, ik, e8, eQ, eU, il, bC, fg, fh, fk, io, fm, fo, fq, ip, ft, fu, fv, iq, rfl, hB.same, hO, dB, dw, dx, dy, dz, dA, dC, dD, dE, H⟩
  replace H := ifn zf H
  refine GoR.op ((fun w => opB (op_neq rfl rfl w) (ndF zf)) _) rfl rfl ?_
  refine GoR.nil ?_
  refine Go1.condT rfl rfl ?_
  refine Go1.seq ?_
  refine Go1.cut [] trivial ?_
  intro σ _
  refine Go1.region ?_
  refine GoR.op ((op_assign rfl) _) rfl rfl ?_
  refine GoR.op ((op_assign rfl) _) rfl rfl ?_
  refine GoR.nil ?_
  refine Go1.ret2 Try.func53 rfl ?_
  exact Or.inl ⟨false, rfl, hB.same, H⟩
theorem body29 : Body Try.prog 29 := ⟨Try.f29, Try.func29, rfl, by kernel_rfl⟩
theorem walk_enumerate_Word {A : List Nat} {w0 : World} {bp : Option Addr} {bq : Nat} {aO : Option Addr} {aP : Nat} {ar : Option Addr} {au : Nat} {bg : Option Addr} {bh : Nat} {aQ : Option Addr} {aR : Nat} {aS : Option Addr} {aT : Nat} {e : Enum} {i : Int} (hA : ∀ b ∈ A, b < w0.heap.size) (ah : ISl (Rp.sl (Rp.int .i64)) A w0 bp bq e.Gens) (ae : ISl (Rp.sl (Rp.int .i64)) A w0 aO aP e.Elems) (ad : ISl (Rp.int .i64) A w0 ar au e.Prefix) (ai : ISl (Rp.int .i64) A w0 bg bh e.Last) (af : ISl (Rp.sl (Rp.int .i64)) A w0 aQ aR e.Right) (ag : ISl (rpRule) A w0 aS aT e.Rules) {K : Str → Prop} (H : enumerate_Word e i K) :
    CallsV Try.prog 29 #[.agg #[.int .i64 e.Points, .bool e.Monoid, .slice bp e.Gens.length bq, .slice aO e.Elems.length aP, .slice ar e.Prefix.length au, .slice bg e.Last.length bh, .slice aQ e.Right.length aR, .slice aS e.Rules.length aT, .int .i64 e.Done], .int .i64 i] w0 (fun v w' => ∃ (r0 : Str), v = .string (gstr r0) ∧ Same w0 w' ∧ r0.length ≤ mx ∧ K r0) := by
 refine CallsV.of (l := [.agg #[.int .i64 e.Points, .bool e.Monoid, .slice bp e.Gens.length bq, .slice aO e.Elems.length aP, .slice ar e.Prefix.length au, .slice bg e.Last.length bh, .slice aQ e.Right.length aR, .slice aS e.Rules.length aT, .int .i64 e.Done], .int .i64 i]) Try.func29 rfl Try.ntmps29 rfl ?_
 have hO := Owns.start hA
 have hB := Fr.refl (bl []) w0
 unfold enumerate_Word at H
 replace ah := ah.ch (Ch.start A w0)
 replace ae := ae.ch (Ch.start A w0)
 replace ad := ad.ch (Ch.start A w0)
 replace ai := ai.ch (Ch.start A w0)
 replace af := af.ch (Ch.start A w0)
 replace ag := ag.ch (Ch.start A w0)
 refine Go1.seq ?_
 refine Go1.region ?_
 have hobt := obox (t := 29) (v := .agg #[.int .i64 e.Points, .bool e.Monoid, .slice bp e.Gens.length bq, .slice aO e.Elems.length aP, .slice ar e.Prefix.length au, .slice bg e.Last.length bh, .slice aQ e.Right.length aR, .slice aS e.Rules.length aT, .int .i64 e.Done]) (cs := #[.int .i64 e.Points, .bool e.Monoid, .slice bp e.Gens.length bq, .slice aO e.Elems.length aP, .slice ar e.Prefix.length au, .slice bg e.Last.length bh, .slice aQ e.Right.length aR, .slice aS e.Rules.length aT, .int .i64 e.Done]) hO rfl
 obtain ⟨w1, B2, jj, hs4, vZ⟩ := hobt
 refine GoR.op (vZ rfl) rfl rfl ?_
 replace hO := jj.own
 replace ah := ah.ch jj.ch
 replace ae := ae.ch jj.ch
 replace ad := ad.ch jj.ch
 replace ai := ai.ch jj.ch
 replace af := af.ch jj.ch
 replace ag := ag.ch jj.ch
 replace hB := hB.trans jj.fr
 refine GoR.op ((op_assign rfl) _) rfl rfl ?_
 refine GoR.nil ?_
 refine Go1.seq ?_
 refine Go1.region ?_
 refine GoR.op ((oblkAgg (vs := [.int .i64 e.Points, .bool e.Monoid, .slice bp e.Gens.length bq, .slice aO e.Elems.length aP, .slice ar e.Prefix.length au, .slice bg e.Last.length bh, .slice aQ e.Right.length aR, .slice aS e.Rules.length aT, .int .i64 e.Done]) (i := 0) 0 hO rfl rfl Try.underlying29 rfl ti29 rfl) _ (Same.refl _)) rfl rfl ?_
 refine GoR.call (op_call body53 rfl (walk_enumerate_replay (e := e) hO.lt ah ae ad ai af ag H)) rfl rfl ?_
 intro v9 w10 hcase13
 refine Or.elim hcase13 ?_ ?_
 ·refine exE fun r8 => andE fun hv14 => andE fun uT => fun H => ?_
  subst hv14
  clear hcase13
  replace H := oElimN H
  have rF := Stp.same hO uT
  replace hO := rF.own
  replace ah := ah.ch rF.ch
  replace ae := ae.ch rF.ch
  replace ad := ad.ch rF.ch
  replace ai := ai.ch rF.ch
  replace af := af.ch rF.ch
  replace ag := ag.ch rF.ch
  replace hB := hB.trans rF.fr
  refine GoR.op ((op_move rfl) _) rfl rfl ?_
  refine GoR.op ((op_extract rfl rfl) _) rfl rfl ?_
  refine GoR.op ((op_extract rfl rfl) _) rfl rfl ?_
  refine GoR.op ((op_assign rfl) _) rfl rfl ?_
  refine GoR.op ((op_assign rfl) _) rfl rfl ?_
  refine GoR.nil ?_
  refine Go1.seq ?_
  refine Go1.seq ?_
  refine Go1.region ?_
  refine GoR.op ((op_move rfl) _) rfl rfl ?_
  cases r8
  ·replace H := ifn Bool.false_ne_true H
   refine GoR.op ((op_not rfl) _) rfl rfl ?_
   refine GoR.op ((op_move rfl) _) rfl rfl ?_
   refine GoR.pass rfl rfl ?_
   refine GoR.pass rfl rfl ?_
   refine GoR.op ((op_pickT rfl rfl rfl) _) rfl rfl ?_
   refine GoR.op ((op_move rfl) _) rfl rfl ?_
   refine GoR.pass rfl rfl ?_
   refine GoR.pass rfl rfl ?_
   refine GoR.pass rfl rfl ?_
   refine GoR.pass rfl rfl ?_
   refine GoR.pass rfl rfl ?_
   refine GoR.pass rfl rfl ?_
   refine GoR.pass rfl rfl ?_
   refine GoR.pass rfl rfl ?_
   refine GoR.op ((op_pickT rfl rfl rfl) _) rfl rfl ?_
   refine GoR.nil ?_
   refine Go1.condT rfl rfl ?_
   refine Go1.seq ?_
   refine Go1.cut [] trivial ?_
   intro σ _
   refine Go1.region ?_
   refine GoR.op ((op_assign rfl) _) rfl rfl ?_
   refine GoR.nil ?_
   refine Go1.ret1 Try.func29 rfl ?_
   exact ⟨([] : Str), rfl, hB.same, (by decide), H⟩
  replace H := ifp rfl H
  refine GoR.op ((op_not rfl) _) rfl rfl ?_
  refine GoR.op ((op_move rfl) _) rfl rfl ?_
  refine GoR.op ((op_move rfl) _) rfl rfl ?_
  by_cases h16 : i < (0 : Int)
  ·replace H := ifp h16 H
   refine GoR.op ((fun w => opB (op_lss rfl rfl w) (decide_eq_true h16)) _) rfl rfl ?_
   refine GoR.op ((op_pickF rfl rfl rfl) _) rfl rfl ?_
   refine GoR.op ((op_move rfl) _) rfl rfl ?_
   refine GoR.pass rfl rfl ?_
   refine GoR.pass rfl rfl ?_
   refine GoR.pass rfl rfl ?_
   refine GoR.pass rfl rfl ?_
   refine GoR.pass rfl rfl ?_
   refine GoR.pass rfl rfl ?_
   refine GoR.pass rfl rfl ?_
   refine GoR.pass rfl rfl ?_
   refine GoR.op ((op_pickT rfl rfl rfl) _) rfl rfl ?_
   refine GoR.nil ?_
   refine Go1.condT rfl rfl ?_
   refine Go1.seq ?_
   refine Go1.region ?_
   refine GoR.op ((op_assign rfl) _) rfl rfl ?_
   refine GoR.nil ?_
   refine Go1.ret1 Try.func29 rfl ?_
   exact ⟨([] : Str), rfl, hB.same, (by decide), H⟩
  replace H := ifn h16 H
  refine GoR.op ((fun w => opB (op_lss rfl rfl w) (decide_eq_false h16)) _) rfl rfl ?_
  refine GoR.op ((op_pickF rfl rfl rfl) _) rfl rfl ?_
  refine GoR.op ((op_move rfl) _) rfl rfl ?_
  refine GoR.op ((op_move rfl) _) rfl rfl ?_
  refine GoR.op ((op_move rfl) _) rfl rfl ?_
  exact H.elim
 ·refine exE fun r7 => exE fun r8 => exE fun lN => exE fun ug => exE fun uh => exE fun ui => exE fun tL => exE fun tM => exE fun tN => exE fun tO => exE fun tt => exE fun tu => exE fun tv => exE fun tw => exE fun sY => exE fun uj => exE fun uk => exE fun ul => exE fun tP => exE fun tQ => exE fun tR => exE fun tS => exE fun tx => exE fun tT => exE fun tU => exE fun tV => exE fun tz => exE fun cF => exE fun wy => exE fun wz => exE fun wA => exE fun vB => exE fun vC => exE fun vD => exE fun vE => exE fun uU => exE fun vF => exE fun vG => exE fun vH => exE fun uV => andE fun hv17 => andE fun uT => andE fun hN12 => andE fun gV => andE fun fJ => andE fun fL => andE fun gW => andE fun gc => andE fun gf => andE fun gX => andE fun jr => andE fun js => fun H => ?_
  subst hv17
  clear hcase13
  replace H := oElimS H
  have qT := Stp.more hO uT hN12
  dsimp only [List.cons_append, List.nil_append] at qT
  replace hO := qT.own
  replace ah := ah.ch qT.ch
  replace ae := ae.ch qT.ch
  replace ad := ad.ch qT.ch
  replace ai := ai.ch qT.ch
  replace af := af.ch qT.ch
  replace ag := ag.ch qT.ch
  replace hB := hB.trans qT.fr
  replace gV := gV.ch (Ch.assoc _ _ _ _)
  dsimp only [List.cons_append, List.nil_append] at gV
  replace fJ := fJ.ch (Ch.assoc _ _ _ _)
  dsimp only [List.cons_append, List.nil_append] at fJ
  replace fL := fL.ch (Ch.assoc _ _ _ _)
  dsimp only [List.cons_append, List.nil_append] at fL
  replace gW := gW.ch (Ch.assoc _ _ _ _)
  dsimp only [List.cons_append, List.nil_append] at gW
  replace gc := gc.ch (Ch.assoc _ _ _ _)
  dsimp only [List.cons_append, List.nil_append] at gc
  replace gf := gf.ch (Ch.assoc _ _ _ _)
  dsimp only [List.cons_append, List.nil_append] at gf
  replace gX := gX.ch (Ch.assoc _ _ _ _)
  dsimp only [List.cons_append, List.nil_append] at gX
  replace jr := jr.ch (Ch.assoc _ _ _ _)
  dsimp only [List.cons_append, List.nil_append] at jr
  replace js := js.ch (Ch.assoc _ _ _ _)
  dsimp only [List.cons_append, List.nil_append] at js
  refine GoR.op ((op_move rfl) _) rfl rfl ?_
  refine GoR.op ((op_extract rfl rfl) _) rfl rfl ?_
  refine GoR.op ((op_extract rfl rfl) _) rfl rfl ?_
  refine GoR.op ((op_assign rfl) _) rfl rfl ?_
  refine GoR.op ((op_assign rfl) _) rfl rfl ?_
  refine GoR.nil ?_
  refine Go1.seq ?_
  refine Go1.seq ?_
  refine Go1.cut [(1, .int .i64 i), (5, .pointer (some ⟨lN, 0, none⟩)), (6, .bool r8)] ⟨rfl, rfl, rfl, trivial⟩ ?_
  intro σ _
  refine Go1.region ?_
  refine GoR.op ((op_move rfl) _) rfl rfl ?_
  cases r8
  ·replace H := ifn Bool.false_ne_true H
   refine GoR.op ((op_not rfl) _) rfl rfl ?_
   refine GoR.op ((op_move rfl) _) rfl rfl ?_
   refine GoR.pass rfl rfl ?_
   refine GoR.pass rfl rfl ?_
   refine GoR.op ((op_pickT rfl rfl rfl) _) rfl rfl ?_
   refine GoR.op ((op_move rfl) _) rfl rfl ?_
   refine GoR.pass rfl rfl ?_
   refine GoR.pass rfl rfl ?_
   refine GoR.pass rfl rfl ?_
   refine GoR.pass rfl rfl ?_
   refine GoR.pass rfl rfl ?_
   refine GoR.pass rfl rfl ?_
   refine GoR.pass rfl rfl ?_
   refine GoR.pass rfl rfl ?_
   refine GoR.op ((op_pickT rfl rfl rfl) _) rfl rfl ?_
   refine GoR.nil ?_
   refine Go1.condT rfl rfl ?_
   refine Go1.seq ?_
   refine Go1.region ?_
   refine GoR.op ((op_assign rfl) _) rfl rfl ?_
   refine GoR.nil ?_
   refine Go1.ret1 Try.func29 rfl ?_
   exact ⟨([] : Str), rfl, hB.same, (by decide), H⟩
  replace H := ifp rfl H
  refine GoR.op ((op_not rfl) _) rfl rfl ?_
  refine GoR.op ((op_move rfl) _) rfl rfl ?_
  refine GoR.op ((op_move rfl) _) rfl rfl ?_
  by_cases h30 : i < (0 : Int)
  ·replace H := ifp h30 H
   refine GoR.op ((fun w => opB (op_lss rfl rfl w) (decide_eq_true h30)) _) rfl rfl ?_
   refine GoR.op ((op_pickF rfl rfl rfl) _) rfl rfl ?_
   refine GoR.op ((op_move rfl) _) rfl rfl ?_
   refine GoR.pass rfl rfl ?_
   refine GoR.pass rfl rfl ?_
   refine GoR.pass rfl rfl ?_
   refine GoR.pass rfl rfl ?_
   refine GoR.pass rfl rfl ?_
   refine GoR.pass rfl rfl ?_
   refine GoR.pass rfl rfl ?_
   refine GoR.pass rfl rfl ?_
   refine GoR.op ((op_pickT rfl rfl rfl) _) rfl rfl ?_
   refine GoR.nil ?_
   refine Go1.condT rfl rfl ?_
   refine Go1.seq ?_
   refine Go1.cut [] trivial ?_
   intro σ _
   refine Go1.region ?_
   refine GoR.op ((op_assign rfl) _) rfl rfl ?_
   refine GoR.nil ?_
   refine Go1.ret1 Try.func29 rfl ?_
   exact ⟨([] : Str), rfl, hB.same, (by decide), H⟩
  replace H := ifn h30 H
  refine GoR.op ((fun w => opB (op_lss rfl rfl w) (decide_eq_false h30)) _) rfl rfl ?_
  refine GoR.op ((op_pickF rfl rfl rfl) _) rfl rfl ?_
  refine GoR.op ((op_move rfl) _) rfl rfl ?_
  refine GoR.op ((op_move rfl) _) rfl rfl ?_
  refine GoR.op ((op_move rfl) _) rfl rfl ?_
  refine GoR.op ((op_nilCheck rfl) _) rfl rfl ?_
  refine GoR.op ((op_fieldAddr Try.underlying72 rfl ti29 rfl (by decide)) _) rfl rfl ?_
  refine GoR.op ((op_fieldAddr Try.underlying29 rfl ti22 rfl (by decide)) _) rfl rfl ?_
  refine GoR.op ((oblk (i := 3) 0 hO rfl rfl Try.underlying22 rfl rfl) _ (Same.refl _)) rfl rfl ?_
  refine GoR.op ((op_lenN Try.underlying22 rfl (fJ.neq hO 2 rfl)) _) rfl rfl ?_
  by_cases h31 : (r7.Enum.Elems.length : Int) ≤ i
  ·replace H := ifp h31 H
   refine GoR.op ((fun w => opB (op_geq rfl rfl w) (decide_eq_true h31)) _) rfl rfl ?_
   refine GoR.op ((op_pickF rfl rfl rfl) _) rfl rfl ?_
   refine GoR.nil ?_
   refine Go1.condT rfl rfl ?_
   refine Go1.seq ?_
   refine Go1.region ?_
   refine GoR.op ((op_assign rfl) _) rfl rfl ?_
   refine GoR.nil ?_
   refine Go1.ret1 Try.func29 rfl ?_
   exact ⟨([] : Str), rfl, hB.same, (by decide), H⟩
  replace H := ifn h31 H
  refine GoR.op ((fun w => opB (op_geq rfl rfl w) (decide_eq_false h31)) _) rfl rfl ?_
  refine GoR.op ((op_pickF rfl rfl rfl) _) rfl rfl ?_
  refine GoR.nil ?_
  refine Go1.condF rfl rfl ?_
  refine Go1.skip ?_
  refine Go1.seq ?_
  refine Go1.region ?_
  refine GoR.op ((op_move rfl) _) rfl rfl ?_
  refine GoR.op ((op_nilCheck rfl) _) rfl rfl ?_
  refine GoR.op ((op_fieldAddr Try.underlying72 rfl ti70 rfl (by decide)) _) rfl rfl ?_
  refine GoR.op ((oblk (i := 10) 0 hO rfl rfl Try.underlying70 rfl rfl) _ (Same.refl _)) rfl rfl ?_
  refine GoR.op ((op_move rfl) _) rfl rfl ?_
  obtain ⟨h32, H⟩ := H
  obtain ⟨h33, H⟩ := H
  refine GoR.op ((op_index Try.underlying70 ti9 rfl rfl h32 (ltn (gX.neq hO 7 rfl) h33) (gX.psome hO 7 rfl h32 h33)) _) rfl rfl ?_
  refine GoR.op ((oldStr 7 hO rfl gX h32 h33 Try.underlying9 rfl rfl) _ (Same.refl _)) rfl rfl ?_
  have hle34 := Els.str_le gX h32 h33
  refine GoR.op ((op_assign rfl) _) rfl rfl ?_
  refine GoR.nil ?_
  refine Go1.ret1 Try.func29 rfl ?_
  exact ⟨ix r7.words i, rfl, hB.same, hle34, H⟩
end Sg
