/- The walks: each call keeps to its plain transformer. Printed by walkgen.py. -/
import Derived.Test.YtjegjjdfgefkoaaTi
import Derived.Test.YtjegjjdfgefkoaaWEnumerateBuilds
import Derived.Test.YtjegjjdfgefkoaaWEnumerateBuildsb
namespace Sg
open Go Go.RowKit Go.Proofs
set_option linter.unusedVariables false
set_option linter.unusedSimpArgs false
set_option maxRecDepth 100000
set_option maxHeartbeats 4000000
theorem body68 : Body Try.prog 68 := ⟨Try.f68, Try.func68, rfl, by kernel_rfl⟩
theorem body53 : Body Try.prog 53 := ⟨Try.f53, Try.func53, rfl, by kernel_rfl⟩
theorem walk_enumerate_replay {A : List Nat} {w0 : World} {bp : Option Addr} {bq : Nat} {aO : Option Addr} {aP : Nat} {ar : Option Addr} {au : Nat} {bg : Option Addr} {bh : Nat} {aQ : Option Addr} {aR : Nat} {aS : Option Addr} {aT : Nat} {e : Enum} (hA : ∀ b ∈ A, b < w0.heap.size) (ah : ISl (Rp.sl (Rp.int .i64)) A w0 bp bq e.Gens) (ae : ISl (Rp.sl (Rp.int .i64)) A w0 aO aP e.Elems) (ad : ISl (Rp.int .i64) A w0 ar au e.Prefix) (ai : ISl (Rp.int .i64) A w0 bg bh e.Last) (af : ISl (Rp.sl (Rp.int .i64)) A w0 aQ aR e.Right) (ag : ISl (rpRule) A w0 aS aT e.Rules) {K : Option run → Bool → Prop} (H : enumerate_replay e K) :
    CallsV Try.prog 53 #[.agg #[.int .i64 e.Points, .bool e.Monoid, .slice bp e.Gens.length bq, .slice aO e.Elems.length aP, .slice ar e.Prefix.length au, .slice bg e.Last.length bh, .slice aQ e.Right.length aR, .slice aS e.Rules.length aT, .int .i64 e.Done]] w0 (fun v w' => (∃ (r1 : Bool), v = .tuple #[.pointer none, .bool r1] ∧ Same w0 w' ∧ K none r1) ∨ (∃ (q : run), ∃ (r1 : Bool), ∃ (b_q : Nat), ∃ (bi : Nat), ∃ (bj : Option Addr), ∃ (bk : Nat), ∃ (cq : List Value), ∃ (aY : Nat), ∃ (aZ : Option Addr), ∃ (a5 : Nat), ∃ (cl : List Value), ∃ (aL : Nat), ∃ (aM : Option Addr), ∃ (aN : Nat), ∃ (cb : List Value), ∃ (bm : Nat), ∃ (bn : Option Addr), ∃ (bo : Nat), ∃ (cr : List Value), ∃ (a6 : Nat), ∃ (a7 : Option Addr), ∃ (a8 : Nat), ∃ (co : List Value), ∃ (a9 : Nat), ∃ (ba : Option Addr), ∃ (bc : Nat), ∃ (cp : List Value), ∃ (cR : Nat), ∃ (cf : Nat), ∃ (cg : Option Addr), ∃ (ci : Nat), ∃ (dr : List Value), ∃ (bQ : Nat), ∃ (bS : Option Addr), ∃ (bT : Nat), ∃ (da : List Value), ∃ (bU : Nat), ∃ (bV : Option Addr), ∃ (bW : Nat), ∃ (db : List Value), v = .tuple #[.pointer (some ⟨b_q, 0, none⟩), .bool r1] ∧ Same w0 w' ∧ Owns w0.heap.size w' [.blk b_q (.cells #[.int .i64 q.Enum.Points, .bool q.Enum.Monoid, .slice bj bi bk, .slice aZ aY a5, .slice aM aL aN, .slice bn bm bo, .slice a7 a6 a8, .slice ba a9 bc, .int .i64 q.Enum.Done, .map (some cR), .slice cg cf ci, .slice bS bQ bT, .slice bV bU bW] 72 (0, 0)), .row 26 1 bj bi bk cq, .row 26 1 aZ aY a5 cl, .row 3 1 aM aL aN cb, .row 3 1 bn bm bo cr, .row 26 1 a7 a6 a8 co, .row 39 2 ba a9 bc cp, .row 9 1 cg cf ci dr, .row 3 1 bS bQ bT da, .row 3 1 bV bU bW db, .any (mapE (fun a : List UInt8 => Value.string (gstr a)) (fun a : Int => Value.int .i64 a) cR q.number)] A ∧ Els (Rp.sl (Rp.int .i64)) (bl [.blk b_q (.cells #[.int .i64 q.Enum.Points, .bool q.Enum.Monoid, .slice bj bi bk, .slice aZ aY a5, .slice aM aL aN, .slice bn bm bo, .slice a7 a6 a8, .slice ba a9 bc, .int .i64 q.Enum.Done, .map (some cR), .slice cg cf ci, .slice bS bQ bT, .slice bV bU bW] 72 (0, 0)), .row 26 1 bj bi bk cq, .row 26 1 aZ aY a5 cl, .row 3 1 aM aL aN cb, .row 3 1 bn bm bo cr, .row 26 1 a7 a6 a8 co, .row 39 2 ba a9 bc cp, .row 9 1 cg cf ci dr, .row 3 1 bS bQ bT da, .row 3 1 bV bU bW db, .any (mapE (fun a : List UInt8 => Value.string (gstr a)) (fun a : Int => Value.int .i64 a) cR q.number)] ++ A) w' cq q.Enum.Gens ∧ Els (Rp.sl (Rp.int .i64)) (bl [.blk b_q (.cells #[.int .i64 q.Enum.Points, .bool q.Enum.Monoid, .slice bj bi bk, .slice aZ aY a5, .slice aM aL aN, .slice bn bm bo, .slice a7 a6 a8, .slice ba a9 bc, .int .i64 q.Enum.Done, .map (some cR), .slice cg cf ci, .slice bS bQ bT, .slice bV bU bW] 72 (0, 0)), .row 26 1 bj bi bk cq, .row 26 1 aZ aY a5 cl, .row 3 1 aM aL aN cb, .row 3 1 bn bm bo cr, .row 26 1 a7 a6 a8 co, .row 39 2 ba a9 bc cp, .row 9 1 cg cf ci dr, .row 3 1 bS bQ bT da, .row 3 1 bV bU bW db, .any (mapE (fun a : List UInt8 => Value.string (gstr a)) (fun a : Int => Value.int .i64 a) cR q.number)] ++ A) w' cl q.Enum.Elems ∧ Els (Rp.int .i64) (bl [.blk b_q (.cells #[.int .i64 q.Enum.Points, .bool q.Enum.Monoid, .slice bj bi bk, .slice aZ aY a5, .slice aM aL aN, .slice bn bm bo, .slice a7 a6 a8, .slice ba a9 bc, .int .i64 q.Enum.Done, .map (some cR), .slice cg cf ci, .slice bS bQ bT, .slice bV bU bW] 72 (0, 0)), .row 26 1 bj bi bk cq, .row 26 1 aZ aY a5 cl, .row 3 1 aM aL aN cb, .row 3 1 bn bm bo cr, .row 26 1 a7 a6 a8 co, .row 39 2 ba a9 bc cp, .row 9 1 cg cf ci dr, .row 3 1 bS bQ bT da, .row 3 1 bV bU bW db, .any (mapE (fun a : List UInt8 => Value.string (gstr a)) (fun a : Int => Value.int .i64 a) cR q.number)] ++ A) w' cb q.Enum.Prefix ∧ Els (Rp.int .i64) (bl [.blk b_q (.cells #[.int .i64 q.Enum.Points, .bool q.Enum.Monoid, .slice bj bi bk, .slice aZ aY a5, .slice aM aL aN, .slice bn bm bo, .slice a7 a6 a8, .slice ba a9 bc, .int .i64 q.Enum.Done, .map (some cR), .slice cg cf ci, .slice bS bQ bT, .slice bV bU bW] 72 (0, 0)), .row 26 1 bj bi bk cq, .row 26 1 aZ aY a5 cl, .row 3 1 aM aL aN cb, .row 3 1 bn bm bo cr, .row 26 1 a7 a6 a8 co, .row 39 2 ba a9 bc cp, .row 9 1 cg cf ci dr, .row 3 1 bS bQ bT da, .row 3 1 bV bU bW db, .any (mapE (fun a : List UInt8 => Value.string (gstr a)) (fun a : Int => Value.int .i64 a) cR q.number)] ++ A) w' cr q.Enum.Last ∧ Els (Rp.sl (Rp.int .i64)) (bl [.blk b_q (.cells #[.int .i64 q.Enum.Points, .bool q.Enum.Monoid, .slice bj bi bk, .slice aZ aY a5, .slice aM aL aN, .slice bn bm bo, .slice a7 a6 a8, .slice ba a9 bc, .int .i64 q.Enum.Done, .map (some cR), .slice cg cf ci, .slice bS bQ bT, .slice bV bU bW] 72 (0, 0)), .row 26 1 bj bi bk cq, .row 26 1 aZ aY a5 cl, .row 3 1 aM aL aN cb, .row 3 1 bn bm bo cr, .row 26 1 a7 a6 a8 co, .row 39 2 ba a9 bc cp, .row 9 1 cg cf ci dr, .row 3 1 bS bQ bT da, .row 3 1 bV bU bW db, .any (mapE (fun a : List UInt8 => Value.string (gstr a)) (fun a : Int => Value.int .i64 a) cR q.number)] ++ A) w' co q.Enum.Right ∧ Els (rpRule) (bl [.blk b_q (.cells #[.int .i64 q.Enum.Points, .bool q.Enum.Monoid, .slice bj bi bk, .slice aZ aY a5, .slice aM aL aN, .slice bn bm bo, .slice a7 a6 a8, .slice ba a9 bc, .int .i64 q.Enum.Done, .map (some cR), .slice cg cf ci, .slice bS bQ bT, .slice bV bU bW] 72 (0, 0)), .row 26 1 bj bi bk cq, .row 26 1 aZ aY a5 cl, .row 3 1 aM aL aN cb, .row 3 1 bn bm bo cr, .row 26 1 a7 a6 a8 co, .row 39 2 ba a9 bc cp, .row 9 1 cg cf ci dr, .row 3 1 bS bQ bT da, .row 3 1 bV bU bW db, .any (mapE (fun a : List UInt8 => Value.string (gstr a)) (fun a : Int => Value.int .i64 a) cR q.number)] ++ A) w' cp q.Enum.Rules ∧ Els (Rp.str) (bl [.blk b_q (.cells #[.int .i64 q.Enum.Points, .bool q.Enum.Monoid, .slice bj bi bk, .slice aZ aY a5, .slice aM aL aN, .slice bn bm bo, .slice a7 a6 a8, .slice ba a9 bc, .int .i64 q.Enum.Done, .map (some cR), .slice cg cf ci, .slice bS bQ bT, .slice bV bU bW] 72 (0, 0)), .row 26 1 bj bi bk cq, .row 26 1 aZ aY a5 cl, .row 3 1 aM aL aN cb, .row 3 1 bn bm bo cr, .row 26 1 a7 a6 a8 co, .row 39 2 ba a9 bc cp, .row 9 1 cg cf ci dr, .row 3 1 bS bQ bT da, .row 3 1 bV bU bW db, .any (mapE (fun a : List UInt8 => Value.string (gstr a)) (fun a : Int => Value.int .i64 a) cR q.number)] ++ A) w' dr q.words ∧ Els (Rp.int .i64) (bl [.blk b_q (.cells #[.int .i64 q.Enum.Points, .bool q.Enum.Monoid, .slice bj bi bk, .slice aZ aY a5, .slice aM aL aN, .slice bn bm bo, .slice a7 a6 a8, .slice ba a9 bc, .int .i64 q.Enum.Done, .map (some cR), .slice cg cf ci, .slice bS bQ bT, .slice bV bU bW] 72 (0, 0)), .row 26 1 bj bi bk cq, .row 26 1 aZ aY a5 cl, .row 3 1 aM aL aN cb, .row 3 1 bn bm bo cr, .row 26 1 a7 a6 a8 co, .row 39 2 ba a9 bc cp, .row 9 1 cg cf ci dr, .row 3 1 bS bQ bT da, .row 3 1 bV bU bW db, .any (mapE (fun a : List UInt8 => Value.string (gstr a)) (fun a : Int => Value.int .i64 a) cR q.number)] ++ A) w' da q.behind ∧ Els (Rp.int .i64) (bl [.blk b_q (.cells #[.int .i64 q.Enum.Points, .bool q.Enum.Monoid, .slice bj bi bk, .slice aZ aY a5, .slice aM aL aN, .slice bn bm bo, .slice a7 a6 a8, .slice ba a9 bc, .int .i64 q.Enum.Done, .map (some cR), .slice cg cf ci, .slice bS bQ bT, .slice bV bU bW] 72 (0, 0)), .row 26 1 bj bi bk cq, .row 26 1 aZ aY a5 cl, .row 3 1 aM aL aN cb, .row 3 1 bn bm bo cr, .row 26 1 a7 a6 a8 co, .row 39 2 ba a9 bc cp, .row 9 1 cg cf ci dr, .row 3 1 bS bQ bT da, .row 3 1 bV bU bW db, .any (mapE (fun a : List UInt8 => Value.string (gstr a)) (fun a : Int => Value.int .i64 a) cR q.number)] ++ A) w' db q.single ∧ K (some q) r1)) := by
 refine CallsV.of (l := [.agg #[.int .i64 e.Points, .bool e.Monoid, .slice bp e.Gens.length bq, .slice aO e.Elems.length aP, .slice ar e.Prefix.length au, .slice bg e.Last.length bh, .slice aQ e.Right.length aR, .slice aS e.Rules.length aT, .int .i64 e.Done]]) Try.func53 rfl Try.ntmps53 rfl ?_
 have hO := Owns.start hA
 have hB := Fr.refl (bl []) w0
 unfold enumerate_replay at H
 replace ah := ah.ch (Ch.start A w0)
 replace ae := ae.ch (Ch.start A w0)
 replace ad := ad.ch (Ch.start A w0)
 replace ai := ai.ch (Ch.start A w0)
 replace af := af.ch (Ch.start A w0)
 replace ag := ag.ch (Ch.start A w0)
 refine Go1.seq ?_
 refine Go1.region ?_
 have hobt := obox (t := 29) (v := .agg #[.int .i64 e.Points, .bool e.Monoid, .slice bp e.Gens.length bq, .slice aO e.Elems.length aP, .slice ar e.Prefix.length au, .slice bg e.Last.length bh, .slice aQ e.Right.length aR, .slice aS e.Rules.length aT, .int .i64 e.Done]) (cs := #[.int .i64 e.Points, .bool e.Monoid, .slice bp e.Gens.length bq, .slice aO e.Elems.length aP, .slice ar e.Prefix.length au, .slice bg e.Last.length bh, .slice aQ e.Right.length aR, .slice aS e.Rules.length aT, .int .i64 e.Done]) hO rfl
 obtain ⟨w1, B2, jo, hs4, wl⟩ := hobt
 refine GoR.op (wl rfl) rfl rfl ?_
 replace hO := jo.own
 replace ah := ah.ch jo.ch
 replace ae := ae.ch jo.ch
 replace ad := ad.ch jo.ch
 replace ai := ai.ch jo.ch
 replace af := af.ch jo.ch
 replace ag := ag.ch jo.ch
 replace hB := hB.trans jo.fr
 refine GoR.op ((op_assign rfl) _) rfl rfl ?_
 refine GoR.op ((op_assign rfl) _) rfl rfl ?_
 refine GoR.nil ?_
 refine Go1.seq ?_
 refine Go1.region ?_
 refine GoR.op ((op_fieldAddr Try.underlying29 rfl ti22 rfl (by decide)) _) rfl rfl ?_
 refine GoR.op ((oblk (i := 2) 0 hO rfl rfl Try.underlying22 rfl rfl) _ (Same.refl _)) rfl rfl ?_
 refine GoR.op ((op_fieldAddr Try.underlying29 rfl ti4 rfl (by decide)) _) rfl rfl ?_
 by_cases h7 : e.Monoid = true
 ·replace H := ifp h7 H
  refine GoR.op (opB ((oblk (i := 1) 0 hO rfl rfl Try.underlying4 rfl rfl) _ (Same.refl _)) (h7)) rfl rfl ?_
  refine GoR.call (op_call body49 rfl (walk_enumerate_begin hO.lt ah H)) rfl rfl ?_
  intro v10 w11 hcase14
  refine Or.elim hcase14 ?_ ?_
  ·refine exE fun r9 => andE fun hv15 => andE fun xU => fun H => ?_
   subst hv15
   clear hcase14
   replace H := oElimN H
   have uc := Stp.same hO xU
   replace hO := uc.own
   replace ah := ah.ch uc.ch
   replace ae := ae.ch uc.ch
   replace ad := ad.ch uc.ch
   replace ai := ai.ch uc.ch
   replace af := af.ch uc.ch
   replace ag := ag.ch uc.ch
   replace hB := hB.trans uc.fr
   refine GoR.op ((op_move rfl) _) rfl rfl ?_
   refine GoR.op ((op_extract rfl rfl) _) rfl rfl ?_
   refine GoR.op ((op_extract rfl rfl) _) rfl rfl ?_
   refine GoR.op ((op_assign rfl) _) rfl rfl ?_
   refine GoR.op ((op_assign rfl) _) rfl rfl ?_
   refine GoR.nil ?_
   refine Go1.seq ?_
   refine Go1.seq ?_
   refine Go1.region ?_
   refine GoR.op ((op_move rfl) _) rfl rfl ?_
   by_cases h17 : r9 = (0 : Int)
   ·replace H := ifp h17 H
    refine GoR.op ((fun w => opB (op_neq rfl rfl w) (ndT h17)) _) rfl rfl ?_
    refine GoR.nil ?_
    refine Go1.condF rfl rfl ?_
    refine Go1.skip ?_
    refine Go1.seq ?_
    refine Go1.block ?_
    refine Go1.loopW (S := Unit) (fun s σ w => agrees σ [(1, .pointer (some ⟨B2, 0, none⟩)), (4, .pointer none)] ∧ Owns w0.heap.size w [.blk B2 (.cells #[.int .i64 e.Points, .bool e.Monoid, .slice bp e.Gens.length bq, .slice aO e.Elems.length aP, .slice ar e.Prefix.length au, .slice bg e.Last.length bh, .slice aQ e.Right.length aR, .slice aS e.Rules.length aT, .int .i64 e.Done] 29 (0, 0))] A ∧ ISl (Rp.sl (Rp.int .i64)) (bl [.blk B2 (.cells #[.int .i64 e.Points, .bool e.Monoid, .slice bp e.Gens.length bq, .slice aO e.Elems.length aP, .slice ar e.Prefix.length au, .slice bg e.Last.length bh, .slice aQ e.Right.length aR, .slice aS e.Rules.length aT, .int .i64 e.Done] 29 (0, 0))] ++ A) w bp bq e.Gens ∧ ISl (Rp.sl (Rp.int .i64)) (bl [.blk B2 (.cells #[.int .i64 e.Points, .bool e.Monoid, .slice bp e.Gens.length bq, .slice aO e.Elems.length aP, .slice ar e.Prefix.length au, .slice bg e.Last.length bh, .slice aQ e.Right.length aR, .slice aS e.Rules.length aT, .int .i64 e.Done] 29 (0, 0))] ++ A) w aO aP e.Elems ∧ ISl (Rp.int .i64) (bl [.blk B2 (.cells #[.int .i64 e.Points, .bool e.Monoid, .slice bp e.Gens.length bq, .slice aO e.Elems.length aP, .slice ar e.Prefix.length au, .slice bg e.Last.length bh, .slice aQ e.Right.length aR, .slice aS e.Rules.length aT, .int .i64 e.Done] 29 (0, 0))] ++ A) w ar au e.Prefix ∧ ISl (Rp.int .i64) (bl [.blk B2 (.cells #[.int .i64 e.Points, .bool e.Monoid, .slice bp e.Gens.length bq, .slice aO e.Elems.length aP, .slice ar e.Prefix.length au, .slice bg e.Last.length bh, .slice aQ e.Right.length aR, .slice aS e.Rules.length aT, .int .i64 e.Done] 29 (0, 0))] ++ A) w bg bh e.Last ∧ ISl (Rp.sl (Rp.int .i64)) (bl [.blk B2 (.cells #[.int .i64 e.Points, .bool e.Monoid, .slice bp e.Gens.length bq, .slice aO e.Elems.length aP, .slice ar e.Prefix.length au, .slice bg e.Last.length bh, .slice aQ e.Right.length aR, .slice aS e.Rules.length aT, .int .i64 e.Done] 29 (0, 0))] ++ A) w aQ aR e.Right ∧ ISl (rpRule) (bl [.blk B2 (.cells #[.int .i64 e.Points, .bool e.Monoid, .slice bp e.Gens.length bq, .slice aO e.Elems.length aP, .slice ar e.Prefix.length au, .slice bg e.Last.length bh, .slice aQ e.Right.length aR, .slice aS e.Rules.length aT, .int .i64 e.Done] 29 (0, 0))] ++ A) w aS aT e.Rules ∧ Fr (bl []) w0 (bl [.blk B2 (.cells #[.int .i64 e.Points, .bool e.Monoid, .slice bp e.Gens.length bq, .slice aO e.Elems.length aP, .slice ar e.Prefix.length au, .slice bg e.Last.length bh, .slice aQ e.Right.length aR, .slice aS e.Rules.length aT, .int .i64 e.Done] 29 (0, 0))]) w) H ⟨⟨rfl, rfl, trivial⟩, hO, ah, ae, ad, ai, af, ag, hB⟩ ?_
    intro X1 _
    intro H hX1 σ w18
    refine andE fun hag => andE fun hO => andE fun ah => andE fun ae => andE fun ad => andE fun ai => andE fun af => andE fun ag => fun hB => ?_
    refine Go1.keep [(1, .pointer (some ⟨B2, 0, none⟩)), (4, .pointer none)] hag ?_
    refine Go1.seq ?_
    refine Go1.seq ?_
    refine Go1.drawS 0 [(0, .pure), (1, .pure), (2, .pure), (3, .pure), (4, .stable), (5, .pure), (6, .stable), (7, .pure)] mixed (by kernel_rfl) ?_
    intro w19 AN
    have si := Stp.same hO AN
    replace hO := si.own
    replace ah := ah.ch si.ch
    replace ae := ae.ch si.ch
    replace ad := ad.ch si.ch
    replace ai := ai.ch si.ch
    replace af := af.ch si.ch
    replace ag := ag.ch si.ch
    replace hB := hB.trans si.fr
    refine GoQ.pure rfl (op_move rfl) rfl rfl ?_
    exact H.elim
   replace H := ifn h17 H
   refine GoR.op ((fun w => opB (op_neq rfl rfl w) (ndF h17)) _) rfl rfl ?_
   refine GoR.nil ?_
   refine Go1.condT rfl rfl ?_
   refine Go1.seq ?_
   refine Go1.region ?_
   refine GoR.op ((op_assign rfl) _) rfl rfl ?_
   refine GoR.op ((op_assign rfl) _) rfl rfl ?_
   refine GoR.nil ?_
   refine Go1.ret2 Try.func53 rfl ?_
   exact Or.inl ⟨false, rfl, hB.same, H⟩
  ·refine exE fun r8 => exE fun r9 => exE fun iR => exE fun xm => exE fun xn => exE fun xo => exE fun wP => exE fun wQ => exE fun wR => exE fun wS => exE fun wm => exE fun wn => exE fun wo => exE fun wq => exE fun vB => exE fun xp => exE fun xq => exE fun xr => exE fun wT => exE fun wU => exE fun wV => exE fun wW => exE fun wr => exE fun wX => exE fun wY => exE fun wZ => exE fun ws => exE fun bP => exE fun zm => exE fun zn => exE fun zo => exE fun yn => exE fun yo => exE fun yp => exE fun yq => exE fun yc => exE fun yr => exE fun yt => exE fun yu => exE fun yd => andE fun hv22 => andE fun xU => andE fun hN13 => andE fun qN => andE fun pq => andE fun oh => andE fun qO => andE fun pr => andE fun pt => andE fun sP => andE fun sj => andE fun sk => fun H => ?_
   subst hv22
   clear hcase14
   replace H := oElimS H
   have jy := Stp.more hO xU hN13
   dsimp only [List.cons_append, List.nil_append] at jy
   replace hO := jy.own
   replace ah := ah.ch jy.ch
   replace ae := ae.ch jy.ch
   replace ad := ad.ch jy.ch
   replace ai := ai.ch jy.ch
   replace af := af.ch jy.ch
   replace ag := ag.ch jy.ch
   replace hB := hB.trans jy.fr
   replace qN := qN.ch (Ch.assoc _ _ _ _)
   dsimp only [List.cons_append, List.nil_append] at qN
   replace pq := pq.ch (Ch.assoc _ _ _ _)
   dsimp only [List.cons_append, List.nil_append] at pq
   replace oh := oh.ch (Ch.assoc _ _ _ _)
   dsimp only [List.cons_append, List.nil_append] at oh
   replace qO := qO.ch (Ch.assoc _ _ _ _)
   dsimp only [List.cons_append, List.nil_append] at qO
   replace pr := pr.ch (Ch.assoc _ _ _ _)
   dsimp only [List.cons_append, List.nil_append] at pr
   replace pt := pt.ch (Ch.assoc _ _ _ _)
   dsimp only [List.cons_append, List.nil_append] at pt
   replace sP := sP.ch (Ch.assoc _ _ _ _)
   dsimp only [List.cons_append, List.nil_append] at sP
   replace sj := sj.ch (Ch.assoc _ _ _ _)
   dsimp only [List.cons_append, List.nil_append] at sj
   replace sk := sk.ch (Ch.assoc _ _ _ _)
   dsimp only [List.cons_append, List.nil_append] at sk
   refine GoR.op ((op_move rfl) _) rfl rfl ?_
   refine GoR.op ((op_extract rfl rfl) _) rfl rfl ?_
   refine GoR.op ((op_extract rfl rfl) _) rfl rfl ?_
   refine GoR.op ((op_assign rfl) _) rfl rfl ?_
   refine GoR.op ((op_assign rfl) _) rfl rfl ?_
   refine GoR.nil ?_
   refine Go1.seq ?_
   refine Go1.seq ?_
   refine Go1.region ?_
   refine GoR.op ((op_move rfl) _) rfl rfl ?_
   by_cases h35 : r9 = (0 : Int)
   ·replace H := ifp h35 H
    refine GoR.op ((fun w => opB (op_neq rfl rfl w) (ndT h35)) _) rfl rfl ?_
    refine GoR.nil ?_
    refine Go1.condF rfl rfl ?_
    refine Go1.skip ?_
    refine Go1.seq ?_
    refine Go1.block ?_
    refine Go1.loopW (S := Int × Bool × Int × List (List Int) × List (List Int) × List Int × List Int × List (List Int) × List Rule × List Str × List Int × List Int × (List (Str × Int))) (fun s σ w => match s with | (k2_37, b2_38, k2_39, d_40, d_46, d_52, d_58, d_64, d_70, d_76, d_82, d_88, m2_94) => ∃ (n45 : Nat), ∃ (p43 : Option Addr), ∃ (c44 : Nat), ∃ (eC : List Value), ∃ (n51 : Nat), ∃ (p49 : Option Addr), ∃ (c50 : Nat), ∃ (eF : List Value), ∃ (n57 : Nat), ∃ (p55 : Option Addr), ∃ (c56 : Nat), ∃ (jY : List Value), ∃ (n63 : Nat), ∃ (p61 : Option Addr), ∃ (c62 : Nat), ∃ (jZ : List Value), ∃ (n69 : Nat), ∃ (p67 : Option Addr), ∃ (c68 : Nat), ∃ (j3 : List Value), ∃ (n75 : Nat), ∃ (p73 : Option Addr), ∃ (c74 : Nat), ∃ (j4 : List Value), ∃ (n81 : Nat), ∃ (p79 : Option Addr), ∃ (c80 : Nat), ∃ (j5 : List Value), ∃ (n87 : Nat), ∃ (p85 : Option Addr), ∃ (c86 : Nat), ∃ (j6 : List Value), ∃ (n93 : Nat), ∃ (p91 : Option Addr), ∃ (c92 : Nat), ∃ (j7 : List Value), agrees σ [(1, .pointer (some ⟨B2, 0, none⟩)), (4, .pointer (some ⟨iR, 0, none⟩))] ∧ Owns w0.heap.size w [.blk iR (.cells #[.int .i64 k2_37, .bool b2_38, .slice p43 n45 c44, .slice p49 n51 c50, .slice p55 n57 c56, .slice p61 n63 c62, .slice p67 n69 c68, .slice p73 n75 c74, .int .i64 k2_39, .map (some bP), .slice p79 n81 c80, .slice p85 n87 c86, .slice p91 n93 c92] 72 (0, 0)), .row 26 1 p43 n45 c44 eC, .row 26 1 p49 n51 c50 eF, .row 3 1 p55 n57 c56 jY, .row 3 1 p61 n63 c62 jZ, .row 26 1 p67 n69 c68 j3, .row 39 2 p73 n75 c74 j4, .row 9 1 p79 n81 c80 j5, .row 3 1 p85 n87 c86 j6, .row 3 1 p91 n93 c92 j7, .any (mapE (fun a : List UInt8 => Value.string (gstr a)) (fun a : Int => Value.int .i64 a) bP m2_94), .blk B2 (.cells #[.int .i64 e.Points, .bool e.Monoid, .slice bp e.Gens.length bq, .slice aO e.Elems.length aP, .slice ar e.Prefix.length au, .slice bg e.Last.length bh, .slice aQ e.Right.length aR, .slice aS e.Rules.length aT, .int .i64 e.Done] 29 (0, 0))] A ∧ Els (Rp.sl (Rp.int .i64)) (bl [.blk iR (.cells #[.int .i64 k2_37, .bool b2_38, .slice p43 n45 c44, .slice p49 n51 c50, .slice p55 n57 c56, .slice p61 n63 c62, .slice p67 n69 c68, .slice p73 n75 c74, .int .i64 k2_39, .map (some bP), .slice p79 n81 c80, .slice p85 n87 c86, .slice p91 n93 c92] 72 (0, 0)), .row 26 1 p43 n45 c44 eC, .row 26 1 p49 n51 c50 eF, .row 3 1 p55 n57 c56 jY, .row 3 1 p61 n63 c62 jZ, .row 26 1 p67 n69 c68 j3, .row 39 2 p73 n75 c74 j4, .row 9 1 p79 n81 c80 j5, .row 3 1 p85 n87 c86 j6, .row 3 1 p91 n93 c92 j7, .any (mapE (fun a : List UInt8 => Value.string (gstr a)) (fun a : Int => Value.int .i64 a) bP m2_94), .blk B2 (.cells #[.int .i64 e.Points, .bool e.Monoid, .slice bp e.Gens.length bq, .slice aO e.Elems.length aP, .slice ar e.Prefix.length au, .slice bg e.Last.length bh, .slice aQ e.Right.length aR, .slice aS e.Rules.length aT, .int .i64 e.Done] 29 (0, 0))] ++ A) w eC d_40 ∧ Els (Rp.sl (Rp.int .i64)) (bl [.blk iR (.cells #[.int .i64 k2_37, .bool b2_38, .slice p43 n45 c44, .slice p49 n51 c50, .slice p55 n57 c56, .slice p61 n63 c62, .slice p67 n69 c68, .slice p73 n75 c74, .int .i64 k2_39, .map (some bP), .slice p79 n81 c80, .slice p85 n87 c86, .slice p91 n93 c92] 72 (0, 0)), .row 26 1 p43 n45 c44 eC, .row 26 1 p49 n51 c50 eF, .row 3 1 p55 n57 c56 jY, .row 3 1 p61 n63 c62 jZ, .row 26 1 p67 n69 c68 j3, .row 39 2 p73 n75 c74 j4, .row 9 1 p79 n81 c80 j5, .row 3 1 p85 n87 c86 j6, .row 3 1 p91 n93 c92 j7, .any (mapE (fun a : List UInt8 => Value.string (gstr a)) (fun a : Int => Value.int .i64 a) bP m2_94), .blk B2 (.cells #[.int .i64 e.Points, .bool e.Monoid, .slice bp e.Gens.length bq, .slice aO e.Elems.length aP, .slice ar e.Prefix.length au, .slice bg e.Last.length bh, .slice aQ e.Right.length aR, .slice aS e.Rules.length aT, .int .i64 e.Done] 29 (0, 0))] ++ A) w eF d_46 ∧ Els (Rp.int .i64) (bl [.blk iR (.cells #[.int .i64 k2_37, .bool b2_38, .slice p43 n45 c44, .slice p49 n51 c50, .slice p55 n57 c56, .slice p61 n63 c62, .slice p67 n69 c68, .slice p73 n75 c74, .int .i64 k2_39, .map (some bP), .slice p79 n81 c80, .slice p85 n87 c86, .slice p91 n93 c92] 72 (0, 0)), .row 26 1 p43 n45 c44 eC, .row 26 1 p49 n51 c50 eF, .row 3 1 p55 n57 c56 jY, .row 3 1 p61 n63 c62 jZ, .row 26 1 p67 n69 c68 j3, .row 39 2 p73 n75 c74 j4, .row 9 1 p79 n81 c80 j5, .row 3 1 p85 n87 c86 j6, .row 3 1 p91 n93 c92 j7, .any (mapE (fun a : List UInt8 => Value.string (gstr a)) (fun a : Int => Value.int .i64 a) bP m2_94), .blk B2 (.cells #[.int .i64 e.Points, .bool e.Monoid, .slice bp e.Gens.length bq, .slice aO e.Elems.length aP, .slice ar e.Prefix.length au, .slice bg e.Last.length bh, .slice aQ e.Right.length aR, .slice aS e.Rules.length aT, .int .i64 e.Done] 29 (0, 0))] ++ A) w jY d_52 ∧ Els (Rp.int .i64) (bl [.blk iR (.cells #[.int .i64 k2_37, .bool b2_38, .slice p43 n45 c44, .slice p49 n51 c50, .slice p55 n57 c56, .slice p61 n63 c62, .slice p67 n69 c68, .slice p73 n75 c74, .int .i64 k2_39, .map (some bP), .slice p79 n81 c80, .slice p85 n87 c86, .slice p91 n93 c92] 72 (0, 0)), .row 26 1 p43 n45 c44 eC, .row 26 1 p49 n51 c50 eF, .row 3 1 p55 n57 c56 jY, .row 3 1 p61 n63 c62 jZ, .row 26 1 p67 n69 c68 j3, .row 39 2 p73 n75 c74 j4, .row 9 1 p79 n81 c80 j5, .row 3 1 p85 n87 c86 j6, .row 3 1 p91 n93 c92 j7, .any (mapE (fun a : List UInt8 => Value.string (gstr a)) (fun a : Int => Value.int .i64 a) bP m2_94), .blk B2 (.cells #[.int .i64 e.Points, .bool e.Monoid, .slice bp e.Gens.length bq, .slice aO e.Elems.length aP, .slice ar e.Prefix.length au, .slice bg e.Last.length bh, .slice aQ e.Right.length aR, .slice aS e.Rules.length aT, .int .i64 e.Done] 29 (0, 0))] ++ A) w jZ d_58 ∧ Els (Rp.sl (Rp.int .i64)) (bl [.blk iR (.cells #[.int .i64 k2_37, .bool b2_38, .slice p43 n45 c44, .slice p49 n51 c50, .slice p55 n57 c56, .slice p61 n63 c62, .slice p67 n69 c68, .slice p73 n75 c74, .int .i64 k2_39, .map (some bP), .slice p79 n81 c80, .slice p85 n87 c86, .slice p91 n93 c92] 72 (0, 0)), .row 26 1 p43 n45 c44 eC, .row 26 1 p49 n51 c50 eF, .row 3 1 p55 n57 c56 jY, .row 3 1 p61 n63 c62 jZ, .row 26 1 p67 n69 c68 j3, .row 39 2 p73 n75 c74 j4, .row 9 1 p79 n81 c80 j5, .row 3 1 p85 n87 c86 j6, .row 3 1 p91 n93 c92 j7, .any (mapE (fun a : List UInt8 => Value.string (gstr a)) (fun a : Int => Value.int .i64 a) bP m2_94), .blk B2 (.cells #[.int .i64 e.Points, .bool e.Monoid, .slice bp e.Gens.length bq, .slice aO e.Elems.length aP, .slice ar e.Prefix.length au, .slice bg e.Last.length bh, .slice aQ e.Right.length aR, .slice aS e.Rules.length aT, .int .i64 e.Done] 29 (0, 0))] ++ A) w j3 d_64 ∧ Els (rpRule) (bl [.blk iR (.cells #[.int .i64 k2_37, .bool b2_38, .slice p43 n45 c44, .slice p49 n51 c50, .slice p55 n57 c56, .slice p61 n63 c62, .slice p67 n69 c68, .slice p73 n75 c74, .int .i64 k2_39, .map (some bP), .slice p79 n81 c80, .slice p85 n87 c86, .slice p91 n93 c92] 72 (0, 0)), .row 26 1 p43 n45 c44 eC, .row 26 1 p49 n51 c50 eF, .row 3 1 p55 n57 c56 jY, .row 3 1 p61 n63 c62 jZ, .row 26 1 p67 n69 c68 j3, .row 39 2 p73 n75 c74 j4, .row 9 1 p79 n81 c80 j5, .row 3 1 p85 n87 c86 j6, .row 3 1 p91 n93 c92 j7, .any (mapE (fun a : List UInt8 => Value.string (gstr a)) (fun a : Int => Value.int .i64 a) bP m2_94), .blk B2 (.cells #[.int .i64 e.Points, .bool e.Monoid, .slice bp e.Gens.length bq, .slice aO e.Elems.length aP, .slice ar e.Prefix.length au, .slice bg e.Last.length bh, .slice aQ e.Right.length aR, .slice aS e.Rules.length aT, .int .i64 e.Done] 29 (0, 0))] ++ A) w j4 d_70 ∧ Els (Rp.str) (bl [.blk iR (.cells #[.int .i64 k2_37, .bool b2_38, .slice p43 n45 c44, .slice p49 n51 c50, .slice p55 n57 c56, .slice p61 n63 c62, .slice p67 n69 c68, .slice p73 n75 c74, .int .i64 k2_39, .map (some bP), .slice p79 n81 c80, .slice p85 n87 c86, .slice p91 n93 c92] 72 (0, 0)), .row 26 1 p43 n45 c44 eC, .row 26 1 p49 n51 c50 eF, .row 3 1 p55 n57 c56 jY, .row 3 1 p61 n63 c62 jZ, .row 26 1 p67 n69 c68 j3, .row 39 2 p73 n75 c74 j4, .row 9 1 p79 n81 c80 j5, .row 3 1 p85 n87 c86 j6, .row 3 1 p91 n93 c92 j7, .any (mapE (fun a : List UInt8 => Value.string (gstr a)) (fun a : Int => Value.int .i64 a) bP m2_94), .blk B2 (.cells #[.int .i64 e.Points, .bool e.Monoid, .slice bp e.Gens.length bq, .slice aO e.Elems.length aP, .slice ar e.Prefix.length au, .slice bg e.Last.length bh, .slice aQ e.Right.length aR, .slice aS e.Rules.length aT, .int .i64 e.Done] 29 (0, 0))] ++ A) w j5 d_76 ∧ Els (Rp.int .i64) (bl [.blk iR (.cells #[.int .i64 k2_37, .bool b2_38, .slice p43 n45 c44, .slice p49 n51 c50, .slice p55 n57 c56, .slice p61 n63 c62, .slice p67 n69 c68, .slice p73 n75 c74, .int .i64 k2_39, .map (some bP), .slice p79 n81 c80, .slice p85 n87 c86, .slice p91 n93 c92] 72 (0, 0)), .row 26 1 p43 n45 c44 eC, .row 26 1 p49 n51 c50 eF, .row 3 1 p55 n57 c56 jY, .row 3 1 p61 n63 c62 jZ, .row 26 1 p67 n69 c68 j3, .row 39 2 p73 n75 c74 j4, .row 9 1 p79 n81 c80 j5, .row 3 1 p85 n87 c86 j6, .row 3 1 p91 n93 c92 j7, .any (mapE (fun a : List UInt8 => Value.string (gstr a)) (fun a : Int => Value.int .i64 a) bP m2_94), .blk B2 (.cells #[.int .i64 e.Points, .bool e.Monoid, .slice bp e.Gens.length bq, .slice aO e.Elems.length aP, .slice ar e.Prefix.length au, .slice bg e.Last.length bh, .slice aQ e.Right.length aR, .slice aS e.Rules.length aT, .int .i64 e.Done] 29 (0, 0))] ++ A) w j6 d_82 ∧ Els (Rp.int .i64) (bl [.blk iR (.cells #[.int .i64 k2_37, .bool b2_38, .slice p43 n45 c44, .slice p49 n51 c50, .slice p55 n57 c56, .slice p61 n63 c62, .slice p67 n69 c68, .slice p73 n75 c74, .int .i64 k2_39, .map (some bP), .slice p79 n81 c80, .slice p85 n87 c86, .slice p91 n93 c92] 72 (0, 0)), .row 26 1 p43 n45 c44 eC, .row 26 1 p49 n51 c50 eF, .row 3 1 p55 n57 c56 jY, .row 3 1 p61 n63 c62 jZ, .row 26 1 p67 n69 c68 j3, .row 39 2 p73 n75 c74 j4, .row 9 1 p79 n81 c80 j5, .row 3 1 p85 n87 c86 j6, .row 3 1 p91 n93 c92 j7, .any (mapE (fun a : List UInt8 => Value.string (gstr a)) (fun a : Int => Value.int .i64 a) bP m2_94), .blk B2 (.cells #[.int .i64 e.Points, .bool e.Monoid, .slice bp e.Gens.length bq, .slice aO e.Elems.length aP, .slice ar e.Prefix.length au, .slice bg e.Last.length bh, .slice aQ e.Right.length aR, .slice aS e.Rules.length aT, .int .i64 e.Done] 29 (0, 0))] ++ A) w j7 d_88 ∧ ISl (Rp.sl (Rp.int .i64)) (bl [.blk iR (.cells #[.int .i64 k2_37, .bool b2_38, .slice p43 n45 c44, .slice p49 n51 c50, .slice p55 n57 c56, .slice p61 n63 c62, .slice p67 n69 c68, .slice p73 n75 c74, .int .i64 k2_39, .map (some bP), .slice p79 n81 c80, .slice p85 n87 c86, .slice p91 n93 c92] 72 (0, 0)), .row 26 1 p43 n45 c44 eC, .row 26 1 p49 n51 c50 eF, .row 3 1 p55 n57 c56 jY, .row 3 1 p61 n63 c62 jZ, .row 26 1 p67 n69 c68 j3, .row 39 2 p73 n75 c74 j4, .row 9 1 p79 n81 c80 j5, .row 3 1 p85 n87 c86 j6, .row 3 1 p91 n93 c92 j7, .any (mapE (fun a : List UInt8 => Value.string (gstr a)) (fun a : Int => Value.int .i64 a) bP m2_94), .blk B2 (.cells #[.int .i64 e.Points, .bool e.Monoid, .slice bp e.Gens.length bq, .slice aO e.Elems.length aP, .slice ar e.Prefix.length au, .slice bg e.Last.length bh, .slice aQ e.Right.length aR, .slice aS e.Rules.length aT, .int .i64 e.Done] 29 (0, 0))] ++ A) w bp bq e.Gens ∧ ISl (Rp.sl (Rp.int .i64)) (bl [.blk iR (.cells #[.int .i64 k2_37, .bool b2_38, .slice p43 n45 c44, .slice p49 n51 c50, .slice p55 n57 c56, .slice p61 n63 c62, .slice p67 n69 c68, .slice p73 n75 c74, .int .i64 k2_39, .map (some bP), .slice p79 n81 c80, .slice p85 n87 c86, .slice p91 n93 c92] 72 (0, 0)), .row 26 1 p43 n45 c44 eC, .row 26 1 p49 n51 c50 eF, .row 3 1 p55 n57 c56 jY, .row 3 1 p61 n63 c62 jZ, .row 26 1 p67 n69 c68 j3, .row 39 2 p73 n75 c74 j4, .row 9 1 p79 n81 c80 j5, .row 3 1 p85 n87 c86 j6, .row 3 1 p91 n93 c92 j7, .any (mapE (fun a : List UInt8 => Value.string (gstr a)) (fun a : Int => Value.int .i64 a) bP m2_94), .blk B2 (.cells #[.int .i64 e.Points, .bool e.Monoid, .slice bp e.Gens.length bq, .slice aO e.Elems.length aP, .slice ar e.Prefix.length au, .slice bg e.Last.length bh, .slice aQ e.Right.length aR, .slice aS e.Rules.length aT, .int .i64 e.Done] 29 (0, 0))] ++ A) w aO aP e.Elems ∧ ISl (Rp.int .i64) (bl [.blk iR (.cells #[.int .i64 k2_37, .bool b2_38, .slice p43 n45 c44, .slice p49 n51 c50, .slice p55 n57 c56, .slice p61 n63 c62, .slice p67 n69 c68, .slice p73 n75 c74, .int .i64 k2_39, .map (some bP), .slice p79 n81 c80, .slice p85 n87 c86, .slice p91 n93 c92] 72 (0, 0)), .row 26 1 p43 n45 c44 eC, .row 26 1 p49 n51 c50 eF, .row 3 1 p55 n57 c56 jY, .row 3 1 p61 n63 c62 jZ, .row 26 1 p67 n69 c68 j3, .row 39 2 p73 n75 c74 j4, .row 9 1 p79 n81 c80 j5, .row 3 1 p85 n87 c86 j6, .row 3 1 p91 n93 c92 j7, .any (mapE (fun a : List UInt8 => Value.string (gstr a)) (fun a : Int => Value.int .i64 a) bP m2_94), .blk B2 (.cells #[.int .i64 e.Points, .bool e.Monoid, .slice bp e.Gens.length bq, .slice aO e.Elems.length aP, .slice ar e.Prefix.length au, .slice bg e.Last.length bh, .slice aQ e.Right.length aR, .slice aS e.Rules.length aT, .int .i64 e.Done] 29 (0, 0))] ++ A) w ar au e.Prefix ∧ ISl (Rp.int .i64) (bl [.blk iR (.cells #[.int .i64 k2_37, .bool b2_38, .slice p43 n45 c44, .slice p49 n51 c50, .slice p55 n57 c56, .slice p61 n63 c62, .slice p67 n69 c68, .slice p73 n75 c74, .int .i64 k2_39, .map (some bP), .slice p79 n81 c80, .slice p85 n87 c86, .slice p91 n93 c92] 72 (0, 0)), .row 26 1 p43 n45 c44 eC, .row 26 1 p49 n51 c50 eF, .row 3 1 p55 n57 c56 jY, .row 3 1 p61 n63 c62 jZ, .row 26 1 p67 n69 c68 j3, .row 39 2 p73 n75 c74 j4, .row 9 1 p79 n81 c80 j5, .row 3 1 p85 n87 c86 j6, .row 3 1 p91 n93 c92 j7, .any (mapE (fun a : List UInt8 => Value.string (gstr a)) (fun a : Int => Value.int .i64 a) bP m2_94), .blk B2 (.cells #[.int .i64 e.Points, .bool e.Monoid, .slice bp e.Gens.length bq, .slice aO e.Elems.length aP, .slice ar e.Prefix.length au, .slice bg e.Last.length bh, .slice aQ e.Right.length aR, .slice aS e.Rules.length aT, .int .i64 e.Done] 29 (0, 0))] ++ A) w bg bh e.Last ∧ ISl (Rp.sl (Rp.int .i64)) (bl [.blk iR (.cells #[.int .i64 k2_37, .bool b2_38, .slice p43 n45 c44, .slice p49 n51 c50, .slice p55 n57 c56, .slice p61 n63 c62, .slice p67 n69 c68, .slice p73 n75 c74, .int .i64 k2_39, .map (some bP), .slice p79 n81 c80, .slice p85 n87 c86, .slice p91 n93 c92] 72 (0, 0)), .row 26 1 p43 n45 c44 eC, .row 26 1 p49 n51 c50 eF, .row 3 1 p55 n57 c56 jY, .row 3 1 p61 n63 c62 jZ, .row 26 1 p67 n69 c68 j3, .row 39 2 p73 n75 c74 j4, .row 9 1 p79 n81 c80 j5, .row 3 1 p85 n87 c86 j6, .row 3 1 p91 n93 c92 j7, .any (mapE (fun a : List UInt8 => Value.string (gstr a)) (fun a : Int => Value.int .i64 a) bP m2_94), .blk B2 (.cells #[.int .i64 e.Points, .bool e.Monoid, .slice bp e.Gens.length bq, .slice aO e.Elems.length aP, .slice ar e.Prefix.length au, .slice bg e.Last.length bh, .slice aQ e.Right.length aR, .slice aS e.Rules.length aT, .int .i64 e.Done] 29 (0, 0))] ++ A) w aQ aR e.Right ∧ ISl (rpRule) (bl [.blk iR (.cells #[.int .i64 k2_37, .bool b2_38, .slice p43 n45 c44, .slice p49 n51 c50, .slice p55 n57 c56, .slice p61 n63 c62, .slice p67 n69 c68, .slice p73 n75 c74, .int .i64 k2_39, .map (some bP), .slice p79 n81 c80, .slice p85 n87 c86, .slice p91 n93 c92] 72 (0, 0)), .row 26 1 p43 n45 c44 eC, .row 26 1 p49 n51 c50 eF, .row 3 1 p55 n57 c56 jY, .row 3 1 p61 n63 c62 jZ, .row 26 1 p67 n69 c68 j3, .row 39 2 p73 n75 c74 j4, .row 9 1 p79 n81 c80 j5, .row 3 1 p85 n87 c86 j6, .row 3 1 p91 n93 c92 j7, .any (mapE (fun a : List UInt8 => Value.string (gstr a)) (fun a : Int => Value.int .i64 a) bP m2_94), .blk B2 (.cells #[.int .i64 e.Points, .bool e.Monoid, .slice bp e.Gens.length bq, .slice aO e.Elems.length aP, .slice ar e.Prefix.length au, .slice bg e.Last.length bh, .slice aQ e.Right.length aR, .slice aS e.Rules.length aT, .int .i64 e.Done] 29 (0, 0))] ++ A) w aS aT e.Rules ∧ Fr (bl []) w0 (bl [.blk iR (.cells #[.int .i64 k2_37, .bool b2_38, .slice p43 n45 c44, .slice p49 n51 c50, .slice p55 n57 c56, .slice p61 n63 c62, .slice p67 n69 c68, .slice p73 n75 c74, .int .i64 k2_39, .map (some bP), .slice p79 n81 c80, .slice p85 n87 c86, .slice p91 n93 c92] 72 (0, 0)), .row 26 1 p43 n45 c44 eC, .row 26 1 p49 n51 c50 eF, .row 3 1 p55 n57 c56 jY, .row 3 1 p61 n63 c62 jZ, .row 26 1 p67 n69 c68 j3, .row 39 2 p73 n75 c74 j4, .row 9 1 p79 n81 c80 j5, .row 3 1 p85 n87 c86 j6, .row 3 1 p91 n93 c92 j7, .any (mapE (fun a : List UInt8 => Value.string (gstr a)) (fun a : Int => Value.int .i64 a) bP m2_94), .blk B2 (.cells #[.int .i64 e.Points, .bool e.Monoid, .slice bp e.Gens.length bq, .slice aO e.Elems.length aP, .slice ar e.Prefix.length au, .slice bg e.Last.length bh, .slice aQ e.Right.length aR, .slice aS e.Rules.length aT, .int .i64 e.Done] 29 (0, 0))]) w) H ⟨xm, xn, xo, wP, wQ, wR, wS, wm, wn, wo, wq, vB, xp, xq, xr, wT, wU, wV, wW, wr, wX, wY, wZ, ws, zm, zn, zo, yn, yo, yp, yq, yc, yr, yt, yu, yd, ⟨rfl, rfl, trivial⟩, hO, qN, pq, oh, qO, pr, pt, sP, sj, sk, ah, ae, ad, ai, af, ag, hB⟩ ?_
    intro X2
    refine prE fun k2_37 => prE fun b2_38 => prE fun k2_39 => prE fun d_40 => prE fun d_46 => prE fun d_52 => prE fun d_58 => prE fun d_64 => prE fun d_70 => prE fun d_76 => prE fun d_82 => prE fun d_88 => fun m2_94 => ?_
    intro H hX2 σ w36
    refine exE fun n45 => exE fun p43 => exE fun c44 => exE fun eC => exE fun n51 => exE fun p49 => exE fun c50 => exE fun eF => exE fun n57 => exE fun p55 => exE fun c56 => exE fun jY => exE fun n63 => exE fun p61 => exE fun c62 => exE fun jZ => exE fun n69 => exE fun p67 => exE fun c68 => exE fun j3 => exE fun n75 => exE fun p73 => exE fun c74 => exE fun j4 => exE fun n81 => exE fun p79 => exE fun c80 => exE fun j5 => exE fun n87 => exE fun p85 => exE fun c86 => exE fun j6 => exE fun n93 => exE fun p91 => exE fun c92 => exE fun j7 => andE fun hag => andE fun hO => andE fun bf => andE fun aX => andE fun dT => andE fun dU => andE fun dV => andE fun dW => andE fun dX => andE fun dY => andE fun dI => andE fun ah => andE fun ae => andE fun ad => andE fun ai => andE fun af => andE fun ag => fun hB => ?_
    dsimp only at H
    refine Go1.keep [(1, .pointer (some ⟨B2, 0, none⟩)), (4, .pointer (some ⟨iR, 0, none⟩))] hag ?_
    refine Go1.seq ?_
    refine Go1.seq ?_
    refine Go1.drawS 0 [(0, .pure), (1, .pure), (2, .pure), (3, .pure), (4, .stable), (5, .pure), (6, .stable), (7, .pure)] mixed (by kernel_rfl) ?_
    intro w95 IE
    have gj := Stp.same hO IE
    replace bf := bf.ch gj.ch
    replace aX := aX.ch gj.ch
    replace dT := dT.ch gj.ch
    replace dU := dU.ch gj.ch
    replace dV := dV.ch gj.ch
    replace dW := dW.ch gj.ch
    replace dX := dX.ch gj.ch
    replace dY := dY.ch gj.ch
    replace dI := dI.ch gj.ch
    replace hO := gj.own
    replace ah := ah.ch gj.ch
    replace ae := ae.ch gj.ch
    replace ad := ad.ch gj.ch
    replace ai := ai.ch gj.ch
    replace af := af.ch gj.ch
    replace ag := ag.ch gj.ch
    replace hB := hB.trans gj.fr
    refine GoQ.pure rfl (op_move rfl) rfl rfl ?_
    refine GoQ.pure rfl (op_nilCheck rfl) rfl rfl ?_
    refine GoQ.pure rfl (op_fieldAddr Try.underlying72 rfl ti29 rfl (by decide)) rfl rfl ?_
    refine GoQ.pure rfl (op_fieldAddr Try.underlying29 rfl ti3 rfl (by decide)) rfl rfl ?_
    refine GoQ.stable rfl (oblk (i := 8) 0 hO rfl rfl Try.underlying3 rfl rfl) rfl rfl ?_
    refine GoQ.pure rfl (op_fieldAddr Try.underlying29 rfl ti3 rfl (by decide)) rfl rfl ?_
    refine GoQ.stable rfl (oblk (i := 8) 11 hO rfl rfl Try.underlying3 rfl rfl) rfl rfl ?_
    by_cases h98 : k2_39 < e.Done
    ·replace H := ifp h98 H
     refine GoQ.pure rfl (fun w => opB (op_lss rfl rfl w) (decide_eq_true h98)) rfl rfl ?_
     refine GoQ.nil ?_
     refine Go1.condT rfl rfl ?_
     refine Go1.skip ?_
     refine Go1.block ?_
     refine Go1.seq ?_
     refine Go1.region ?_
     refine GoR.op ((op_move rfl) _) rfl rfl ?_
     refine GoR.inl (vs := [.pointer (some ⟨iR, 0, none⟩)]) (caps := []) rfl rfl body50 Try.func50 rfl Try.ntmps50 rfl rfl rfl ?_
     intro RhR99 hR99
     refine Go1.seq ?_
     refine Go1.region ?_
     refine GoR.op ((op_assign rfl) _) rfl rfl ?_
     refine GoR.nil ?_
     refine Go1.seq ?_
     refine Go1.drawS 0 [(0, .pure), (1, .pure), (2, .pure), (3, .pure), (4, .stable), (5, .pure), (6, .pure), (7, .pure), (8, .pure), (9, .stable), (10, .pure), (11, .pure), (12, .pure)] mixed (by kernel_rfl) ?_
     intro ye Gd
     have l9 := Stp.same hO Gd
     replace bf := bf.ch l9.ch
     replace aX := aX.ch l9.ch
     replace dT := dT.ch l9.ch
     replace dU := dU.ch l9.ch
     replace dV := dV.ch l9.ch
     replace dW := dW.ch l9.ch
     replace dX := dX.ch l9.ch
     replace dY := dY.ch l9.ch
     replace dI := dI.ch l9.ch
     replace hO := l9.own
     replace ah := ah.ch l9.ch
     replace ae := ae.ch l9.ch
     replace ad := ad.ch l9.ch
     replace ai := ai.ch l9.ch
     replace af := af.ch l9.ch
     replace ag := ag.ch l9.ch
     replace hB := hB.trans l9.fr
     refine GoQ.pure rfl (op_move rfl) rfl rfl ?_
     refine GoQ.pure rfl (op_nilCheck rfl) rfl rfl ?_
     refine GoQ.pure rfl (op_fieldAddr Try.underlying72 rfl ti29 rfl (by decide)) rfl rfl ?_
     refine GoQ.pure rfl (op_fieldAddr Try.underlying29 rfl ti3 rfl (by decide)) rfl rfl ?_
     refine GoQ.stable rfl (oblk (i := 8) 0 hO rfl rfl Try.underlying3 rfl rfl) rfl rfl ?_
     refine GoQ.pure rfl (op_move rfl) rfl rfl ?_
     refine GoQ.pure rfl (op_nilCheck rfl) rfl rfl ?_
     refine GoQ.pure rfl (op_fieldAddr Try.underlying72 rfl ti29 rfl (by decide)) rfl rfl ?_
     refine GoQ.pure rfl (op_fieldAddr Try.underlying29 rfl ti22 rfl (by decide)) rfl rfl ?_
     refine GoQ.stable rfl (oblk (i := 3) 0 hO rfl rfl Try.underlying22 rfl rfl) rfl rfl ?_
     refine GoQ.pure rfl (op_lenN Try.underlying22 rfl (aX.neq hO 2 rfl)) rfl rfl ?_
     by_cases vd : k2_39 = (d_46.length : Int)
     ·replace H := ifp vd H
      refine GoQ.pure rfl (fun w => opB (op_eql rfl rfl w) (decide_eq_true vd)) rfl rfl ?_
      refine GoQ.pure rfl (op_assign rfl) rfl rfl ?_
      refine GoQ.nil ?_
      refine Go1.ret1V Try.func50 rfl (show _ = .bool true from rfl) ?_
      refine hR99 _ _ ?_
      refine GoR.op ((op_move rfl) _) rfl rfl ?_
      refine GoR.pass rfl rfl ?_
      refine GoR.pass rfl rfl ?_
      refine GoR.pass rfl rfl ?_
      refine GoR.op ((op_pickT rfl rfl rfl) _) rfl rfl ?_
      refine GoR.nil ?_
      refine Go1.condT rfl rfl ?_
      refine Go1.seq ?_
      refine Go1.cut [] trivial ?_
      intro σ _
      refine Go1.region ?_
      refine GoR.op ((op_assign rfl) _) rfl rfl ?_
      refine GoR.op ((op_assign rfl) _) rfl rfl ?_
      refine GoR.nil ?_
      refine Go1.ret2 Try.func53 rfl ?_
      exact Or.inl ⟨false, rfl, hB.same, H⟩
     replace H := ifn vd H
     refine GoQ.pure rfl (fun w => opB (op_eql rfl rfl w) (decide_eq_false vd)) rfl rfl ?_
     refine GoQ.pure rfl (op_assign rfl) rfl rfl ?_
     refine GoQ.nil ?_
     refine Go1.ret1V Try.func50 rfl (show _ = .bool false from rfl) ?_
     refine hR99 _ _ ?_
     refine GoR.op ((op_move rfl) _) rfl rfl ?_
     refine GoR.op ((op_move rfl) _) rfl rfl ?_
     have A7 : Owns w0.heap.size ye ([.blk iR (.cells #[.int .i64 k2_37, .bool b2_38, .slice p43 n45 c44, .slice p49 n51 c50, .slice p55 n57 c56, .slice p61 n63 c62, .slice p67 n69 c68, .slice p73 n75 c74, .int .i64 k2_39, .map (some bP), .slice p79 n81 c80, .slice p85 n87 c86, .slice p91 n93 c92] 72 (0, 0)), .row 26 1 p43 n45 c44 eC, .row 26 1 p49 n51 c50 eF, .row 3 1 p55 n57 c56 jY, .row 3 1 p61 n63 c62 jZ, .row 26 1 p67 n69 c68 j3, .row 39 2 p73 n75 c74 j4, .row 9 1 p79 n81 c80 j5, .row 3 1 p85 n87 c86 j6, .row 3 1 p91 n93 c92 j7, .any (mapE (fun a : List UInt8 => Value.string (gstr a)) (fun a : Int => Value.int .i64 a) bP m2_94)] ++ [.blk B2 (.cells #[.int .i64 e.Points, .bool e.Monoid, .slice bp e.Gens.length bq, .slice aO e.Elems.length aP, .slice ar e.Prefix.length au, .slice bg e.Last.length bh, .slice aQ e.Right.length aR, .slice aS e.Rules.length aT, .int .i64 e.Done] 29 (0, 0))]) A := hO
     have Ge := Owns.split A7
     have hca106 : Ch (bl [.blk iR (.cells #[.int .i64 k2_37, .bool b2_38, .slice p43 n45 c44, .slice p49 n51 c50, .slice p55 n57 c56, .slice p61 n63 c62, .slice p67 n69 c68, .slice p73 n75 c74, .int .i64 k2_39, .map (some bP), .slice p79 n81 c80, .slice p85 n87 c86, .slice p91 n93 c92] 72 (0, 0)), .row 26 1 p43 n45 c44 eC, .row 26 1 p49 n51 c50 eF, .row 3 1 p55 n57 c56 jY, .row 3 1 p61 n63 c62 jZ, .row 26 1 p67 n69 c68 j3, .row 39 2 p73 n75 c74 j4, .row 9 1 p79 n81 c80 j5, .row 3 1 p85 n87 c86 j6, .row 3 1 p91 n93 c92 j7, .any (mapE (fun a : List UInt8 => Value.string (gstr a)) (fun a : Int => Value.int .i64 a) bP m2_94), .blk B2 (.cells #[.int .i64 e.Points, .bool e.Monoid, .slice bp e.Gens.length bq, .slice aO e.Elems.length aP, .slice ar e.Prefix.length au, .slice bg e.Last.length bh, .slice aQ e.Right.length aR, .slice aS e.Rules.length aT, .int .i64 e.Done] 29 (0, 0))] ++ A) ye (bl [.blk iR (.cells #[.int .i64 k2_37, .bool b2_38, .slice p43 n45 c44, .slice p49 n51 c50, .slice p55 n57 c56, .slice p61 n63 c62, .slice p67 n69 c68, .slice p73 n75 c74, .int .i64 k2_39, .map (some bP), .slice p79 n81 c80, .slice p85 n87 c86, .slice p91 n93 c92] 72 (0, 0)), .row 26 1 p43 n45 c44 eC, .row 26 1 p49 n51 c50 eF, .row 3 1 p55 n57 c56 jY, .row 3 1 p61 n63 c62 jZ, .row 26 1 p67 n69 c68 j3, .row 39 2 p73 n75 c74 j4, .row 9 1 p79 n81 c80 j5, .row 3 1 p85 n87 c86 j6, .row 3 1 p91 n93 c92 j7, .any (mapE (fun a : List UInt8 => Value.string (gstr a)) (fun a : Int => Value.int .i64 a) bP m2_94)] ++ (bl [.blk B2 (.cells #[.int .i64 e.Points, .bool e.Monoid, .slice bp e.Gens.length bq, .slice aO e.Elems.length aP, .slice ar e.Prefix.length au, .slice bg e.Last.length bh, .slice aQ e.Right.length aR, .slice aS e.Rules.length aT, .int .i64 e.Done] 29 (0, 0))] ++ A)) ye := Ch.assoc' [.blk iR (.cells #[.int .i64 k2_37, .bool b2_38, .slice p43 n45 c44, .slice p49 n51 c50, .slice p55 n57 c56, .slice p61 n63 c62, .slice p67 n69 c68, .slice p73 n75 c74, .int .i64 k2_39, .map (some bP), .slice p79 n81 c80, .slice p85 n87 c86, .slice p91 n93 c92] 72 (0, 0)), .row 26 1 p43 n45 c44 eC, .row 26 1 p49 n51 c50 eF, .row 3 1 p55 n57 c56 jY, .row 3 1 p61 n63 c62 jZ, .row 26 1 p67 n69 c68 j3, .row 39 2 p73 n75 c74 j4, .row 9 1 p79 n81 c80 j5, .row 3 1 p85 n87 c86 j6, .row 3 1 p91 n93 c92 j7, .any (mapE (fun a : List UInt8 => Value.string (gstr a)) (fun a : Int => Value.int .i64 a) bP m2_94)] [.blk B2 (.cells #[.int .i64 e.Points, .bool e.Monoid, .slice bp e.Gens.length bq, .slice aO e.Elems.length aP, .slice ar e.Prefix.length au, .slice bg e.Last.length bh, .slice aQ e.Right.length aR, .slice aS e.Rules.length aT, .int .i64 e.Done] 29 (0, 0))] A ye
     refine GoR.call (op_call body51 rfl (walk_enumerate_run_process (a0 := (⟨(⟨k2_37, b2_38, d_40, d_46, d_52, d_58, d_64, d_70, k2_39⟩ : Enum), m2_94, d_76, d_82, d_88⟩ : run)) Ge (bf.ch hca106) (aX.ch hca106) (dT.ch hca106) (dU.ch hca106) (dV.ch hca106) (dW.ch hca106) (dX.ch hca106) (dY.ch hca106) (dI.ch hca106) H)) rfl rfl ?_
     intro MN xa
     refine exE fun r107 => exE fun q108 => exE fun hZ => exE fun ia => exE fun ib => exE fun m6 => exE fun gv => exE fun gw => exE fun gx => exE fun ma => exE fun f5 => exE fun f6 => exE fun f7 => exE fun lD => exE fun ic => exE fun ie => exE fun ig => exE fun m7 => exE fun gy => exE fun gz => exE fun gA => exE fun mb => exE fun gB => exE fun gC => exE fun gD => exE fun mc => exE fun kT => exE fun kU => exE fun kV => exE fun qo => exE fun jF => exE fun jG => exE fun jH => exE fun oN => exE fun jI => exE fun jJ => exE fun jK => exE fun oO => andE fun hv114 => andE fun hN111 => andE fun rz => andE fun qZ => andE fun qy => andE fun rB => andE fun q8 => andE fun q9 => andE fun tp => andE fun sB => andE fun sC => andE fun hF112 => fun H => ?_
     subst hv114
     have sW : Stp w0.heap.size A ye [.blk iR (.cells #[.int .i64 k2_37, .bool b2_38, .slice p43 n45 c44, .slice p49 n51 c50, .slice p55 n57 c56, .slice p61 n63 c62, .slice p67 n69 c68, .slice p73 n75 c74, .int .i64 k2_39, .map (some bP), .slice p79 n81 c80, .slice p85 n87 c86, .slice p91 n93 c92] 72 (0, 0)), .row 26 1 p43 n45 c44 eC, .row 26 1 p49 n51 c50 eF, .row 3 1 p55 n57 c56 jY, .row 3 1 p61 n63 c62 jZ, .row 26 1 p67 n69 c68 j3, .row 39 2 p73 n75 c74 j4, .row 9 1 p79 n81 c80 j5, .row 3 1 p85 n87 c86 j6, .row 3 1 p91 n93 c92 j7, .any (mapE (fun a : List UInt8 => Value.string (gstr a)) (fun a : Int => Value.int .i64 a) bP m2_94), .blk B2 (.cells #[.int .i64 e.Points, .bool e.Monoid, .slice bp e.Gens.length bq, .slice aO e.Elems.length aP, .slice ar e.Prefix.length au, .slice bg e.Last.length bh, .slice aQ e.Right.length aR, .slice aS e.Rules.length aT, .int .i64 e.Done] 29 (0, 0))] xa [.blk iR (.cells #[.int .i64 q108.Enum.Points, .bool q108.Enum.Monoid, .slice ia hZ ib, .slice gw gv gx, .slice f6 f5 f7, .slice ie ic ig, .slice gz gy gA, .slice gC gB gD, .int .i64 q108.Enum.Done, .map (some bP), .slice kU kT kV, .slice jG jF jH, .slice jJ jI jK] 72 (0, 0)), .row 26 1 ia hZ ib m6, .row 26 1 gw gv gx ma, .row 3 1 f6 f5 f7 lD, .row 3 1 ie ic ig m7, .row 26 1 gz gy gA mb, .row 39 2 gC gB gD mc, .row 9 1 kU kT kV qo, .row 3 1 jG jF jH oN, .row 3 1 jJ jI jK oO, .any (mapE (fun a : List UInt8 => Value.string (gstr a)) (fun a : Int => Value.int .i64 a) bP q108.number), .blk B2 (.cells #[.int .i64 e.Points, .bool e.Monoid, .slice bp e.Gens.length bq, .slice aO e.Elems.length aP, .slice ar e.Prefix.length au, .slice bg e.Last.length bh, .slice aQ e.Right.length aR, .slice aS e.Rules.length aT, .int .i64 e.Done] 29 (0, 0))] := Stp.join A7 hN111 hF112
     replace hO := sW.own
     replace ah := ah.ch sW.ch
     replace ae := ae.ch sW.ch
     replace ad := ad.ch sW.ch
     replace ai := ai.ch sW.ch
     replace af := af.ch sW.ch
     replace ag := ag.ch sW.ch
     replace hB := hB.trans sW.fr
     have hca115 : Ch (bl [.blk iR (.cells #[.int .i64 q108.Enum.Points, .bool q108.Enum.Monoid, .slice ia hZ ib, .slice gw gv gx, .slice f6 f5 f7, .slice ie ic ig, .slice gz gy gA, .slice gC gB gD, .int .i64 q108.Enum.Done, .map (some bP), .slice kU kT kV, .slice jG jF jH, .slice jJ jI jK] 72 (0, 0)), .row 26 1 ia hZ ib m6, .row 26 1 gw gv gx ma, .row 3 1 f6 f5 f7 lD, .row 3 1 ie ic ig m7, .row 26 1 gz gy gA mb, .row 39 2 gC gB gD mc, .row 9 1 kU kT kV qo, .row 3 1 jG jF jH oN, .row 3 1 jJ jI jK oO, .any (mapE (fun a : List UInt8 => Value.string (gstr a)) (fun a : Int => Value.int .i64 a) bP q108.number)] ++ (bl [.blk B2 (.cells #[.int .i64 e.Points, .bool e.Monoid, .slice bp e.Gens.length bq, .slice aO e.Elems.length aP, .slice ar e.Prefix.length au, .slice bg e.Last.length bh, .slice aQ e.Right.length aR, .slice aS e.Rules.length aT, .int .i64 e.Done] 29 (0, 0))] ++ A)) xa (bl [.blk iR (.cells #[.int .i64 q108.Enum.Points, .bool q108.Enum.Monoid, .slice ia hZ ib, .slice gw gv gx, .slice f6 f5 f7, .slice ie ic ig, .slice gz gy gA, .slice gC gB gD, .int .i64 q108.Enum.Done, .map (some bP), .slice kU kT kV, .slice jG jF jH, .slice jJ jI jK] 72 (0, 0)), .row 26 1 ia hZ ib m6, .row 26 1 gw gv gx ma, .row 3 1 f6 f5 f7 lD, .row 3 1 ie ic ig m7, .row 26 1 gz gy gA mb, .row 39 2 gC gB gD mc, .row 9 1 kU kT kV qo, .row 3 1 jG jF jH oN, .row 3 1 jJ jI jK oO, .any (mapE (fun a : List UInt8 => Value.string (gstr a)) (fun a : Int => Value.int .i64 a) bP q108.number), .blk B2 (.cells #[.int .i64 e.Points, .bool e.Monoid, .slice bp e.Gens.length bq, .slice aO e.Elems.length aP, .slice ar e.Prefix.length au, .slice bg e.Last.length bh, .slice aQ e.Right.length aR, .slice aS e.Rules.length aT, .int .i64 e.Done] 29 (0, 0))] ++ A) xa := Ch.assoc [.blk iR (.cells #[.int .i64 q108.Enum.Points, .bool q108.Enum.Monoid, .slice ia hZ ib, .slice gw gv gx, .slice f6 f5 f7, .slice ie ic ig, .slice gz gy gA, .slice gC gB gD, .int .i64 q108.Enum.Done, .map (some bP), .slice kU kT kV, .slice jG jF jH, .slice jJ jI jK] 72 (0, 0)), .row 26 1 ia hZ ib m6, .row 26 1 gw gv gx ma, .row 3 1 f6 f5 f7 lD, .row 3 1 ie ic ig m7, .row 26 1 gz gy gA mb, .row 39 2 gC gB gD mc, .row 9 1 kU kT kV qo, .row 3 1 jG jF jH oN, .row 3 1 jJ jI jK oO, .any (mapE (fun a : List UInt8 => Value.string (gstr a)) (fun a : Int => Value.int .i64 a) bP q108.number)] [.blk B2 (.cells #[.int .i64 e.Points, .bool e.Monoid, .slice bp e.Gens.length bq, .slice aO e.Elems.length aP, .slice ar e.Prefix.length au, .slice bg e.Last.length bh, .slice aQ e.Right.length aR, .slice aS e.Rules.length aT, .int .i64 e.Done] 29 (0, 0))] A xa
     replace rz := rz.ch hca115
     replace qZ := qZ.ch hca115
     replace qy := qy.ch hca115
     replace rB := rB.ch hca115
     replace q8 := q8.ch hca115
     replace q9 := q9.ch hca115
     replace tp := tp.ch hca115
     replace sB := sB.ch hca115
     replace sC := sC.ch hca115
     by_cases uI : r107 = (0 : Int)
     ·replace H := ifp uI H
      refine GoR.op ((fun w => opB (op_neq rfl rfl w) (ndT uI)) _) rfl rfl ?_
      refine GoR.op ((op_pickF rfl rfl rfl) _) rfl rfl ?_
      refine GoR.nil ?_
      refine Go1.condF rfl rfl ?_
      refine Go1.skip ?_
      refine Go1.inBlock ?_
      exact hX2 _ H _ _ ⟨hZ, ia, ib, m6, gv, gw, gx, ma, f5, f6, f7, lD, ic, ie, ig, m7, gy, gz, gA, mb, gB, gC, gD, mc, kT, kU, kV, qo, jF, jG, jH, oN, jI, jJ, jK, oO, ⟨rfl, rfl, trivial⟩, hO, rz, qZ, qy, rB, q8, q9, tp, sB, sC, ah, ae, ad, ai, af, ag, hB⟩
     replace H := ifn uI H
     refine GoR.op ((fun w => opB (op_neq rfl rfl w) (ndF uI)) _) rfl rfl ?_
     refine GoR.op ((op_pickF rfl rfl rfl) _) rfl rfl ?_
     refine GoR.nil ?_
     refine Go1.condT rfl rfl ?_
     refine Go1.seq ?_
     refine Go1.region ?_
     refine GoR.op ((op_assign rfl) _) rfl rfl ?_
     refine GoR.op ((op_assign rfl) _) rfl rfl ?_
     refine GoR.nil ?_
     refine Go1.ret2 Try.func53 rfl ?_
     exact Or.inl ⟨false, rfl, hB.same, H⟩
    replace H := ifn h98 H
    refine GoQ.pure rfl (fun w => opB (op_lss rfl rfl w) (decide_eq_false h98)) rfl rfl ?_
    refine GoQ.nil ?_
    refine Go1.condF rfl rfl ?_
    refine Go1.exit rfl ?_
    refine Go1.seq ?_
    refine Go1.region ?_
    refine GoR.op ((op_move rfl) _) rfl rfl ?_
    refine GoR.op ((op_move rfl) _) rfl rfl ?_
    refine GoR.op ((oblkAgg (vs := [.int .i64 e.Points, .bool e.Monoid, .slice bp e.Gens.length bq, .slice aO e.Elems.length aP, .slice ar e.Prefix.length au, .slice bg e.Last.length bh, .slice aQ e.Right.length aR, .slice aS e.Rules.length aT, .int .i64 e.Done]) (i := 0) 11 hO rfl rfl Try.underlying29 rfl ti29 rfl) _ (Same.refl _)) rfl rfl ?_
    refine GoR.inl (vs := [.pointer (some ⟨iR, 0, none⟩), .agg #[.int .i64 e.Points, .bool e.Monoid, .slice bp e.Gens.length bq, .slice aO e.Elems.length aP, .slice ar e.Prefix.length au, .slice bg e.Last.length bh, .slice aQ e.Right.length aR, .slice aS e.Rules.length aT, .int .i64 e.Done]]) (caps := []) rfl rfl body68 Try.func68 rfl Try.ntmps68 rfl rfl rfl ?_
    intro RhR117 hR117
    refine Go1.seq ?_
    refine Go1.region ?_
    have hobt := obox (t := 29) (v := .agg #[.int .i64 e.Points, .bool e.Monoid, .slice bp e.Gens.length bq, .slice aO e.Elems.length aP, .slice ar e.Prefix.length au, .slice bg e.Last.length bh, .slice aQ e.Right.length aR, .slice aS e.Rules.length aT, .int .i64 e.Done]) (cs := #[.int .i64 e.Points, .bool e.Monoid, .slice bp e.Gens.length bq, .slice aO e.Elems.length aP, .slice ar e.Prefix.length au, .slice bg e.Last.length bh, .slice aQ e.Right.length aR, .slice aS e.Rules.length aT, .int .i64 e.Done]) hO rfl
    obtain ⟨MO, B119, me, JM, Dm⟩ := hobt
    refine GoR.op (Dm rfl) rfl rfl ?_
    replace bf := bf.ch me.ch
    replace aX := aX.ch me.ch
    replace dT := dT.ch me.ch
    replace dU := dU.ch me.ch
    replace dV := dV.ch me.ch
    replace dW := dW.ch me.ch
    replace dX := dX.ch me.ch
    replace dY := dY.ch me.ch
    replace dI := dI.ch me.ch
    replace hO := me.own
    replace ah := ah.ch me.ch
    replace ae := ae.ch me.ch
    replace ad := ad.ch me.ch
    replace ai := ai.ch me.ch
    replace af := af.ch me.ch
    replace ag := ag.ch me.ch
    replace hB := hB.trans me.fr
    refine GoR.op ((op_assign rfl) _) rfl rfl ?_
    refine GoR.nil ?_
    refine Go1.seq ?_
    refine Go1.drawS 0 [(0, .pure), (1, .pure), (2, .pure), (3, .pure), (4, .stable), (5, .pure), (6, .stable), (7, .pure), (8, .pure), (9, .pure), (10, .pure), (11, .pure), (12, .pure), (13, .stable), (14, .pure), (15, .stable), (16, .pure), (17, .pure), (18, .pure), (19, .pure), (20, .pure), (21, .pure), (22, .pure), (23, .stable), (24, .pure), (25, .stable), (26, .loud), (27, .pure), (28, .pure), (29, .pure), (30, .pure), (31, .pure), (32, .pure), (33, .stable), (34, .pure), (35, .stable), (36, .loud), (37, .pure), (38, .pure), (39, .pure), (40, .pure), (41, .pure), (42, .pure), (43, .stable), (44, .pure), (45, .stable), (46, .loud), (47, .pure), (48, .pure), (49, .pure), (50, .pure), (51, .pure), (52, .pure), (53, .stable), (54, .pure), (55, .stable), (56, .loud), (57, .pure), (58, .pure), (59, .pure), (60, .pure), (61, .pure), (62, .pure), (63, .stable), (64, .pure), (65, .stable), (66, .loud), (67, .pure), (68, .pure)] mixed (by kernel_rfl) ?_
    intro MP Gf
    have mf := Stp.same hO Gf
    replace bf := bf.ch mf.ch
    replace aX := aX.ch mf.ch
    replace dT := dT.ch mf.ch
    replace dU := dU.ch mf.ch
    replace dV := dV.ch mf.ch
    replace dW := dW.ch mf.ch
    replace dX := dX.ch mf.ch
    replace dY := dY.ch mf.ch
    replace dI := dI.ch mf.ch
    replace hO := mf.own
    replace ah := ah.ch mf.ch
    replace ae := ae.ch mf.ch
    replace ad := ad.ch mf.ch
    replace ai := ai.ch mf.ch
    replace af := af.ch mf.ch
    replace ag := ag.ch mf.ch
    replace hB := hB.trans mf.fr
    refine GoQ.pure rfl (op_move rfl) rfl rfl ?_
    refine GoQ.pure rfl (op_nilCheck rfl) rfl rfl ?_
    refine GoQ.pure rfl (op_fieldAddr Try.underlying72 rfl ti29 rfl (by decide)) rfl rfl ?_
    refine GoQ.pure rfl (op_fieldAddr Try.underlying29 rfl ti3 rfl (by decide)) rfl rfl ?_
    refine GoQ.stable rfl (oblk (i := 0) 1 hO rfl rfl Try.underlying3 rfl rfl) rfl rfl ?_
    refine GoQ.pure rfl (op_fieldAddr Try.underlying29 rfl ti3 rfl (by decide)) rfl rfl ?_
    refine GoQ.stable rfl (oblk (i := 0) 0 hO rfl rfl Try.underlying3 rfl rfl) rfl rfl ?_
    by_cases zp : k2_37 = e.Points
    ·replace H := ifp zp H
     refine GoQ.pure rfl (fun w => opB (op_eql rfl rfl w) (decide_eq_true zp)) rfl rfl ?_
     refine GoQ.pure rfl (op_move rfl) rfl rfl ?_
     refine GoQ.pure rfl (op_move rfl) rfl rfl ?_
     refine GoQ.pure rfl (op_nilCheck rfl) rfl rfl ?_
     refine GoQ.pure rfl (op_fieldAddr Try.underlying72 rfl ti29 rfl (by decide)) rfl rfl ?_
     refine GoQ.pure rfl (op_fieldAddr Try.underlying29 rfl ti3 rfl (by decide)) rfl rfl ?_
     refine GoQ.stable rfl (oblk (i := 8) 1 hO rfl rfl Try.underlying3 rfl rfl) rfl rfl ?_
     refine GoQ.pure rfl (op_fieldAddr Try.underlying29 rfl ti3 rfl (by decide)) rfl rfl ?_
     refine GoQ.stable rfl (oblk (i := 8) 0 hO rfl rfl Try.underlying3 rfl rfl) rfl rfl ?_
     by_cases zq : k2_39 = e.Done
     ·replace H := ifp zq H
      refine GoQ.pure rfl (fun w => opB (op_eql rfl rfl w) (decide_eq_true zq)) rfl rfl ?_
      refine GoQ.pure rfl (op_pickT rfl rfl rfl) rfl rfl ?_
      refine GoQ.pure rfl (op_move rfl) rfl rfl ?_
      refine GoQ.pure rfl (op_move rfl) rfl rfl ?_
      refine GoQ.pure rfl (op_nilCheck rfl) rfl rfl ?_
      refine GoQ.pure rfl (op_fieldAddr Try.underlying72 rfl ti29 rfl (by decide)) rfl rfl ?_
      refine GoQ.pure rfl (op_fieldAddr Try.underlying29 rfl ti22 rfl (by decide)) rfl rfl ?_
      refine GoQ.stable rfl (oblk (i := 3) 1 hO rfl rfl Try.underlying22 rfl rfl) rfl rfl ?_
      refine GoQ.pure rfl (op_fieldAddr Try.underlying29 rfl ti22 rfl (by decide)) rfl rfl ?_
      refine GoQ.stable rfl (oblk (i := 3) 0 hO rfl rfl Try.underlying22 rfl rfl) rfl rfl ?_
      have hobt := rowlend 3 hO rfl aX
      obtain ⟨Gg, Gh⟩ := hobt
      have hOc131 := hO.drop 3
      refine GoQ.call rfl (op_call body69 (show ([.slice p49 n51 c50, .slice aO e.Elems.length aP, .func (.func 70) #[] #[]] : List Value) = [.slice p49 d_46.length c50, .slice aO e.Elems.length aP, .func (.func 70) #[] #[]] from by rw [← Gh]) (walk_slices_EqualFunc_int hOc131.lt Gg (ae.ch (Owns.dropCh _ _ 3)) H)) (fun v w hr => by obtain ⟨_, _, hs, _⟩ := hr; assumption) rfl rfl ?_
      rintro MQ MR ⟨r132, rfl, Gi, H⟩
      have mg := Stp.same hO Gi
      replace bf := bf.ch mg.ch
      replace aX := aX.ch mg.ch
      replace dT := dT.ch mg.ch
      replace dU := dU.ch mg.ch
      replace dV := dV.ch mg.ch
      replace dW := dW.ch mg.ch
      replace dX := dX.ch mg.ch
      replace dY := dY.ch mg.ch
      replace dI := dI.ch mg.ch
      replace hO := mg.own
      replace ah := ah.ch mg.ch
      replace ae := ae.ch mg.ch
      replace ad := ad.ch mg.ch
      replace ai := ai.ch mg.ch
      replace af := af.ch mg.ch
      replace ag := ag.ch mg.ch
      replace hB := hB.trans mg.fr
      refine GoQ.pure rfl (op_pickT rfl rfl rfl) rfl rfl ?_
      refine GoQ.pure rfl (op_move rfl) rfl rfl ?_
      cases r132
      ·replace H := ifn Bool.false_ne_true H
       refine GoQ.pass rfl rfl rfl ?_
       refine GoQ.pass rfl rfl rfl ?_
       refine GoQ.pass rfl rfl rfl ?_
       refine GoQ.pass rfl rfl rfl ?_
       refine GoQ.pass rfl rfl rfl ?_
       refine GoQ.pass rfl rfl rfl ?_
       refine GoQ.pass rfl rfl rfl ?_
       refine GoQ.pass rfl rfl rfl ?_
       refine GoQ.pure rfl (op_pickF rfl rfl rfl) rfl rfl ?_
       refine GoQ.pure rfl (op_move rfl) rfl rfl ?_
       refine GoQ.pass rfl rfl rfl ?_
       refine GoQ.pass rfl rfl rfl ?_
       refine GoQ.pass rfl rfl rfl ?_
       refine GoQ.pass rfl rfl rfl ?_
       refine GoQ.pass rfl rfl rfl ?_
       refine GoQ.pass rfl rfl rfl ?_
       refine GoQ.pass rfl rfl rfl ?_
       refine GoQ.pass rfl rfl rfl ?_
       refine GoQ.pure rfl (op_pickF rfl rfl rfl) rfl rfl ?_
       refine GoQ.pure rfl (op_move rfl) rfl rfl ?_
       refine GoQ.pass rfl rfl rfl ?_
       refine GoQ.pass rfl rfl rfl ?_
       refine GoQ.pass rfl rfl rfl ?_
       refine GoQ.pass rfl rfl rfl ?_
       refine GoQ.pass rfl rfl rfl ?_
       refine GoQ.pass rfl rfl rfl ?_
       refine GoQ.pass rfl rfl rfl ?_
       refine GoQ.pass rfl rfl rfl ?_
       refine GoQ.pure rfl (op_pickF rfl rfl rfl) rfl rfl ?_
       refine GoQ.pure rfl (op_move rfl) rfl rfl ?_
       refine GoQ.pass rfl rfl rfl ?_
       refine GoQ.pass rfl rfl rfl ?_
       refine GoQ.pass rfl rfl rfl ?_
       refine GoQ.pass rfl rfl rfl ?_
       refine GoQ.pass rfl rfl rfl ?_
       refine GoQ.pass rfl rfl rfl ?_
       refine GoQ.pass rfl rfl rfl ?_
       refine GoQ.pass rfl rfl rfl ?_
       refine GoQ.pure rfl (op_pickF rfl rfl rfl) rfl rfl ?_
       refine GoQ.pure rfl (op_assign rfl) rfl rfl ?_
       refine GoQ.nil ?_
       refine Go1.ret1V Try.func68 rfl (show _ = .bool false from rfl) ?_
       refine hR117 _ _ ?_
       refine GoR.op ((op_assign rfl) _) rfl rfl ?_
       refine GoR.op ((op_assign rfl) _) rfl rfl ?_
       refine GoR.nil ?_
       replace ah := ah.ch (Owns.dropCh _ _ 0)
       replace ae := ae.ch (Owns.dropCh _ _ 0)
       replace ad := ad.ch (Owns.dropCh _ _ 0)
       replace ai := ai.ch (Owns.dropCh _ _ 0)
       replace af := af.ch (Owns.dropCh _ _ 0)
       replace ag := ag.ch (Owns.dropCh _ _ 0)
       replace bf := bf.ch (Owns.dropCh _ _ 0)
       replace aX := aX.ch (Owns.dropCh _ _ 0)
       replace dT := dT.ch (Owns.dropCh _ _ 0)
       replace dU := dU.ch (Owns.dropCh _ _ 0)
       replace dV := dV.ch (Owns.dropCh _ _ 0)
       replace dW := dW.ch (Owns.dropCh _ _ 0)
       replace dX := dX.ch (Owns.dropCh _ _ 0)
       replace dY := dY.ch (Owns.dropCh _ _ 0)
       replace dI := dI.ch (Owns.dropCh _ _ 0)
       replace hB := hB.trans (Owns.dropFr _ _ 0)
       replace hO := hO.drop 0
       dsimp only [eS, eZ] at hB hO ah ae ad ai af ag bf aX dT dU dV dW dX dY dI
       replace ah := ah.ch (Owns.dropCh _ _ 11)
       replace ae := ae.ch (Owns.dropCh _ _ 11)
       replace ad := ad.ch (Owns.dropCh _ _ 11)
       replace ai := ai.ch (Owns.dropCh _ _ 11)
       replace af := af.ch (Owns.dropCh _ _ 11)
       replace ag := ag.ch (Owns.dropCh _ _ 11)
       replace bf := bf.ch (Owns.dropCh _ _ 11)
       replace aX := aX.ch (Owns.dropCh _ _ 11)
       replace dT := dT.ch (Owns.dropCh _ _ 11)
       replace dU := dU.ch (Owns.dropCh _ _ 11)
       replace dV := dV.ch (Owns.dropCh _ _ 11)
       replace dW := dW.ch (Owns.dropCh _ _ 11)
       replace dX := dX.ch (Owns.dropCh _ _ 11)
       replace dY := dY.ch (Owns.dropCh _ _ 11)
       replace dI := dI.ch (Owns.dropCh _ _ 11)
       replace hB := hB.trans (Owns.dropFr _ _ 11)
       replace hO := hO.drop 11
       dsimp only [eS, eZ] at hB hO ah ae ad ai af ag bf aX dT dU dV dW dX dY dI
       refine Go1.ret2 Try.func53 rfl ?_
       exact Or.inr ⟨(⟨(⟨k2_37, b2_38, d_40, d_46, d_52, d_58, d_64, d_70, k2_39⟩ : Enum), m2_94, d_76, d_82, d_88⟩ : run), false, iR, n45, p43, c44, eC, n51, p49, c50, eF, n57, p55, c56, jY, n63, p61, c62, jZ, n69, p67, c68, j3, n75, p73, c74, j4, bP, n81, p79, c80, j5, n87, p85, c86, j6, n93, p91, c92, j7, rfl, hB.same, hO, bf, aX, dT, dU, dV, dW, dX, dY, dI, H⟩
      replace H := ifp rfl H
      refine GoQ.pure rfl (op_move rfl) rfl rfl ?_
      refine GoQ.pure rfl (op_nilCheck rfl) rfl rfl ?_
      refine GoQ.pure rfl (op_fieldAddr Try.underlying72 rfl ti29 rfl (by decide)) rfl rfl ?_
      refine GoQ.pure rfl (op_fieldAddr Try.underlying29 rfl ti26 rfl (by decide)) rfl rfl ?_
      refine GoQ.stable rfl (oblk (i := 4) 1 hO rfl rfl Try.underlying26 rfl rfl) rfl rfl ?_
      refine GoQ.pure rfl (op_fieldAddr Try.underlying29 rfl ti26 rfl (by decide)) rfl rfl ?_
      refine GoQ.stable rfl (oblk (i := 4) 0 hO rfl rfl Try.underlying26 rfl rfl) rfl rfl ?_
      have hobt := rowlend 4 hO rfl dT
      obtain ⟨Gj, Gk⟩ := hobt
      have hOc140 := hO.drop 4
      refine GoQ.call rfl (op_call body70 (show ([.slice p55 n57 c56, .slice ar e.Prefix.length au] : List Value) = [.slice p55 d_52.length c56, .slice ar e.Prefix.length au] from by rw [← Gk]) (walk_slices_Equal_int hOc140.lt Gj (ad.ch (Owns.dropCh _ _ 4)) H)) (fun v w hr => by obtain ⟨_, _, hs, _⟩ := hr; assumption) rfl rfl ?_
      rintro MS MT ⟨r141, rfl, A8, H⟩
      have mh := Stp.same hO A8
      replace bf := bf.ch mh.ch
      replace aX := aX.ch mh.ch
      replace dT := dT.ch mh.ch
      replace dU := dU.ch mh.ch
      replace dV := dV.ch mh.ch
      replace dW := dW.ch mh.ch
      replace dX := dX.ch mh.ch
      replace dY := dY.ch mh.ch
      replace dI := dI.ch mh.ch
      replace hO := mh.own
      replace ah := ah.ch mh.ch
      replace ae := ae.ch mh.ch
      replace ad := ad.ch mh.ch
      replace ai := ai.ch mh.ch
      replace af := af.ch mh.ch
      replace ag := ag.ch mh.ch
      replace hB := hB.trans mh.fr
      refine GoQ.pure rfl (op_pickT rfl rfl rfl) rfl rfl ?_
      refine GoQ.pure rfl (op_move rfl) rfl rfl ?_
      cases r141
      ·replace H := ifn Bool.false_ne_true H
       refine GoQ.pass rfl rfl rfl ?_
       refine GoQ.pass rfl rfl rfl ?_
       refine GoQ.pass rfl rfl rfl ?_
       refine GoQ.pass rfl rfl rfl ?_
       refine GoQ.pass rfl rfl rfl ?_
       refine GoQ.pass rfl rfl rfl ?_
       refine GoQ.pass rfl rfl rfl ?_
       refine GoQ.pass rfl rfl rfl ?_
       refine GoQ.pure rfl (op_pickF rfl rfl rfl) rfl rfl ?_
       refine GoQ.pure rfl (op_move rfl) rfl rfl ?_
       refine GoQ.pass rfl rfl rfl ?_
       refine GoQ.pass rfl rfl rfl ?_
       refine GoQ.pass rfl rfl rfl ?_
       refine GoQ.pass rfl rfl rfl ?_
       refine GoQ.pass rfl rfl rfl ?_
       refine GoQ.pass rfl rfl rfl ?_
       refine GoQ.pass rfl rfl rfl ?_
       refine GoQ.pass rfl rfl rfl ?_
       refine GoQ.pure rfl (op_pickF rfl rfl rfl) rfl rfl ?_
       refine GoQ.pure rfl (op_move rfl) rfl rfl ?_
       refine GoQ.pass rfl rfl rfl ?_
       refine GoQ.pass rfl rfl rfl ?_
       refine GoQ.pass rfl rfl rfl ?_
       refine GoQ.pass rfl rfl rfl ?_
       refine GoQ.pass rfl rfl rfl ?_
       refine GoQ.pass rfl rfl rfl ?_
       refine GoQ.pass rfl rfl rfl ?_
       refine GoQ.pass rfl rfl rfl ?_
       refine GoQ.pure rfl (op_pickF rfl rfl rfl) rfl rfl ?_
       refine GoQ.pure rfl (op_assign rfl) rfl rfl ?_
       refine GoQ.nil ?_
       refine Go1.ret1V Try.func68 rfl (show _ = .bool false from rfl) ?_
       refine hR117 _ _ ?_
       refine GoR.op ((op_assign rfl) _) rfl rfl ?_
       refine GoR.op ((op_assign rfl) _) rfl rfl ?_
       refine GoR.nil ?_
       replace ah := ah.ch (Owns.dropCh _ _ 0)
       replace ae := ae.ch (Owns.dropCh _ _ 0)
       replace ad := ad.ch (Owns.dropCh _ _ 0)
       replace ai := ai.ch (Owns.dropCh _ _ 0)
       replace af := af.ch (Owns.dropCh _ _ 0)
       replace ag := ag.ch (Owns.dropCh _ _ 0)
       replace bf := bf.ch (Owns.dropCh _ _ 0)
       replace aX := aX.ch (Owns.dropCh _ _ 0)
       replace dT := dT.ch (Owns.dropCh _ _ 0)
       replace dU := dU.ch (Owns.dropCh _ _ 0)
       replace dV := dV.ch (Owns.dropCh _ _ 0)
       replace dW := dW.ch (Owns.dropCh _ _ 0)
       replace dX := dX.ch (Owns.dropCh _ _ 0)
       replace dY := dY.ch (Owns.dropCh _ _ 0)
       replace dI := dI.ch (Owns.dropCh _ _ 0)
       replace hB := hB.trans (Owns.dropFr _ _ 0)
       replace hO := hO.drop 0
       dsimp only [eS, eZ] at hB hO ah ae ad ai af ag bf aX dT dU dV dW dX dY dI
       replace ah := ah.ch (Owns.dropCh _ _ 11)
       replace ae := ae.ch (Owns.dropCh _ _ 11)
       replace ad := ad.ch (Owns.dropCh _ _ 11)
       replace ai := ai.ch (Owns.dropCh _ _ 11)
       replace af := af.ch (Owns.dropCh _ _ 11)
       replace ag := ag.ch (Owns.dropCh _ _ 11)
       replace bf := bf.ch (Owns.dropCh _ _ 11)
       replace aX := aX.ch (Owns.dropCh _ _ 11)
       replace dT := dT.ch (Owns.dropCh _ _ 11)
       replace dU := dU.ch (Owns.dropCh _ _ 11)
       replace dV := dV.ch (Owns.dropCh _ _ 11)
       replace dW := dW.ch (Owns.dropCh _ _ 11)
       replace dX := dX.ch (Owns.dropCh _ _ 11)
       replace dY := dY.ch (Owns.dropCh _ _ 11)
       replace dI := dI.ch (Owns.dropCh _ _ 11)
       replace hB := hB.trans (Owns.dropFr _ _ 11)
       replace hO := hO.drop 11
       dsimp only [eS, eZ] at hB hO ah ae ad ai af ag bf aX dT dU dV dW dX dY dI
       refine Go1.ret2 Try.func53 rfl ?_
       exact Or.inr ⟨(⟨(⟨k2_37, b2_38, d_40, d_46, d_52, d_58, d_64, d_70, k2_39⟩ : Enum), m2_94, d_76, d_82, d_88⟩ : run), false, iR, n45, p43, c44, eC, n51, p49, c50, eF, n57, p55, c56, jY, n63, p61, c62, jZ, n69, p67, c68, j3, n75, p73, c74, j4, bP, n81, p79, c80, j5, n87, p85, c86, j6, n93, p91, c92, j7, rfl, hB.same, hO, bf, aX, dT, dU, dV, dW, dX, dY, dI, H⟩
      replace H := ifp rfl H
      refine GoQ.pure rfl (op_move rfl) rfl rfl ?_
      refine GoQ.pure rfl (op_nilCheck rfl) rfl rfl ?_
      refine GoQ.pure rfl (op_fieldAddr Try.underlying72 rfl ti29 rfl (by decide)) rfl rfl ?_
      refine GoQ.pure rfl (op_fieldAddr Try.underlying29 rfl ti26 rfl (by decide)) rfl rfl ?_
      refine GoQ.stable rfl (oblk (i := 5) 1 hO rfl rfl Try.underlying26 rfl rfl) rfl rfl ?_
      refine GoQ.pure rfl (op_fieldAddr Try.underlying29 rfl ti26 rfl (by decide)) rfl rfl ?_
      refine GoQ.stable rfl (oblk (i := 5) 0 hO rfl rfl Try.underlying26 rfl rfl) rfl rfl ?_
      have hobt := rowlend 5 hO rfl dU
      obtain ⟨Gl, Gm⟩ := hobt
      have hOc149 := hO.drop 5
      refine GoQ.call rfl (op_call body70 (show ([.slice p61 n63 c62, .slice bg e.Last.length bh] : List Value) = [.slice p61 d_58.length c62, .slice bg e.Last.length bh] from by rw [← Gm]) (walk_slices_Equal_int hOc149.lt Gl (ai.ch (Owns.dropCh _ _ 5)) H)) (fun v w hr => by obtain ⟨_, _, hs, _⟩ := hr; assumption) rfl rfl ?_
      rintro MU MV ⟨r150, rfl, Gn, H⟩
      have mj := Stp.same hO Gn
      replace bf := bf.ch mj.ch
      replace aX := aX.ch mj.ch
      replace dT := dT.ch mj.ch
      replace dU := dU.ch mj.ch
      replace dV := dV.ch mj.ch
      replace dW := dW.ch mj.ch
      replace dX := dX.ch mj.ch
      replace dY := dY.ch mj.ch
      replace dI := dI.ch mj.ch
      replace hO := mj.own
      replace ah := ah.ch mj.ch
      replace ae := ae.ch mj.ch
      replace ad := ad.ch mj.ch
      replace ai := ai.ch mj.ch
      replace af := af.ch mj.ch
      replace ag := ag.ch mj.ch
      replace hB := hB.trans mj.fr
      refine GoQ.pure rfl (op_pickT rfl rfl rfl) rfl rfl ?_
      refine GoQ.pure rfl (op_move rfl) rfl rfl ?_
      cases r150
      ·replace H := ifn Bool.false_ne_true H
       refine GoQ.pass rfl rfl rfl ?_
       refine GoQ.pass rfl rfl rfl ?_
       refine GoQ.pass rfl rfl rfl ?_
       refine GoQ.pass rfl rfl rfl ?_
       refine GoQ.pass rfl rfl rfl ?_
       refine GoQ.pass rfl rfl rfl ?_
       refine GoQ.pass rfl rfl rfl ?_
       refine GoQ.pass rfl rfl rfl ?_
       refine GoQ.pure rfl (op_pickF rfl rfl rfl) rfl rfl ?_
       refine GoQ.pure rfl (op_move rfl) rfl rfl ?_
       refine GoQ.pass rfl rfl rfl ?_
       refine GoQ.pass rfl rfl rfl ?_
       refine GoQ.pass rfl rfl rfl ?_
       refine GoQ.pass rfl rfl rfl ?_
       refine GoQ.pass rfl rfl rfl ?_
       refine GoQ.pass rfl rfl rfl ?_
       refine GoQ.pass rfl rfl rfl ?_
       refine GoQ.pass rfl rfl rfl ?_
       refine GoQ.pure rfl (op_pickF rfl rfl rfl) rfl rfl ?_
       refine GoQ.pure rfl (op_assign rfl) rfl rfl ?_
       refine GoQ.nil ?_
       refine Go1.ret1V Try.func68 rfl (show _ = .bool false from rfl) ?_
       refine hR117 _ _ ?_
       refine GoR.op ((op_assign rfl) _) rfl rfl ?_
       refine GoR.op ((op_assign rfl) _) rfl rfl ?_
       refine GoR.nil ?_
       replace ah := ah.ch (Owns.dropCh _ _ 0)
       replace ae := ae.ch (Owns.dropCh _ _ 0)
       replace ad := ad.ch (Owns.dropCh _ _ 0)
       replace ai := ai.ch (Owns.dropCh _ _ 0)
       replace af := af.ch (Owns.dropCh _ _ 0)
       replace ag := ag.ch (Owns.dropCh _ _ 0)
       replace bf := bf.ch (Owns.dropCh _ _ 0)
       replace aX := aX.ch (Owns.dropCh _ _ 0)
       replace dT := dT.ch (Owns.dropCh _ _ 0)
       replace dU := dU.ch (Owns.dropCh _ _ 0)
       replace dV := dV.ch (Owns.dropCh _ _ 0)
       replace dW := dW.ch (Owns.dropCh _ _ 0)
       replace dX := dX.ch (Owns.dropCh _ _ 0)
       replace dY := dY.ch (Owns.dropCh _ _ 0)
       replace dI := dI.ch (Owns.dropCh _ _ 0)
       replace hB := hB.trans (Owns.dropFr _ _ 0)
       replace hO := hO.drop 0
       dsimp only [eS, eZ] at hB hO ah ae ad ai af ag bf aX dT dU dV dW dX dY dI
       replace ah := ah.ch (Owns.dropCh _ _ 11)
       replace ae := ae.ch (Owns.dropCh _ _ 11)
       replace ad := ad.ch (Owns.dropCh _ _ 11)
       replace ai := ai.ch (Owns.dropCh _ _ 11)
       replace af := af.ch (Owns.dropCh _ _ 11)
       replace ag := ag.ch (Owns.dropCh _ _ 11)
       replace bf := bf.ch (Owns.dropCh _ _ 11)
       replace aX := aX.ch (Owns.dropCh _ _ 11)
       replace dT := dT.ch (Owns.dropCh _ _ 11)
       replace dU := dU.ch (Owns.dropCh _ _ 11)
       replace dV := dV.ch (Owns.dropCh _ _ 11)
       replace dW := dW.ch (Owns.dropCh _ _ 11)
       replace dX := dX.ch (Owns.dropCh _ _ 11)
       replace dY := dY.ch (Owns.dropCh _ _ 11)
       replace dI := dI.ch (Owns.dropCh _ _ 11)
       replace hB := hB.trans (Owns.dropFr _ _ 11)
       replace hO := hO.drop 11
       dsimp only [eS, eZ] at hB hO ah ae ad ai af ag bf aX dT dU dV dW dX dY dI
       refine Go1.ret2 Try.func53 rfl ?_
       exact Or.inr ⟨(⟨(⟨k2_37, b2_38, d_40, d_46, d_52, d_58, d_64, d_70, k2_39⟩ : Enum), m2_94, d_76, d_82, d_88⟩ : run), false, iR, n45, p43, c44, eC, n51, p49, c50, eF, n57, p55, c56, jY, n63, p61, c62, jZ, n69, p67, c68, j3, n75, p73, c74, j4, bP, n81, p79, c80, j5, n87, p85, c86, j6, n93, p91, c92, j7, rfl, hB.same, hO, bf, aX, dT, dU, dV, dW, dX, dY, dI, H⟩
      replace H := ifp rfl H
      refine GoQ.pure rfl (op_move rfl) rfl rfl ?_
      refine GoQ.pure rfl (op_nilCheck rfl) rfl rfl ?_
      refine GoQ.pure rfl (op_fieldAddr Try.underlying72 rfl ti29 rfl (by decide)) rfl rfl ?_
      refine GoQ.pure rfl (op_fieldAddr Try.underlying29 rfl ti22 rfl (by decide)) rfl rfl ?_
      refine GoQ.stable rfl (oblk (i := 6) 1 hO rfl rfl Try.underlying22 rfl rfl) rfl rfl ?_
      refine GoQ.pure rfl (op_fieldAddr Try.underlying29 rfl ti22 rfl (by decide)) rfl rfl ?_
      refine GoQ.stable rfl (oblk (i := 6) 0 hO rfl rfl Try.underlying22 rfl rfl) rfl rfl ?_
      have hobt := rowlend 6 hO rfl dV
      obtain ⟨Gp, Gq⟩ := hobt
      have hOc158 := hO.drop 6
      refine GoQ.call rfl (op_call body69 (show ([.slice p67 n69 c68, .slice aQ e.Right.length aR, .func (.func 70) #[] #[]] : List Value) = [.slice p67 d_64.length c68, .slice aQ e.Right.length aR, .func (.func 70) #[] #[]] from by rw [← Gq]) (walk_slices_EqualFunc_int hOc158.lt Gp (af.ch (Owns.dropCh _ _ 6)) H)) (fun v w hr => by obtain ⟨_, _, hs, _⟩ := hr; assumption) rfl rfl ?_
      rintro MW MX ⟨r159, rfl, Gr, H⟩
      have g0 := Stp.same hO Gr
      replace bf := bf.ch g0.ch
      replace aX := aX.ch g0.ch
      replace dT := dT.ch g0.ch
      replace dU := dU.ch g0.ch
      replace dV := dV.ch g0.ch
      replace dW := dW.ch g0.ch
      replace dX := dX.ch g0.ch
      replace dY := dY.ch g0.ch
      replace dI := dI.ch g0.ch
      replace hO := g0.own
      replace ah := ah.ch g0.ch
      replace ae := ae.ch g0.ch
      replace ad := ad.ch g0.ch
      replace ai := ai.ch g0.ch
      replace af := af.ch g0.ch
      replace ag := ag.ch g0.ch
      replace hB := hB.trans g0.fr
      refine GoQ.pure rfl (op_pickT rfl rfl rfl) rfl rfl ?_
      refine GoQ.pure rfl (op_move rfl) rfl rfl ?_
      cases r159
      ·replace H := ifn Bool.false_ne_true H
       refine GoQ.pass rfl rfl rfl ?_
       refine GoQ.pass rfl rfl rfl ?_
       refine GoQ.pass rfl rfl rfl ?_
       refine GoQ.pass rfl rfl rfl ?_
       refine GoQ.pass rfl rfl rfl ?_
       refine GoQ.pass rfl rfl rfl ?_
       refine GoQ.pass rfl rfl rfl ?_
       refine GoQ.pass rfl rfl rfl ?_
       refine GoQ.pure rfl (op_pickF rfl rfl rfl) rfl rfl ?_
       refine GoQ.pure rfl (op_assign rfl) rfl rfl ?_
       refine GoQ.nil ?_
       refine Go1.ret1V Try.func68 rfl (show _ = .bool false from rfl) ?_
       refine hR117 _ _ ?_
       refine GoR.op ((op_assign rfl) _) rfl rfl ?_
       refine GoR.op ((op_assign rfl) _) rfl rfl ?_
       refine GoR.nil ?_
       replace ah := ah.ch (Owns.dropCh _ _ 0)
       replace ae := ae.ch (Owns.dropCh _ _ 0)
       replace ad := ad.ch (Owns.dropCh _ _ 0)
       replace ai := ai.ch (Owns.dropCh _ _ 0)
       replace af := af.ch (Owns.dropCh _ _ 0)
       replace ag := ag.ch (Owns.dropCh _ _ 0)
       replace bf := bf.ch (Owns.dropCh _ _ 0)
       replace aX := aX.ch (Owns.dropCh _ _ 0)
       replace dT := dT.ch (Owns.dropCh _ _ 0)
       replace dU := dU.ch (Owns.dropCh _ _ 0)
       replace dV := dV.ch (Owns.dropCh _ _ 0)
       replace dW := dW.ch (Owns.dropCh _ _ 0)
       replace dX := dX.ch (Owns.dropCh _ _ 0)
       replace dY := dY.ch (Owns.dropCh _ _ 0)
       replace dI := dI.ch (Owns.dropCh _ _ 0)
       replace hB := hB.trans (Owns.dropFr _ _ 0)
       replace hO := hO.drop 0
       dsimp only [eS, eZ] at hB hO ah ae ad ai af ag bf aX dT dU dV dW dX dY dI
       replace ah := ah.ch (Owns.dropCh _ _ 11)
       replace ae := ae.ch (Owns.dropCh _ _ 11)
       replace ad := ad.ch (Owns.dropCh _ _ 11)
       replace ai := ai.ch (Owns.dropCh _ _ 11)
       replace af := af.ch (Owns.dropCh _ _ 11)
       replace ag := ag.ch (Owns.dropCh _ _ 11)
       replace bf := bf.ch (Owns.dropCh _ _ 11)
       replace aX := aX.ch (Owns.dropCh _ _ 11)
       replace dT := dT.ch (Owns.dropCh _ _ 11)
       replace dU := dU.ch (Owns.dropCh _ _ 11)
       replace dV := dV.ch (Owns.dropCh _ _ 11)
       replace dW := dW.ch (Owns.dropCh _ _ 11)
       replace dX := dX.ch (Owns.dropCh _ _ 11)
       replace dY := dY.ch (Owns.dropCh _ _ 11)
       replace dI := dI.ch (Owns.dropCh _ _ 11)
       replace hB := hB.trans (Owns.dropFr _ _ 11)
       replace hO := hO.drop 11
       dsimp only [eS, eZ] at hB hO ah ae ad ai af ag bf aX dT dU dV dW dX dY dI
       refine Go1.ret2 Try.func53 rfl ?_
       exact Or.inr ⟨(⟨(⟨k2_37, b2_38, d_40, d_46, d_52, d_58, d_64, d_70, k2_39⟩ : Enum), m2_94, d_76, d_82, d_88⟩ : run), false, iR, n45, p43, c44, eC, n51, p49, c50, eF, n57, p55, c56, jY, n63, p61, c62, jZ, n69, p67, c68, j3, n75, p73, c74, j4, bP, n81, p79, c80, j5, n87, p85, c86, j6, n93, p91, c92, j7, rfl, hB.same, hO, bf, aX, dT, dU, dV, dW, dX, dY, dI, H⟩
      replace H := ifp rfl H
      refine GoQ.pure rfl (op_move rfl) rfl rfl ?_
      refine GoQ.pure rfl (op_nilCheck rfl) rfl rfl ?_
      refine GoQ.pure rfl (op_fieldAddr Try.underlying72 rfl ti29 rfl (by decide)) rfl rfl ?_
      refine GoQ.pure rfl (op_fieldAddr Try.underlying29 rfl ti27 rfl (by decide)) rfl rfl ?_
      refine GoQ.stable rfl (oblk (i := 7) 1 hO rfl rfl Try.underlying27 rfl rfl) rfl rfl ?_
      refine GoQ.pure rfl (op_fieldAddr Try.underlying29 rfl ti27 rfl (by decide)) rfl rfl ?_
      refine GoQ.stable rfl (oblk (i := 7) 0 hO rfl rfl Try.underlying27 rfl rfl) rfl rfl ?_
      have hobt := rowlend 7 hO rfl dW
      obtain ⟨Gs, Gt⟩ := hobt
      have hOc167 := hO.drop 7
      refine GoQ.call rfl (op_call body71 (show ([.slice p73 n75 c74, .slice aS e.Rules.length aT] : List Value) = [.slice p73 d_70.length c74, .slice aS e.Rules.length aT] from by rw [← Gt]) (walk_slices_Equal_api_Rule hOc167.lt Gs (ag.ch (Owns.dropCh _ _ 7)) H)) (fun v w hr => by obtain ⟨_, _, hs, _⟩ := hr; assumption) rfl rfl ?_
      rintro MY MZ ⟨r168, rfl, Gu, H⟩
      have ml := Stp.same hO Gu
      replace bf := bf.ch ml.ch
      replace aX := aX.ch ml.ch
      replace dT := dT.ch ml.ch
      replace dU := dU.ch ml.ch
      replace dV := dV.ch ml.ch
      replace dW := dW.ch ml.ch
      replace dX := dX.ch ml.ch
      replace dY := dY.ch ml.ch
      replace dI := dI.ch ml.ch
      replace hO := ml.own
      replace ah := ah.ch ml.ch
      replace ae := ae.ch ml.ch
      replace ad := ad.ch ml.ch
      replace ai := ai.ch ml.ch
      replace af := af.ch ml.ch
      replace ag := ag.ch ml.ch
      replace hB := hB.trans ml.fr
      refine GoQ.pure rfl (op_pickT rfl rfl rfl) rfl rfl ?_
      refine GoQ.pure rfl (op_assign rfl) rfl rfl ?_
      refine GoQ.nil ?_
      refine Go1.ret1V Try.func68 rfl (show _ = .bool r168 from rfl) ?_
      refine hR117 _ _ ?_
      refine GoR.op ((op_assign rfl) _) rfl rfl ?_
      refine GoR.op ((op_assign rfl) _) rfl rfl ?_
      refine GoR.nil ?_
      replace ah := ah.ch (Owns.dropCh _ _ 0)
      replace ae := ae.ch (Owns.dropCh _ _ 0)
      replace ad := ad.ch (Owns.dropCh _ _ 0)
      replace ai := ai.ch (Owns.dropCh _ _ 0)
      replace af := af.ch (Owns.dropCh _ _ 0)
      replace ag := ag.ch (Owns.dropCh _ _ 0)
      replace bf := bf.ch (Owns.dropCh _ _ 0)
      replace aX := aX.ch (Owns.dropCh _ _ 0)
      replace dT := dT.ch (Owns.dropCh _ _ 0)
      replace dU := dU.ch (Owns.dropCh _ _ 0)
      replace dV := dV.ch (Owns.dropCh _ _ 0)
      replace dW := dW.ch (Owns.dropCh _ _ 0)
      replace dX := dX.ch (Owns.dropCh _ _ 0)
      replace dY := dY.ch (Owns.dropCh _ _ 0)
      replace dI := dI.ch (Owns.dropCh _ _ 0)
      replace hB := hB.trans (Owns.dropFr _ _ 0)
      replace hO := hO.drop 0
      dsimp only [eS, eZ] at hB hO ah ae ad ai af ag bf aX dT dU dV dW dX dY dI
      replace ah := ah.ch (Owns.dropCh _ _ 11)
      replace ae := ae.ch (Owns.dropCh _ _ 11)
      replace ad := ad.ch (Owns.dropCh _ _ 11)
      replace ai := ai.ch (Owns.dropCh _ _ 11)
      replace af := af.ch (Owns.dropCh _ _ 11)
      replace ag := ag.ch (Owns.dropCh _ _ 11)
      replace bf := bf.ch (Owns.dropCh _ _ 11)
      replace aX := aX.ch (Owns.dropCh _ _ 11)
      replace dT := dT.ch (Owns.dropCh _ _ 11)
      replace dU := dU.ch (Owns.dropCh _ _ 11)
      replace dV := dV.ch (Owns.dropCh _ _ 11)
      replace dW := dW.ch (Owns.dropCh _ _ 11)
      replace dX := dX.ch (Owns.dropCh _ _ 11)
      replace dY := dY.ch (Owns.dropCh _ _ 11)
      replace dI := dI.ch (Owns.dropCh _ _ 11)
      replace hB := hB.trans (Owns.dropFr _ _ 11)
      replace hO := hO.drop 11
      dsimp only [eS, eZ] at hB hO ah ae ad ai af ag bf aX dT dU dV dW dX dY dI
      refine Go1.ret2 Try.func53 rfl ?_
      exact Or.inr ⟨(⟨(⟨k2_37, b2_38, d_40, d_46, d_52, d_58, d_64, d_70, k2_39⟩ : Enum), m2_94, d_76, d_82, d_88⟩ : run), r168, iR, n45, p43, c44, eC, n51, p49, c50, eF, n57, p55, c56, jY, n63, p61, c62, jZ, n69, p67, c68, j3, n75, p73, c74, j4, bP, n81, p79, c80, j5, n87, p85, c86, j6, n93, p91, c92, j7, rfl, hB.same, hO, bf, aX, dT, dU, dV, dW, dX, dY, dI, H⟩
     replace H := ifn zq H
     refine GoQ.pure rfl (fun w => opB (op_eql rfl rfl w) (decide_eq_false zq)) rfl rfl ?_
     refine GoQ.pure rfl (op_pickT rfl rfl rfl) rfl rfl ?_
     refine GoQ.pure rfl (op_move rfl) rfl rfl ?_
     refine GoQ.pass rfl rfl rfl ?_
     refine GoQ.pass rfl rfl rfl ?_
     refine GoQ.pass rfl rfl rfl ?_
     refine GoQ.pass rfl rfl rfl ?_
     refine GoQ.pass rfl rfl rfl ?_
     refine GoQ.pass rfl rfl rfl ?_
     refine GoQ.pass rfl rfl rfl ?_
     refine GoQ.pass rfl rfl rfl ?_
     refine GoQ.pure rfl (op_pickF rfl rfl rfl) rfl rfl ?_
     refine GoQ.pure rfl (op_move rfl) rfl rfl ?_
     refine GoQ.pass rfl rfl rfl ?_
     refine GoQ.pass rfl rfl rfl ?_
     refine GoQ.pass rfl rfl rfl ?_
     refine GoQ.pass rfl rfl rfl ?_
     refine GoQ.pass rfl rfl rfl ?_
     refine GoQ.pass rfl rfl rfl ?_
     refine GoQ.pass rfl rfl rfl ?_
     refine GoQ.pass rfl rfl rfl ?_
     refine GoQ.pure rfl (op_pickF rfl rfl rfl) rfl rfl ?_
     refine GoQ.pure rfl (op_move rfl) rfl rfl ?_
     refine GoQ.pass rfl rfl rfl ?_
     refine GoQ.pass rfl rfl rfl ?_
     refine GoQ.pass rfl rfl rfl ?_
     refine GoQ.pass rfl rfl rfl ?_
     refine GoQ.pass rfl rfl rfl ?_
     refine GoQ.pass rfl rfl rfl ?_
     refine GoQ.pass rfl rfl rfl ?_
     refine GoQ.pass rfl rfl rfl ?_
     refine GoQ.pure rfl (op_pickF rfl rfl rfl) rfl rfl ?_
     refine GoQ.pure rfl (op_move rfl) rfl rfl ?_
     refine GoQ.pass rfl rfl rfl ?_
     refine GoQ.pass rfl rfl rfl ?_
     refine GoQ.pass rfl rfl rfl ?_
     refine GoQ.pass rfl rfl rfl ?_
     refine GoQ.pass rfl rfl rfl ?_
     refine GoQ.pass rfl rfl rfl ?_
     refine GoQ.pass rfl rfl rfl ?_
     refine GoQ.pass rfl rfl rfl ?_
     refine GoQ.pure rfl (op_pickF rfl rfl rfl) rfl rfl ?_
     refine GoQ.pure rfl (op_move rfl) rfl rfl ?_
     refine GoQ.pass rfl rfl rfl ?_
     refine GoQ.pass rfl rfl rfl ?_
     refine GoQ.pass rfl rfl rfl ?_
     refine GoQ.pass rfl rfl rfl ?_
     refine GoQ.pass rfl rfl rfl ?_
     refine GoQ.pass rfl rfl rfl ?_
     refine GoQ.pass rfl rfl rfl ?_
     refine GoQ.pass rfl rfl rfl ?_
     refine GoQ.pure rfl (op_pickF rfl rfl rfl) rfl rfl ?_
     refine GoQ.pure rfl (op_assign rfl) rfl rfl ?_
     refine GoQ.nil ?_
     refine Go1.ret1V Try.func68 rfl (show _ = .bool false from rfl) ?_
     refine hR117 _ _ ?_
     refine GoR.op ((op_assign rfl) _) rfl rfl ?_
     refine GoR.op ((op_assign rfl) _) rfl rfl ?_
     refine GoR.nil ?_
     replace ah := ah.ch (Owns.dropCh _ _ 0)
     replace ae := ae.ch (Owns.dropCh _ _ 0)
     replace ad := ad.ch (Owns.dropCh _ _ 0)
     replace ai := ai.ch (Owns.dropCh _ _ 0)
     replace af := af.ch (Owns.dropCh _ _ 0)
     replace ag := ag.ch (Owns.dropCh _ _ 0)
     replace bf := bf.ch (Owns.dropCh _ _ 0)
     replace aX := aX.ch (Owns.dropCh _ _ 0)
     replace dT := dT.ch (Owns.dropCh _ _ 0)
     replace dU := dU.ch (Owns.dropCh _ _ 0)
     replace dV := dV.ch (Owns.dropCh _ _ 0)
     replace dW := dW.ch (Owns.dropCh _ _ 0)
     replace dX := dX.ch (Owns.dropCh _ _ 0)
     replace dY := dY.ch (Owns.dropCh _ _ 0)
     replace dI := dI.ch (Owns.dropCh _ _ 0)
     replace hB := hB.trans (Owns.dropFr _ _ 0)
     replace hO := hO.drop 0
     dsimp only [eS, eZ] at hB hO ah ae ad ai af ag bf aX dT dU dV dW dX dY dI
     replace ah := ah.ch (Owns.dropCh _ _ 11)
     replace ae := ae.ch (Owns.dropCh _ _ 11)
     replace ad := ad.ch (Owns.dropCh _ _ 11)
     replace ai := ai.ch (Owns.dropCh _ _ 11)
     replace af := af.ch (Owns.dropCh _ _ 11)
     replace ag := ag.ch (Owns.dropCh _ _ 11)
     replace bf := bf.ch (Owns.dropCh _ _ 11)
     replace aX := aX.ch (Owns.dropCh _ _ 11)
     replace dT := dT.ch (Owns.dropCh _ _ 11)
     replace dU := dU.ch (Owns.dropCh _ _ 11)
     replace dV := dV.ch (Owns.dropCh _ _ 11)
     replace dW := dW.ch (Owns.dropCh _ _ 11)
     replace dX := dX.ch (Owns.dropCh _ _ 11)
     replace dY := dY.ch (Owns.dropCh _ _ 11)
     replace dI := dI.ch (Owns.dropCh _ _ 11)
     replace hB := hB.trans (Owns.dropFr _ _ 11)
     replace hO := hO.drop 11
     dsimp only [eS, eZ] at hB hO ah ae ad ai af ag bf aX dT dU dV dW dX dY dI
     refine Go1.ret2 Try.func53 rfl ?_
     exact Or.inr ⟨(⟨(⟨k2_37, b2_38, d_40, d_46, d_52, d_58, d_64, d_70, k2_39⟩ : Enum), m2_94, d_76, d_82, d_88⟩ : run), false, iR, n45, p43, c44, eC, n51, p49, c50, eF, n57, p55, c56, jY, n63, p61, c62, jZ, n69, p67, c68, j3, n75, p73, c74, j4, bP, n81, p79, c80, j5, n87, p85, c86, j6, n93, p91, c92, j7, rfl, hB.same, hO, bf, aX, dT, dU, dV, dW, dX, dY, dI, H⟩
    replace H := ifn zp H
    refine GoQ.pure rfl (fun w => opB (op_eql rfl rfl w) (decide_eq_false zp)) rfl rfl ?_
    refine GoQ.pure rfl (op_move rfl) rfl rfl ?_
    refine GoQ.pass rfl rfl rfl ?_
    refine GoQ.pass rfl rfl rfl ?_
    refine GoQ.pass rfl rfl rfl ?_
    refine GoQ.pass rfl rfl rfl ?_
    refine GoQ.pass rfl rfl rfl ?_
    refine GoQ.pass rfl rfl rfl ?_
    refine GoQ.pass rfl rfl rfl ?_
    refine GoQ.pass rfl rfl rfl ?_
    refine GoQ.pure rfl (op_pickF rfl rfl rfl) rfl rfl ?_
    refine GoQ.pure rfl (op_move rfl) rfl rfl ?_
    refine GoQ.pass rfl rfl rfl ?_
    refine GoQ.pass rfl rfl rfl ?_
    refine GoQ.pass rfl rfl rfl ?_
    refine GoQ.pass rfl rfl rfl ?_
    refine GoQ.pass rfl rfl rfl ?_
    refine GoQ.pass rfl rfl rfl ?_
    refine GoQ.pass rfl rfl rfl ?_
    refine GoQ.pass rfl rfl rfl ?_
    refine GoQ.pure rfl (op_pickF rfl rfl rfl) rfl rfl ?_
    refine GoQ.pure rfl (op_move rfl) rfl rfl ?_
    refine GoQ.pass rfl rfl rfl ?_
    refine GoQ.pass rfl rfl rfl ?_
    refine GoQ.pass rfl rfl rfl ?_
    refine GoQ.pass rfl rfl rfl ?_
    refine GoQ.pass rfl rfl rfl ?_
    refine GoQ.pass rfl rfl rfl ?_
    refine GoQ.pass rfl rfl rfl ?_
    refine GoQ.pass rfl rfl rfl ?_
    refine GoQ.pure rfl (op_pickF rfl rfl rfl) rfl rfl ?_
    refine GoQ.pure rfl (op_move rfl) rfl rfl ?_
    refine GoQ.pass rfl rfl rfl ?_
    refine GoQ.pass rfl rfl rfl ?_
    refine GoQ.pass rfl rfl rfl ?_
    refine GoQ.pass rfl rfl rfl ?_
    refine GoQ.pass rfl rfl rfl ?_
    refine GoQ.pass rfl rfl rfl ?_
    refine GoQ.pass rfl rfl rfl ?_
    refine GoQ.pass rfl rfl rfl ?_
    refine GoQ.pure rfl (op_pickF rfl rfl rfl) rfl rfl ?_
    refine GoQ.pure rfl (op_move rfl) rfl rfl ?_
    refine GoQ.pass rfl rfl rfl ?_
    refine GoQ.pass rfl rfl rfl ?_
    refine GoQ.pass rfl rfl rfl ?_
    refine GoQ.pass rfl rfl rfl ?_
    refine GoQ.pass rfl rfl rfl ?_
    refine GoQ.pass rfl rfl rfl ?_
    refine GoQ.pass rfl rfl rfl ?_
    refine GoQ.pass rfl rfl rfl ?_
    refine GoQ.pure rfl (op_pickF rfl rfl rfl) rfl rfl ?_
    refine GoQ.pure rfl (op_move rfl) rfl rfl ?_
    refine GoQ.pass rfl rfl rfl ?_
    refine GoQ.pass rfl rfl rfl ?_
    refine GoQ.pass rfl rfl rfl ?_
    refine GoQ.pass rfl rfl rfl ?_
    refine GoQ.pass rfl rfl rfl ?_
    refine GoQ.pass rfl rfl rfl ?_
    refine GoQ.pass rfl rfl rfl ?_
    refine GoQ.pass rfl rfl rfl ?_
    refine GoQ.pure rfl (op_pickF rfl rfl rfl) rfl rfl ?_
    refine GoQ.pure rfl (op_assign rfl) rfl rfl ?_
    refine GoQ.nil ?_
    refine Go1.ret1V Try.func68 rfl (show _ = .bool false from rfl) ?_
    refine hR117 _ _ ?_
    refine GoR.op ((op_assign rfl) _) rfl rfl ?_
    refine GoR.op ((op_assign rfl) _) rfl rfl ?_
    refine GoR.nil ?_
    replace ah := ah.ch (Owns.dropCh _ _ 0)
    replace ae := ae.ch (Owns.dropCh _ _ 0)
    replace ad := ad.ch (Owns.dropCh _ _ 0)
    replace ai := ai.ch (Owns.dropCh _ _ 0)
    replace af := af.ch (Owns.dropCh _ _ 0)
    replace ag := ag.ch (Owns.dropCh _ _ 0)
    replace bf := bf.ch (Owns.dropCh _ _ 0)
    replace aX := aX.ch (Owns.dropCh _ _ 0)
    replace dT := dT.ch (Owns.dropCh _ _ 0)
    replace dU := dU.ch (Owns.dropCh _ _ 0)
    replace dV := dV.ch (Owns.dropCh _ _ 0)
    replace dW := dW.ch (Owns.dropCh _ _ 0)
    replace dX := dX.ch (Owns.dropCh _ _ 0)
    replace dY := dY.ch (Owns.dropCh _ _ 0)
    replace dI := dI.ch (Owns.dropCh _ _ 0)
    replace hB := hB.trans (Owns.dropFr _ _ 0)
    replace hO := hO.drop 0
    dsimp only [eS, eZ] at hB hO ah ae ad ai af ag bf aX dT dU dV dW dX dY dI
    replace ah := ah.ch (Owns.dropCh _ _ 11)
    replace ae := ae.ch (Owns.dropCh _ _ 11)
    replace ad := ad.ch (Owns.dropCh _ _ 11)
    replace ai := ai.ch (Owns.dropCh _ _ 11)
    replace af := af.ch (Owns.dropCh _ _ 11)
    replace ag := ag.ch (Owns.dropCh _ _ 11)
    replace bf := bf.ch (Owns.dropCh _ _ 11)
    replace aX := aX.ch (Owns.dropCh _ _ 11)
    replace dT := dT.ch (Owns.dropCh _ _ 11)
    replace dU := dU.ch (Owns.dropCh _ _ 11)
    replace dV := dV.ch (Owns.dropCh _ _ 11)
    replace dW := dW.ch (Owns.dropCh _ _ 11)
    replace dX := dX.ch (Owns.dropCh _ _ 11)
    replace dY := dY.ch (Owns.dropCh _ _ 11)
    replace dI := dI.ch (Owns.dropCh _ _ 11)
    replace hB := hB.trans (Owns.dropFr _ _ 11)
    replace hO := hO.drop 11
    dsimp only [eS, eZ] at hB hO ah ae ad ai af ag bf aX dT dU dV dW dX dY dI
    refine Go1.ret2 Try.func53 rfl ?_
    exact Or.inr ⟨(⟨(⟨k2_37, b2_38, d_40, d_46, d_52, d_58, d_64, d_70, k2_39⟩ : Enum), m2_94, d_76, d_82, d_88⟩ : run), false, iR, n45, p43, c44, eC, n51, p49, c50, eF, n57, p55, c56, jY, n63, p61, c62, jZ, n69, p67, c68, j3, n75, p73, c74, j4, bP, n81, p79, c80, j5, n87, p85, c86, j6, n93, p91, c92, j7, rfl, hB.same, hO, bf, aX, dT, dU, dV, dW, dX, dY, dI, H⟩
   replace H := ifn h35 H
   refine GoR.op ((fun w => opB (op_neq rfl rfl w) (ndF h35)) _) rfl rfl ?_
   refine GoR.nil ?_
   refine Go1.condT rfl rfl ?_
   refine Go1.seq ?_
   refine Go1.cut [] trivial ?_
   intro σ _
   refine Go1.region ?_
   refine GoR.op ((op_assign rfl) _) rfl rfl ?_
   refine GoR.op ((op_assign rfl) _) rfl rfl ?_
   refine GoR.nil ?_
   refine Go1.ret2 Try.func53 rfl ?_
   exact Or.inl ⟨false, rfl, hB.same, H⟩
 replace H := ifn h7 H
 refine GoR.op (opB ((oblk (i := 1) 0 hO rfl rfl Try.underlying4 rfl rfl) _ (Same.refl _)) (Bool.eq_false_iff.2 h7)) rfl rfl ?_
 refine GoR.call (op_call body49 rfl (walk_enumerate_begin hO.lt ah H)) rfl rfl ?_
 intro M0 M1 hcase180
 refine Or.elim hcase180 ?_ ?_
 ·refine exE fun r175 => andE fun hv181 => andE fun zr => fun H => ?_
  subst hv181
  clear hcase180
  replace H := oElimN H
  have j9 := Stp.same hO zr
  replace hO := j9.own
  replace ah := ah.ch j9.ch
  replace ae := ae.ch j9.ch
  replace ad := ad.ch j9.ch
  replace ai := ai.ch j9.ch
  replace af := af.ch j9.ch
  replace ag := ag.ch j9.ch
  replace hB := hB.trans j9.fr
  refine GoR.op ((op_move rfl) _) rfl rfl ?_
  refine GoR.op ((op_extract rfl rfl) _) rfl rfl ?_
  refine GoR.op ((op_extract rfl rfl) _) rfl rfl ?_
  refine GoR.op ((op_assign rfl) _) rfl rfl ?_
  refine GoR.op ((op_assign rfl) _) rfl rfl ?_
  refine GoR.nil ?_
  refine Go1.seq ?_
  refine Go1.seq ?_
  refine Go1.region ?_
  refine GoR.op ((op_move rfl) _) rfl rfl ?_
  by_cases zt : r175 = (0 : Int)
  ·replace H := ifp zt H
   refine GoR.op ((fun w => opB (op_neq rfl rfl w) (ndT zt)) _) rfl rfl ?_
   refine GoR.nil ?_
   refine Go1.condF rfl rfl ?_
   refine Go1.skip ?_
   refine Go1.seq ?_
   refine Go1.block ?_
   refine Go1.loopW (S := Unit) (fun s σ w => agrees σ [(1, .pointer (some ⟨B2, 0, none⟩)), (4, .pointer none)] ∧ Owns w0.heap.size w [.blk B2 (.cells #[.int .i64 e.Points, .bool e.Monoid, .slice bp e.Gens.length bq, .slice aO e.Elems.length aP, .slice ar e.Prefix.length au, .slice bg e.Last.length bh, .slice aQ e.Right.length aR, .slice aS e.Rules.length aT, .int .i64 e.Done] 29 (0, 0))] A ∧ ISl (Rp.sl (Rp.int .i64)) (bl [.blk B2 (.cells #[.int .i64 e.Points, .bool e.Monoid, .slice bp e.Gens.length bq, .slice aO e.Elems.length aP, .slice ar e.Prefix.length au, .slice bg e.Last.length bh, .slice aQ e.Right.length aR, .slice aS e.Rules.length aT, .int .i64 e.Done] 29 (0, 0))] ++ A) w bp bq e.Gens ∧ ISl (Rp.sl (Rp.int .i64)) (bl [.blk B2 (.cells #[.int .i64 e.Points, .bool e.Monoid, .slice bp e.Gens.length bq, .slice aO e.Elems.length aP, .slice ar e.Prefix.length au, .slice bg e.Last.length bh, .slice aQ e.Right.length aR, .slice aS e.Rules.length aT, .int .i64 e.Done] 29 (0, 0))] ++ A) w aO aP e.Elems ∧ ISl (Rp.int .i64) (bl [.blk B2 (.cells #[.int .i64 e.Points, .bool e.Monoid, .slice bp e.Gens.length bq, .slice aO e.Elems.length aP, .slice ar e.Prefix.length au, .slice bg e.Last.length bh, .slice aQ e.Right.length aR, .slice aS e.Rules.length aT, .int .i64 e.Done] 29 (0, 0))] ++ A) w ar au e.Prefix ∧ ISl (Rp.int .i64) (bl [.blk B2 (.cells #[.int .i64 e.Points, .bool e.Monoid, .slice bp e.Gens.length bq, .slice aO e.Elems.length aP, .slice ar e.Prefix.length au, .slice bg e.Last.length bh, .slice aQ e.Right.length aR, .slice aS e.Rules.length aT, .int .i64 e.Done] 29 (0, 0))] ++ A) w bg bh e.Last ∧ ISl (Rp.sl (Rp.int .i64)) (bl [.blk B2 (.cells #[.int .i64 e.Points, .bool e.Monoid, .slice bp e.Gens.length bq, .slice aO e.Elems.length aP, .slice ar e.Prefix.length au, .slice bg e.Last.length bh, .slice aQ e.Right.length aR, .slice aS e.Rules.length aT, .int .i64 e.Done] 29 (0, 0))] ++ A) w aQ aR e.Right ∧ ISl (rpRule) (bl [.blk B2 (.cells #[.int .i64 e.Points, .bool e.Monoid, .slice bp e.Gens.length bq, .slice aO e.Elems.length aP, .slice ar e.Prefix.length au, .slice bg e.Last.length bh, .slice aQ e.Right.length aR, .slice aS e.Rules.length aT, .int .i64 e.Done] 29 (0, 0))] ++ A) w aS aT e.Rules ∧ Fr (bl []) w0 (bl [.blk B2 (.cells #[.int .i64 e.Points, .bool e.Monoid, .slice bp e.Gens.length bq, .slice aO e.Elems.length aP, .slice ar e.Prefix.length au, .slice bg e.Last.length bh, .slice aQ e.Right.length aR, .slice aS e.Rules.length aT, .int .i64 e.Done] 29 (0, 0))]) w) H ⟨⟨rfl, rfl, trivial⟩, hO, ah, ae, ad, ai, af, ag, hB⟩ ?_
   intro X3 _
   intro H hX3 σ M2
   refine andE fun hag => andE fun hO => andE fun ah => andE fun ae => andE fun ad => andE fun ai => andE fun af => andE fun ag => fun hB => ?_
   refine Go1.keep [(1, .pointer (some ⟨B2, 0, none⟩)), (4, .pointer none)] hag ?_
   refine Go1.seq ?_
   refine Go1.seq ?_
   refine Go1.drawS 0 [(0, .pure), (1, .pure), (2, .pure), (3, .pure), (4, .stable), (5, .pure), (6, .stable), (7, .pure)] mixed (by kernel_rfl) ?_
   intro M3 y8
   have sX := Stp.same hO y8
   replace hO := sX.own
   replace ah := ah.ch sX.ch
   replace ae := ae.ch sX.ch
   replace ad := ad.ch sX.ch
   replace ai := ai.ch sX.ch
   replace af := af.ch sX.ch
   replace ag := ag.ch sX.ch
   replace hB := hB.trans sX.fr
   refine GoQ.pure rfl (op_move rfl) rfl rfl ?_
   exact H.elim
  replace H := ifn zt H
  refine GoR.op ((fun w => opB (op_neq rfl rfl w) (ndF zt)) _) rfl rfl ?_
  refine GoR.nil ?_
  refine Go1.condT rfl rfl ?_
  refine Go1.seq ?_
  refine Go1.region ?_
  refine GoR.op ((op_assign rfl) _) rfl rfl ?_
  refine GoR.op ((op_assign rfl) _) rfl rfl ?_
  refine GoR.nil ?_
  refine Go1.ret2 Try.func53 rfl ?_
  exact Or.inl ⟨false, rfl, hB.same, H⟩
 ·refine exE fun r174 => exE fun r175 => exE fun et => exE fun wt => exE fun wu => exE fun wv => exE fun vC => exE fun vD => exE fun vE => exE fun vF => exE fun ve => exE fun vg => exE fun vh => exE fun vi => exE fun uP => exE fun ww => exE fun wx => exE fun wy => exE fun vG => exE fun vH => exE fun vI => exE fun vJ => exE fun vj => exE fun vK => exE fun vL => exE fun vM => exE fun vk => exE fun bC => exE fun yf => exE fun yg => exE fun yh => exE fun xB => exE fun xC => exE fun xD => exE fun xE => exE fun xt => exE fun xF => exE fun xG => exE fun xH => exE fun xv => andE fun hv188 => andE fun zr => andE fun hN179 => andE fun ol => andE fun nS => andE fun nC => andE fun om => andE fun nT => andE fun nU => andE fun rU => andE fun ro => andE fun rp => fun H => ?_
  subst hv188
  clear hcase180
  replace H := oElimS H
  have sm := Stp.more hO zr hN179
  dsimp only [List.cons_append, List.nil_append] at sm
  replace hO := sm.own
  replace ah := ah.ch sm.ch
  replace ae := ae.ch sm.ch
  replace ad := ad.ch sm.ch
  replace ai := ai.ch sm.ch
  replace af := af.ch sm.ch
  replace ag := ag.ch sm.ch
  replace hB := hB.trans sm.fr
  replace ol := ol.ch (Ch.assoc _ _ _ _)
  dsimp only [List.cons_append, List.nil_append] at ol
  replace nS := nS.ch (Ch.assoc _ _ _ _)
  dsimp only [List.cons_append, List.nil_append] at nS
  replace nC := nC.ch (Ch.assoc _ _ _ _)
  dsimp only [List.cons_append, List.nil_append] at nC
  replace om := om.ch (Ch.assoc _ _ _ _)
  dsimp only [List.cons_append, List.nil_append] at om
  replace nT := nT.ch (Ch.assoc _ _ _ _)
  dsimp only [List.cons_append, List.nil_append] at nT
  replace nU := nU.ch (Ch.assoc _ _ _ _)
  dsimp only [List.cons_append, List.nil_append] at nU
  replace rU := rU.ch (Ch.assoc _ _ _ _)
  dsimp only [List.cons_append, List.nil_append] at rU
  replace ro := ro.ch (Ch.assoc _ _ _ _)
  dsimp only [List.cons_append, List.nil_append] at ro
  replace rp := rp.ch (Ch.assoc _ _ _ _)
  dsimp only [List.cons_append, List.nil_append] at rp
  refine GoR.op ((op_move rfl) _) rfl rfl ?_
  refine GoR.op ((op_extract rfl rfl) _) rfl rfl ?_
  refine GoR.op ((op_extract rfl rfl) _) rfl rfl ?_
  refine GoR.op ((op_assign rfl) _) rfl rfl ?_
  refine GoR.op ((op_assign rfl) _) rfl rfl ?_
  refine GoR.nil ?_
  refine Go1.seq ?_
  refine Go1.seq ?_
  refine Go1.region ?_
  refine GoR.op ((op_move rfl) _) rfl rfl ?_
  by_cases zu : r175 = (0 : Int)
  ·replace H := ifp zu H
   refine GoR.op ((fun w => opB (op_neq rfl rfl w) (ndT zu)) _) rfl rfl ?_
   refine GoR.nil ?_
   refine Go1.condF rfl rfl ?_
   refine Go1.skip ?_
   refine Go1.seq ?_
   refine Go1.block ?_
   refine Go1.loopW (S := Int × Bool × Int × List (List Int) × List (List Int) × List Int × List Int × List (List Int) × List Rule × List Str × List Int × List Int × (List (Str × Int))) (fun s σ w => match s with | (k4_203, b4_204, k4_205, d_206, d_212, d_218, d_224, d_230, d_236, d_242, d_248, d_254, m4_260) => ∃ (fe : Nat), ∃ (ff : Option Addr), ∃ (fh : Nat), ∃ (gk : List Value), ∃ (eW : Nat), ∃ (eH : Option Addr), ∃ (eI : Nat), ∃ (ii : List Value), ∃ (eX : Nat), ∃ (eK : Option Addr), ∃ (eM : Nat), ∃ (ik : List Value), ∃ (eY : Nat), ∃ (eN : Option Addr), ∃ (eO : Nat), ∃ (io : List Value), ∃ (e8 : Nat), ∃ (eP : Option Addr), ∃ (eQ : Nat), ∃ (ip : List Value), ∃ (e9 : Nat), ∃ (eU : Option Addr), ∃ (eV : Nat), ∃ (iq : List Value), ∃ (fk : Nat), ∃ (fm : Option Addr), ∃ (fo : Nat), ∃ (ir : List Value), ∃ (fq : Nat), ∃ (ft : Option Addr), ∃ (fu : Nat), ∃ (iu : List Value), ∃ (fv : Nat), ∃ (fw : Option Addr), ∃ (fx : Nat), ∃ (iv : List Value), agrees σ [(1, .pointer (some ⟨B2, 0, none⟩)), (4, .pointer (some ⟨et, 0, none⟩))] ∧ Owns w0.heap.size w [.blk et (.cells #[.int .i64 k4_203, .bool b4_204, .slice ff fe fh, .slice eH eW eI, .slice eK eX eM, .slice eN eY eO, .slice eP e8 eQ, .slice eU e9 eV, .int .i64 k4_205, .map (some bC), .slice fm fk fo, .slice ft fq fu, .slice fw fv fx] 72 (0, 0)), .row 26 1 ff fe fh gk, .row 26 1 eH eW eI ii, .row 3 1 eK eX eM ik, .row 3 1 eN eY eO io, .row 26 1 eP e8 eQ ip, .row 39 2 eU e9 eV iq, .row 9 1 fm fk fo ir, .row 3 1 ft fq fu iu, .row 3 1 fw fv fx iv, .any (mapE (fun a : List UInt8 => Value.string (gstr a)) (fun a : Int => Value.int .i64 a) bC m4_260), .blk B2 (.cells #[.int .i64 e.Points, .bool e.Monoid, .slice bp e.Gens.length bq, .slice aO e.Elems.length aP, .slice ar e.Prefix.length au, .slice bg e.Last.length bh, .slice aQ e.Right.length aR, .slice aS e.Rules.length aT, .int .i64 e.Done] 29 (0, 0))] A ∧ Els (Rp.sl (Rp.int .i64)) (bl [.blk et (.cells #[.int .i64 k4_203, .bool b4_204, .slice ff fe fh, .slice eH eW eI, .slice eK eX eM, .slice eN eY eO, .slice eP e8 eQ, .slice eU e9 eV, .int .i64 k4_205, .map (some bC), .slice fm fk fo, .slice ft fq fu, .slice fw fv fx] 72 (0, 0)), .row 26 1 ff fe fh gk, .row 26 1 eH eW eI ii, .row 3 1 eK eX eM ik, .row 3 1 eN eY eO io, .row 26 1 eP e8 eQ ip, .row 39 2 eU e9 eV iq, .row 9 1 fm fk fo ir, .row 3 1 ft fq fu iu, .row 3 1 fw fv fx iv, .any (mapE (fun a : List UInt8 => Value.string (gstr a)) (fun a : Int => Value.int .i64 a) bC m4_260), .blk B2 (.cells #[.int .i64 e.Points, .bool e.Monoid, .slice bp e.Gens.length bq, .slice aO e.Elems.length aP, .slice ar e.Prefix.length au, .slice bg e.Last.length bh, .slice aQ e.Right.length aR, .slice aS e.Rules.length aT, .int .i64 e.Done] 29 (0, 0))] ++ A) w gk d_206 ∧ Els (Rp.sl (Rp.int .i64)) (bl [.blk et (.cells #[.int .i64 k4_203, .bool b4_204, .slice ff fe fh, .slice eH eW eI, .slice eK eX eM, .slice eN eY eO, .slice eP e8 eQ, .slice eU e9 eV, .int .i64 k4_205, .map (some bC), .slice fm fk fo, .slice ft fq fu, .slice fw fv fx] 72 (0, 0)), .row 26 1 ff fe fh gk, .row 26 1 eH eW eI ii, .row 3 1 eK eX eM ik, .row 3 1 eN eY eO io, .row 26 1 eP e8 eQ ip, .row 39 2 eU e9 eV iq, .row 9 1 fm fk fo ir, .row 3 1 ft fq fu iu, .row 3 1 fw fv fx iv, .any (mapE (fun a : List UInt8 => Value.string (gstr a)) (fun a : Int => Value.int .i64 a) bC m4_260), .blk B2 (.cells #[.int .i64 e.Points, .bool e.Monoid, .slice bp e.Gens.length bq, .slice aO e.Elems.length aP, .slice ar e.Prefix.length au, .slice bg e.Last.length bh, .slice aQ e.Right.length aR, .slice aS e.Rules.length aT, .int .i64 e.Done] 29 (0, 0))] ++ A) w ii d_212 ∧ Els (Rp.int .i64) (bl [.blk et (.cells #[.int .i64 k4_203, .bool b4_204, .slice ff fe fh, .slice eH eW eI, .slice eK eX eM, .slice eN eY eO, .slice eP e8 eQ, .slice eU e9 eV, .int .i64 k4_205, .map (some bC), .slice fm fk fo, .slice ft fq fu, .slice fw fv fx] 72 (0, 0)), .row 26 1 ff fe fh gk, .row 26 1 eH eW eI ii, .row 3 1 eK eX eM ik, .row 3 1 eN eY eO io, .row 26 1 eP e8 eQ ip, .row 39 2 eU e9 eV iq, .row 9 1 fm fk fo ir, .row 3 1 ft fq fu iu, .row 3 1 fw fv fx iv, .any (mapE (fun a : List UInt8 => Value.string (gstr a)) (fun a : Int => Value.int .i64 a) bC m4_260), .blk B2 (.cells #[.int .i64 e.Points, .bool e.Monoid, .slice bp e.Gens.length bq, .slice aO e.Elems.length aP, .slice ar e.Prefix.length au, .slice bg e.Last.length bh, .slice aQ e.Right.length aR, .slice aS e.Rules.length aT, .int .i64 e.Done] 29 (0, 0))] ++ A) w ik d_218 ∧ Els (Rp.int .i64) (bl [.blk et (.cells #[.int .i64 k4_203, .bool b4_204, .slice ff fe fh, .slice eH eW eI, .slice eK eX eM, .slice eN eY eO, .slice eP e8 eQ, .slice eU e9 eV, .int .i64 k4_205, .map (some bC), .slice fm fk fo, .slice ft fq fu, .slice fw fv fx] 72 (0, 0)), .row 26 1 ff fe fh gk, .row 26 1 eH eW eI ii, .row 3 1 eK eX eM ik, .row 3 1 eN eY eO io, .row 26 1 eP e8 eQ ip, .row 39 2 eU e9 eV iq, .row 9 1 fm fk fo ir, .row 3 1 ft fq fu iu, .row 3 1 fw fv fx iv, .any (mapE (fun a : List UInt8 => Value.string (gstr a)) (fun a : Int => Value.int .i64 a) bC m4_260), .blk B2 (.cells #[.int .i64 e.Points, .bool e.Monoid, .slice bp e.Gens.length bq, .slice aO e.Elems.length aP, .slice ar e.Prefix.length au, .slice bg e.Last.length bh, .slice aQ e.Right.length aR, .slice aS e.Rules.length aT, .int .i64 e.Done] 29 (0, 0))] ++ A) w io d_224 ∧ Els (Rp.sl (Rp.int .i64)) (bl [.blk et (.cells #[.int .i64 k4_203, .bool b4_204, .slice ff fe fh, .slice eH eW eI, .slice eK eX eM, .slice eN eY eO, .slice eP e8 eQ, .slice eU e9 eV, .int .i64 k4_205, .map (some bC), .slice fm fk fo, .slice ft fq fu, .slice fw fv fx] 72 (0, 0)), .row 26 1 ff fe fh gk, .row 26 1 eH eW eI ii, .row 3 1 eK eX eM ik, .row 3 1 eN eY eO io, .row 26 1 eP e8 eQ ip, .row 39 2 eU e9 eV iq, .row 9 1 fm fk fo ir, .row 3 1 ft fq fu iu, .row 3 1 fw fv fx iv, .any (mapE (fun a : List UInt8 => Value.string (gstr a)) (fun a : Int => Value.int .i64 a) bC m4_260), .blk B2 (.cells #[.int .i64 e.Points, .bool e.Monoid, .slice bp e.Gens.length bq, .slice aO e.Elems.length aP, .slice ar e.Prefix.length au, .slice bg e.Last.length bh, .slice aQ e.Right.length aR, .slice aS e.Rules.length aT, .int .i64 e.Done] 29 (0, 0))] ++ A) w ip d_230 ∧ Els (rpRule) (bl [.blk et (.cells #[.int .i64 k4_203, .bool b4_204, .slice ff fe fh, .slice eH eW eI, .slice eK eX eM, .slice eN eY eO, .slice eP e8 eQ, .slice eU e9 eV, .int .i64 k4_205, .map (some bC), .slice fm fk fo, .slice ft fq fu, .slice fw fv fx] 72 (0, 0)), .row 26 1 ff fe fh gk, .row 26 1 eH eW eI ii, .row 3 1 eK eX eM ik, .row 3 1 eN eY eO io, .row 26 1 eP e8 eQ ip, .row 39 2 eU e9 eV iq, .row 9 1 fm fk fo ir, .row 3 1 ft fq fu iu, .row 3 1 fw fv fx iv, .any (mapE (fun a : List UInt8 => Value.string (gstr a)) (fun a : Int => Value.int .i64 a) bC m4_260), .blk B2 (.cells #[.int .i64 e.Points, .bool e.Monoid, .slice bp e.Gens.length bq, .slice aO e.Elems.length aP, .slice ar e.Prefix.length au, .slice bg e.Last.length bh, .slice aQ e.Right.length aR, .slice aS e.Rules.length aT, .int .i64 e.Done] 29 (0, 0))] ++ A) w iq d_236 ∧ Els (Rp.str) (bl [.blk et (.cells #[.int .i64 k4_203, .bool b4_204, .slice ff fe fh, .slice eH eW eI, .slice eK eX eM, .slice eN eY eO, .slice eP e8 eQ, .slice eU e9 eV, .int .i64 k4_205, .map (some bC), .slice fm fk fo, .slice ft fq fu, .slice fw fv fx] 72 (0, 0)), .row 26 1 ff fe fh gk, .row 26 1 eH eW eI ii, .row 3 1 eK eX eM ik, .row 3 1 eN eY eO io, .row 26 1 eP e8 eQ ip, .row 39 2 eU e9 eV iq, .row 9 1 fm fk fo ir, .row 3 1 ft fq fu iu, .row 3 1 fw fv fx iv, .any (mapE (fun a : List UInt8 => Value.string (gstr a)) (fun a : Int => Value.int .i64 a) bC m4_260), .blk B2 (.cells #[.int .i64 e.Points, .bool e.Monoid, .slice bp e.Gens.length bq, .slice aO e.Elems.length aP, .slice ar e.Prefix.length au, .slice bg e.Last.length bh, .slice aQ e.Right.length aR, .slice aS e.Rules.length aT, .int .i64 e.Done] 29 (0, 0))] ++ A) w ir d_242 ∧ Els (Rp.int .i64) (bl [.blk et (.cells #[.int .i64 k4_203, .bool b4_204, .slice ff fe fh, .slice eH eW eI, .slice eK eX eM, .slice eN eY eO, .slice eP e8 eQ, .slice eU e9 eV, .int .i64 k4_205, .map (some bC), .slice fm fk fo, .slice ft fq fu, .slice fw fv fx] 72 (0, 0)), .row 26 1 ff fe fh gk, .row 26 1 eH eW eI ii, .row 3 1 eK eX eM ik, .row 3 1 eN eY eO io, .row 26 1 eP e8 eQ ip, .row 39 2 eU e9 eV iq, .row 9 1 fm fk fo ir, .row 3 1 ft fq fu iu, .row 3 1 fw fv fx iv, .any (mapE (fun a : List UInt8 => Value.string (gstr a)) (fun a : Int => Value.int .i64 a) bC m4_260), .blk B2 (.cells #[.int .i64 e.Points, .bool e.Monoid, .slice bp e.Gens.length bq, .slice aO e.Elems.length aP, .slice ar e.Prefix.length au, .slice bg e.Last.length bh, .slice aQ e.Right.length aR, .slice aS e.Rules.length aT, .int .i64 e.Done] 29 (0, 0))] ++ A) w iu d_248 ∧ Els (Rp.int .i64) (bl [.blk et (.cells #[.int .i64 k4_203, .bool b4_204, .slice ff fe fh, .slice eH eW eI, .slice eK eX eM, .slice eN eY eO, .slice eP e8 eQ, .slice eU e9 eV, .int .i64 k4_205, .map (some bC), .slice fm fk fo, .slice ft fq fu, .slice fw fv fx] 72 (0, 0)), .row 26 1 ff fe fh gk, .row 26 1 eH eW eI ii, .row 3 1 eK eX eM ik, .row 3 1 eN eY eO io, .row 26 1 eP e8 eQ ip, .row 39 2 eU e9 eV iq, .row 9 1 fm fk fo ir, .row 3 1 ft fq fu iu, .row 3 1 fw fv fx iv, .any (mapE (fun a : List UInt8 => Value.string (gstr a)) (fun a : Int => Value.int .i64 a) bC m4_260), .blk B2 (.cells #[.int .i64 e.Points, .bool e.Monoid, .slice bp e.Gens.length bq, .slice aO e.Elems.length aP, .slice ar e.Prefix.length au, .slice bg e.Last.length bh, .slice aQ e.Right.length aR, .slice aS e.Rules.length aT, .int .i64 e.Done] 29 (0, 0))] ++ A) w iv d_254 ∧ ISl (Rp.sl (Rp.int .i64)) (bl [.blk et (.cells #[.int .i64 k4_203, .bool b4_204, .slice ff fe fh, .slice eH eW eI, .slice eK eX eM, .slice eN eY eO, .slice eP e8 eQ, .slice eU e9 eV, .int .i64 k4_205, .map (some bC), .slice fm fk fo, .slice ft fq fu, .slice fw fv fx] 72 (0, 0)), .row 26 1 ff fe fh gk, .row 26 1 eH eW eI ii, .row 3 1 eK eX eM ik, .row 3 1 eN eY eO io, .row 26 1 eP e8 eQ ip, .row 39 2 eU e9 eV iq, .row 9 1 fm fk fo ir, .row 3 1 ft fq fu iu, .row 3 1 fw fv fx iv, .any (mapE (fun a : List UInt8 => Value.string (gstr a)) (fun a : Int => Value.int .i64 a) bC m4_260), .blk B2 (.cells #[.int .i64 e.Points, .bool e.Monoid, .slice bp e.Gens.length bq, .slice aO e.Elems.length aP, .slice ar e.Prefix.length au, .slice bg e.Last.length bh, .slice aQ e.Right.length aR, .slice aS e.Rules.length aT, .int .i64 e.Done] 29 (0, 0))] ++ A) w bp bq e.Gens ∧ ISl (Rp.sl (Rp.int .i64)) (bl [.blk et (.cells #[.int .i64 k4_203, .bool b4_204, .slice ff fe fh, .slice eH eW eI, .slice eK eX eM, .slice eN eY eO, .slice eP e8 eQ, .slice eU e9 eV, .int .i64 k4_205, .map (some bC), .slice fm fk fo, .slice ft fq fu, .slice fw fv fx] 72 (0, 0)), .row 26 1 ff fe fh gk, .row 26 1 eH eW eI ii, .row 3 1 eK eX eM ik, .row 3 1 eN eY eO io, .row 26 1 eP e8 eQ ip, .row 39 2 eU e9 eV iq, .row 9 1 fm fk fo ir, .row 3 1 ft fq fu iu, .row 3 1 fw fv fx iv, .any (mapE (fun a : List UInt8 => Value.string (gstr a)) (fun a : Int => Value.int .i64 a) bC m4_260), .blk B2 (.cells #[.int .i64 e.Points, .bool e.Monoid, .slice bp e.Gens.length bq, .slice aO e.Elems.length aP, .slice ar e.Prefix.length au, .slice bg e.Last.length bh, .slice aQ e.Right.length aR, .slice aS e.Rules.length aT, .int .i64 e.Done] 29 (0, 0))] ++ A) w aO aP e.Elems ∧ ISl (Rp.int .i64) (bl [.blk et (.cells #[.int .i64 k4_203, .bool b4_204, .slice ff fe fh, .slice eH eW eI, .slice eK eX eM, .slice eN eY eO, .slice eP e8 eQ, .slice eU e9 eV, .int .i64 k4_205, .map (some bC), .slice fm fk fo, .slice ft fq fu, .slice fw fv fx] 72 (0, 0)), .row 26 1 ff fe fh gk, .row 26 1 eH eW eI ii, .row 3 1 eK eX eM ik, .row 3 1 eN eY eO io, .row 26 1 eP e8 eQ ip, .row 39 2 eU e9 eV iq, .row 9 1 fm fk fo ir, .row 3 1 ft fq fu iu, .row 3 1 fw fv fx iv, .any (mapE (fun a : List UInt8 => Value.string (gstr a)) (fun a : Int => Value.int .i64 a) bC m4_260), .blk B2 (.cells #[.int .i64 e.Points, .bool e.Monoid, .slice bp e.Gens.length bq, .slice aO e.Elems.length aP, .slice ar e.Prefix.length au, .slice bg e.Last.length bh, .slice aQ e.Right.length aR, .slice aS e.Rules.length aT, .int .i64 e.Done] 29 (0, 0))] ++ A) w ar au e.Prefix ∧ ISl (Rp.int .i64) (bl [.blk et (.cells #[.int .i64 k4_203, .bool b4_204, .slice ff fe fh, .slice eH eW eI, .slice eK eX eM, .slice eN eY eO, .slice eP e8 eQ, .slice eU e9 eV, .int .i64 k4_205, .map (some bC), .slice fm fk fo, .slice ft fq fu, .slice fw fv fx] 72 (0, 0)), .row 26 1 ff fe fh gk, .row 26 1 eH eW eI ii, .row 3 1 eK eX eM ik, .row 3 1 eN eY eO io, .row 26 1 eP e8 eQ ip, .row 39 2 eU e9 eV iq, .row 9 1 fm fk fo ir, .row 3 1 ft fq fu iu, .row 3 1 fw fv fx iv, .any (mapE (fun a : List UInt8 => Value.string (gstr a)) (fun a : Int => Value.int .i64 a) bC m4_260), .blk B2 (.cells #[.int .i64 e.Points, .bool e.Monoid, .slice bp e.Gens.length bq, .slice aO e.Elems.length aP, .slice ar e.Prefix.length au, .slice bg e.Last.length bh, .slice aQ e.Right.length aR, .slice aS e.Rules.length aT, .int .i64 e.Done] 29 (0, 0))] ++ A) w bg bh e.Last ∧ ISl (Rp.sl (Rp.int .i64)) (bl [.blk et (.cells #[.int .i64 k4_203, .bool b4_204, .slice ff fe fh, .slice eH eW eI, .slice eK eX eM, .slice eN eY eO, .slice eP e8 eQ, .slice eU e9 eV, .int .i64 k4_205, .map (some bC), .slice fm fk fo, .slice ft fq fu, .slice fw fv fx] 72 (0, 0)), .row 26 1 ff fe fh gk, .row 26 1 eH eW eI ii, .row 3 1 eK eX eM ik, .row 3 1 eN eY eO io, .row 26 1 eP e8 eQ ip, .row 39 2 eU e9 eV iq, .row 9 1 fm fk fo ir, .row 3 1 ft fq fu iu, .row 3 1 fw fv fx iv, .any (mapE (fun a : List UInt8 => Value.string (gstr a)) (fun a : Int => Value.int .i64 a) bC m4_260), .blk B2 (.cells #[.int .i64 e.Points, .bool e.Monoid, .slice bp e.Gens.length bq, .slice aO e.Elems.length aP, .slice ar e.Prefix.length au, .slice bg e.Last.length bh, .slice aQ e.Right.length aR, .slice aS e.Rules.length aT, .int .i64 e.Done] 29 (0, 0))] ++ A) w aQ aR e.Right ∧ ISl (rpRule) (bl [.blk et (.cells #[.int .i64 k4_203, .bool b4_204, .slice ff fe fh, .slice eH eW eI, .slice eK eX eM, .slice eN eY eO, .slice eP e8 eQ, .slice eU e9 eV, .int .i64 k4_205, .map (some bC), .slice fm fk fo, .slice ft fq fu, .slice fw fv fx] 72 (0, 0)), .row 26 1 ff fe fh gk, .row 26 1 eH eW eI ii, .row 3 1 eK eX eM ik, .row 3 1 eN eY eO io, .row 26 1 eP e8 eQ ip, .row 39 2 eU e9 eV iq, .row 9 1 fm fk fo ir, .row 3 1 ft fq fu iu, .row 3 1 fw fv fx iv, .any (mapE (fun a : List UInt8 => Value.string (gstr a)) (fun a : Int => Value.int .i64 a) bC m4_260), .blk B2 (.cells #[.int .i64 e.Points, .bool e.Monoid, .slice bp e.Gens.length bq, .slice aO e.Elems.length aP, .slice ar e.Prefix.length au, .slice bg e.Last.length bh, .slice aQ e.Right.length aR, .slice aS e.Rules.length aT, .int .i64 e.Done] 29 (0, 0))] ++ A) w aS aT e.Rules ∧ Fr (bl []) w0 (bl [.blk et (.cells #[.int .i64 k4_203, .bool b4_204, .slice ff fe fh, .slice eH eW eI, .slice eK eX eM, .slice eN eY eO, .slice eP e8 eQ, .slice eU e9 eV, .int .i64 k4_205, .map (some bC), .slice fm fk fo, .slice ft fq fu, .slice fw fv fx] 72 (0, 0)), .row 26 1 ff fe fh gk, .row 26 1 eH eW eI ii, .row 3 1 eK eX eM ik, .row 3 1 eN eY eO io, .row 26 1 eP e8 eQ ip, .row 39 2 eU e9 eV iq, .row 9 1 fm fk fo ir, .row 3 1 ft fq fu iu, .row 3 1 fw fv fx iv, .any (mapE (fun a : List UInt8 => Value.string (gstr a)) (fun a : Int => Value.int .i64 a) bC m4_260), .blk B2 (.cells #[.int .i64 e.Points, .bool e.Monoid, .slice bp e.Gens.length bq, .slice aO e.Elems.length aP, .slice ar e.Prefix.length au, .slice bg e.Last.length bh, .slice aQ e.Right.length aR, .slice aS e.Rules.length aT, .int .i64 e.Done] 29 (0, 0))]) w) H ⟨wt, wu, wv, vC, vD, vE, vF, ve, vg, vh, vi, uP, ww, wx, wy, vG, vH, vI, vJ, vj, vK, vL, vM, vk, yf, yg, yh, xB, xC, xD, xE, xt, xF, xG, xH, xv, ⟨rfl, rfl, trivial⟩, hO, ol, nS, nC, om, nT, nU, rU, ro, rp, ah, ae, ad, ai, af, ag, hB⟩ ?_
   intro X4
   refine prE fun k4_203 => prE fun b4_204 => prE fun k4_205 => prE fun d_206 => prE fun d_212 => prE fun d_218 => prE fun d_224 => prE fun d_230 => prE fun d_236 => prE fun d_242 => prE fun d_248 => prE fun d_254 => fun m4_260 => ?_
   intro H hX4 σ Hw
   refine exE fun fe => exE fun ff => exE fun fh => exE fun gk => exE fun eW => exE fun eH => exE fun eI => exE fun ii => exE fun eX => exE fun eK => exE fun eM => exE fun ik => exE fun eY => exE fun eN => exE fun eO => exE fun io => exE fun e8 => exE fun eP => exE fun eQ => exE fun ip => exE fun e9 => exE fun eU => exE fun eV => exE fun iq => exE fun fk => exE fun fm => exE fun fo => exE fun ir => exE fun fq => exE fun ft => exE fun fu => exE fun iu => exE fun fv => exE fun fw => exE fun fx => exE fun iv => andE fun hag => andE fun hO => andE fun dC => andE fun dx => andE fun dy => andE fun dz => andE fun dA => andE fun dB => andE fun dD => andE fun dE => andE fun dF => andE fun ah => andE fun ae => andE fun ad => andE fun ai => andE fun af => andE fun ag => fun hB => ?_
   dsimp only at H
   refine Go1.keep [(1, .pointer (some ⟨B2, 0, none⟩)), (4, .pointer (some ⟨et, 0, none⟩))] hag ?_
   refine Go1.seq ?_
   refine Go1.seq ?_
   refine Go1.drawS 0 [(0, .pure), (1, .pure), (2, .pure), (3, .pure), (4, .stable), (5, .pure), (6, .stable), (7, .pure)] mixed (by kernel_rfl) ?_
   intro M4 Gv
   have mm := Stp.same hO Gv
   replace dC := dC.ch mm.ch
   replace dx := dx.ch mm.ch
   replace dy := dy.ch mm.ch
   replace dz := dz.ch mm.ch
   replace dA := dA.ch mm.ch
   replace dB := dB.ch mm.ch
   replace dD := dD.ch mm.ch
   replace dE := dE.ch mm.ch
   replace dF := dF.ch mm.ch
   replace hO := mm.own
   replace ah := ah.ch mm.ch
   replace ae := ae.ch mm.ch
   replace ad := ad.ch mm.ch
   replace ai := ai.ch mm.ch
   replace af := af.ch mm.ch
   replace ag := ag.ch mm.ch
   replace hB := hB.trans mm.fr
   refine GoQ.pure rfl (op_move rfl) rfl rfl ?_
   refine GoQ.pure rfl (op_nilCheck rfl) rfl rfl ?_
   refine GoQ.pure rfl (op_fieldAddr Try.underlying72 rfl ti29 rfl (by decide)) rfl rfl ?_
   refine GoQ.pure rfl (op_fieldAddr Try.underlying29 rfl ti3 rfl (by decide)) rfl rfl ?_
   refine GoQ.stable rfl (oblk (i := 8) 0 hO rfl rfl Try.underlying3 rfl rfl) rfl rfl ?_
   refine GoQ.pure rfl (op_fieldAddr Try.underlying29 rfl ti3 rfl (by decide)) rfl rfl ?_
   refine GoQ.stable rfl (oblk (i := 8) 11 hO rfl rfl Try.underlying3 rfl rfl) rfl rfl ?_
   by_cases zw : k4_205 < e.Done
   ·replace H := ifp zw H
    refine GoQ.pure rfl (fun w => opB (op_lss rfl rfl w) (decide_eq_true zw)) rfl rfl ?_
    refine GoQ.nil ?_
    refine Go1.condT rfl rfl ?_
    refine Go1.skip ?_
    refine Go1.block ?_
    refine Go1.seq ?_
    refine Go1.region ?_
    refine GoR.op ((op_move rfl) _) rfl rfl ?_
    refine GoR.inl (vs := [.pointer (some ⟨et, 0, none⟩)]) (caps := []) rfl rfl body50 Try.func50 rfl Try.ntmps50 rfl rfl rfl ?_
    intro RhR265 hR265
    refine Go1.seq ?_
    refine Go1.region ?_
    refine GoR.op ((op_assign rfl) _) rfl rfl ?_
    refine GoR.nil ?_
    refine Go1.seq ?_
    refine Go1.drawS 0 [(0, .pure), (1, .pure), (2, .pure), (3, .pure), (4, .stable), (5, .pure), (6, .pure), (7, .pure), (8, .pure), (9, .stable), (10, .pure), (11, .pure), (12, .pure)] mixed (by kernel_rfl) ?_
    intro yi Gw
    have mo := Stp.same hO Gw
    replace dC := dC.ch mo.ch
    replace dx := dx.ch mo.ch
    replace dy := dy.ch mo.ch
    replace dz := dz.ch mo.ch
    replace dA := dA.ch mo.ch
    replace dB := dB.ch mo.ch
    replace dD := dD.ch mo.ch
    replace dE := dE.ch mo.ch
    replace dF := dF.ch mo.ch
    replace hO := mo.own
    replace ah := ah.ch mo.ch
    replace ae := ae.ch mo.ch
    replace ad := ad.ch mo.ch
    replace ai := ai.ch mo.ch
    replace af := af.ch mo.ch
    replace ag := ag.ch mo.ch
    replace hB := hB.trans mo.fr
    refine GoQ.pure rfl (op_move rfl) rfl rfl ?_
    refine GoQ.pure rfl (op_nilCheck rfl) rfl rfl ?_
    refine GoQ.pure rfl (op_fieldAddr Try.underlying72 rfl ti29 rfl (by decide)) rfl rfl ?_
    refine GoQ.pure rfl (op_fieldAddr Try.underlying29 rfl ti3 rfl (by decide)) rfl rfl ?_
    refine GoQ.stable rfl (oblk (i := 8) 0 hO rfl rfl Try.underlying3 rfl rfl) rfl rfl ?_
    refine GoQ.pure rfl (op_move rfl) rfl rfl ?_
    refine GoQ.pure rfl (op_nilCheck rfl) rfl rfl ?_
    refine GoQ.pure rfl (op_fieldAddr Try.underlying72 rfl ti29 rfl (by decide)) rfl rfl ?_
    refine GoQ.pure rfl (op_fieldAddr Try.underlying29 rfl ti22 rfl (by decide)) rfl rfl ?_
    refine GoQ.stable rfl (oblk (i := 3) 0 hO rfl rfl Try.underlying22 rfl rfl) rfl rfl ?_
    refine GoQ.pure rfl (op_lenN Try.underlying22 rfl (dx.neq hO 2 rfl)) rfl rfl ?_
    by_cases zx : k4_205 = (d_212.length : Int)
    ·replace H := ifp zx H
     refine GoQ.pure rfl (fun w => opB (op_eql rfl rfl w) (decide_eq_true zx)) rfl rfl ?_
     refine GoQ.pure rfl (op_assign rfl) rfl rfl ?_
     refine GoQ.nil ?_
     refine Go1.ret1V Try.func50 rfl (show _ = .bool true from rfl) ?_
     refine hR265 _ _ ?_
     refine GoR.op ((op_move rfl) _) rfl rfl ?_
     refine GoR.pass rfl rfl ?_
     refine GoR.pass rfl rfl ?_
     refine GoR.pass rfl rfl ?_
     refine GoR.op ((op_pickT rfl rfl rfl) _) rfl rfl ?_
     refine GoR.nil ?_
     refine Go1.condT rfl rfl ?_
     refine Go1.seq ?_
     refine Go1.cut [] trivial ?_
     intro σ _
     refine Go1.region ?_
     refine GoR.op ((op_assign rfl) _) rfl rfl ?_
     refine GoR.op ((op_assign rfl) _) rfl rfl ?_
     refine GoR.nil ?_
     refine Go1.ret2 Try.func53 rfl ?_
     exact Or.inl ⟨false, rfl, hB.same, H⟩
    replace H := ifn zx H
    refine GoQ.pure rfl (fun w => opB (op_eql rfl rfl w) (decide_eq_false zx)) rfl rfl ?_
    refine GoQ.pure rfl (op_assign rfl) rfl rfl ?_
    refine GoQ.nil ?_
    refine Go1.ret1V Try.func50 rfl (show _ = .bool false from rfl) ?_
    refine hR265 _ _ ?_
    refine GoR.op ((op_move rfl) _) rfl rfl ?_
    refine GoR.op ((op_move rfl) _) rfl rfl ?_
    have A9 : Owns w0.heap.size yi ([.blk et (.cells #[.int .i64 k4_203, .bool b4_204, .slice ff fe fh, .slice eH eW eI, .slice eK eX eM, .slice eN eY eO, .slice eP e8 eQ, .slice eU e9 eV, .int .i64 k4_205, .map (some bC), .slice fm fk fo, .slice ft fq fu, .slice fw fv fx] 72 (0, 0)), .row 26 1 ff fe fh gk, .row 26 1 eH eW eI ii, .row 3 1 eK eX eM ik, .row 3 1 eN eY eO io, .row 26 1 eP e8 eQ ip, .row 39 2 eU e9 eV iq, .row 9 1 fm fk fo ir, .row 3 1 ft fq fu iu, .row 3 1 fw fv fx iv, .any (mapE (fun a : List UInt8 => Value.string (gstr a)) (fun a : Int => Value.int .i64 a) bC m4_260)] ++ [.blk B2 (.cells #[.int .i64 e.Points, .bool e.Monoid, .slice bp e.Gens.length bq, .slice aO e.Elems.length aP, .slice ar e.Prefix.length au, .slice bg e.Last.length bh, .slice aQ e.Right.length aR, .slice aS e.Rules.length aT, .int .i64 e.Done] 29 (0, 0))]) A := hO
    have Gx := Owns.split A9
    have hca272 : Ch (bl [.blk et (.cells #[.int .i64 k4_203, .bool b4_204, .slice ff fe fh, .slice eH eW eI, .slice eK eX eM, .slice eN eY eO, .slice eP e8 eQ, .slice eU e9 eV, .int .i64 k4_205, .map (some bC), .slice fm fk fo, .slice ft fq fu, .slice fw fv fx] 72 (0, 0)), .row 26 1 ff fe fh gk, .row 26 1 eH eW eI ii, .row 3 1 eK eX eM ik, .row 3 1 eN eY eO io, .row 26 1 eP e8 eQ ip, .row 39 2 eU e9 eV iq, .row 9 1 fm fk fo ir, .row 3 1 ft fq fu iu, .row 3 1 fw fv fx iv, .any (mapE (fun a : List UInt8 => Value.string (gstr a)) (fun a : Int => Value.int .i64 a) bC m4_260), .blk B2 (.cells #[.int .i64 e.Points, .bool e.Monoid, .slice bp e.Gens.length bq, .slice aO e.Elems.length aP, .slice ar e.Prefix.length au, .slice bg e.Last.length bh, .slice aQ e.Right.length aR, .slice aS e.Rules.length aT, .int .i64 e.Done] 29 (0, 0))] ++ A) yi (bl [.blk et (.cells #[.int .i64 k4_203, .bool b4_204, .slice ff fe fh, .slice eH eW eI, .slice eK eX eM, .slice eN eY eO, .slice eP e8 eQ, .slice eU e9 eV, .int .i64 k4_205, .map (some bC), .slice fm fk fo, .slice ft fq fu, .slice fw fv fx] 72 (0, 0)), .row 26 1 ff fe fh gk, .row 26 1 eH eW eI ii, .row 3 1 eK eX eM ik, .row 3 1 eN eY eO io, .row 26 1 eP e8 eQ ip, .row 39 2 eU e9 eV iq, .row 9 1 fm fk fo ir, .row 3 1 ft fq fu iu, .row 3 1 fw fv fx iv, .any (mapE (fun a : List UInt8 => Value.string (gstr a)) (fun a : Int => Value.int .i64 a) bC m4_260)] ++ (bl [.blk B2 (.cells #[.int .i64 e.Points, .bool e.Monoid, .slice bp e.Gens.length bq, .slice aO e.Elems.length aP, .slice ar e.Prefix.length au, .slice bg e.Last.length bh, .slice aQ e.Right.length aR, .slice aS e.Rules.length aT, .int .i64 e.Done] 29 (0, 0))] ++ A)) yi := Ch.assoc' [.blk et (.cells #[.int .i64 k4_203, .bool b4_204, .slice ff fe fh, .slice eH eW eI, .slice eK eX eM, .slice eN eY eO, .slice eP e8 eQ, .slice eU e9 eV, .int .i64 k4_205, .map (some bC), .slice fm fk fo, .slice ft fq fu, .slice fw fv fx] 72 (0, 0)), .row 26 1 ff fe fh gk, .row 26 1 eH eW eI ii, .row 3 1 eK eX eM ik, .row 3 1 eN eY eO io, .row 26 1 eP e8 eQ ip, .row 39 2 eU e9 eV iq, .row 9 1 fm fk fo ir, .row 3 1 ft fq fu iu, .row 3 1 fw fv fx iv, .any (mapE (fun a : List UInt8 => Value.string (gstr a)) (fun a : Int => Value.int .i64 a) bC m4_260)] [.blk B2 (.cells #[.int .i64 e.Points, .bool e.Monoid, .slice bp e.Gens.length bq, .slice aO e.Elems.length aP, .slice ar e.Prefix.length au, .slice bg e.Last.length bh, .slice aQ e.Right.length aR, .slice aS e.Rules.length aT, .int .i64 e.Done] 29 (0, 0))] A yi
    refine GoR.call (op_call body51 rfl (walk_enumerate_run_process (a0 := (⟨(⟨k4_203, b4_204, d_206, d_212, d_218, d_224, d_230, d_236, k4_205⟩ : Enum), m4_260, d_242, d_248, d_254⟩ : run)) Gx (dC.ch hca272) (dx.ch hca272) (dy.ch hca272) (dz.ch hca272) (dA.ch hca272) (dB.ch hca272) (dD.ch hca272) (dE.ch hca272) (dF.ch hca272) H)) rfl rfl ?_
    intro M5 zy
    refine exE fun r273 => exE fun q274 => exE fun iw => exE fun iA => exE fun iB => exE fun m8 => exE fun gE => exE fun gF => exE fun gG => exE fun mp => exE fun f8 => exE fun f9 => exE fun gc => exE fun lE => exE fun iC => exE fun iD => exE fun iE => exE fun m9 => exE fun gH => exE fun gI => exE fun gJ => exE fun mq => exE fun gK => exE fun gL => exE fun gM => exE fun mr => exE fun kW => exE fun kX => exE fun kY => exE fun qp => exE fun jL => exE fun jM => exE fun jN => exE fun oP => exE fun jO => exE fun jP => exE fun jQ => exE fun oQ => andE fun hv280 => andE fun hN277 => andE fun rC => andE fun ra => andE fun qz => andE fun rD => andE fun rb => andE fun rc => andE fun tq => andE fun sD => andE fun sE => andE fun hF278 => fun H => ?_
    subst hv280
    have sY : Stp w0.heap.size A yi [.blk et (.cells #[.int .i64 k4_203, .bool b4_204, .slice ff fe fh, .slice eH eW eI, .slice eK eX eM, .slice eN eY eO, .slice eP e8 eQ, .slice eU e9 eV, .int .i64 k4_205, .map (some bC), .slice fm fk fo, .slice ft fq fu, .slice fw fv fx] 72 (0, 0)), .row 26 1 ff fe fh gk, .row 26 1 eH eW eI ii, .row 3 1 eK eX eM ik, .row 3 1 eN eY eO io, .row 26 1 eP e8 eQ ip, .row 39 2 eU e9 eV iq, .row 9 1 fm fk fo ir, .row 3 1 ft fq fu iu, .row 3 1 fw fv fx iv, .any (mapE (fun a : List UInt8 => Value.string (gstr a)) (fun a : Int => Value.int .i64 a) bC m4_260), .blk B2 (.cells #[.int .i64 e.Points, .bool e.Monoid, .slice bp e.Gens.length bq, .slice aO e.Elems.length aP, .slice ar e.Prefix.length au, .slice bg e.Last.length bh, .slice aQ e.Right.length aR, .slice aS e.Rules.length aT, .int .i64 e.Done] 29 (0, 0))] zy [.blk et (.cells #[.int .i64 q274.Enum.Points, .bool q274.Enum.Monoid, .slice iA iw iB, .slice gF gE gG, .slice f9 f8 gc, .slice iD iC iE, .slice gI gH gJ, .slice gL gK gM, .int .i64 q274.Enum.Done, .map (some bC), .slice kX kW kY, .slice jM jL jN, .slice jP jO jQ] 72 (0, 0)), .row 26 1 iA iw iB m8, .row 26 1 gF gE gG mp, .row 3 1 f9 f8 gc lE, .row 3 1 iD iC iE m9, .row 26 1 gI gH gJ mq, .row 39 2 gL gK gM mr, .row 9 1 kX kW kY qp, .row 3 1 jM jL jN oP, .row 3 1 jP jO jQ oQ, .any (mapE (fun a : List UInt8 => Value.string (gstr a)) (fun a : Int => Value.int .i64 a) bC q274.number), .blk B2 (.cells #[.int .i64 e.Points, .bool e.Monoid, .slice bp e.Gens.length bq, .slice aO e.Elems.length aP, .slice ar e.Prefix.length au, .slice bg e.Last.length bh, .slice aQ e.Right.length aR, .slice aS e.Rules.length aT, .int .i64 e.Done] 29 (0, 0))] := Stp.join A9 hN277 hF278
    replace hO := sY.own
    replace ah := ah.ch sY.ch
    replace ae := ae.ch sY.ch
    replace ad := ad.ch sY.ch
    replace ai := ai.ch sY.ch
    replace af := af.ch sY.ch
    replace ag := ag.ch sY.ch
    replace hB := hB.trans sY.fr
    have hca281 : Ch (bl [.blk et (.cells #[.int .i64 q274.Enum.Points, .bool q274.Enum.Monoid, .slice iA iw iB, .slice gF gE gG, .slice f9 f8 gc, .slice iD iC iE, .slice gI gH gJ, .slice gL gK gM, .int .i64 q274.Enum.Done, .map (some bC), .slice kX kW kY, .slice jM jL jN, .slice jP jO jQ] 72 (0, 0)), .row 26 1 iA iw iB m8, .row 26 1 gF gE gG mp, .row 3 1 f9 f8 gc lE, .row 3 1 iD iC iE m9, .row 26 1 gI gH gJ mq, .row 39 2 gL gK gM mr, .row 9 1 kX kW kY qp, .row 3 1 jM jL jN oP, .row 3 1 jP jO jQ oQ, .any (mapE (fun a : List UInt8 => Value.string (gstr a)) (fun a : Int => Value.int .i64 a) bC q274.number)] ++ (bl [.blk B2 (.cells #[.int .i64 e.Points, .bool e.Monoid, .slice bp e.Gens.length bq, .slice aO e.Elems.length aP, .slice ar e.Prefix.length au, .slice bg e.Last.length bh, .slice aQ e.Right.length aR, .slice aS e.Rules.length aT, .int .i64 e.Done] 29 (0, 0))] ++ A)) zy (bl [.blk et (.cells #[.int .i64 q274.Enum.Points, .bool q274.Enum.Monoid, .slice iA iw iB, .slice gF gE gG, .slice f9 f8 gc, .slice iD iC iE, .slice gI gH gJ, .slice gL gK gM, .int .i64 q274.Enum.Done, .map (some bC), .slice kX kW kY, .slice jM jL jN, .slice jP jO jQ] 72 (0, 0)), .row 26 1 iA iw iB m8, .row 26 1 gF gE gG mp, .row 3 1 f9 f8 gc lE, .row 3 1 iD iC iE m9, .row 26 1 gI gH gJ mq, .row 39 2 gL gK gM mr, .row 9 1 kX kW kY qp, .row 3 1 jM jL jN oP, .row 3 1 jP jO jQ oQ, .any (mapE (fun a : List UInt8 => Value.string (gstr a)) (fun a : Int => Value.int .i64 a) bC q274.number), .blk B2 (.cells #[.int .i64 e.Points, .bool e.Monoid, .slice bp e.Gens.length bq, .slice aO e.Elems.length aP, .slice ar e.Prefix.length au, .slice bg e.Last.length bh, .slice aQ e.Right.length aR, .slice aS e.Rules.length aT, .int .i64 e.Done] 29 (0, 0))] ++ A) zy := Ch.assoc [.blk et (.cells #[.int .i64 q274.Enum.Points, .bool q274.Enum.Monoid, .slice iA iw iB, .slice gF gE gG, .slice f9 f8 gc, .slice iD iC iE, .slice gI gH gJ, .slice gL gK gM, .int .i64 q274.Enum.Done, .map (some bC), .slice kX kW kY, .slice jM jL jN, .slice jP jO jQ] 72 (0, 0)), .row 26 1 iA iw iB m8, .row 26 1 gF gE gG mp, .row 3 1 f9 f8 gc lE, .row 3 1 iD iC iE m9, .row 26 1 gI gH gJ mq, .row 39 2 gL gK gM mr, .row 9 1 kX kW kY qp, .row 3 1 jM jL jN oP, .row 3 1 jP jO jQ oQ, .any (mapE (fun a : List UInt8 => Value.string (gstr a)) (fun a : Int => Value.int .i64 a) bC q274.number)] [.blk B2 (.cells #[.int .i64 e.Points, .bool e.Monoid, .slice bp e.Gens.length bq, .slice aO e.Elems.length aP, .slice ar e.Prefix.length au, .slice bg e.Last.length bh, .slice aQ e.Right.length aR, .slice aS e.Rules.length aT, .int .i64 e.Done] 29 (0, 0))] A zy
    replace rC := rC.ch hca281
    replace ra := ra.ch hca281
    replace qz := qz.ch hca281
    replace rD := rD.ch hca281
    replace rb := rb.ch hca281
    replace rc := rc.ch hca281
    replace tq := tq.ch hca281
    replace sD := sD.ch hca281
    replace sE := sE.ch hca281
    by_cases zA : r273 = (0 : Int)
    ·replace H := ifp zA H
     refine GoR.op ((fun w => opB (op_neq rfl rfl w) (ndT zA)) _) rfl rfl ?_
     refine GoR.op ((op_pickF rfl rfl rfl) _) rfl rfl ?_
     refine GoR.nil ?_
     refine Go1.condF rfl rfl ?_
     refine Go1.skip ?_
     refine Go1.inBlock ?_
     exact hX4 _ H _ _ ⟨iw, iA, iB, m8, gE, gF, gG, mp, f8, f9, gc, lE, iC, iD, iE, m9, gH, gI, gJ, mq, gK, gL, gM, mr, kW, kX, kY, qp, jL, jM, jN, oP, jO, jP, jQ, oQ, ⟨rfl, rfl, trivial⟩, hO, rC, ra, qz, rD, rb, rc, tq, sD, sE, ah, ae, ad, ai, af, ag, hB⟩
    replace H := ifn zA H
    refine GoR.op ((fun w => opB (op_neq rfl rfl w) (ndF zA)) _) rfl rfl ?_
    refine GoR.op ((op_pickF rfl rfl rfl) _) rfl rfl ?_
    refine GoR.nil ?_
    refine Go1.condT rfl rfl ?_
    refine Go1.seq ?_
    refine Go1.region ?_
    refine GoR.op ((op_assign rfl) _) rfl rfl ?_
    refine GoR.op ((op_assign rfl) _) rfl rfl ?_
    refine GoR.nil ?_
    refine Go1.ret2 Try.func53 rfl ?_
    exact Or.inl ⟨false, rfl, hB.same, H⟩
   replace H := ifn zw H
   refine GoQ.pure rfl (fun w => opB (op_lss rfl rfl w) (decide_eq_false zw)) rfl rfl ?_
   refine GoQ.nil ?_
   refine Go1.condF rfl rfl ?_
   refine Go1.exit rfl ?_
   refine Go1.seq ?_
   refine Go1.region ?_
   refine GoR.op ((op_move rfl) _) rfl rfl ?_
   refine GoR.op ((op_move rfl) _) rfl rfl ?_
   refine GoR.op ((oblkAgg (vs := [.int .i64 e.Points, .bool e.Monoid, .slice bp e.Gens.length bq, .slice aO e.Elems.length aP, .slice ar e.Prefix.length au, .slice bg e.Last.length bh, .slice aQ e.Right.length aR, .slice aS e.Rules.length aT, .int .i64 e.Done]) (i := 0) 11 hO rfl rfl Try.underlying29 rfl ti29 rfl) _ (Same.refl _)) rfl rfl ?_
   refine GoR.inl (vs := [.pointer (some ⟨et, 0, none⟩), .agg #[.int .i64 e.Points, .bool e.Monoid, .slice bp e.Gens.length bq, .slice aO e.Elems.length aP, .slice ar e.Prefix.length au, .slice bg e.Last.length bh, .slice aQ e.Right.length aR, .slice aS e.Rules.length aT, .int .i64 e.Done]]) (caps := []) rfl rfl body68 Try.func68 rfl Try.ntmps68 rfl rfl rfl ?_
   intro RhR283 hR283
   refine Go1.seq ?_
   refine Go1.region ?_
   have hobt := obox (t := 29) (v := .agg #[.int .i64 e.Points, .bool e.Monoid, .slice bp e.Gens.length bq, .slice aO e.Elems.length aP, .slice ar e.Prefix.length au, .slice bg e.Last.length bh, .slice aQ e.Right.length aR, .slice aS e.Rules.length aT, .int .i64 e.Done]) (cs := #[.int .i64 e.Points, .bool e.Monoid, .slice bp e.Gens.length bq, .slice aO e.Elems.length aP, .slice ar e.Prefix.length au, .slice bg e.Last.length bh, .slice aQ e.Right.length aR, .slice aS e.Rules.length aT, .int .i64 e.Done]) hO rfl
   obtain ⟨HB, B285, ms, JN, Dn⟩ := hobt
   refine GoR.op (Dn rfl) rfl rfl ?_
   replace dC := dC.ch ms.ch
   replace dx := dx.ch ms.ch
   replace dy := dy.ch ms.ch
   replace dz := dz.ch ms.ch
   replace dA := dA.ch ms.ch
   replace dB := dB.ch ms.ch
   replace dD := dD.ch ms.ch
   replace dE := dE.ch ms.ch
   replace dF := dF.ch ms.ch
   replace hO := ms.own
   replace ah := ah.ch ms.ch
   replace ae := ae.ch ms.ch
   replace ad := ad.ch ms.ch
   replace ai := ai.ch ms.ch
   replace af := af.ch ms.ch
   replace ag := ag.ch ms.ch
   replace hB := hB.trans ms.fr
   refine GoR.op ((op_assign rfl) _) rfl rfl ?_
   refine GoR.nil ?_
   refine Go1.seq ?_
   refine Go1.drawS 0 [(0, .pure), (1, .pure), (2, .pure), (3, .pure), (4, .stable), (5, .pure), (6, .stable), (7, .pure), (8, .pure), (9, .pure), (10, .pure), (11, .pure), (12, .pure), (13, .stable), (14, .pure), (15, .stable), (16, .pure), (17, .pure), (18, .pure), (19, .pure), (20, .pure), (21, .pure), (22, .pure), (23, .stable), (24, .pure), (25, .stable), (26, .loud), (27, .pure), (28, .pure), (29, .pure), (30, .pure), (31, .pure), (32, .pure), (33, .stable), (34, .pure), (35, .stable), (36, .loud), (37, .pure), (38, .pure), (39, .pure), (40, .pure), (41, .pure), (42, .pure), (43, .stable), (44, .pure), (45, .stable), (46, .loud), (47, .pure), (48, .pure), (49, .pure), (50, .pure), (51, .pure), (52, .pure), (53, .stable), (54, .pure), (55, .stable), (56, .loud), (57, .pure), (58, .pure), (59, .pure), (60, .pure), (61, .pure), (62, .pure), (63, .stable), (64, .pure), (65, .stable), (66, .loud), (67, .pure), (68, .pure)] mixed (by kernel_rfl) ?_
   intro M6 Gy
   have mt := Stp.same hO Gy
   replace dC := dC.ch mt.ch
   replace dx := dx.ch mt.ch
   replace dy := dy.ch mt.ch
   replace dz := dz.ch mt.ch
   replace dA := dA.ch mt.ch
   replace dB := dB.ch mt.ch
   replace dD := dD.ch mt.ch
   replace dE := dE.ch mt.ch
   replace dF := dF.ch mt.ch
   replace hO := mt.own
   replace ah := ah.ch mt.ch
   replace ae := ae.ch mt.ch
   replace ad := ad.ch mt.ch
   replace ai := ai.ch mt.ch
   replace af := af.ch mt.ch
   replace ag := ag.ch mt.ch
   replace hB := hB.trans mt.fr
   refine GoQ.pure rfl (op_move rfl) rfl rfl ?_
   refine GoQ.pure rfl (op_nilCheck rfl) rfl rfl ?_
   refine GoQ.pure rfl (op_fieldAddr Try.underlying72 rfl ti29 rfl (by decide)) rfl rfl ?_
   refine GoQ.pure rfl (op_fieldAddr Try.underlying29 rfl ti3 rfl (by decide)) rfl rfl ?_
   refine GoQ.stable rfl (oblk (i := 0) 1 hO rfl rfl Try.underlying3 rfl rfl) rfl rfl ?_
   refine GoQ.pure rfl (op_fieldAddr Try.underlying29 rfl ti3 rfl (by decide)) rfl rfl ?_
   refine GoQ.stable rfl (oblk (i := 0) 0 hO rfl rfl Try.underlying3 rfl rfl) rfl rfl ?_
   by_cases zB : k4_203 = e.Points
   ·replace H := ifp zB H
    refine GoQ.pure rfl (fun w => opB (op_eql rfl rfl w) (decide_eq_true zB)) rfl rfl ?_
    refine GoQ.pure rfl (op_move rfl) rfl rfl ?_
    refine GoQ.pure rfl (op_move rfl) rfl rfl ?_
    refine GoQ.pure rfl (op_nilCheck rfl) rfl rfl ?_
    refine GoQ.pure rfl (op_fieldAddr Try.underlying72 rfl ti29 rfl (by decide)) rfl rfl ?_
    refine GoQ.pure rfl (op_fieldAddr Try.underlying29 rfl ti3 rfl (by decide)) rfl rfl ?_
    refine GoQ.stable rfl (oblk (i := 8) 1 hO rfl rfl Try.underlying3 rfl rfl) rfl rfl ?_
    refine GoQ.pure rfl (op_fieldAddr Try.underlying29 rfl ti3 rfl (by decide)) rfl rfl ?_
    refine GoQ.stable rfl (oblk (i := 8) 0 hO rfl rfl Try.underlying3 rfl rfl) rfl rfl ?_
    by_cases zC : k4_205 = e.Done
    ·replace H := ifp zC H
     refine GoQ.pure rfl (fun w => opB (op_eql rfl rfl w) (decide_eq_true zC)) rfl rfl ?_
     refine GoQ.pure rfl (op_pickT rfl rfl rfl) rfl rfl ?_
     refine GoQ.pure rfl (op_move rfl) rfl rfl ?_
     refine GoQ.pure rfl (op_move rfl) rfl rfl ?_
     refine GoQ.pure rfl (op_nilCheck rfl) rfl rfl ?_
     refine GoQ.pure rfl (op_fieldAddr Try.underlying72 rfl ti29 rfl (by decide)) rfl rfl ?_
     refine GoQ.pure rfl (op_fieldAddr Try.underlying29 rfl ti22 rfl (by decide)) rfl rfl ?_
     refine GoQ.stable rfl (oblk (i := 3) 1 hO rfl rfl Try.underlying22 rfl rfl) rfl rfl ?_
     refine GoQ.pure rfl (op_fieldAddr Try.underlying29 rfl ti22 rfl (by decide)) rfl rfl ?_
     refine GoQ.stable rfl (oblk (i := 3) 0 hO rfl rfl Try.underlying22 rfl rfl) rfl rfl ?_
     have hobt := rowlend 3 hO rfl dx
     obtain ⟨Gz, GA⟩ := hobt
     have hOc297 := hO.drop 3
     refine GoQ.call rfl (op_call body69 (show ([.slice eH eW eI, .slice aO e.Elems.length aP, .func (.func 70) #[] #[]] : List Value) = [.slice eH d_212.length eI, .slice aO e.Elems.length aP, .func (.func 70) #[] #[]] from by rw [← GA]) (walk_slices_EqualFunc_int hOc297.lt Gz (ae.ch (Owns.dropCh _ _ 3)) H)) (fun v w hr => by obtain ⟨_, _, hs, _⟩ := hr; assumption) rfl rfl ?_
     rintro M7 M8 ⟨r298, rfl, AY, H⟩
     have mv := Stp.same hO AY
     replace dC := dC.ch mv.ch
     replace dx := dx.ch mv.ch
     replace dy := dy.ch mv.ch
     replace dz := dz.ch mv.ch
     replace dA := dA.ch mv.ch
     replace dB := dB.ch mv.ch
     replace dD := dD.ch mv.ch
     replace dE := dE.ch mv.ch
     replace dF := dF.ch mv.ch
     replace hO := mv.own
     replace ah := ah.ch mv.ch
     replace ae := ae.ch mv.ch
     replace ad := ad.ch mv.ch
     replace ai := ai.ch mv.ch
     replace af := af.ch mv.ch
     replace ag := ag.ch mv.ch
     replace hB := hB.trans mv.fr
     refine GoQ.pure rfl (op_pickT rfl rfl rfl) rfl rfl ?_
     refine GoQ.pure rfl (op_move rfl) rfl rfl ?_
     cases r298
     ·replace H := ifn Bool.false_ne_true H
      refine GoQ.pass rfl rfl rfl ?_
      refine GoQ.pass rfl rfl rfl ?_
      refine GoQ.pass rfl rfl rfl ?_
      refine GoQ.pass rfl rfl rfl ?_
      refine GoQ.pass rfl rfl rfl ?_
      refine GoQ.pass rfl rfl rfl ?_
      refine GoQ.pass rfl rfl rfl ?_
      refine GoQ.pass rfl rfl rfl ?_
      refine GoQ.pure rfl (op_pickF rfl rfl rfl) rfl rfl ?_
      refine GoQ.pure rfl (op_move rfl) rfl rfl ?_
      refine GoQ.pass rfl rfl rfl ?_
      refine GoQ.pass rfl rfl rfl ?_
      refine GoQ.pass rfl rfl rfl ?_
      refine GoQ.pass rfl rfl rfl ?_
      refine GoQ.pass rfl rfl rfl ?_
      refine GoQ.pass rfl rfl rfl ?_
      refine GoQ.pass rfl rfl rfl ?_
      refine GoQ.pass rfl rfl rfl ?_
      refine GoQ.pure rfl (op_pickF rfl rfl rfl) rfl rfl ?_
      refine GoQ.pure rfl (op_move rfl) rfl rfl ?_
      refine GoQ.pass rfl rfl rfl ?_
      refine GoQ.pass rfl rfl rfl ?_
      refine GoQ.pass rfl rfl rfl ?_
      refine GoQ.pass rfl rfl rfl ?_
      refine GoQ.pass rfl rfl rfl ?_
      refine GoQ.pass rfl rfl rfl ?_
      refine GoQ.pass rfl rfl rfl ?_
      refine GoQ.pass rfl rfl rfl ?_
      refine GoQ.pure rfl (op_pickF rfl rfl rfl) rfl rfl ?_
      refine GoQ.pure rfl (op_move rfl) rfl rfl ?_
      refine GoQ.pass rfl rfl rfl ?_
      refine GoQ.pass rfl rfl rfl ?_
      refine GoQ.pass rfl rfl rfl ?_
      refine GoQ.pass rfl rfl rfl ?_
      refine GoQ.pass rfl rfl rfl ?_
      refine GoQ.pass rfl rfl rfl ?_
      refine GoQ.pass rfl rfl rfl ?_
      refine GoQ.pass rfl rfl rfl ?_
      refine GoQ.pure rfl (op_pickF rfl rfl rfl) rfl rfl ?_
      refine GoQ.pure rfl (op_assign rfl) rfl rfl ?_
      refine GoQ.nil ?_
      refine Go1.ret1V Try.func68 rfl (show _ = .bool false from rfl) ?_
      refine hR283 _ _ ?_
      refine GoR.op ((op_assign rfl) _) rfl rfl ?_
      refine GoR.op ((op_assign rfl) _) rfl rfl ?_
      refine GoR.nil ?_
      replace ah := ah.ch (Owns.dropCh _ _ 0)
      replace ae := ae.ch (Owns.dropCh _ _ 0)
      replace ad := ad.ch (Owns.dropCh _ _ 0)
      replace ai := ai.ch (Owns.dropCh _ _ 0)
      replace af := af.ch (Owns.dropCh _ _ 0)
      replace ag := ag.ch (Owns.dropCh _ _ 0)
      replace dC := dC.ch (Owns.dropCh _ _ 0)
      replace dx := dx.ch (Owns.dropCh _ _ 0)
      replace dy := dy.ch (Owns.dropCh _ _ 0)
      replace dz := dz.ch (Owns.dropCh _ _ 0)
      replace dA := dA.ch (Owns.dropCh _ _ 0)
      replace dB := dB.ch (Owns.dropCh _ _ 0)
      replace dD := dD.ch (Owns.dropCh _ _ 0)
      replace dE := dE.ch (Owns.dropCh _ _ 0)
      replace dF := dF.ch (Owns.dropCh _ _ 0)
      replace hB := hB.trans (Owns.dropFr _ _ 0)
      replace hO := hO.drop 0
      dsimp only [eS, eZ] at hB hO ah ae ad ai af ag dC dx dy dz dA dB dD dE dF
      replace ah := ah.ch (Owns.dropCh _ _ 11)
      replace ae := ae.ch (Owns.dropCh _ _ 11)
      replace ad := ad.ch (Owns.dropCh _ _ 11)
      replace ai := ai.ch (Owns.dropCh _ _ 11)
      replace af := af.ch (Owns.dropCh _ _ 11)
      replace ag := ag.ch (Owns.dropCh _ _ 11)
      replace dC := dC.ch (Owns.dropCh _ _ 11)
      replace dx := dx.ch (Owns.dropCh _ _ 11)
      replace dy := dy.ch (Owns.dropCh _ _ 11)
      replace dz := dz.ch (Owns.dropCh _ _ 11)
      replace dA := dA.ch (Owns.dropCh _ _ 11)
      replace dB := dB.ch (Owns.dropCh _ _ 11)
      replace dD := dD.ch (Owns.dropCh _ _ 11)
      replace dE := dE.ch (Owns.dropCh _ _ 11)
      replace dF := dF.ch (Owns.dropCh _ _ 11)
      replace hB := hB.trans (Owns.dropFr _ _ 11)
      replace hO := hO.drop 11
      dsimp only [eS, eZ] at hB hO ah ae ad ai af ag dC dx dy dz dA dB dD dE dF
      refine Go1.ret2 Try.func53 rfl ?_
      exact Or.inr ⟨(⟨(⟨k4_203, b4_204, d_206, d_212, d_218, d_224, d_230, d_236, k4_205⟩ : Enum), m4_260, d_242, d_248, d_254⟩ : run), false, et, fe, ff, fh, gk, eW, eH, eI, ii, eX, eK, eM, ik, eY, eN, eO, io, e8, eP, eQ, ip, e9, eU, eV, iq, bC, fk, fm, fo, ir, fq, ft, fu, iu, fv, fw, fx, iv, rfl, hB.same, hO, dC, dx, dy, dz, dA, dB, dD, dE, dF, H⟩
     replace H := ifp rfl H
     refine GoQ.pure rfl (op_move rfl) rfl rfl ?_
     refine GoQ.pure rfl (op_nilCheck rfl) rfl rfl ?_
     refine GoQ.pure rfl (op_fieldAddr Try.underlying72 rfl ti29 rfl (by decide)) rfl rfl ?_
     refine GoQ.pure rfl (op_fieldAddr Try.underlying29 rfl ti26 rfl (by decide)) rfl rfl ?_
     refine GoQ.stable rfl (oblk (i := 4) 1 hO rfl rfl Try.underlying26 rfl rfl) rfl rfl ?_
     refine GoQ.pure rfl (op_fieldAddr Try.underlying29 rfl ti26 rfl (by decide)) rfl rfl ?_
     refine GoQ.stable rfl (oblk (i := 4) 0 hO rfl rfl Try.underlying26 rfl rfl) rfl rfl ?_
     have hobt := rowlend 4 hO rfl dy
     obtain ⟨GB, GC⟩ := hobt
     have hOc306 := hO.drop 4
     refine GoQ.call rfl (op_call body70 (show ([.slice eK eX eM, .slice ar e.Prefix.length au] : List Value) = [.slice eK d_218.length eM, .slice ar e.Prefix.length au] from by rw [← GC]) (walk_slices_Equal_int hOc306.lt GB (ad.ch (Owns.dropCh _ _ 4)) H)) (fun v w hr => by obtain ⟨_, _, hs, _⟩ := hr; assumption) rfl rfl ?_
     rintro M9 Na ⟨r307, rfl, GD, H⟩
     have mw := Stp.same hO GD
     replace dC := dC.ch mw.ch
     replace dx := dx.ch mw.ch
     replace dy := dy.ch mw.ch
     replace dz := dz.ch mw.ch
     replace dA := dA.ch mw.ch
     replace dB := dB.ch mw.ch
     replace dD := dD.ch mw.ch
     replace dE := dE.ch mw.ch
     replace dF := dF.ch mw.ch
     replace hO := mw.own
     replace ah := ah.ch mw.ch
     replace ae := ae.ch mw.ch
     replace ad := ad.ch mw.ch
     replace ai := ai.ch mw.ch
     replace af := af.ch mw.ch
     replace ag := ag.ch mw.ch
     replace hB := hB.trans mw.fr
     refine GoQ.pure rfl (op_pickT rfl rfl rfl) rfl rfl ?_
     refine GoQ.pure rfl (op_move rfl) rfl rfl ?_
     cases r307
     ·replace H := ifn Bool.false_ne_true H
      refine GoQ.pass rfl rfl rfl ?_
      refine GoQ.pass rfl rfl rfl ?_
      refine GoQ.pass rfl rfl rfl ?_
      refine GoQ.pass rfl rfl rfl ?_
      refine GoQ.pass rfl rfl rfl ?_
      refine GoQ.pass rfl rfl rfl ?_
      refine GoQ.pass rfl rfl rfl ?_
      refine GoQ.pass rfl rfl rfl ?_
      refine GoQ.pure rfl (op_pickF rfl rfl rfl) rfl rfl ?_
      refine GoQ.pure rfl (op_move rfl) rfl rfl ?_
      refine GoQ.pass rfl rfl rfl ?_
      refine GoQ.pass rfl rfl rfl ?_
      refine GoQ.pass rfl rfl rfl ?_
      refine GoQ.pass rfl rfl rfl ?_
      refine GoQ.pass rfl rfl rfl ?_
      refine GoQ.pass rfl rfl rfl ?_
      refine GoQ.pass rfl rfl rfl ?_
      refine GoQ.pass rfl rfl rfl ?_
      refine GoQ.pure rfl (op_pickF rfl rfl rfl) rfl rfl ?_
      refine GoQ.pure rfl (op_move rfl) rfl rfl ?_
      refine GoQ.pass rfl rfl rfl ?_
      refine GoQ.pass rfl rfl rfl ?_
      refine GoQ.pass rfl rfl rfl ?_
      refine GoQ.pass rfl rfl rfl ?_
      refine GoQ.pass rfl rfl rfl ?_
      refine GoQ.pass rfl rfl rfl ?_
      refine GoQ.pass rfl rfl rfl ?_
      refine GoQ.pass rfl rfl rfl ?_
      refine GoQ.pure rfl (op_pickF rfl rfl rfl) rfl rfl ?_
      refine GoQ.pure rfl (op_assign rfl) rfl rfl ?_
      refine GoQ.nil ?_
      refine Go1.ret1V Try.func68 rfl (show _ = .bool false from rfl) ?_
      refine hR283 _ _ ?_
      refine GoR.op ((op_assign rfl) _) rfl rfl ?_
      refine GoR.op ((op_assign rfl) _) rfl rfl ?_
      refine GoR.nil ?_
      replace ah := ah.ch (Owns.dropCh _ _ 0)
      replace ae := ae.ch (Owns.dropCh _ _ 0)
      replace ad := ad.ch (Owns.dropCh _ _ 0)
      replace ai := ai.ch (Owns.dropCh _ _ 0)
      replace af := af.ch (Owns.dropCh _ _ 0)
      replace ag := ag.ch (Owns.dropCh _ _ 0)
      replace dC := dC.ch (Owns.dropCh _ _ 0)
      replace dx := dx.ch (Owns.dropCh _ _ 0)
      replace dy := dy.ch (Owns.dropCh _ _ 0)
      replace dz := dz.ch (Owns.dropCh _ _ 0)
      replace dA := dA.ch (Owns.dropCh _ _ 0)
      replace dB := dB.ch (Owns.dropCh _ _ 0)
      replace dD := dD.ch (Owns.dropCh _ _ 0)
      replace dE := dE.ch (Owns.dropCh _ _ 0)
      replace dF := dF.ch (Owns.dropCh _ _ 0)
      replace hB := hB.trans (Owns.dropFr _ _ 0)
      replace hO := hO.drop 0
      dsimp only [eS, eZ] at hB hO ah ae ad ai af ag dC dx dy dz dA dB dD dE dF
      replace ah := ah.ch (Owns.dropCh _ _ 11)
      replace ae := ae.ch (Owns.dropCh _ _ 11)
      replace ad := ad.ch (Owns.dropCh _ _ 11)
      replace ai := ai.ch (Owns.dropCh _ _ 11)
      replace af := af.ch (Owns.dropCh _ _ 11)
      replace ag := ag.ch (Owns.dropCh _ _ 11)
      replace dC := dC.ch (Owns.dropCh _ _ 11)
      replace dx := dx.ch (Owns.dropCh _ _ 11)
      replace dy := dy.ch (Owns.dropCh _ _ 11)
      replace dz := dz.ch (Owns.dropCh _ _ 11)
      replace dA := dA.ch (Owns.dropCh _ _ 11)
      replace dB := dB.ch (Owns.dropCh _ _ 11)
      replace dD := dD.ch (Owns.dropCh _ _ 11)
      replace dE := dE.ch (Owns.dropCh _ _ 11)
      replace dF := dF.ch (Owns.dropCh _ _ 11)
      replace hB := hB.trans (Owns.dropFr _ _ 11)
      replace hO := hO.drop 11
      dsimp only [eS, eZ] at hB hO ah ae ad ai af ag dC dx dy dz dA dB dD dE dF
      refine Go1.ret2 Try.func53 rfl ?_
      exact Or.inr ⟨(⟨(⟨k4_203, b4_204, d_206, d_212, d_218, d_224, d_230, d_236, k4_205⟩ : Enum), m4_260, d_242, d_248, d_254⟩ : run), false, et, fe, ff, fh, gk, eW, eH, eI, ii, eX, eK, eM, ik, eY, eN, eO, io, e8, eP, eQ, ip, e9, eU, eV, iq, bC, fk, fm, fo, ir, fq, ft, fu, iu, fv, fw, fx, iv, rfl, hB.same, hO, dC, dx, dy, dz, dA, dB, dD, dE, dF, H⟩
     replace H := ifp rfl H
     refine GoQ.pure rfl (op_move rfl) rfl rfl ?_
     refine GoQ.pure rfl (op_nilCheck rfl) rfl rfl ?_
     refine GoQ.pure rfl (op_fieldAddr Try.underlying72 rfl ti29 rfl (by decide)) rfl rfl ?_
     refine GoQ.pure rfl (op_fieldAddr Try.underlying29 rfl ti26 rfl (by decide)) rfl rfl ?_
     refine GoQ.stable rfl (oblk (i := 5) 1 hO rfl rfl Try.underlying26 rfl rfl) rfl rfl ?_
     refine GoQ.pure rfl (op_fieldAddr Try.underlying29 rfl ti26 rfl (by decide)) rfl rfl ?_
     refine GoQ.stable rfl (oblk (i := 5) 0 hO rfl rfl Try.underlying26 rfl rfl) rfl rfl ?_
     have hobt := rowlend 5 hO rfl dz
     obtain ⟨GE, GF⟩ := hobt
     have hOc315 := hO.drop 5
     refine GoQ.call rfl (op_call body70 (show ([.slice eN eY eO, .slice bg e.Last.length bh] : List Value) = [.slice eN d_224.length eO, .slice bg e.Last.length bh] from by rw [← GF]) (walk_slices_Equal_int hOc315.lt GE (ai.ch (Owns.dropCh _ _ 5)) H)) (fun v w hr => by obtain ⟨_, _, hs, _⟩ := hr; assumption) rfl rfl ?_
     rintro Nb HD ⟨r316, rfl, GG, H⟩
     have my := Stp.same hO GG
     replace dC := dC.ch my.ch
     replace dx := dx.ch my.ch
     replace dy := dy.ch my.ch
     replace dz := dz.ch my.ch
     replace dA := dA.ch my.ch
     replace dB := dB.ch my.ch
     replace dD := dD.ch my.ch
     replace dE := dE.ch my.ch
     replace dF := dF.ch my.ch
     replace hO := my.own
     replace ah := ah.ch my.ch
     replace ae := ae.ch my.ch
     replace ad := ad.ch my.ch
     replace ai := ai.ch my.ch
     replace af := af.ch my.ch
     replace ag := ag.ch my.ch
     replace hB := hB.trans my.fr
     refine GoQ.pure rfl (op_pickT rfl rfl rfl) rfl rfl ?_
     refine GoQ.pure rfl (op_move rfl) rfl rfl ?_
     cases r316
     ·replace H := ifn Bool.false_ne_true H
      refine GoQ.pass rfl rfl rfl ?_
      refine GoQ.pass rfl rfl rfl ?_
      refine GoQ.pass rfl rfl rfl ?_
      refine GoQ.pass rfl rfl rfl ?_
      refine GoQ.pass rfl rfl rfl ?_
      refine GoQ.pass rfl rfl rfl ?_
      refine GoQ.pass rfl rfl rfl ?_
      refine GoQ.pass rfl rfl rfl ?_
      refine GoQ.pure rfl (op_pickF rfl rfl rfl) rfl rfl ?_
      refine GoQ.pure rfl (op_move rfl) rfl rfl ?_
      refine GoQ.pass rfl rfl rfl ?_
      refine GoQ.pass rfl rfl rfl ?_
      refine GoQ.pass rfl rfl rfl ?_
      refine GoQ.pass rfl rfl rfl ?_
      refine GoQ.pass rfl rfl rfl ?_
      refine GoQ.pass rfl rfl rfl ?_
      refine GoQ.pass rfl rfl rfl ?_
      refine GoQ.pass rfl rfl rfl ?_
      refine GoQ.pure rfl (op_pickF rfl rfl rfl) rfl rfl ?_
      refine GoQ.pure rfl (op_assign rfl) rfl rfl ?_
      refine GoQ.nil ?_
      refine Go1.ret1V Try.func68 rfl (show _ = .bool false from rfl) ?_
      refine hR283 _ _ ?_
      refine GoR.op ((op_assign rfl) _) rfl rfl ?_
      refine GoR.op ((op_assign rfl) _) rfl rfl ?_
      refine GoR.nil ?_
      replace ah := ah.ch (Owns.dropCh _ _ 0)
      replace ae := ae.ch (Owns.dropCh _ _ 0)
      replace ad := ad.ch (Owns.dropCh _ _ 0)
      replace ai := ai.ch (Owns.dropCh _ _ 0)
      replace af := af.ch (Owns.dropCh _ _ 0)
      replace ag := ag.ch (Owns.dropCh _ _ 0)
      replace dC := dC.ch (Owns.dropCh _ _ 0)
      replace dx := dx.ch (Owns.dropCh _ _ 0)
      replace dy := dy.ch (Owns.dropCh _ _ 0)
      replace dz := dz.ch (Owns.dropCh _ _ 0)
      replace dA := dA.ch (Owns.dropCh _ _ 0)
      replace dB := dB.ch (Owns.dropCh _ _ 0)
      replace dD := dD.ch (Owns.dropCh _ _ 0)
      replace dE := dE.ch (Owns.dropCh _ _ 0)
      replace dF := dF.ch (Owns.dropCh _ _ 0)
      replace hB := hB.trans (Owns.dropFr _ _ 0)
      replace hO := hO.drop 0
      dsimp only [eS, eZ] at hB hO ah ae ad ai af ag dC dx dy dz dA dB dD dE dF
      replace ah := ah.ch (Owns.dropCh _ _ 11)
      replace ae := ae.ch (Owns.dropCh _ _ 11)
      replace ad := ad.ch (Owns.dropCh _ _ 11)
      replace ai := ai.ch (Owns.dropCh _ _ 11)
      replace af := af.ch (Owns.dropCh _ _ 11)
      replace ag := ag.ch (Owns.dropCh _ _ 11)
      replace dC := dC.ch (Owns.dropCh _ _ 11)
      replace dx := dx.ch (Owns.dropCh _ _ 11)
      replace dy := dy.ch (Owns.dropCh _ _ 11)
      replace dz := dz.ch (Owns.dropCh _ _ 11)
      replace dA := dA.ch (Owns.dropCh _ _ 11)
      replace dB := dB.ch (Owns.dropCh _ _ 11)
      replace dD := dD.ch (Owns.dropCh _ _ 11)
      replace dE := dE.ch (Owns.dropCh _ _ 11)
      replace dF := dF.ch (Owns.dropCh _ _ 11)
      replace hB := hB.trans (Owns.dropFr _ _ 11)
      replace hO := hO.drop 11
      dsimp only [eS, eZ] at hB hO ah ae ad ai af ag dC dx dy dz dA dB dD dE dF
      refine Go1.ret2 Try.func53 rfl ?_
      exact Or.inr ⟨(⟨(⟨k4_203, b4_204, d_206, d_212, d_218, d_224, d_230, d_236, k4_205⟩ : Enum), m4_260, d_242, d_248, d_254⟩ : run), false, et, fe, ff, fh, gk, eW, eH, eI, ii, eX, eK, eM, ik, eY, eN, eO, io, e8, eP, eQ, ip, e9, eU, eV, iq, bC, fk, fm, fo, ir, fq, ft, fu, iu, fv, fw, fx, iv, rfl, hB.same, hO, dC, dx, dy, dz, dA, dB, dD, dE, dF, H⟩
     replace H := ifp rfl H
     refine GoQ.pure rfl (op_move rfl) rfl rfl ?_
     refine GoQ.pure rfl (op_nilCheck rfl) rfl rfl ?_
     refine GoQ.pure rfl (op_fieldAddr Try.underlying72 rfl ti29 rfl (by decide)) rfl rfl ?_
     refine GoQ.pure rfl (op_fieldAddr Try.underlying29 rfl ti22 rfl (by decide)) rfl rfl ?_
     refine GoQ.stable rfl (oblk (i := 6) 1 hO rfl rfl Try.underlying22 rfl rfl) rfl rfl ?_
     refine GoQ.pure rfl (op_fieldAddr Try.underlying29 rfl ti22 rfl (by decide)) rfl rfl ?_
     refine GoQ.stable rfl (oblk (i := 6) 0 hO rfl rfl Try.underlying22 rfl rfl) rfl rfl ?_
     have hobt := rowlend 6 hO rfl dA
     obtain ⟨GH, GJ⟩ := hobt
     have hOc324 := hO.drop 6
     refine GoQ.call rfl (op_call body69 (show ([.slice eP e8 eQ, .slice aQ e.Right.length aR, .func (.func 70) #[] #[]] : List Value) = [.slice eP d_230.length eQ, .slice aQ e.Right.length aR, .func (.func 70) #[] #[]] from by rw [← GJ]) (walk_slices_EqualFunc_int hOc324.lt GH (af.ch (Owns.dropCh _ _ 6)) H)) (fun v w hr => by obtain ⟨_, _, hs, _⟩ := hr; assumption) rfl rfl ?_
     rintro Nc Nd ⟨r325, rfl, GK, H⟩
     have mz := Stp.same hO GK
     replace dC := dC.ch mz.ch
     replace dx := dx.ch mz.ch
     replace dy := dy.ch mz.ch
     replace dz := dz.ch mz.ch
     replace dA := dA.ch mz.ch
     replace dB := dB.ch mz.ch
     replace dD := dD.ch mz.ch
     replace dE := dE.ch mz.ch
     replace dF := dF.ch mz.ch
     replace hO := mz.own
     replace ah := ah.ch mz.ch
     replace ae := ae.ch mz.ch
     replace ad := ad.ch mz.ch
     replace ai := ai.ch mz.ch
     replace af := af.ch mz.ch
     replace ag := ag.ch mz.ch
     replace hB := hB.trans mz.fr
     refine GoQ.pure rfl (op_pickT rfl rfl rfl) rfl rfl ?_
     refine GoQ.pure rfl (op_move rfl) rfl rfl ?_
     cases r325
     ·replace H := ifn Bool.false_ne_true H
      refine GoQ.pass rfl rfl rfl ?_
      refine GoQ.pass rfl rfl rfl ?_
      refine GoQ.pass rfl rfl rfl ?_
      refine GoQ.pass rfl rfl rfl ?_
      refine GoQ.pass rfl rfl rfl ?_
      refine GoQ.pass rfl rfl rfl ?_
      refine GoQ.pass rfl rfl rfl ?_
      refine GoQ.pass rfl rfl rfl ?_
      refine GoQ.pure rfl (op_pickF rfl rfl rfl) rfl rfl ?_
      refine GoQ.pure rfl (op_assign rfl) rfl rfl ?_
      refine GoQ.nil ?_
      refine Go1.ret1V Try.func68 rfl (show _ = .bool false from rfl) ?_
      refine hR283 _ _ ?_
      refine GoR.op ((op_assign rfl) _) rfl rfl ?_
      refine GoR.op ((op_assign rfl) _) rfl rfl ?_
      refine GoR.nil ?_
      replace ah := ah.ch (Owns.dropCh _ _ 0)
      replace ae := ae.ch (Owns.dropCh _ _ 0)
      replace ad := ad.ch (Owns.dropCh _ _ 0)
      replace ai := ai.ch (Owns.dropCh _ _ 0)
      replace af := af.ch (Owns.dropCh _ _ 0)
      replace ag := ag.ch (Owns.dropCh _ _ 0)
      replace dC := dC.ch (Owns.dropCh _ _ 0)
      replace dx := dx.ch (Owns.dropCh _ _ 0)
      replace dy := dy.ch (Owns.dropCh _ _ 0)
      replace dz := dz.ch (Owns.dropCh _ _ 0)
      replace dA := dA.ch (Owns.dropCh _ _ 0)
      replace dB := dB.ch (Owns.dropCh _ _ 0)
      replace dD := dD.ch (Owns.dropCh _ _ 0)
      replace dE := dE.ch (Owns.dropCh _ _ 0)
      replace dF := dF.ch (Owns.dropCh _ _ 0)
      replace hB := hB.trans (Owns.dropFr _ _ 0)
      replace hO := hO.drop 0
      dsimp only [eS, eZ] at hB hO ah ae ad ai af ag dC dx dy dz dA dB dD dE dF
      replace ah := ah.ch (Owns.dropCh _ _ 11)
      replace ae := ae.ch (Owns.dropCh _ _ 11)
      replace ad := ad.ch (Owns.dropCh _ _ 11)
      replace ai := ai.ch (Owns.dropCh _ _ 11)
      replace af := af.ch (Owns.dropCh _ _ 11)
      replace ag := ag.ch (Owns.dropCh _ _ 11)
      replace dC := dC.ch (Owns.dropCh _ _ 11)
      replace dx := dx.ch (Owns.dropCh _ _ 11)
      replace dy := dy.ch (Owns.dropCh _ _ 11)
      replace dz := dz.ch (Owns.dropCh _ _ 11)
      replace dA := dA.ch (Owns.dropCh _ _ 11)
      replace dB := dB.ch (Owns.dropCh _ _ 11)
      replace dD := dD.ch (Owns.dropCh _ _ 11)
      replace dE := dE.ch (Owns.dropCh _ _ 11)
      replace dF := dF.ch (Owns.dropCh _ _ 11)
      replace hB := hB.trans (Owns.dropFr _ _ 11)
      replace hO := hO.drop 11
      dsimp only [eS, eZ] at hB hO ah ae ad ai af ag dC dx dy dz dA dB dD dE dF
      refine Go1.ret2 Try.func53 rfl ?_
      exact Or.inr ⟨(⟨(⟨k4_203, b4_204, d_206, d_212, d_218, d_224, d_230, d_236, k4_205⟩ : Enum), m4_260, d_242, d_248, d_254⟩ : run), false, et, fe, ff, fh, gk, eW, eH, eI, ii, eX, eK, eM, ik, eY, eN, eO, io, e8, eP, eQ, ip, e9, eU, eV, iq, bC, fk, fm, fo, ir, fq, ft, fu, iu, fv, fw, fx, iv, rfl, hB.same, hO, dC, dx, dy, dz, dA, dB, dD, dE, dF, H⟩
     replace H := ifp rfl H
     refine GoQ.pure rfl (op_move rfl) rfl rfl ?_
     refine GoQ.pure rfl (op_nilCheck rfl) rfl rfl ?_
     refine GoQ.pure rfl (op_fieldAddr Try.underlying72 rfl ti29 rfl (by decide)) rfl rfl ?_
     refine GoQ.pure rfl (op_fieldAddr Try.underlying29 rfl ti27 rfl (by decide)) rfl rfl ?_
     refine GoQ.stable rfl (oblk (i := 7) 1 hO rfl rfl Try.underlying27 rfl rfl) rfl rfl ?_
     refine GoQ.pure rfl (op_fieldAddr Try.underlying29 rfl ti27 rfl (by decide)) rfl rfl ?_
     refine GoQ.stable rfl (oblk (i := 7) 0 hO rfl rfl Try.underlying27 rfl rfl) rfl rfl ?_
     have hobt := rowlend 7 hO rfl dB
     obtain ⟨GL, GM⟩ := hobt
     have hOc333 := hO.drop 7
     refine GoQ.call rfl (op_call body71 (show ([.slice eU e9 eV, .slice aS e.Rules.length aT] : List Value) = [.slice eU d_236.length eV, .slice aS e.Rules.length aT] from by rw [← GM]) (walk_slices_Equal_api_Rule hOc333.lt GL (ag.ch (Owns.dropCh _ _ 7)) H)) (fun v w hr => by obtain ⟨_, _, hs, _⟩ := hr; assumption) rfl rfl ?_
     rintro Nf Ng ⟨r334, rfl, GN, H⟩
     have mA := Stp.same hO GN
     replace dC := dC.ch mA.ch
     replace dx := dx.ch mA.ch
     replace dy := dy.ch mA.ch
     replace dz := dz.ch mA.ch
     replace dA := dA.ch mA.ch
     replace dB := dB.ch mA.ch
     replace dD := dD.ch mA.ch
     replace dE := dE.ch mA.ch
     replace dF := dF.ch mA.ch
     replace hO := mA.own
     replace ah := ah.ch mA.ch
     replace ae := ae.ch mA.ch
     replace ad := ad.ch mA.ch
     replace ai := ai.ch mA.ch
     replace af := af.ch mA.ch
     replace ag := ag.ch mA.ch
     replace hB := hB.trans mA.fr
     refine GoQ.pure rfl (op_pickT rfl rfl rfl) rfl rfl ?_
     refine GoQ.pure rfl (op_assign rfl) rfl rfl ?_
     refine GoQ.nil ?_
     refine Go1.ret1V Try.func68 rfl (show _ = .bool r334 from rfl) ?_
     refine hR283 _ _ ?_
     refine GoR.op ((op_assign rfl) _) rfl rfl ?_
     refine GoR.op ((op_assign rfl) _) rfl rfl ?_
     refine GoR.nil ?_
     replace ah := ah.ch (Owns.dropCh _ _ 0)
     replace ae := ae.ch (Owns.dropCh _ _ 0)
     replace ad := ad.ch (Owns.dropCh _ _ 0)
     replace ai := ai.ch (Owns.dropCh _ _ 0)
     replace af := af.ch (Owns.dropCh _ _ 0)
     replace ag := ag.ch (Owns.dropCh _ _ 0)
     replace dC := dC.ch (Owns.dropCh _ _ 0)
     replace dx := dx.ch (Owns.dropCh _ _ 0)
     replace dy := dy.ch (Owns.dropCh _ _ 0)
     replace dz := dz.ch (Owns.dropCh _ _ 0)
     replace dA := dA.ch (Owns.dropCh _ _ 0)
     replace dB := dB.ch (Owns.dropCh _ _ 0)
     replace dD := dD.ch (Owns.dropCh _ _ 0)
     replace dE := dE.ch (Owns.dropCh _ _ 0)
     replace dF := dF.ch (Owns.dropCh _ _ 0)
     replace hB := hB.trans (Owns.dropFr _ _ 0)
     replace hO := hO.drop 0
     dsimp only [eS, eZ] at hB hO ah ae ad ai af ag dC dx dy dz dA dB dD dE dF
     replace ah := ah.ch (Owns.dropCh _ _ 11)
     replace ae := ae.ch (Owns.dropCh _ _ 11)
     replace ad := ad.ch (Owns.dropCh _ _ 11)
     replace ai := ai.ch (Owns.dropCh _ _ 11)
     replace af := af.ch (Owns.dropCh _ _ 11)
     replace ag := ag.ch (Owns.dropCh _ _ 11)
     replace dC := dC.ch (Owns.dropCh _ _ 11)
     replace dx := dx.ch (Owns.dropCh _ _ 11)
     replace dy := dy.ch (Owns.dropCh _ _ 11)
     replace dz := dz.ch (Owns.dropCh _ _ 11)
     replace dA := dA.ch (Owns.dropCh _ _ 11)
     replace dB := dB.ch (Owns.dropCh _ _ 11)
     replace dD := dD.ch (Owns.dropCh _ _ 11)
     replace dE := dE.ch (Owns.dropCh _ _ 11)
     replace dF := dF.ch (Owns.dropCh _ _ 11)
     replace hB := hB.trans (Owns.dropFr _ _ 11)
     replace hO := hO.drop 11
     dsimp only [eS, eZ] at hB hO ah ae ad ai af ag dC dx dy dz dA dB dD dE dF
     refine Go1.ret2 Try.func53 rfl ?_
     exact Or.inr ⟨(⟨(⟨k4_203, b4_204, d_206, d_212, d_218, d_224, d_230, d_236, k4_205⟩ : Enum), m4_260, d_242, d_248, d_254⟩ : run), r334, et, fe, ff, fh, gk, eW, eH, eI, ii, eX, eK, eM, ik, eY, eN, eO, io, e8, eP, eQ, ip, e9, eU, eV, iq, bC, fk, fm, fo, ir, fq, ft, fu, iu, fv, fw, fx, iv, rfl, hB.same, hO, dC, dx, dy, dz, dA, dB, dD, dE, dF, H⟩
    replace H := ifn zC H
    refine GoQ.pure rfl (fun w => opB (op_eql rfl rfl w) (decide_eq_false zC)) rfl rfl ?_
    refine GoQ.pure rfl (op_pickT rfl rfl rfl) rfl rfl ?_
    refine GoQ.pure rfl (op_move rfl) rfl rfl ?_
    refine GoQ.pass rfl rfl rfl ?_
    refine GoQ.pass rfl rfl rfl ?_
    refine GoQ.pass rfl rfl rfl ?_
    refine GoQ.pass rfl rfl rfl ?_
    refine GoQ.pass rfl rfl rfl ?_
    refine GoQ.pass rfl rfl rfl ?_
    refine GoQ.pass rfl rfl rfl ?_
    refine GoQ.pass rfl rfl rfl ?_
    refine GoQ.pure rfl (op_pickF rfl rfl rfl) rfl rfl ?_
    refine GoQ.pure rfl (op_move rfl) rfl rfl ?_
    refine GoQ.pass rfl rfl rfl ?_
    refine GoQ.pass rfl rfl rfl ?_
    refine GoQ.pass rfl rfl rfl ?_
    refine GoQ.pass rfl rfl rfl ?_
    refine GoQ.pass rfl rfl rfl ?_
    refine GoQ.pass rfl rfl rfl ?_
    refine GoQ.pass rfl rfl rfl ?_
    refine GoQ.pass rfl rfl rfl ?_
    refine GoQ.pure rfl (op_pickF rfl rfl rfl) rfl rfl ?_
    refine GoQ.pure rfl (op_move rfl) rfl rfl ?_
    refine GoQ.pass rfl rfl rfl ?_
    refine GoQ.pass rfl rfl rfl ?_
    refine GoQ.pass rfl rfl rfl ?_
    refine GoQ.pass rfl rfl rfl ?_
    refine GoQ.pass rfl rfl rfl ?_
    refine GoQ.pass rfl rfl rfl ?_
    refine GoQ.pass rfl rfl rfl ?_
    refine GoQ.pass rfl rfl rfl ?_
    refine GoQ.pure rfl (op_pickF rfl rfl rfl) rfl rfl ?_
    refine GoQ.pure rfl (op_move rfl) rfl rfl ?_
    refine GoQ.pass rfl rfl rfl ?_
    refine GoQ.pass rfl rfl rfl ?_
    refine GoQ.pass rfl rfl rfl ?_
    refine GoQ.pass rfl rfl rfl ?_
    refine GoQ.pass rfl rfl rfl ?_
    refine GoQ.pass rfl rfl rfl ?_
    refine GoQ.pass rfl rfl rfl ?_
    refine GoQ.pass rfl rfl rfl ?_
    refine GoQ.pure rfl (op_pickF rfl rfl rfl) rfl rfl ?_
    refine GoQ.pure rfl (op_move rfl) rfl rfl ?_
    refine GoQ.pass rfl rfl rfl ?_
    refine GoQ.pass rfl rfl rfl ?_
    refine GoQ.pass rfl rfl rfl ?_
    refine GoQ.pass rfl rfl rfl ?_
    refine GoQ.pass rfl rfl rfl ?_
    refine GoQ.pass rfl rfl rfl ?_
    refine GoQ.pass rfl rfl rfl ?_
    refine GoQ.pass rfl rfl rfl ?_
    refine GoQ.pure rfl (op_pickF rfl rfl rfl) rfl rfl ?_
    refine GoQ.pure rfl (op_assign rfl) rfl rfl ?_
    refine GoQ.nil ?_
    refine Go1.ret1V Try.func68 rfl (show _ = .bool false from rfl) ?_
    refine hR283 _ _ ?_
    refine GoR.op ((op_assign rfl) _) rfl rfl ?_
    refine GoR.op ((op_assign rfl) _) rfl rfl ?_
    refine GoR.nil ?_
    replace ah := ah.ch (Owns.dropCh _ _ 0)
    replace ae := ae.ch (Owns.dropCh _ _ 0)
    replace ad := ad.ch (Owns.dropCh _ _ 0)
    replace ai := ai.ch (Owns.dropCh _ _ 0)
    replace af := af.ch (Owns.dropCh _ _ 0)
    replace ag := ag.ch (Owns.dropCh _ _ 0)
    replace dC := dC.ch (Owns.dropCh _ _ 0)
    replace dx := dx.ch (Owns.dropCh _ _ 0)
    replace dy := dy.ch (Owns.dropCh _ _ 0)
    replace dz := dz.ch (Owns.dropCh _ _ 0)
    replace dA := dA.ch (Owns.dropCh _ _ 0)
    replace dB := dB.ch (Owns.dropCh _ _ 0)
    replace dD := dD.ch (Owns.dropCh _ _ 0)
    replace dE := dE.ch (Owns.dropCh _ _ 0)
    replace dF := dF.ch (Owns.dropCh _ _ 0)
    replace hB := hB.trans (Owns.dropFr _ _ 0)
    replace hO := hO.drop 0
    dsimp only [eS, eZ] at hB hO ah ae ad ai af ag dC dx dy dz dA dB dD dE dF
    replace ah := ah.ch (Owns.dropCh _ _ 11)
    replace ae := ae.ch (Owns.dropCh _ _ 11)
    replace ad := ad.ch (Owns.dropCh _ _ 11)
    replace ai := ai.ch (Owns.dropCh _ _ 11)
    replace af := af.ch (Owns.dropCh _ _ 11)
    replace ag := ag.ch (Owns.dropCh _ _ 11)
    replace dC := dC.ch (Owns.dropCh _ _ 11)
    replace dx := dx.ch (Owns.dropCh _ _ 11)
    replace dy := dy.ch (Owns.dropCh _ _ 11)
    replace dz := dz.ch (Owns.dropCh _ _ 11)
    replace dA := dA.ch (Owns.dropCh _ _ 11)
    replace dB := dB.ch (Owns.dropCh _ _ 11)
    replace dD := dD.ch (Owns.dropCh _ _ 11)
    replace dE := dE.ch (Owns.dropCh _ _ 11)
    replace dF := dF.ch (Owns.dropCh _ _ 11)
    replace hB := hB.trans (Owns.dropFr _ _ 11)
    replace hO := hO.drop 11
    dsimp only [eS, eZ] at hB hO ah ae ad ai af ag dC dx dy dz dA dB dD dE dF
    refine Go1.ret2 Try.func53 rfl ?_
    exact Or.inr ⟨(⟨(⟨k4_203, b4_204, d_206, d_212, d_218, d_224, d_230, d_236, k4_205⟩ : Enum), m4_260, d_242, d_248, d_254⟩ : run), false, et, fe, ff, fh, gk, eW, eH, eI, ii, eX, eK, eM, ik, eY, eN, eO, io, e8, eP, eQ, ip, e9, eU, eV, iq, bC, fk, fm, fo, ir, fq, ft, fu, iu, fv, fw, fx, iv, rfl, hB.same, hO, dC, dx, dy, dz, dA, dB, dD, dE, dF, H⟩
   replace H := ifn zB H
   refine GoQ.pure rfl (fun w => opB (op_eql rfl rfl w) (decide_eq_false zB)) rfl rfl ?_
   refine GoQ.pure rfl (op_move rfl) rfl rfl ?_
   refine GoQ.pass rfl rfl rfl ?_
   refine GoQ.pass rfl rfl rfl ?_
   refine GoQ.pass rfl rfl rfl ?_
   refine GoQ.pass rfl rfl rfl ?_
   refine GoQ.pass rfl rfl rfl ?_
   refine GoQ.pass rfl rfl rfl ?_
   refine GoQ.pass rfl rfl rfl ?_
   refine GoQ.pass rfl rfl rfl ?_
   refine GoQ.pure rfl (op_pickF rfl rfl rfl) rfl rfl ?_
   refine GoQ.pure rfl (op_move rfl) rfl rfl ?_
   refine GoQ.pass rfl rfl rfl ?_
   refine GoQ.pass rfl rfl rfl ?_
   refine GoQ.pass rfl rfl rfl ?_
   refine GoQ.pass rfl rfl rfl ?_
   refine GoQ.pass rfl rfl rfl ?_
   refine GoQ.pass rfl rfl rfl ?_
   refine GoQ.pass rfl rfl rfl ?_
   refine GoQ.pass rfl rfl rfl ?_
   refine GoQ.pure rfl (op_pickF rfl rfl rfl) rfl rfl ?_
   refine GoQ.pure rfl (op_move rfl) rfl rfl ?_
   refine GoQ.pass rfl rfl rfl ?_
   refine GoQ.pass rfl rfl rfl ?_
   refine GoQ.pass rfl rfl rfl ?_
   refine GoQ.pass rfl rfl rfl ?_
   refine GoQ.pass rfl rfl rfl ?_
   refine GoQ.pass rfl rfl rfl ?_
   refine GoQ.pass rfl rfl rfl ?_
   refine GoQ.pass rfl rfl rfl ?_
   refine GoQ.pure rfl (op_pickF rfl rfl rfl) rfl rfl ?_
   refine GoQ.pure rfl (op_move rfl) rfl rfl ?_
   refine GoQ.pass rfl rfl rfl ?_
   refine GoQ.pass rfl rfl rfl ?_
   refine GoQ.pass rfl rfl rfl ?_
   refine GoQ.pass rfl rfl rfl ?_
   refine GoQ.pass rfl rfl rfl ?_
   refine GoQ.pass rfl rfl rfl ?_
   refine GoQ.pass rfl rfl rfl ?_
   refine GoQ.pass rfl rfl rfl ?_
   refine GoQ.pure rfl (op_pickF rfl rfl rfl) rfl rfl ?_
   refine GoQ.pure rfl (op_move rfl) rfl rfl ?_
   refine GoQ.pass rfl rfl rfl ?_
   refine GoQ.pass rfl rfl rfl ?_
   refine GoQ.pass rfl rfl rfl ?_
   refine GoQ.pass rfl rfl rfl ?_
   refine GoQ.pass rfl rfl rfl ?_
   refine GoQ.pass rfl rfl rfl ?_
   refine GoQ.pass rfl rfl rfl ?_
   refine GoQ.pass rfl rfl rfl ?_
   refine GoQ.pure rfl (op_pickF rfl rfl rfl) rfl rfl ?_
   refine GoQ.pure rfl (op_move rfl) rfl rfl ?_
   refine GoQ.pass rfl rfl rfl ?_
   refine GoQ.pass rfl rfl rfl ?_
   refine GoQ.pass rfl rfl rfl ?_
   refine GoQ.pass rfl rfl rfl ?_
   refine GoQ.pass rfl rfl rfl ?_
   refine GoQ.pass rfl rfl rfl ?_
   refine GoQ.pass rfl rfl rfl ?_
   refine GoQ.pass rfl rfl rfl ?_
   refine GoQ.pure rfl (op_pickF rfl rfl rfl) rfl rfl ?_
   refine GoQ.pure rfl (op_assign rfl) rfl rfl ?_
   refine GoQ.nil ?_
   refine Go1.ret1V Try.func68 rfl (show _ = .bool false from rfl) ?_
   refine hR283 _ _ ?_
   refine GoR.op ((op_assign rfl) _) rfl rfl ?_
   refine GoR.op ((op_assign rfl) _) rfl rfl ?_
   refine GoR.nil ?_
   replace ah := ah.ch (Owns.dropCh _ _ 0)
   replace ae := ae.ch (Owns.dropCh _ _ 0)
   replace ad := ad.ch (Owns.dropCh _ _ 0)
   replace ai := ai.ch (Owns.dropCh _ _ 0)
   replace af := af.ch (Owns.dropCh _ _ 0)
   replace ag := ag.ch (Owns.dropCh _ _ 0)
   replace dC := dC.ch (Owns.dropCh _ _ 0)
   replace dx := dx.ch (Owns.dropCh _ _ 0)
   replace dy := dy.ch (Owns.dropCh _ _ 0)
   replace dz := dz.ch (Owns.dropCh _ _ 0)
   replace dA := dA.ch (Owns.dropCh _ _ 0)
   replace dB := dB.ch (Owns.dropCh _ _ 0)
   replace dD := dD.ch (Owns.dropCh _ _ 0)
   replace dE := dE.ch (Owns.dropCh _ _ 0)
   replace dF := dF.ch (Owns.dropCh _ _ 0)
   replace hB := hB.trans (Owns.dropFr _ _ 0)
   replace hO := hO.drop 0
   dsimp only [eS, eZ] at hB hO ah ae ad ai af ag dC dx dy dz dA dB dD dE dF
   replace ah := ah.ch (Owns.dropCh _ _ 11)
   replace ae := ae.ch (Owns.dropCh _ _ 11)
   replace ad := ad.ch (Owns.dropCh _ _ 11)
   replace ai := ai.ch (Owns.dropCh _ _ 11)
   replace af := af.ch (Owns.dropCh _ _ 11)
   replace ag := ag.ch (Owns.dropCh _ _ 11)
   replace dC := dC.ch (Owns.dropCh _ _ 11)
   replace dx := dx.ch (Owns.dropCh _ _ 11)
   replace dy := dy.ch (Owns.dropCh _ _ 11)
   replace dz := dz.ch (Owns.dropCh _ _ 11)
   replace dA := dA.ch (Owns.dropCh _ _ 11)
   replace dB := dB.ch (Owns.dropCh _ _ 11)
   replace dD := dD.ch (Owns.dropCh _ _ 11)
   replace dE := dE.ch (Owns.dropCh _ _ 11)
   replace dF := dF.ch (Owns.dropCh _ _ 11)
   replace hB := hB.trans (Owns.dropFr _ _ 11)
   replace hO := hO.drop 11
   dsimp only [eS, eZ] at hB hO ah ae ad ai af ag dC dx dy dz dA dB dD dE dF
   refine Go1.ret2 Try.func53 rfl ?_
   exact Or.inr ⟨(⟨(⟨k4_203, b4_204, d_206, d_212, d_218, d_224, d_230, d_236, k4_205⟩ : Enum), m4_260, d_242, d_248, d_254⟩ : run), false, et, fe, ff, fh, gk, eW, eH, eI, ii, eX, eK, eM, ik, eY, eN, eO, io, e8, eP, eQ, ip, e9, eU, eV, iq, bC, fk, fm, fo, ir, fq, ft, fu, iu, fv, fw, fx, iv, rfl, hB.same, hO, dC, dx, dy, dz, dA, dB, dD, dE, dF, H⟩
  replace H := ifn zu H
  refine GoR.op ((fun w => opB (op_neq rfl rfl w) (ndF zu)) _) rfl rfl ?_
  refine GoR.nil ?_
  refine Go1.condT rfl rfl ?_
  refine Go1.seq ?_
  refine Go1.cut [] trivial ?_
  intro σ _
  refine Go1.region ?_
  refine GoR.op ((op_assign rfl) _) rfl rfl ?_
  refine GoR.op ((op_assign rfl) _) rfl rfl ?_
  refine GoR.nil ?_
  refine Go1.ret2 Try.func53 rfl ?_
  exact Or.inl ⟨false, rfl, hB.same, H⟩
theorem body29 : Body Try.prog 29 := ⟨Try.f29, Try.func29, rfl, by kernel_rfl⟩
theorem walk_enumerate_Word {A : List Nat} {w0 : World} {bp : Option Addr} {bq : Nat} {aO : Option Addr} {aP : Nat} {ar : Option Addr} {au : Nat} {bg : Option Addr} {bh : Nat} {aQ : Option Addr} {aR : Nat} {aS : Option Addr} {aT : Nat} {e : Enum} {i : Int} (hA : ∀ b ∈ A, b < w0.heap.size) (ah : ISl (Rp.sl (Rp.int .i64)) A w0 bp bq e.Gens) (ae : ISl (Rp.sl (Rp.int .i64)) A w0 aO aP e.Elems) (ad : ISl (Rp.int .i64) A w0 ar au e.Prefix) (ai : ISl (Rp.int .i64) A w0 bg bh e.Last) (af : ISl (Rp.sl (Rp.int .i64)) A w0 aQ aR e.Right) (ag : ISl (rpRule) A w0 aS aT e.Rules) {K : Str → Prop} (H : enumerate_Word e i K) :
    CallsV Try.prog 29 #[.agg #[.int .i64 e.Points, .bool e.Monoid, .slice bp e.Gens.length bq, .slice aO e.Elems.length aP, .slice ar e.Prefix.length au, .slice bg e.Last.length bh, .slice aQ e.Right.length aR, .slice aS e.Rules.length aT, .int .i64 e.Done], .int .i64 i] w0 (fun v w' => ∃ (r0 : Str), v = .string (gstr r0) ∧ Same w0 w' ∧ r0.length ≤ mx ∧ K r0) := by
 refine CallsV.of (l := [.agg #[.int .i64 e.Points, .bool e.Monoid, .slice bp e.Gens.length bq, .slice aO e.Elems.length aP, .slice ar e.Prefix.length au, .slice bg e.Last.length bh, .slice aQ e.Right.length aR, .slice aS e.Rules.length aT, .int .i64 e.Done], .int .i64 i]) Try.func29 rfl Try.ntmps29 rfl ?_
 have hO := Owns.start hA
 have hB := Fr.refl (bl []) w0
 unfold enumerate_Word at H
 replace ah := ah.ch (Ch.start A w0)
 replace ae := ae.ch (Ch.start A w0)
 replace ad := ad.ch (Ch.start A w0)
 replace ai := ai.ch (Ch.start A w0)
 replace af := af.ch (Ch.start A w0)
 replace ag := ag.ch (Ch.start A w0)
 refine Go1.seq ?_
 refine Go1.region ?_
 have hobt := obox (t := 29) (v := .agg #[.int .i64 e.Points, .bool e.Monoid, .slice bp e.Gens.length bq, .slice aO e.Elems.length aP, .slice ar e.Prefix.length au, .slice bg e.Last.length bh, .slice aQ e.Right.length aR, .slice aS e.Rules.length aT, .int .i64 e.Done]) (cs := #[.int .i64 e.Points, .bool e.Monoid, .slice bp e.Gens.length bq, .slice aO e.Elems.length aP, .slice ar e.Prefix.length au, .slice bg e.Last.length bh, .slice aQ e.Right.length aR, .slice aS e.Rules.length aT, .int .i64 e.Done]) hO rfl
 obtain ⟨w1, B2, jo, hs4, wl⟩ := hobt
 refine GoR.op (wl rfl) rfl rfl ?_
 replace hO := jo.own
 replace ah := ah.ch jo.ch
 replace ae := ae.ch jo.ch
 replace ad := ad.ch jo.ch
 replace ai := ai.ch jo.ch
 replace af := af.ch jo.ch
 replace ag := ag.ch jo.ch
 replace hB := hB.trans jo.fr
 refine GoR.op ((op_assign rfl) _) rfl rfl ?_
 refine GoR.nil ?_
 refine Go1.seq ?_
 refine Go1.region ?_
 refine GoR.op ((oblkAgg (vs := [.int .i64 e.Points, .bool e.Monoid, .slice bp e.Gens.length bq, .slice aO e.Elems.length aP, .slice ar e.Prefix.length au, .slice bg e.Last.length bh, .slice aQ e.Right.length aR, .slice aS e.Rules.length aT, .int .i64 e.Done]) (i := 0) 0 hO rfl rfl Try.underlying29 rfl ti29 rfl) _ (Same.refl _)) rfl rfl ?_
 refine GoR.call (op_call body53 rfl (walk_enumerate_replay (e := e) hO.lt ah ae ad ai af ag H)) rfl rfl ?_
 intro v9 w10 hcase13
 refine Or.elim hcase13 ?_ ?_
 ·refine exE fun r8 => andE fun hv14 => andE fun u9 => fun H => ?_
  subst hv14
  clear hcase13
  replace H := oElimN H
  have rS := Stp.same hO u9
  replace hO := rS.own
  replace ah := ah.ch rS.ch
  replace ae := ae.ch rS.ch
  replace ad := ad.ch rS.ch
  replace ai := ai.ch rS.ch
  replace af := af.ch rS.ch
  replace ag := ag.ch rS.ch
  replace hB := hB.trans rS.fr
  refine GoR.op ((op_move rfl) _) rfl rfl ?_
  refine GoR.op ((op_extract rfl rfl) _) rfl rfl ?_
  refine GoR.op ((op_extract rfl rfl) _) rfl rfl ?_
  refine GoR.op ((op_assign rfl) _) rfl rfl ?_
  refine GoR.op ((op_assign rfl) _) rfl rfl ?_
  refine GoR.nil ?_
  refine Go1.seq ?_
  refine Go1.seq ?_
  refine Go1.region ?_
  refine GoR.op ((op_move rfl) _) rfl rfl ?_
  cases r8
  ·replace H := ifn Bool.false_ne_true H
   refine GoR.op ((op_not rfl) _) rfl rfl ?_
   refine GoR.op ((op_move rfl) _) rfl rfl ?_
   refine GoR.pass rfl rfl ?_
   refine GoR.pass rfl rfl ?_
   refine GoR.op ((op_pickT rfl rfl rfl) _) rfl rfl ?_
   refine GoR.op ((op_move rfl) _) rfl rfl ?_
   refine GoR.pass rfl rfl ?_
   refine GoR.pass rfl rfl ?_
   refine GoR.pass rfl rfl ?_
   refine GoR.pass rfl rfl ?_
   refine GoR.pass rfl rfl ?_
   refine GoR.pass rfl rfl ?_
   refine GoR.pass rfl rfl ?_
   refine GoR.pass rfl rfl ?_
   refine GoR.op ((op_pickT rfl rfl rfl) _) rfl rfl ?_
   refine GoR.nil ?_
   refine Go1.condT rfl rfl ?_
   refine Go1.seq ?_
   refine Go1.cut [] trivial ?_
   intro σ _
   refine Go1.region ?_
   refine GoR.op ((op_assign rfl) _) rfl rfl ?_
   refine GoR.nil ?_
   refine Go1.ret1 Try.func29 rfl ?_
   exact ⟨([] : Str), rfl, hB.same, (by decide), H⟩
  replace H := ifp rfl H
  refine GoR.op ((op_not rfl) _) rfl rfl ?_
  refine GoR.op ((op_move rfl) _) rfl rfl ?_
  refine GoR.op ((op_move rfl) _) rfl rfl ?_
  by_cases h16 : i < (0 : Int)
  ·replace H := ifp h16 H
   refine GoR.op ((fun w => opB (op_lss rfl rfl w) (decide_eq_true h16)) _) rfl rfl ?_
   refine GoR.op ((op_pickF rfl rfl rfl) _) rfl rfl ?_
   refine GoR.op ((op_move rfl) _) rfl rfl ?_
   refine GoR.pass rfl rfl ?_
   refine GoR.pass rfl rfl ?_
   refine GoR.pass rfl rfl ?_
   refine GoR.pass rfl rfl ?_
   refine GoR.pass rfl rfl ?_
   refine GoR.pass rfl rfl ?_
   refine GoR.pass rfl rfl ?_
   refine GoR.pass rfl rfl ?_
   refine GoR.op ((op_pickT rfl rfl rfl) _) rfl rfl ?_
   refine GoR.nil ?_
   refine Go1.condT rfl rfl ?_
   refine Go1.seq ?_
   refine Go1.region ?_
   refine GoR.op ((op_assign rfl) _) rfl rfl ?_
   refine GoR.nil ?_
   refine Go1.ret1 Try.func29 rfl ?_
   exact ⟨([] : Str), rfl, hB.same, (by decide), H⟩
  replace H := ifn h16 H
  refine GoR.op ((fun w => opB (op_lss rfl rfl w) (decide_eq_false h16)) _) rfl rfl ?_
  refine GoR.op ((op_pickF rfl rfl rfl) _) rfl rfl ?_
  refine GoR.op ((op_move rfl) _) rfl rfl ?_
  refine GoR.op ((op_move rfl) _) rfl rfl ?_
  refine GoR.op ((op_move rfl) _) rfl rfl ?_
  exact H.elim
 ·refine exE fun r7 => exE fun r8 => exE fun lW => exE fun uv => exE fun uw => exE fun ux => exE fun tY => exE fun tZ => exE fun t0 => exE fun t3 => exE fun tH => exE fun tI => exE fun tJ => exE fun tK => exE fun tt => exE fun uy => exE fun uz => exE fun uA => exE fun t4 => exE fun t5 => exE fun t6 => exE fun t7 => exE fun tL => exE fun t8 => exE fun t9 => exE fun ua => exE fun tM => exE fun cF => exE fun wM => exE fun wN => exE fun wO => exE fun vP => exE fun vQ => exE fun vR => exE fun vS => exE fun va => exE fun vT => exE fun vU => exE fun vV => exE fun vb => andE fun hv17 => andE fun u9 => andE fun hN12 => andE fun gX => andE fun fL => andE fun fN => andE fun gY => andE fun gh => andE fun gi => andE fun gZ => andE fun jw => andE fun jx => fun H => ?_
  subst hv17
  clear hcase13
  replace H := oElimS H
  have rf := Stp.more hO u9 hN12
  dsimp only [List.cons_append, List.nil_append] at rf
  replace hO := rf.own
  replace ah := ah.ch rf.ch
  replace ae := ae.ch rf.ch
  replace ad := ad.ch rf.ch
  replace ai := ai.ch rf.ch
  replace af := af.ch rf.ch
  replace ag := ag.ch rf.ch
  replace hB := hB.trans rf.fr
  replace gX := gX.ch (Ch.assoc _ _ _ _)
  dsimp only [List.cons_append, List.nil_append] at gX
  replace fL := fL.ch (Ch.assoc _ _ _ _)
  dsimp only [List.cons_append, List.nil_append] at fL
  replace fN := fN.ch (Ch.assoc _ _ _ _)
  dsimp only [List.cons_append, List.nil_append] at fN
  replace gY := gY.ch (Ch.assoc _ _ _ _)
  dsimp only [List.cons_append, List.nil_append] at gY
  replace gh := gh.ch (Ch.assoc _ _ _ _)
  dsimp only [List.cons_append, List.nil_append] at gh
  replace gi := gi.ch (Ch.assoc _ _ _ _)
  dsimp only [List.cons_append, List.nil_append] at gi
  replace gZ := gZ.ch (Ch.assoc _ _ _ _)
  dsimp only [List.cons_append, List.nil_append] at gZ
  replace jw := jw.ch (Ch.assoc _ _ _ _)
  dsimp only [List.cons_append, List.nil_append] at jw
  replace jx := jx.ch (Ch.assoc _ _ _ _)
  dsimp only [List.cons_append, List.nil_append] at jx
  refine GoR.op ((op_move rfl) _) rfl rfl ?_
  refine GoR.op ((op_extract rfl rfl) _) rfl rfl ?_
  refine GoR.op ((op_extract rfl rfl) _) rfl rfl ?_
  refine GoR.op ((op_assign rfl) _) rfl rfl ?_
  refine GoR.op ((op_assign rfl) _) rfl rfl ?_
  refine GoR.nil ?_
  refine Go1.seq ?_
  refine Go1.seq ?_
  refine Go1.cut [(1, .int .i64 i), (5, .pointer (some ⟨lW, 0, none⟩)), (6, .bool r8)] ⟨rfl, rfl, rfl, trivial⟩ ?_
  intro σ _
  refine Go1.region ?_
  refine GoR.op ((op_move rfl) _) rfl rfl ?_
  cases r8
  ·replace H := ifn Bool.false_ne_true H
   refine GoR.op ((op_not rfl) _) rfl rfl ?_
   refine GoR.op ((op_move rfl) _) rfl rfl ?_
   refine GoR.pass rfl rfl ?_
   refine GoR.pass rfl rfl ?_
   refine GoR.op ((op_pickT rfl rfl rfl) _) rfl rfl ?_
   refine GoR.op ((op_move rfl) _) rfl rfl ?_
   refine GoR.pass rfl rfl ?_
   refine GoR.pass rfl rfl ?_
   refine GoR.pass rfl rfl ?_
   refine GoR.pass rfl rfl ?_
   refine GoR.pass rfl rfl ?_
   refine GoR.pass rfl rfl ?_
   refine GoR.pass rfl rfl ?_
   refine GoR.pass rfl rfl ?_
   refine GoR.op ((op_pickT rfl rfl rfl) _) rfl rfl ?_
   refine GoR.nil ?_
   refine Go1.condT rfl rfl ?_
   refine Go1.seq ?_
   refine Go1.region ?_
   refine GoR.op ((op_assign rfl) _) rfl rfl ?_
   refine GoR.nil ?_
   refine Go1.ret1 Try.func29 rfl ?_
   exact ⟨([] : Str), rfl, hB.same, (by decide), H⟩
  replace H := ifp rfl H
  refine GoR.op ((op_not rfl) _) rfl rfl ?_
  refine GoR.op ((op_move rfl) _) rfl rfl ?_
  refine GoR.op ((op_move rfl) _) rfl rfl ?_
  by_cases h30 : i < (0 : Int)
  ·replace H := ifp h30 H
   refine GoR.op ((fun w => opB (op_lss rfl rfl w) (decide_eq_true h30)) _) rfl rfl ?_
   refine GoR.op ((op_pickF rfl rfl rfl) _) rfl rfl ?_
   refine GoR.op ((op_move rfl) _) rfl rfl ?_
   refine GoR.pass rfl rfl ?_
   refine GoR.pass rfl rfl ?_
   refine GoR.pass rfl rfl ?_
   refine GoR.pass rfl rfl ?_
   refine GoR.pass rfl rfl ?_
   refine GoR.pass rfl rfl ?_
   refine GoR.pass rfl rfl ?_
   refine GoR.pass rfl rfl ?_
   refine GoR.op ((op_pickT rfl rfl rfl) _) rfl rfl ?_
   refine GoR.nil ?_
   refine Go1.condT rfl rfl ?_
   refine Go1.seq ?_
   refine Go1.cut [] trivial ?_
   intro σ _
   refine Go1.region ?_
   refine GoR.op ((op_assign rfl) _) rfl rfl ?_
   refine GoR.nil ?_
   refine Go1.ret1 Try.func29 rfl ?_
   exact ⟨([] : Str), rfl, hB.same, (by decide), H⟩
  replace H := ifn h30 H
  refine GoR.op ((fun w => opB (op_lss rfl rfl w) (decide_eq_false h30)) _) rfl rfl ?_
  refine GoR.op ((op_pickF rfl rfl rfl) _) rfl rfl ?_
  refine GoR.op ((op_move rfl) _) rfl rfl ?_
  refine GoR.op ((op_move rfl) _) rfl rfl ?_
  refine GoR.op ((op_move rfl) _) rfl rfl ?_
  refine GoR.op ((op_nilCheck rfl) _) rfl rfl ?_
  refine GoR.op ((op_fieldAddr Try.underlying72 rfl ti29 rfl (by decide)) _) rfl rfl ?_
  refine GoR.op ((op_fieldAddr Try.underlying29 rfl ti22 rfl (by decide)) _) rfl rfl ?_
  refine GoR.op ((oblk (i := 3) 0 hO rfl rfl Try.underlying22 rfl rfl) _ (Same.refl _)) rfl rfl ?_
  refine GoR.op ((op_lenN Try.underlying22 rfl (fL.neq hO 2 rfl)) _) rfl rfl ?_
  by_cases h31 : (r7.Enum.Elems.length : Int) ≤ i
  ·replace H := ifp h31 H
   refine GoR.op ((fun w => opB (op_geq rfl rfl w) (decide_eq_true h31)) _) rfl rfl ?_
   refine GoR.op ((op_pickF rfl rfl rfl) _) rfl rfl ?_
   refine GoR.nil ?_
   refine Go1.condT rfl rfl ?_
   refine Go1.seq ?_
   refine Go1.region ?_
   refine GoR.op ((op_assign rfl) _) rfl rfl ?_
   refine GoR.nil ?_
   refine Go1.ret1 Try.func29 rfl ?_
   exact ⟨([] : Str), rfl, hB.same, (by decide), H⟩
  replace H := ifn h31 H
  refine GoR.op ((fun w => opB (op_geq rfl rfl w) (decide_eq_false h31)) _) rfl rfl ?_
  refine GoR.op ((op_pickF rfl rfl rfl) _) rfl rfl ?_
  refine GoR.nil ?_
  refine Go1.condF rfl rfl ?_
  refine Go1.skip ?_
  refine Go1.seq ?_
  refine Go1.region ?_
  refine GoR.op ((op_move rfl) _) rfl rfl ?_
  refine GoR.op ((op_nilCheck rfl) _) rfl rfl ?_
  refine GoR.op ((op_fieldAddr Try.underlying72 rfl ti70 rfl (by decide)) _) rfl rfl ?_
  refine GoR.op ((oblk (i := 10) 0 hO rfl rfl Try.underlying70 rfl rfl) _ (Same.refl _)) rfl rfl ?_
  refine GoR.op ((op_move rfl) _) rfl rfl ?_
  obtain ⟨h32, H⟩ := H
  obtain ⟨h33, H⟩ := H
  refine GoR.op ((op_index Try.underlying70 ti9 rfl rfl h32 (ltn (gZ.neq hO 7 rfl) h33) (gZ.psome hO 7 rfl h32 h33)) _) rfl rfl ?_
  refine GoR.op ((oldStr 7 hO rfl gZ h32 h33 Try.underlying9 rfl rfl) _ (Same.refl _)) rfl rfl ?_
  have hle34 := Els.str_le gZ h32 h33
  refine GoR.op ((op_assign rfl) _) rfl rfl ?_
  refine GoR.nil ?_
  refine Go1.ret1 Try.func29 rfl ?_
  exact ⟨ix r7.words i, rfl, hB.same, hle34, H⟩
end Sg
