/- The walks: each call keeps to its plain transformer. Printed by walkgen.py. -/
import Derived.Test.YtjegjjdfgefkoaaTi
import Derived.Test.YtjegjjdfgefkoaaWEnumerateBuilds
import Derived.Test.YtjegjjdfgefkoaaWEnumerateBuildsb
namespace Sg
open Go Go.RowKit Go.Proofs
set_option linter.unusedVariables false
set_option linter.unusedSimpArgs false
set_option maxRecDepth 100000
set_option maxHeartbeats 4000000
theorem body68 : Body Try.prog 68 := ⟨Try.f68, Try.func68, rfl, by kernel_rfl⟩
theorem body53 : Body Try.prog 53 := ⟨Try.f53, Try.func53, rfl, by kernel_rfl⟩
theorem walk_enumerate_replay {A : List Nat} {w0 : World} {bi : Option Addr} {bj : Nat} {aE : Option Addr} {aF : Nat} {ak : Option Addr} {al : Nat} {aX : Option Addr} {aY : Nat} {aG : Option Addr} {aH : Nat} {aI : Option Addr} {aJ : Nat} {e : Enum} (hA : ∀ b ∈ A, b < w0.heap.size) (ah : ISl (Rp.sl (Rp.int .i64)) A w0 bi bj e.Gens) (ae : ISl (Rp.sl (Rp.int .i64)) A w0 aE aF e.Elems) (ac : ISl (Rp.int .i64) A w0 ak al e.Prefix) (ai : ISl (Rp.int .i64) A w0 aX aY e.Last) (af : ISl (Rp.sl (Rp.int .i64)) A w0 aG aH e.Right) (ag : ISl (rpRule) A w0 aI aJ e.Rules) {K : Option run → Bool → Prop} (H : enumerate_replay e K) :
    CallsV Try.prog 53 #[.agg #[.int .i64 e.Points, .bool e.Monoid, .slice bi e.Gens.length bj, .slice aE e.Elems.length aF, .slice ak e.Prefix.length al, .slice aX e.Last.length aY, .slice aG e.Right.length aH, .slice aI e.Rules.length aJ, .int .i64 e.Done]] w0 (fun v w' => (∃ (r1 : Bool), v = .tuple #[.pointer none, .bool r1] ∧ Same w0 w' ∧ K none r1) ∨ (∃ (q : run), ∃ (r1 : Bool), ∃ (b_q : Nat), ∃ (bk : Nat), ∃ (bm : Option Addr), ∃ (bn : Nat), ∃ (cx : List Value), ∃ (a5 : Nat), ∃ (a6 : Option Addr), ∃ (a7 : Nat), ∃ (cu : List Value), ∃ (aR : Nat), ∃ (aS : Option Addr), ∃ (aT : Nat), ∃ (cj : List Value), ∃ (bo : Nat), ∃ (bp : Option Addr), ∃ (bq : Nat), ∃ (cy : List Value), ∃ (a8 : Nat), ∃ (a9 : Option Addr), ∃ (ba : Nat), ∃ (cv : List Value), ∃ (bc : Nat), ∃ (bf : Option Addr), ∃ (bg : Nat), ∃ (cw : List Value), ∃ (cU : Nat), ∃ (co : Nat), ∃ (cp : Option Addr), ∃ (cq : Nat), ∃ (dn : List Value), ∃ (bY : Nat), ∃ (bZ : Option Addr), ∃ (b4 : Nat), ∃ (db : List Value), ∃ (b5 : Nat), ∃ (b6 : Option Addr), ∃ (b7 : Nat), ∃ (de : List Value), v = .tuple #[.pointer (some ⟨b_q, 0, none⟩), .bool r1] ∧ Same w0 w' ∧ Owns w0.heap.size w' [.blk b_q (.cells #[.int .i64 q.Enum.Points, .bool q.Enum.Monoid, .slice bm bk bn, .slice a6 a5 a7, .slice aS aR aT, .slice bp bo bq, .slice a9 a8 ba, .slice bf bc bg, .int .i64 q.Enum.Done, .map (some cU), .slice cp co cq, .slice bZ bY b4, .slice b6 b5 b7] 72 (0, 0)), .row 26 1 bm bk bn cx, .row 26 1 a6 a5 a7 cu, .row 3 1 aS aR aT cj, .row 3 1 bp bo bq cy, .row 26 1 a9 a8 ba cv, .row 39 2 bf bc bg cw, .row 9 1 cp co cq dn, .row 3 1 bZ bY b4 db, .row 3 1 b6 b5 b7 de, .any (mapE (fun a : List UInt8 => Value.string (gstr a)) (fun a : Int => Value.int .i64 a) cU q.number)] A ∧ Els (Rp.sl (Rp.int .i64)) (bl [.blk b_q (.cells #[.int .i64 q.Enum.Points, .bool q.Enum.Monoid, .slice bm bk bn, .slice a6 a5 a7, .slice aS aR aT, .slice bp bo bq, .slice a9 a8 ba, .slice bf bc bg, .int .i64 q.Enum.Done, .map (some cU), .slice cp co cq, .slice bZ bY b4, .slice b6 b5 b7] 72 (0, 0)), .row 26 1 bm bk bn cx, .row 26 1 a6 a5 a7 cu, .row 3 1 aS aR aT cj, .row 3 1 bp bo bq cy, .row 26 1 a9 a8 ba cv, .row 39 2 bf bc bg cw, .row 9 1 cp co cq dn, .row 3 1 bZ bY b4 db, .row 3 1 b6 b5 b7 de, .any (mapE (fun a : List UInt8 => Value.string (gstr a)) (fun a : Int => Value.int .i64 a) cU q.number)] ++ A) w' cx q.Enum.Gens ∧ Els (Rp.sl (Rp.int .i64)) (bl [.blk b_q (.cells #[.int .i64 q.Enum.Points, .bool q.Enum.Monoid, .slice bm bk bn, .slice a6 a5 a7, .slice aS aR aT, .slice bp bo bq, .slice a9 a8 ba, .slice bf bc bg, .int .i64 q.Enum.Done, .map (some cU), .slice cp co cq, .slice bZ bY b4, .slice b6 b5 b7] 72 (0, 0)), .row 26 1 bm bk bn cx, .row 26 1 a6 a5 a7 cu, .row 3 1 aS aR aT cj, .row 3 1 bp bo bq cy, .row 26 1 a9 a8 ba cv, .row 39 2 bf bc bg cw, .row 9 1 cp co cq dn, .row 3 1 bZ bY b4 db, .row 3 1 b6 b5 b7 de, .any (mapE (fun a : List UInt8 => Value.string (gstr a)) (fun a : Int => Value.int .i64 a) cU q.number)] ++ A) w' cu q.Enum.Elems ∧ Els (Rp.int .i64) (bl [.blk b_q (.cells #[.int .i64 q.Enum.Points, .bool q.Enum.Monoid, .slice bm bk bn, .slice a6 a5 a7, .slice aS aR aT, .slice bp bo bq, .slice a9 a8 ba, .slice bf bc bg, .int .i64 q.Enum.Done, .map (some cU), .slice cp co cq, .slice bZ bY b4, .slice b6 b5 b7] 72 (0, 0)), .row 26 1 bm bk bn cx, .row 26 1 a6 a5 a7 cu, .row 3 1 aS aR aT cj, .row 3 1 bp bo bq cy, .row 26 1 a9 a8 ba cv, .row 39 2 bf bc bg cw, .row 9 1 cp co cq dn, .row 3 1 bZ bY b4 db, .row 3 1 b6 b5 b7 de, .any (mapE (fun a : List UInt8 => Value.string (gstr a)) (fun a : Int => Value.int .i64 a) cU q.number)] ++ A) w' cj q.Enum.Prefix ∧ Els (Rp.int .i64) (bl [.blk b_q (.cells #[.int .i64 q.Enum.Points, .bool q.Enum.Monoid, .slice bm bk bn, .slice a6 a5 a7, .slice aS aR aT, .slice bp bo bq, .slice a9 a8 ba, .slice bf bc bg, .int .i64 q.Enum.Done, .map (some cU), .slice cp co cq, .slice bZ bY b4, .slice b6 b5 b7] 72 (0, 0)), .row 26 1 bm bk bn cx, .row 26 1 a6 a5 a7 cu, .row 3 1 aS aR aT cj, .row 3 1 bp bo bq cy, .row 26 1 a9 a8 ba cv, .row 39 2 bf bc bg cw, .row 9 1 cp co cq dn, .row 3 1 bZ bY b4 db, .row 3 1 b6 b5 b7 de, .any (mapE (fun a : List UInt8 => Value.string (gstr a)) (fun a : Int => Value.int .i64 a) cU q.number)] ++ A) w' cy q.Enum.Last ∧ Els (Rp.sl (Rp.int .i64)) (bl [.blk b_q (.cells #[.int .i64 q.Enum.Points, .bool q.Enum.Monoid, .slice bm bk bn, .slice a6 a5 a7, .slice aS aR aT, .slice bp bo bq, .slice a9 a8 ba, .slice bf bc bg, .int .i64 q.Enum.Done, .map (some cU), .slice cp co cq, .slice bZ bY b4, .slice b6 b5 b7] 72 (0, 0)), .row 26 1 bm bk bn cx, .row 26 1 a6 a5 a7 cu, .row 3 1 aS aR aT cj, .row 3 1 bp bo bq cy, .row 26 1 a9 a8 ba cv, .row 39 2 bf bc bg cw, .row 9 1 cp co cq dn, .row 3 1 bZ bY b4 db, .row 3 1 b6 b5 b7 de, .any (mapE (fun a : List UInt8 => Value.string (gstr a)) (fun a : Int => Value.int .i64 a) cU q.number)] ++ A) w' cv q.Enum.Right ∧ Els (rpRule) (bl [.blk b_q (.cells #[.int .i64 q.Enum.Points, .bool q.Enum.Monoid, .slice bm bk bn, .slice a6 a5 a7, .slice aS aR aT, .slice bp bo bq, .slice a9 a8 ba, .slice bf bc bg, .int .i64 q.Enum.Done, .map (some cU), .slice cp co cq, .slice bZ bY b4, .slice b6 b5 b7] 72 (0, 0)), .row 26 1 bm bk bn cx, .row 26 1 a6 a5 a7 cu, .row 3 1 aS aR aT cj, .row 3 1 bp bo bq cy, .row 26 1 a9 a8 ba cv, .row 39 2 bf bc bg cw, .row 9 1 cp co cq dn, .row 3 1 bZ bY b4 db, .row 3 1 b6 b5 b7 de, .any (mapE (fun a : List UInt8 => Value.string (gstr a)) (fun a : Int => Value.int .i64 a) cU q.number)] ++ A) w' cw q.Enum.Rules ∧ Els (Rp.str) (bl [.blk b_q (.cells #[.int .i64 q.Enum.Points, .bool q.Enum.Monoid, .slice bm bk bn, .slice a6 a5 a7, .slice aS aR aT, .slice bp bo bq, .slice a9 a8 ba, .slice bf bc bg, .int .i64 q.Enum.Done, .map (some cU), .slice cp co cq, .slice bZ bY b4, .slice b6 b5 b7] 72 (0, 0)), .row 26 1 bm bk bn cx, .row 26 1 a6 a5 a7 cu, .row 3 1 aS aR aT cj, .row 3 1 bp bo bq cy, .row 26 1 a9 a8 ba cv, .row 39 2 bf bc bg cw, .row 9 1 cp co cq dn, .row 3 1 bZ bY b4 db, .row 3 1 b6 b5 b7 de, .any (mapE (fun a : List UInt8 => Value.string (gstr a)) (fun a : Int => Value.int .i64 a) cU q.number)] ++ A) w' dn q.words ∧ Els (Rp.int .i64) (bl [.blk b_q (.cells #[.int .i64 q.Enum.Points, .bool q.Enum.Monoid, .slice bm bk bn, .slice a6 a5 a7, .slice aS aR aT, .slice bp bo bq, .slice a9 a8 ba, .slice bf bc bg, .int .i64 q.Enum.Done, .map (some cU), .slice cp co cq, .slice bZ bY b4, .slice b6 b5 b7] 72 (0, 0)), .row 26 1 bm bk bn cx, .row 26 1 a6 a5 a7 cu, .row 3 1 aS aR aT cj, .row 3 1 bp bo bq cy, .row 26 1 a9 a8 ba cv, .row 39 2 bf bc bg cw, .row 9 1 cp co cq dn, .row 3 1 bZ bY b4 db, .row 3 1 b6 b5 b7 de, .any (mapE (fun a : List UInt8 => Value.string (gstr a)) (fun a : Int => Value.int .i64 a) cU q.number)] ++ A) w' db q.behind ∧ Els (Rp.int .i64) (bl [.blk b_q (.cells #[.int .i64 q.Enum.Points, .bool q.Enum.Monoid, .slice bm bk bn, .slice a6 a5 a7, .slice aS aR aT, .slice bp bo bq, .slice a9 a8 ba, .slice bf bc bg, .int .i64 q.Enum.Done, .map (some cU), .slice cp co cq, .slice bZ bY b4, .slice b6 b5 b7] 72 (0, 0)), .row 26 1 bm bk bn cx, .row 26 1 a6 a5 a7 cu, .row 3 1 aS aR aT cj, .row 3 1 bp bo bq cy, .row 26 1 a9 a8 ba cv, .row 39 2 bf bc bg cw, .row 9 1 cp co cq dn, .row 3 1 bZ bY b4 db, .row 3 1 b6 b5 b7 de, .any (mapE (fun a : List UInt8 => Value.string (gstr a)) (fun a : Int => Value.int .i64 a) cU q.number)] ++ A) w' de q.single ∧ K (some q) r1)) := by
 refine CallsV.of (l := [.agg #[.int .i64 e.Points, .bool e.Monoid, .slice bi e.Gens.length bj, .slice aE e.Elems.length aF, .slice ak e.Prefix.length al, .slice aX e.Last.length aY, .slice aG e.Right.length aH, .slice aI e.Rules.length aJ, .int .i64 e.Done]]) Try.func53 rfl Try.ntmps53 rfl ?_
 have hO := Owns.start hA
 have hB := Fr.refl (bl []) w0
 unfold enumerate_replay at H
 replace ah := ah.ch (Ch.start A w0)
 replace ae := ae.ch (Ch.start A w0)
 replace ac := ac.ch (Ch.start A w0)
 replace ai := ai.ch (Ch.start A w0)
 replace af := af.ch (Ch.start A w0)
 replace ag := ag.ch (Ch.start A w0)
 refine Go1.seq ?_
 refine Go1.region ?_
 have hobt := obox (t := 29) (v := .agg #[.int .i64 e.Points, .bool e.Monoid, .slice bi e.Gens.length bj, .slice aE e.Elems.length aF, .slice ak e.Prefix.length al, .slice aX e.Last.length aY, .slice aG e.Right.length aH, .slice aI e.Rules.length aJ, .int .i64 e.Done]) (cs := #[.int .i64 e.Points, .bool e.Monoid, .slice bi e.Gens.length bj, .slice aE e.Elems.length aF, .slice ak e.Prefix.length al, .slice aX e.Last.length aY, .slice aG e.Right.length aH, .slice aI e.Rules.length aJ, .int .i64 e.Done]) hO rfl
 obtain ⟨w1, B2, gs, hs4, uF⟩ := hobt
 refine GoR.op (uF rfl) rfl rfl ?_
 replace hO := gs.own
 replace ah := ah.ch gs.ch
 replace ae := ae.ch gs.ch
 replace ac := ac.ch gs.ch
 replace ai := ai.ch gs.ch
 replace af := af.ch gs.ch
 replace ag := ag.ch gs.ch
 replace hB := hB.trans gs.fr
 refine GoR.op ((op_assign rfl) _) rfl rfl ?_
 refine GoR.op ((op_assign rfl) _) rfl rfl ?_
 refine GoR.nil ?_
 refine Go1.seq ?_
 refine Go1.region ?_
 refine GoR.op ((op_fieldAddr Try.underlying29 rfl ti22 rfl (by decide)) _) rfl rfl ?_
 refine GoR.op ((oblk (i := 2) 0 hO rfl rfl Try.underlying22 rfl rfl) _ (Same.refl _)) rfl rfl ?_
 refine GoR.op ((op_fieldAddr Try.underlying29 rfl ti4 rfl (by decide)) _) rfl rfl ?_
 by_cases h7 : e.Monoid = true
 ·replace H := ifp h7 H
  refine GoR.op (opB ((oblk (i := 1) 0 hO rfl rfl Try.underlying4 rfl rfl) _ (Same.refl _)) (h7)) rfl rfl ?_
  refine GoR.call (op_call body49 rfl (walk_enumerate_begin hO.lt ah H)) rfl rfl ?_
  intro v10 w11 hcase14
  refine Or.elim hcase14 ?_ ?_
  ·refine exE fun r9 => andE fun hv15 => andE fun xR => fun H => ?_
   subst hv15
   clear hcase14
   replace H := oElimN H
   have uf := Stp.same hO xR
   replace hO := uf.own
   replace ah := ah.ch uf.ch
   replace ae := ae.ch uf.ch
   replace ac := ac.ch uf.ch
   replace ai := ai.ch uf.ch
   replace af := af.ch uf.ch
   replace ag := ag.ch uf.ch
   replace hB := hB.trans uf.fr
   refine GoR.op ((op_move rfl) _) rfl rfl ?_
   refine GoR.op ((op_extract rfl rfl) _) rfl rfl ?_
   refine GoR.op ((op_extract rfl rfl) _) rfl rfl ?_
   refine GoR.op ((op_assign rfl) _) rfl rfl ?_
   refine GoR.op ((op_assign rfl) _) rfl rfl ?_
   refine GoR.nil ?_
   refine Go1.seq ?_
   refine Go1.seq ?_
   refine Go1.region ?_
   refine GoR.op ((op_move rfl) _) rfl rfl ?_
   by_cases h17 : r9 = (0 : Int)
   ·replace H := ifp h17 H
    refine GoR.op ((fun w => opB (op_neq rfl rfl w) (ndT h17)) _) rfl rfl ?_
    refine GoR.nil ?_
    refine Go1.condF rfl rfl ?_
    refine Go1.skip ?_
    refine Go1.seq ?_
    refine Go1.block ?_
    refine Go1.loopW (S := Unit) (fun s σ w => agrees σ [(1, .pointer (some ⟨B2, 0, none⟩)), (4, .pointer none)] ∧ Owns w0.heap.size w [.blk B2 (.cells #[.int .i64 e.Points, .bool e.Monoid, .slice bi e.Gens.length bj, .slice aE e.Elems.length aF, .slice ak e.Prefix.length al, .slice aX e.Last.length aY, .slice aG e.Right.length aH, .slice aI e.Rules.length aJ, .int .i64 e.Done] 29 (0, 0))] A ∧ ISl (Rp.sl (Rp.int .i64)) (bl [.blk B2 (.cells #[.int .i64 e.Points, .bool e.Monoid, .slice bi e.Gens.length bj, .slice aE e.Elems.length aF, .slice ak e.Prefix.length al, .slice aX e.Last.length aY, .slice aG e.Right.length aH, .slice aI e.Rules.length aJ, .int .i64 e.Done] 29 (0, 0))] ++ A) w bi bj e.Gens ∧ ISl (Rp.sl (Rp.int .i64)) (bl [.blk B2 (.cells #[.int .i64 e.Points, .bool e.Monoid, .slice bi e.Gens.length bj, .slice aE e.Elems.length aF, .slice ak e.Prefix.length al, .slice aX e.Last.length aY, .slice aG e.Right.length aH, .slice aI e.Rules.length aJ, .int .i64 e.Done] 29 (0, 0))] ++ A) w aE aF e.Elems ∧ ISl (Rp.int .i64) (bl [.blk B2 (.cells #[.int .i64 e.Points, .bool e.Monoid, .slice bi e.Gens.length bj, .slice aE e.Elems.length aF, .slice ak e.Prefix.length al, .slice aX e.Last.length aY, .slice aG e.Right.length aH, .slice aI e.Rules.length aJ, .int .i64 e.Done] 29 (0, 0))] ++ A) w ak al e.Prefix ∧ ISl (Rp.int .i64) (bl [.blk B2 (.cells #[.int .i64 e.Points, .bool e.Monoid, .slice bi e.Gens.length bj, .slice aE e.Elems.length aF, .slice ak e.Prefix.length al, .slice aX e.Last.length aY, .slice aG e.Right.length aH, .slice aI e.Rules.length aJ, .int .i64 e.Done] 29 (0, 0))] ++ A) w aX aY e.Last ∧ ISl (Rp.sl (Rp.int .i64)) (bl [.blk B2 (.cells #[.int .i64 e.Points, .bool e.Monoid, .slice bi e.Gens.length bj, .slice aE e.Elems.length aF, .slice ak e.Prefix.length al, .slice aX e.Last.length aY, .slice aG e.Right.length aH, .slice aI e.Rules.length aJ, .int .i64 e.Done] 29 (0, 0))] ++ A) w aG aH e.Right ∧ ISl (rpRule) (bl [.blk B2 (.cells #[.int .i64 e.Points, .bool e.Monoid, .slice bi e.Gens.length bj, .slice aE e.Elems.length aF, .slice ak e.Prefix.length al, .slice aX e.Last.length aY, .slice aG e.Right.length aH, .slice aI e.Rules.length aJ, .int .i64 e.Done] 29 (0, 0))] ++ A) w aI aJ e.Rules ∧ Fr (bl []) w0 (bl [.blk B2 (.cells #[.int .i64 e.Points, .bool e.Monoid, .slice bi e.Gens.length bj, .slice aE e.Elems.length aF, .slice ak e.Prefix.length al, .slice aX e.Last.length aY, .slice aG e.Right.length aH, .slice aI e.Rules.length aJ, .int .i64 e.Done] 29 (0, 0))]) w) H ⟨⟨rfl, rfl, trivial⟩, hO, ah, ae, ac, ai, af, ag, hB⟩ ?_
    intro X1 _
    intro H hX1 σ w18
    refine andE fun hag => andE fun hO => andE fun ah => andE fun ae => andE fun ac => andE fun ai => andE fun af => andE fun ag => fun hB => ?_
    refine Go1.keep [(1, .pointer (some ⟨B2, 0, none⟩)), (4, .pointer none)] hag ?_
    refine Go1.seq ?_
    refine Go1.seq ?_
    refine Go1.drawS 0 [(0, .pure), (1, .pure), (2, .pure), (3, .pure), (4, .stable), (5, .pure), (6, .stable), (7, .pure)] mixed (by kernel_rfl) ?_
    intro w19 AO
    have lz := Stp.same hO AO
    replace hO := lz.own
    replace ah := ah.ch lz.ch
    replace ae := ae.ch lz.ch
    replace ac := ac.ch lz.ch
    replace ai := ai.ch lz.ch
    replace af := af.ch lz.ch
    replace ag := ag.ch lz.ch
    replace hB := hB.trans lz.fr
    refine GoQ.pure rfl (op_move rfl) rfl rfl ?_
    exact H.elim
   replace H := ifn h17 H
   refine GoR.op ((fun w => opB (op_neq rfl rfl w) (ndF h17)) _) rfl rfl ?_
   refine GoR.nil ?_
   refine Go1.condT rfl rfl ?_
   refine Go1.seq ?_
   refine Go1.region ?_
   refine GoR.op ((op_assign rfl) _) rfl rfl ?_
   refine GoR.op ((op_assign rfl) _) rfl rfl ?_
   refine GoR.nil ?_
   refine Go1.ret2 Try.func53 rfl ?_
   exact Or.inl ⟨false, rfl, hB.same, H⟩
  ·refine exE fun r8 => exE fun r9 => exE fun iK => exE fun xh => exE fun xi => exE fun xj => exE fun wH => exE fun wI => exE fun wJ => exE fun wK => exE fun we => exE fun wg => exE fun wh => exE fun wi => exE fun vC => exE fun xk => exE fun xl => exE fun xm => exE fun wL => exE fun wM => exE fun wN => exE fun wO => exE fun wj => exE fun wP => exE fun wQ => exE fun wR => exE fun wk => exE fun bX => exE fun zi => exE fun zj => exE fun zk => exE fun yh => exE fun yi => exE fun yj => exE fun yk => exE fun x8 => exE fun yl => exE fun ym => exE fun yn => exE fun x9 => andE fun hv22 => andE fun xR => andE fun hN13 => andE fun qG => andE fun pc => andE fun ob => andE fun qH => andE fun pe => andE fun pg => andE fun tt => andE fun sx => andE fun sy => fun H => ?_
   subst hv22
   clear hcase14
   replace H := oElimS H
   have jl := Stp.more hO xR hN13
   dsimp only [List.cons_append, List.nil_append] at jl
   replace hO := jl.own
   replace ah := ah.ch jl.ch
   replace ae := ae.ch jl.ch
   replace ac := ac.ch jl.ch
   replace ai := ai.ch jl.ch
   replace af := af.ch jl.ch
   replace ag := ag.ch jl.ch
   replace hB := hB.trans jl.fr
   replace qG := qG.ch (Ch.assoc _ _ _ _)
   dsimp only [List.cons_append, List.nil_append] at qG
   replace pc := pc.ch (Ch.assoc _ _ _ _)
   dsimp only [List.cons_append, List.nil_append] at pc
   replace ob := ob.ch (Ch.assoc _ _ _ _)
   dsimp only [List.cons_append, List.nil_append] at ob
   replace qH := qH.ch (Ch.assoc _ _ _ _)
   dsimp only [List.cons_append, List.nil_append] at qH
   replace pe := pe.ch (Ch.assoc _ _ _ _)
   dsimp only [List.cons_append, List.nil_append] at pe
   replace pg := pg.ch (Ch.assoc _ _ _ _)
   dsimp only [List.cons_append, List.nil_append] at pg
   replace tt := tt.ch (Ch.assoc _ _ _ _)
   dsimp only [List.cons_append, List.nil_append] at tt
   replace sx := sx.ch (Ch.assoc _ _ _ _)
   dsimp only [List.cons_append, List.nil_append] at sx
   replace sy := sy.ch (Ch.assoc _ _ _ _)
   dsimp only [List.cons_append, List.nil_append] at sy
   refine GoR.op ((op_move rfl) _) rfl rfl ?_
   refine GoR.op ((op_extract rfl rfl) _) rfl rfl ?_
   refine GoR.op ((op_extract rfl rfl) _) rfl rfl ?_
   refine GoR.op ((op_assign rfl) _) rfl rfl ?_
   refine GoR.op ((op_assign rfl) _) rfl rfl ?_
   refine GoR.nil ?_
   refine Go1.seq ?_
   refine Go1.seq ?_
   refine Go1.region ?_
   refine GoR.op ((op_move rfl) _) rfl rfl ?_
   by_cases h35 : r9 = (0 : Int)
   ·replace H := ifp h35 H
    refine GoR.op ((fun w => opB (op_neq rfl rfl w) (ndT h35)) _) rfl rfl ?_
    refine GoR.nil ?_
    refine Go1.condF rfl rfl ?_
    refine Go1.skip ?_
    refine Go1.seq ?_
    refine Go1.block ?_
    refine Go1.loopW (S := Int × Bool × Int × List (List Int) × List (List Int) × List Int × List Int × List (List Int) × List Rule × List Str × List Int × List Int × (List (Str × Int))) (fun s σ w => match s with | (k2_37, b2_38, k2_39, d_40, d_46, d_52, d_58, d_64, d_70, d_76, d_82, d_88, m2_94) => ∃ (n45 : Nat), ∃ (p43 : Option Addr), ∃ (c44 : Nat), ∃ (e8 : List Value), ∃ (n51 : Nat), ∃ (p49 : Option Addr), ∃ (c50 : Nat), ∃ (e9 : List Value), ∃ (n57 : Nat), ∃ (p55 : Option Addr), ∃ (c56 : Nat), ∃ (jN : List Value), ∃ (n63 : Nat), ∃ (p61 : Option Addr), ∃ (c62 : Nat), ∃ (jO : List Value), ∃ (n69 : Nat), ∃ (p67 : Option Addr), ∃ (c68 : Nat), ∃ (jP : List Value), ∃ (n75 : Nat), ∃ (p73 : Option Addr), ∃ (c74 : Nat), ∃ (jQ : List Value), ∃ (n81 : Nat), ∃ (p79 : Option Addr), ∃ (c80 : Nat), ∃ (jR : List Value), ∃ (n87 : Nat), ∃ (p85 : Option Addr), ∃ (c86 : Nat), ∃ (jS : List Value), ∃ (n93 : Nat), ∃ (p91 : Option Addr), ∃ (c92 : Nat), ∃ (jT : List Value), agrees σ [(1, .pointer (some ⟨B2, 0, none⟩)), (4, .pointer (some ⟨iK, 0, none⟩))] ∧ Owns w0.heap.size w [.blk iK (.cells #[.int .i64 k2_37, .bool b2_38, .slice p43 n45 c44, .slice p49 n51 c50, .slice p55 n57 c56, .slice p61 n63 c62, .slice p67 n69 c68, .slice p73 n75 c74, .int .i64 k2_39, .map (some bX), .slice p79 n81 c80, .slice p85 n87 c86, .slice p91 n93 c92] 72 (0, 0)), .row 26 1 p43 n45 c44 e8, .row 26 1 p49 n51 c50 e9, .row 3 1 p55 n57 c56 jN, .row 3 1 p61 n63 c62 jO, .row 26 1 p67 n69 c68 jP, .row 39 2 p73 n75 c74 jQ, .row 9 1 p79 n81 c80 jR, .row 3 1 p85 n87 c86 jS, .row 3 1 p91 n93 c92 jT, .any (mapE (fun a : List UInt8 => Value.string (gstr a)) (fun a : Int => Value.int .i64 a) bX m2_94), .blk B2 (.cells #[.int .i64 e.Points, .bool e.Monoid, .slice bi e.Gens.length bj, .slice aE e.Elems.length aF, .slice ak e.Prefix.length al, .slice aX e.Last.length aY, .slice aG e.Right.length aH, .slice aI e.Rules.length aJ, .int .i64 e.Done] 29 (0, 0))] A ∧ Els (Rp.sl (Rp.int .i64)) (bl [.blk iK (.cells #[.int .i64 k2_37, .bool b2_38, .slice p43 n45 c44, .slice p49 n51 c50, .slice p55 n57 c56, .slice p61 n63 c62, .slice p67 n69 c68, .slice p73 n75 c74, .int .i64 k2_39, .map (some bX), .slice p79 n81 c80, .slice p85 n87 c86, .slice p91 n93 c92] 72 (0, 0)), .row 26 1 p43 n45 c44 e8, .row 26 1 p49 n51 c50 e9, .row 3 1 p55 n57 c56 jN, .row 3 1 p61 n63 c62 jO, .row 26 1 p67 n69 c68 jP, .row 39 2 p73 n75 c74 jQ, .row 9 1 p79 n81 c80 jR, .row 3 1 p85 n87 c86 jS, .row 3 1 p91 n93 c92 jT, .any (mapE (fun a : List UInt8 => Value.string (gstr a)) (fun a : Int => Value.int .i64 a) bX m2_94), .blk B2 (.cells #[.int .i64 e.Points, .bool e.Monoid, .slice bi e.Gens.length bj, .slice aE e.Elems.length aF, .slice ak e.Prefix.length al, .slice aX e.Last.length aY, .slice aG e.Right.length aH, .slice aI e.Rules.length aJ, .int .i64 e.Done] 29 (0, 0))] ++ A) w e8 d_40 ∧ Els (Rp.sl (Rp.int .i64)) (bl [.blk iK (.cells #[.int .i64 k2_37, .bool b2_38, .slice p43 n45 c44, .slice p49 n51 c50, .slice p55 n57 c56, .slice p61 n63 c62, .slice p67 n69 c68, .slice p73 n75 c74, .int .i64 k2_39, .map (some bX), .slice p79 n81 c80, .slice p85 n87 c86, .slice p91 n93 c92] 72 (0, 0)), .row 26 1 p43 n45 c44 e8, .row 26 1 p49 n51 c50 e9, .row 3 1 p55 n57 c56 jN, .row 3 1 p61 n63 c62 jO, .row 26 1 p67 n69 c68 jP, .row 39 2 p73 n75 c74 jQ, .row 9 1 p79 n81 c80 jR, .row 3 1 p85 n87 c86 jS, .row 3 1 p91 n93 c92 jT, .any (mapE (fun a : List UInt8 => Value.string (gstr a)) (fun a : Int => Value.int .i64 a) bX m2_94), .blk B2 (.cells #[.int .i64 e.Points, .bool e.Monoid, .slice bi e.Gens.length bj, .slice aE e.Elems.length aF, .slice ak e.Prefix.length al, .slice aX e.Last.length aY, .slice aG e.Right.length aH, .slice aI e.Rules.length aJ, .int .i64 e.Done] 29 (0, 0))] ++ A) w e9 d_46 ∧ Els (Rp.int .i64) (bl [.blk iK (.cells #[.int .i64 k2_37, .bool b2_38, .slice p43 n45 c44, .slice p49 n51 c50, .slice p55 n57 c56, .slice p61 n63 c62, .slice p67 n69 c68, .slice p73 n75 c74, .int .i64 k2_39, .map (some bX), .slice p79 n81 c80, .slice p85 n87 c86, .slice p91 n93 c92] 72 (0, 0)), .row 26 1 p43 n45 c44 e8, .row 26 1 p49 n51 c50 e9, .row 3 1 p55 n57 c56 jN, .row 3 1 p61 n63 c62 jO, .row 26 1 p67 n69 c68 jP, .row 39 2 p73 n75 c74 jQ, .row 9 1 p79 n81 c80 jR, .row 3 1 p85 n87 c86 jS, .row 3 1 p91 n93 c92 jT, .any (mapE (fun a : List UInt8 => Value.string (gstr a)) (fun a : Int => Value.int .i64 a) bX m2_94), .blk B2 (.cells #[.int .i64 e.Points, .bool e.Monoid, .slice bi e.Gens.length bj, .slice aE e.Elems.length aF, .slice ak e.Prefix.length al, .slice aX e.Last.length aY, .slice aG e.Right.length aH, .slice aI e.Rules.length aJ, .int .i64 e.Done] 29 (0, 0))] ++ A) w jN d_52 ∧ Els (Rp.int .i64) (bl [.blk iK (.cells #[.int .i64 k2_37, .bool b2_38, .slice p43 n45 c44, .slice p49 n51 c50, .slice p55 n57 c56, .slice p61 n63 c62, .slice p67 n69 c68, .slice p73 n75 c74, .int .i64 k2_39, .map (some bX), .slice p79 n81 c80, .slice p85 n87 c86, .slice p91 n93 c92] 72 (0, 0)), .row 26 1 p43 n45 c44 e8, .row 26 1 p49 n51 c50 e9, .row 3 1 p55 n57 c56 jN, .row 3 1 p61 n63 c62 jO, .row 26 1 p67 n69 c68 jP, .row 39 2 p73 n75 c74 jQ, .row 9 1 p79 n81 c80 jR, .row 3 1 p85 n87 c86 jS, .row 3 1 p91 n93 c92 jT, .any (mapE (fun a : List UInt8 => Value.string (gstr a)) (fun a : Int => Value.int .i64 a) bX m2_94), .blk B2 (.cells #[.int .i64 e.Points, .bool e.Monoid, .slice bi e.Gens.length bj, .slice aE e.Elems.length aF, .slice ak e.Prefix.length al, .slice aX e.Last.length aY, .slice aG e.Right.length aH, .slice aI e.Rules.length aJ, .int .i64 e.Done] 29 (0, 0))] ++ A) w jO d_58 ∧ Els (Rp.sl (Rp.int .i64)) (bl [.blk iK (.cells #[.int .i64 k2_37, .bool b2_38, .slice p43 n45 c44, .slice p49 n51 c50, .slice p55 n57 c56, .slice p61 n63 c62, .slice p67 n69 c68, .slice p73 n75 c74, .int .i64 k2_39, .map (some bX), .slice p79 n81 c80, .slice p85 n87 c86, .slice p91 n93 c92] 72 (0, 0)), .row 26 1 p43 n45 c44 e8, .row 26 1 p49 n51 c50 e9, .row 3 1 p55 n57 c56 jN, .row 3 1 p61 n63 c62 jO, .row 26 1 p67 n69 c68 jP, .row 39 2 p73 n75 c74 jQ, .row 9 1 p79 n81 c80 jR, .row 3 1 p85 n87 c86 jS, .row 3 1 p91 n93 c92 jT, .any (mapE (fun a : List UInt8 => Value.string (gstr a)) (fun a : Int => Value.int .i64 a) bX m2_94), .blk B2 (.cells #[.int .i64 e.Points, .bool e.Monoid, .slice bi e.Gens.length bj, .slice aE e.Elems.length aF, .slice ak e.Prefix.length al, .slice aX e.Last.length aY, .slice aG e.Right.length aH, .slice aI e.Rules.length aJ, .int .i64 e.Done] 29 (0, 0))] ++ A) w jP d_64 ∧ Els (rpRule) (bl [.blk iK (.cells #[.int .i64 k2_37, .bool b2_38, .slice p43 n45 c44, .slice p49 n51 c50, .slice p55 n57 c56, .slice p61 n63 c62, .slice p67 n69 c68, .slice p73 n75 c74, .int .i64 k2_39, .map (some bX), .slice p79 n81 c80, .slice p85 n87 c86, .slice p91 n93 c92] 72 (0, 0)), .row 26 1 p43 n45 c44 e8, .row 26 1 p49 n51 c50 e9, .row 3 1 p55 n57 c56 jN, .row 3 1 p61 n63 c62 jO, .row 26 1 p67 n69 c68 jP, .row 39 2 p73 n75 c74 jQ, .row 9 1 p79 n81 c80 jR, .row 3 1 p85 n87 c86 jS, .row 3 1 p91 n93 c92 jT, .any (mapE (fun a : List UInt8 => Value.string (gstr a)) (fun a : Int => Value.int .i64 a) bX m2_94), .blk B2 (.cells #[.int .i64 e.Points, .bool e.Monoid, .slice bi e.Gens.length bj, .slice aE e.Elems.length aF, .slice ak e.Prefix.length al, .slice aX e.Last.length aY, .slice aG e.Right.length aH, .slice aI e.Rules.length aJ, .int .i64 e.Done] 29 (0, 0))] ++ A) w jQ d_70 ∧ Els (Rp.str) (bl [.blk iK (.cells #[.int .i64 k2_37, .bool b2_38, .slice p43 n45 c44, .slice p49 n51 c50, .slice p55 n57 c56, .slice p61 n63 c62, .slice p67 n69 c68, .slice p73 n75 c74, .int .i64 k2_39, .map (some bX), .slice p79 n81 c80, .slice p85 n87 c86, .slice p91 n93 c92] 72 (0, 0)), .row 26 1 p43 n45 c44 e8, .row 26 1 p49 n51 c50 e9, .row 3 1 p55 n57 c56 jN, .row 3 1 p61 n63 c62 jO, .row 26 1 p67 n69 c68 jP, .row 39 2 p73 n75 c74 jQ, .row 9 1 p79 n81 c80 jR, .row 3 1 p85 n87 c86 jS, .row 3 1 p91 n93 c92 jT, .any (mapE (fun a : List UInt8 => Value.string (gstr a)) (fun a : Int => Value.int .i64 a) bX m2_94), .blk B2 (.cells #[.int .i64 e.Points, .bool e.Monoid, .slice bi e.Gens.length bj, .slice aE e.Elems.length aF, .slice ak e.Prefix.length al, .slice aX e.Last.length aY, .slice aG e.Right.length aH, .slice aI e.Rules.length aJ, .int .i64 e.Done] 29 (0, 0))] ++ A) w jR d_76 ∧ Els (Rp.int .i64) (bl [.blk iK (.cells #[.int .i64 k2_37, .bool b2_38, .slice p43 n45 c44, .slice p49 n51 c50, .slice p55 n57 c56, .slice p61 n63 c62, .slice p67 n69 c68, .slice p73 n75 c74, .int .i64 k2_39, .map (some bX), .slice p79 n81 c80, .slice p85 n87 c86, .slice p91 n93 c92] 72 (0, 0)), .row 26 1 p43 n45 c44 e8, .row 26 1 p49 n51 c50 e9, .row 3 1 p55 n57 c56 jN, .row 3 1 p61 n63 c62 jO, .row 26 1 p67 n69 c68 jP, .row 39 2 p73 n75 c74 jQ, .row 9 1 p79 n81 c80 jR, .row 3 1 p85 n87 c86 jS, .row 3 1 p91 n93 c92 jT, .any (mapE (fun a : List UInt8 => Value.string (gstr a)) (fun a : Int => Value.int .i64 a) bX m2_94), .blk B2 (.cells #[.int .i64 e.Points, .bool e.Monoid, .slice bi e.Gens.length bj, .slice aE e.Elems.length aF, .slice ak e.Prefix.length al, .slice aX e.Last.length aY, .slice aG e.Right.length aH, .slice aI e.Rules.length aJ, .int .i64 e.Done] 29 (0, 0))] ++ A) w jS d_82 ∧ Els (Rp.int .i64) (bl [.blk iK (.cells #[.int .i64 k2_37, .bool b2_38, .slice p43 n45 c44, .slice p49 n51 c50, .slice p55 n57 c56, .slice p61 n63 c62, .slice p67 n69 c68, .slice p73 n75 c74, .int .i64 k2_39, .map (some bX), .slice p79 n81 c80, .slice p85 n87 c86, .slice p91 n93 c92] 72 (0, 0)), .row 26 1 p43 n45 c44 e8, .row 26 1 p49 n51 c50 e9, .row 3 1 p55 n57 c56 jN, .row 3 1 p61 n63 c62 jO, .row 26 1 p67 n69 c68 jP, .row 39 2 p73 n75 c74 jQ, .row 9 1 p79 n81 c80 jR, .row 3 1 p85 n87 c86 jS, .row 3 1 p91 n93 c92 jT, .any (mapE (fun a : List UInt8 => Value.string (gstr a)) (fun a : Int => Value.int .i64 a) bX m2_94), .blk B2 (.cells #[.int .i64 e.Points, .bool e.Monoid, .slice bi e.Gens.length bj, .slice aE e.Elems.length aF, .slice ak e.Prefix.length al, .slice aX e.Last.length aY, .slice aG e.Right.length aH, .slice aI e.Rules.length aJ, .int .i64 e.Done] 29 (0, 0))] ++ A) w jT d_88 ∧ ISl (Rp.sl (Rp.int .i64)) (bl [.blk iK (.cells #[.int .i64 k2_37, .bool b2_38, .slice p43 n45 c44, .slice p49 n51 c50, .slice p55 n57 c56, .slice p61 n63 c62, .slice p67 n69 c68, .slice p73 n75 c74, .int .i64 k2_39, .map (some bX), .slice p79 n81 c80, .slice p85 n87 c86, .slice p91 n93 c92] 72 (0, 0)), .row 26 1 p43 n45 c44 e8, .row 26 1 p49 n51 c50 e9, .row 3 1 p55 n57 c56 jN, .row 3 1 p61 n63 c62 jO, .row 26 1 p67 n69 c68 jP, .row 39 2 p73 n75 c74 jQ, .row 9 1 p79 n81 c80 jR, .row 3 1 p85 n87 c86 jS, .row 3 1 p91 n93 c92 jT, .any (mapE (fun a : List UInt8 => Value.string (gstr a)) (fun a : Int => Value.int .i64 a) bX m2_94), .blk B2 (.cells #[.int .i64 e.Points, .bool e.Monoid, .slice bi e.Gens.length bj, .slice aE e.Elems.length aF, .slice ak e.Prefix.length al, .slice aX e.Last.length aY, .slice aG e.Right.length aH, .slice aI e.Rules.length aJ, .int .i64 e.Done] 29 (0, 0))] ++ A) w bi bj e.Gens ∧ ISl (Rp.sl (Rp.int .i64)) (bl [.blk iK (.cells #[.int .i64 k2_37, .bool b2_38, .slice p43 n45 c44, .slice p49 n51 c50, .slice p55 n57 c56, .slice p61 n63 c62, .slice p67 n69 c68, .slice p73 n75 c74, .int .i64 k2_39, .map (some bX), .slice p79 n81 c80, .slice p85 n87 c86, .slice p91 n93 c92] 72 (0, 0)), .row 26 1 p43 n45 c44 e8, .row 26 1 p49 n51 c50 e9, .row 3 1 p55 n57 c56 jN, .row 3 1 p61 n63 c62 jO, .row 26 1 p67 n69 c68 jP, .row 39 2 p73 n75 c74 jQ, .row 9 1 p79 n81 c80 jR, .row 3 1 p85 n87 c86 jS, .row 3 1 p91 n93 c92 jT, .any (mapE (fun a : List UInt8 => Value.string (gstr a)) (fun a : Int => Value.int .i64 a) bX m2_94), .blk B2 (.cells #[.int .i64 e.Points, .bool e.Monoid, .slice bi e.Gens.length bj, .slice aE e.Elems.length aF, .slice ak e.Prefix.length al, .slice aX e.Last.length aY, .slice aG e.Right.length aH, .slice aI e.Rules.length aJ, .int .i64 e.Done] 29 (0, 0))] ++ A) w aE aF e.Elems ∧ ISl (Rp.int .i64) (bl [.blk iK (.cells #[.int .i64 k2_37, .bool b2_38, .slice p43 n45 c44, .slice p49 n51 c50, .slice p55 n57 c56, .slice p61 n63 c62, .slice p67 n69 c68, .slice p73 n75 c74, .int .i64 k2_39, .map (some bX), .slice p79 n81 c80, .slice p85 n87 c86, .slice p91 n93 c92] 72 (0, 0)), .row 26 1 p43 n45 c44 e8, .row 26 1 p49 n51 c50 e9, .row 3 1 p55 n57 c56 jN, .row 3 1 p61 n63 c62 jO, .row 26 1 p67 n69 c68 jP, .row 39 2 p73 n75 c74 jQ, .row 9 1 p79 n81 c80 jR, .row 3 1 p85 n87 c86 jS, .row 3 1 p91 n93 c92 jT, .any (mapE (fun a : List UInt8 => Value.string (gstr a)) (fun a : Int => Value.int .i64 a) bX m2_94), .blk B2 (.cells #[.int .i64 e.Points, .bool e.Monoid, .slice bi e.Gens.length bj, .slice aE e.Elems.length aF, .slice ak e.Prefix.length al, .slice aX e.Last.length aY, .slice aG e.Right.length aH, .slice aI e.Rules.length aJ, .int .i64 e.Done] 29 (0, 0))] ++ A) w ak al e.Prefix ∧ ISl (Rp.int .i64) (bl [.blk iK (.cells #[.int .i64 k2_37, .bool b2_38, .slice p43 n45 c44, .slice p49 n51 c50, .slice p55 n57 c56, .slice p61 n63 c62, .slice p67 n69 c68, .slice p73 n75 c74, .int .i64 k2_39, .map (some bX), .slice p79 n81 c80, .slice p85 n87 c86, .slice p91 n93 c92] 72 (0, 0)), .row 26 1 p43 n45 c44 e8, .row 26 1 p49 n51 c50 e9, .row 3 1 p55 n57 c56 jN, .row 3 1 p61 n63 c62 jO, .row 26 1 p67 n69 c68 jP, .row 39 2 p73 n75 c74 jQ, .row 9 1 p79 n81 c80 jR, .row 3 1 p85 n87 c86 jS, .row 3 1 p91 n93 c92 jT, .any (mapE (fun a : List UInt8 => Value.string (gstr a)) (fun a : Int => Value.int .i64 a) bX m2_94), .blk B2 (.cells #[.int .i64 e.Points, .bool e.Monoid, .slice bi e.Gens.length bj, .slice aE e.Elems.length aF, .slice ak e.Prefix.length al, .slice aX e.Last.length aY, .slice aG e.Right.length aH, .slice aI e.Rules.length aJ, .int .i64 e.Done] 29 (0, 0))] ++ A) w aX aY e.Last ∧ ISl (Rp.sl (Rp.int .i64)) (bl [.blk iK (.cells #[.int .i64 k2_37, .bool b2_38, .slice p43 n45 c44, .slice p49 n51 c50, .slice p55 n57 c56, .slice p61 n63 c62, .slice p67 n69 c68, .slice p73 n75 c74, .int .i64 k2_39, .map (some bX), .slice p79 n81 c80, .slice p85 n87 c86, .slice p91 n93 c92] 72 (0, 0)), .row 26 1 p43 n45 c44 e8, .row 26 1 p49 n51 c50 e9, .row 3 1 p55 n57 c56 jN, .row 3 1 p61 n63 c62 jO, .row 26 1 p67 n69 c68 jP, .row 39 2 p73 n75 c74 jQ, .row 9 1 p79 n81 c80 jR, .row 3 1 p85 n87 c86 jS, .row 3 1 p91 n93 c92 jT, .any (mapE (fun a : List UInt8 => Value.string (gstr a)) (fun a : Int => Value.int .i64 a) bX m2_94), .blk B2 (.cells #[.int .i64 e.Points, .bool e.Monoid, .slice bi e.Gens.length bj, .slice aE e.Elems.length aF, .slice ak e.Prefix.length al, .slice aX e.Last.length aY, .slice aG e.Right.length aH, .slice aI e.Rules.length aJ, .int .i64 e.Done] 29 (0, 0))] ++ A) w aG aH e.Right ∧ ISl (rpRule) (bl [.blk iK (.cells #[.int .i64 k2_37, .bool b2_38, .slice p43 n45 c44, .slice p49 n51 c50, .slice p55 n57 c56, .slice p61 n63 c62, .slice p67 n69 c68, .slice p73 n75 c74, .int .i64 k2_39, .map (some bX), .slice p79 n81 c80, .slice p85 n87 c86, .slice p91 n93 c92] 72 (0, 0)), .row 26 1 p43 n45 c44 e8, .row 26 1 p49 n51 c50 e9, .row 3 1 p55 n57 c56 jN, .row 3 1 p61 n63 c62 jO, .row 26 1 p67 n69 c68 jP, .row 39 2 p73 n75 c74 jQ, .row 9 1 p79 n81 c80 jR, .row 3 1 p85 n87 c86 jS, .row 3 1 p91 n93 c92 jT, .any (mapE (fun a : List UInt8 => Value.string (gstr a)) (fun a : Int => Value.int .i64 a) bX m2_94), .blk B2 (.cells #[.int .i64 e.Points, .bool e.Monoid, .slice bi e.Gens.length bj, .slice aE e.Elems.length aF, .slice ak e.Prefix.length al, .slice aX e.Last.length aY, .slice aG e.Right.length aH, .slice aI e.Rules.length aJ, .int .i64 e.Done] 29 (0, 0))] ++ A) w aI aJ e.Rules ∧ Fr (bl []) w0 (bl [.blk iK (.cells #[.int .i64 k2_37, .bool b2_38, .slice p43 n45 c44, .slice p49 n51 c50, .slice p55 n57 c56, .slice p61 n63 c62, .slice p67 n69 c68, .slice p73 n75 c74, .int .i64 k2_39, .map (some bX), .slice p79 n81 c80, .slice p85 n87 c86, .slice p91 n93 c92] 72 (0, 0)), .row 26 1 p43 n45 c44 e8, .row 26 1 p49 n51 c50 e9, .row 3 1 p55 n57 c56 jN, .row 3 1 p61 n63 c62 jO, .row 26 1 p67 n69 c68 jP, .row 39 2 p73 n75 c74 jQ, .row 9 1 p79 n81 c80 jR, .row 3 1 p85 n87 c86 jS, .row 3 1 p91 n93 c92 jT, .any (mapE (fun a : List UInt8 => Value.string (gstr a)) (fun a : Int => Value.int .i64 a) bX m2_94), .blk B2 (.cells #[.int .i64 e.Points, .bool e.Monoid, .slice bi e.Gens.length bj, .slice aE e.Elems.length aF, .slice ak e.Prefix.length al, .slice aX e.Last.length aY, .slice aG e.Right.length aH, .slice aI e.Rules.length aJ, .int .i64 e.Done] 29 (0, 0))]) w) H ⟨xh, xi, xj, wH, wI, wJ, wK, we, wg, wh, wi, vC, xk, xl, xm, wL, wM, wN, wO, wj, wP, wQ, wR, wk, zi, zj, zk, yh, yi, yj, yk, x8, yl, ym, yn, x9, ⟨rfl, rfl, trivial⟩, hO, qG, pc, ob, qH, pe, pg, tt, sx, sy, ah, ae, ac, ai, af, ag, hB⟩ ?_
    intro X2
    refine prE fun k2_37 => prE fun b2_38 => prE fun k2_39 => prE fun d_40 => prE fun d_46 => prE fun d_52 => prE fun d_58 => prE fun d_64 => prE fun d_70 => prE fun d_76 => prE fun d_82 => prE fun d_88 => fun m2_94 => ?_
    intro H hX2 σ w36
    refine exE fun n45 => exE fun p43 => exE fun c44 => exE fun e8 => exE fun n51 => exE fun p49 => exE fun c50 => exE fun e9 => exE fun n57 => exE fun p55 => exE fun c56 => exE fun jN => exE fun n63 => exE fun p61 => exE fun c62 => exE fun jO => exE fun n69 => exE fun p67 => exE fun c68 => exE fun jP => exE fun n75 => exE fun p73 => exE fun c74 => exE fun jQ => exE fun n81 => exE fun p79 => exE fun c80 => exE fun jR => exE fun n87 => exE fun p85 => exE fun c86 => exE fun jS => exE fun n93 => exE fun p91 => exE fun c92 => exE fun jT => andE fun hag => andE fun hO => andE fun bh => andE fun aZ => andE fun dU => andE fun dV => andE fun dW => andE fun dX => andE fun dY => andE fun dZ => andE fun dH => andE fun ah => andE fun ae => andE fun ac => andE fun ai => andE fun af => andE fun ag => fun hB => ?_
    dsimp only at H
    refine Go1.keep [(1, .pointer (some ⟨B2, 0, none⟩)), (4, .pointer (some ⟨iK, 0, none⟩))] hag ?_
    refine Go1.seq ?_
    refine Go1.seq ?_
    refine Go1.drawS 0 [(0, .pure), (1, .pure), (2, .pure), (3, .pure), (4, .stable), (5, .pure), (6, .stable), (7, .pure)] mixed (by kernel_rfl) ?_
    intro w95 IJ
    have gu := Stp.same hO IJ
    replace bh := bh.ch gu.ch
    replace aZ := aZ.ch gu.ch
    replace dU := dU.ch gu.ch
    replace dV := dV.ch gu.ch
    replace dW := dW.ch gu.ch
    replace dX := dX.ch gu.ch
    replace dY := dY.ch gu.ch
    replace dZ := dZ.ch gu.ch
    replace dH := dH.ch gu.ch
    replace hO := gu.own
    replace ah := ah.ch gu.ch
    replace ae := ae.ch gu.ch
    replace ac := ac.ch gu.ch
    replace ai := ai.ch gu.ch
    replace af := af.ch gu.ch
    replace ag := ag.ch gu.ch
    replace hB := hB.trans gu.fr
    refine GoQ.pure rfl (op_move rfl) rfl rfl ?_
    refine GoQ.pure rfl (op_nilCheck rfl) rfl rfl ?_
    refine GoQ.pure rfl (op_fieldAddr Try.underlying72 rfl ti29 rfl (by decide)) rfl rfl ?_
    refine GoQ.pure rfl (op_fieldAddr Try.underlying29 rfl ti3 rfl (by decide)) rfl rfl ?_
    refine GoQ.stable rfl (oblk (i := 8) 0 hO rfl rfl Try.underlying3 rfl rfl) rfl rfl ?_
    refine GoQ.pure rfl (op_fieldAddr Try.underlying29 rfl ti3 rfl (by decide)) rfl rfl ?_
    refine GoQ.stable rfl (oblk (i := 8) 11 hO rfl rfl Try.underlying3 rfl rfl) rfl rfl ?_
    by_cases h98 : k2_39 < e.Done
    ·replace H := ifp h98 H
     refine GoQ.pure rfl (fun w => opB (op_lss rfl rfl w) (decide_eq_true h98)) rfl rfl ?_
     refine GoQ.nil ?_
     refine Go1.condT rfl rfl ?_
     refine Go1.skip ?_
     refine Go1.block ?_
     refine Go1.seq ?_
     refine Go1.region ?_
     refine GoR.op ((op_move rfl) _) rfl rfl ?_
     refine GoR.inl (vs := [.pointer (some ⟨iK, 0, none⟩)]) (caps := []) rfl rfl body50 Try.func50 rfl Try.ntmps50 rfl rfl rfl ?_
     intro RhR99 hR99
     refine Go1.seq ?_
     refine Go1.region ?_
     refine GoR.op ((op_assign rfl) _) rfl rfl ?_
     refine GoR.nil ?_
     refine Go1.seq ?_
     refine Go1.drawS 0 [(0, .pure), (1, .pure), (2, .pure), (3, .pure), (4, .stable), (5, .pure), (6, .pure), (7, .pure), (8, .pure), (9, .stable), (10, .pure), (11, .pure), (12, .pure)] mixed (by kernel_rfl) ?_
     intro ya Gg
     have lV := Stp.same hO Gg
     replace bh := bh.ch lV.ch
     replace aZ := aZ.ch lV.ch
     replace dU := dU.ch lV.ch
     replace dV := dV.ch lV.ch
     replace dW := dW.ch lV.ch
     replace dX := dX.ch lV.ch
     replace dY := dY.ch lV.ch
     replace dZ := dZ.ch lV.ch
     replace dH := dH.ch lV.ch
     replace hO := lV.own
     replace ah := ah.ch lV.ch
     replace ae := ae.ch lV.ch
     replace ac := ac.ch lV.ch
     replace ai := ai.ch lV.ch
     replace af := af.ch lV.ch
     replace ag := ag.ch lV.ch
     replace hB := hB.trans lV.fr
     refine GoQ.pure rfl (op_move rfl) rfl rfl ?_
     refine GoQ.pure rfl (op_nilCheck rfl) rfl rfl ?_
     refine GoQ.pure rfl (op_fieldAddr Try.underlying72 rfl ti29 rfl (by decide)) rfl rfl ?_
     refine GoQ.pure rfl (op_fieldAddr Try.underlying29 rfl ti3 rfl (by decide)) rfl rfl ?_
     refine GoQ.stable rfl (oblk (i := 8) 0 hO rfl rfl Try.underlying3 rfl rfl) rfl rfl ?_
     refine GoQ.pure rfl (op_move rfl) rfl rfl ?_
     refine GoQ.pure rfl (op_nilCheck rfl) rfl rfl ?_
     refine GoQ.pure rfl (op_fieldAddr Try.underlying72 rfl ti29 rfl (by decide)) rfl rfl ?_
     refine GoQ.pure rfl (op_fieldAddr Try.underlying29 rfl ti22 rfl (by decide)) rfl rfl ?_
     refine GoQ.stable rfl (oblk (i := 3) 0 hO rfl rfl Try.underlying22 rfl rfl) rfl rfl ?_
     refine GoQ.pure rfl (op_lenN Try.underlying22 rfl (aZ.neq hO 2 rfl)) rfl rfl ?_
     by_cases vd : k2_39 = (d_46.length : Int)
     ·replace H := ifp vd H
      refine GoQ.pure rfl (fun w => opB (op_eql rfl rfl w) (decide_eq_true vd)) rfl rfl ?_
      refine GoQ.pure rfl (op_assign rfl) rfl rfl ?_
      refine GoQ.nil ?_
      refine Go1.ret1V Try.func50 rfl (show _ = .bool true from rfl) ?_
      refine hR99 _ _ ?_
      refine GoR.op ((op_move rfl) _) rfl rfl ?_
      refine GoR.pass rfl rfl ?_
      refine GoR.pass rfl rfl ?_
      refine GoR.pass rfl rfl ?_
      refine GoR.op ((op_pickT rfl rfl rfl) _) rfl rfl ?_
      refine GoR.nil ?_
      refine Go1.condT rfl rfl ?_
      refine Go1.seq ?_
      refine Go1.cut [] trivial ?_
      intro σ _
      refine Go1.region ?_
      refine GoR.op ((op_assign rfl) _) rfl rfl ?_
      refine GoR.op ((op_assign rfl) _) rfl rfl ?_
      refine GoR.nil ?_
      refine Go1.ret2 Try.func53 rfl ?_
      exact Or.inl ⟨false, rfl, hB.same, H⟩
     replace H := ifn vd H
     refine GoQ.pure rfl (fun w => opB (op_eql rfl rfl w) (decide_eq_false vd)) rfl rfl ?_
     refine GoQ.pure rfl (op_assign rfl) rfl rfl ?_
     refine GoQ.nil ?_
     refine Go1.ret1V Try.func50 rfl (show _ = .bool false from rfl) ?_
     refine hR99 _ _ ?_
     refine GoR.op ((op_move rfl) _) rfl rfl ?_
     refine GoR.op ((op_move rfl) _) rfl rfl ?_
     have Bc : Owns w0.heap.size ya ([.blk iK (.cells #[.int .i64 k2_37, .bool b2_38, .slice p43 n45 c44, .slice p49 n51 c50, .slice p55 n57 c56, .slice p61 n63 c62, .slice p67 n69 c68, .slice p73 n75 c74, .int .i64 k2_39, .map (some bX), .slice p79 n81 c80, .slice p85 n87 c86, .slice p91 n93 c92] 72 (0, 0)), .row 26 1 p43 n45 c44 e8, .row 26 1 p49 n51 c50 e9, .row 3 1 p55 n57 c56 jN, .row 3 1 p61 n63 c62 jO, .row 26 1 p67 n69 c68 jP, .row 39 2 p73 n75 c74 jQ, .row 9 1 p79 n81 c80 jR, .row 3 1 p85 n87 c86 jS, .row 3 1 p91 n93 c92 jT, .any (mapE (fun a : List UInt8 => Value.string (gstr a)) (fun a : Int => Value.int .i64 a) bX m2_94)] ++ [.blk B2 (.cells #[.int .i64 e.Points, .bool e.Monoid, .slice bi e.Gens.length bj, .slice aE e.Elems.length aF, .slice ak e.Prefix.length al, .slice aX e.Last.length aY, .slice aG e.Right.length aH, .slice aI e.Rules.length aJ, .int .i64 e.Done] 29 (0, 0))]) A := hO
     have Gh := Owns.split Bc
     have hca106 : Ch (bl [.blk iK (.cells #[.int .i64 k2_37, .bool b2_38, .slice p43 n45 c44, .slice p49 n51 c50, .slice p55 n57 c56, .slice p61 n63 c62, .slice p67 n69 c68, .slice p73 n75 c74, .int .i64 k2_39, .map (some bX), .slice p79 n81 c80, .slice p85 n87 c86, .slice p91 n93 c92] 72 (0, 0)), .row 26 1 p43 n45 c44 e8, .row 26 1 p49 n51 c50 e9, .row 3 1 p55 n57 c56 jN, .row 3 1 p61 n63 c62 jO, .row 26 1 p67 n69 c68 jP, .row 39 2 p73 n75 c74 jQ, .row 9 1 p79 n81 c80 jR, .row 3 1 p85 n87 c86 jS, .row 3 1 p91 n93 c92 jT, .any (mapE (fun a : List UInt8 => Value.string (gstr a)) (fun a : Int => Value.int .i64 a) bX m2_94), .blk B2 (.cells #[.int .i64 e.Points, .bool e.Monoid, .slice bi e.Gens.length bj, .slice aE e.Elems.length aF, .slice ak e.Prefix.length al, .slice aX e.Last.length aY, .slice aG e.Right.length aH, .slice aI e.Rules.length aJ, .int .i64 e.Done] 29 (0, 0))] ++ A) ya (bl [.blk iK (.cells #[.int .i64 k2_37, .bool b2_38, .slice p43 n45 c44, .slice p49 n51 c50, .slice p55 n57 c56, .slice p61 n63 c62, .slice p67 n69 c68, .slice p73 n75 c74, .int .i64 k2_39, .map (some bX), .slice p79 n81 c80, .slice p85 n87 c86, .slice p91 n93 c92] 72 (0, 0)), .row 26 1 p43 n45 c44 e8, .row 26 1 p49 n51 c50 e9, .row 3 1 p55 n57 c56 jN, .row 3 1 p61 n63 c62 jO, .row 26 1 p67 n69 c68 jP, .row 39 2 p73 n75 c74 jQ, .row 9 1 p79 n81 c80 jR, .row 3 1 p85 n87 c86 jS, .row 3 1 p91 n93 c92 jT, .any (mapE (fun a : List UInt8 => Value.string (gstr a)) (fun a : Int => Value.int .i64 a) bX m2_94)] ++ (bl [.blk B2 (.cells #[.int .i64 e.Points, .bool e.Monoid, .slice bi e.Gens.length bj, .slice aE e.Elems.length aF, .slice ak e.Prefix.length al, .slice aX e.Last.length aY, .slice aG e.Right.length aH, .slice aI e.Rules.length aJ, .int .i64 e.Done] 29 (0, 0))] ++ A)) ya := Ch.assoc' [.blk iK (.cells #[.int .i64 k2_37, .bool b2_38, .slice p43 n45 c44, .slice p49 n51 c50, .slice p55 n57 c56, .slice p61 n63 c62, .slice p67 n69 c68, .slice p73 n75 c74, .int .i64 k2_39, .map (some bX), .slice p79 n81 c80, .slice p85 n87 c86, .slice p91 n93 c92] 72 (0, 0)), .row 26 1 p43 n45 c44 e8, .row 26 1 p49 n51 c50 e9, .row 3 1 p55 n57 c56 jN, .row 3 1 p61 n63 c62 jO, .row 26 1 p67 n69 c68 jP, .row 39 2 p73 n75 c74 jQ, .row 9 1 p79 n81 c80 jR, .row 3 1 p85 n87 c86 jS, .row 3 1 p91 n93 c92 jT, .any (mapE (fun a : List UInt8 => Value.string (gstr a)) (fun a : Int => Value.int .i64 a) bX m2_94)] [.blk B2 (.cells #[.int .i64 e.Points, .bool e.Monoid, .slice bi e.Gens.length bj, .slice aE e.Elems.length aF, .slice ak e.Prefix.length al, .slice aX e.Last.length aY, .slice aG e.Right.length aH, .slice aI e.Rules.length aJ, .int .i64 e.Done] 29 (0, 0))] A ya
     refine GoR.call (op_call body51 rfl (walk_enumerate_run_process (a0 := (⟨(⟨k2_37, b2_38, d_40, d_46, d_52, d_58, d_64, d_70, k2_39⟩ : Enum), m2_94, d_76, d_82, d_88⟩ : run)) Gh (bh.ch hca106) (aZ.ch hca106) (dU.ch hca106) (dV.ch hca106) (dW.ch hca106) (dX.ch hca106) (dY.ch hca106) (dZ.ch hca106) (dH.ch hca106) H)) rfl rfl ?_
     intro M1 wV
     refine exE fun r107 => exE fun q108 => exE fun ia => exE fun ib => exE fun ic => exE fun mU => exE fun gF => exE fun gG => exE fun gH => exE fun lW => exE fun gk => exE fun gl => exE fun gm => exE fun lm => exE fun ie => exE fun ig => exE fun ii => exE fun mV => exE fun gI => exE fun gJ => exE fun gK => exE fun lX => exE fun gL => exE fun gM => exE fun gN => exE fun lY => exE fun kE => exE fun kF => exE fun kG => exE fun qg => exE fun ju => exE fun jv => exE fun jw => exE fun oJ => exE fun jx => exE fun jy => exE fun jz => exE fun oK => andE fun hv114 => andE fun hN111 => andE fun rm => andE fun qR => andE fun qq => andE fun ro => andE fun qS => andE fun qT => andE fun tJ => andE fun sX => andE fun sY => andE fun hF112 => fun H => ?_
     subst hv114
     have tC : Stp w0.heap.size A ya [.blk iK (.cells #[.int .i64 k2_37, .bool b2_38, .slice p43 n45 c44, .slice p49 n51 c50, .slice p55 n57 c56, .slice p61 n63 c62, .slice p67 n69 c68, .slice p73 n75 c74, .int .i64 k2_39, .map (some bX), .slice p79 n81 c80, .slice p85 n87 c86, .slice p91 n93 c92] 72 (0, 0)), .row 26 1 p43 n45 c44 e8, .row 26 1 p49 n51 c50 e9, .row 3 1 p55 n57 c56 jN, .row 3 1 p61 n63 c62 jO, .row 26 1 p67 n69 c68 jP, .row 39 2 p73 n75 c74 jQ, .row 9 1 p79 n81 c80 jR, .row 3 1 p85 n87 c86 jS, .row 3 1 p91 n93 c92 jT, .any (mapE (fun a : List UInt8 => Value.string (gstr a)) (fun a : Int => Value.int .i64 a) bX m2_94), .blk B2 (.cells #[.int .i64 e.Points, .bool e.Monoid, .slice bi e.Gens.length bj, .slice aE e.Elems.length aF, .slice ak e.Prefix.length al, .slice aX e.Last.length aY, .slice aG e.Right.length aH, .slice aI e.Rules.length aJ, .int .i64 e.Done] 29 (0, 0))] wV [.blk iK (.cells #[.int .i64 q108.Enum.Points, .bool q108.Enum.Monoid, .slice ib ia ic, .slice gG gF gH, .slice gl gk gm, .slice ig ie ii, .slice gJ gI gK, .slice gM gL gN, .int .i64 q108.Enum.Done, .map (some bX), .slice kF kE kG, .slice jv ju jw, .slice jy jx jz] 72 (0, 0)), .row 26 1 ib ia ic mU, .row 26 1 gG gF gH lW, .row 3 1 gl gk gm lm, .row 3 1 ig ie ii mV, .row 26 1 gJ gI gK lX, .row 39 2 gM gL gN lY, .row 9 1 kF kE kG qg, .row 3 1 jv ju jw oJ, .row 3 1 jy jx jz oK, .any (mapE (fun a : List UInt8 => Value.string (gstr a)) (fun a : Int => Value.int .i64 a) bX q108.number), .blk B2 (.cells #[.int .i64 e.Points, .bool e.Monoid, .slice bi e.Gens.length bj, .slice aE e.Elems.length aF, .slice ak e.Prefix.length al, .slice aX e.Last.length aY, .slice aG e.Right.length aH, .slice aI e.Rules.length aJ, .int .i64 e.Done] 29 (0, 0))] := Stp.join Bc hN111 hF112
     replace hO := tC.own
     replace ah := ah.ch tC.ch
     replace ae := ae.ch tC.ch
     replace ac := ac.ch tC.ch
     replace ai := ai.ch tC.ch
     replace af := af.ch tC.ch
     replace ag := ag.ch tC.ch
     replace hB := hB.trans tC.fr
     have hca115 : Ch (bl [.blk iK (.cells #[.int .i64 q108.Enum.Points, .bool q108.Enum.Monoid, .slice ib ia ic, .slice gG gF gH, .slice gl gk gm, .slice ig ie ii, .slice gJ gI gK, .slice gM gL gN, .int .i64 q108.Enum.Done, .map (some bX), .slice kF kE kG, .slice jv ju jw, .slice jy jx jz] 72 (0, 0)), .row 26 1 ib ia ic mU, .row 26 1 gG gF gH lW, .row 3 1 gl gk gm lm, .row 3 1 ig ie ii mV, .row 26 1 gJ gI gK lX, .row 39 2 gM gL gN lY, .row 9 1 kF kE kG qg, .row 3 1 jv ju jw oJ, .row 3 1 jy jx jz oK, .any (mapE (fun a : List UInt8 => Value.string (gstr a)) (fun a : Int => Value.int .i64 a) bX q108.number)] ++ (bl [.blk B2 (.cells #[.int .i64 e.Points, .bool e.Monoid, .slice bi e.Gens.length bj, .slice aE e.Elems.length aF, .slice ak e.Prefix.length al, .slice aX e.Last.length aY, .slice aG e.Right.length aH, .slice aI e.Rules.length aJ, .int .i64 e.Done] 29 (0, 0))] ++ A)) wV (bl [.blk iK (.cells #[.int .i64 q108.Enum.Points, .bool q108.Enum.Monoid, .slice ib ia ic, .slice gG gF gH, .slice gl gk gm, .slice ig ie ii, .slice gJ gI gK, .slice gM gL gN, .int .i64 q108.Enum.Done, .map (some bX), .slice kF kE kG, .slice jv ju jw, .slice jy jx jz] 72 (0, 0)), .row 26 1 ib ia ic mU, .row 26 1 gG gF gH lW, .row 3 1 gl gk gm lm, .row 3 1 ig ie ii mV, .row 26 1 gJ gI gK lX, .row 39 2 gM gL gN lY, .row 9 1 kF kE kG qg, .row 3 1 jv ju jw oJ, .row 3 1 jy jx jz oK, .any (mapE (fun a : List UInt8 => Value.string (gstr a)) (fun a : Int => Value.int .i64 a) bX q108.number), .blk B2 (.cells #[.int .i64 e.Points, .bool e.Monoid, .slice bi e.Gens.length bj, .slice aE e.Elems.length aF, .slice ak e.Prefix.length al, .slice aX e.Last.length aY, .slice aG e.Right.length aH, .slice aI e.Rules.length aJ, .int .i64 e.Done] 29 (0, 0))] ++ A) wV := Ch.assoc [.blk iK (.cells #[.int .i64 q108.Enum.Points, .bool q108.Enum.Monoid, .slice ib ia ic, .slice gG gF gH, .slice gl gk gm, .slice ig ie ii, .slice gJ gI gK, .slice gM gL gN, .int .i64 q108.Enum.Done, .map (some bX), .slice kF kE kG, .slice jv ju jw, .slice jy jx jz] 72 (0, 0)), .row 26 1 ib ia ic mU, .row 26 1 gG gF gH lW, .row 3 1 gl gk gm lm, .row 3 1 ig ie ii mV, .row 26 1 gJ gI gK lX, .row 39 2 gM gL gN lY, .row 9 1 kF kE kG qg, .row 3 1 jv ju jw oJ, .row 3 1 jy jx jz oK, .any (mapE (fun a : List UInt8 => Value.string (gstr a)) (fun a : Int => Value.int .i64 a) bX q108.number)] [.blk B2 (.cells #[.int .i64 e.Points, .bool e.Monoid, .slice bi e.Gens.length bj, .slice aE e.Elems.length aF, .slice ak e.Prefix.length al, .slice aX e.Last.length aY, .slice aG e.Right.length aH, .slice aI e.Rules.length aJ, .int .i64 e.Done] 29 (0, 0))] A wV
     replace rm := rm.ch hca115
     replace qR := qR.ch hca115
     replace qq := qq.ch hca115
     replace ro := ro.ch hca115
     replace qS := qS.ch hca115
     replace qT := qT.ch hca115
     replace tJ := tJ.ch hca115
     replace sX := sX.ch hca115
     replace sY := sY.ch hca115
     by_cases uE : r107 = (0 : Int)
     ·replace H := ifp uE H
      refine GoR.op ((fun w => opB (op_neq rfl rfl w) (ndT uE)) _) rfl rfl ?_
      refine GoR.op ((op_pickF rfl rfl rfl) _) rfl rfl ?_
      refine GoR.nil ?_
      refine Go1.condF rfl rfl ?_
      refine Go1.skip ?_
      refine Go1.inBlock ?_
      exact hX2 _ H _ _ ⟨ia, ib, ic, mU, gF, gG, gH, lW, gk, gl, gm, lm, ie, ig, ii, mV, gI, gJ, gK, lX, gL, gM, gN, lY, kE, kF, kG, qg, ju, jv, jw, oJ, jx, jy, jz, oK, ⟨rfl, rfl, trivial⟩, hO, rm, qR, qq, ro, qS, qT, tJ, sX, sY, ah, ae, ac, ai, af, ag, hB⟩
     replace H := ifn uE H
     refine GoR.op ((fun w => opB (op_neq rfl rfl w) (ndF uE)) _) rfl rfl ?_
     refine GoR.op ((op_pickF rfl rfl rfl) _) rfl rfl ?_
     refine GoR.nil ?_
     refine Go1.condT rfl rfl ?_
     refine Go1.seq ?_
     refine Go1.region ?_
     refine GoR.op ((op_assign rfl) _) rfl rfl ?_
     refine GoR.op ((op_assign rfl) _) rfl rfl ?_
     refine GoR.nil ?_
     refine Go1.ret2 Try.func53 rfl ?_
     exact Or.inl ⟨false, rfl, hB.same, H⟩
    replace H := ifn h98 H
    refine GoQ.pure rfl (fun w => opB (op_lss rfl rfl w) (decide_eq_false h98)) rfl rfl ?_
    refine GoQ.nil ?_
    refine Go1.condF rfl rfl ?_
    refine Go1.exit rfl ?_
    refine Go1.seq ?_
    refine Go1.region ?_
    refine GoR.op ((op_move rfl) _) rfl rfl ?_
    refine GoR.op ((op_move rfl) _) rfl rfl ?_
    refine GoR.op ((oblkAgg (vs := [.int .i64 e.Points, .bool e.Monoid, .slice bi e.Gens.length bj, .slice aE e.Elems.length aF, .slice ak e.Prefix.length al, .slice aX e.Last.length aY, .slice aG e.Right.length aH, .slice aI e.Rules.length aJ, .int .i64 e.Done]) (i := 0) 11 hO rfl rfl Try.underlying29 rfl ti29 rfl) _ (Same.refl _)) rfl rfl ?_
    refine GoR.inl (vs := [.pointer (some ⟨iK, 0, none⟩), .agg #[.int .i64 e.Points, .bool e.Monoid, .slice bi e.Gens.length bj, .slice aE e.Elems.length aF, .slice ak e.Prefix.length al, .slice aX e.Last.length aY, .slice aG e.Right.length aH, .slice aI e.Rules.length aJ, .int .i64 e.Done]]) (caps := []) rfl rfl body68 Try.func68 rfl Try.ntmps68 rfl rfl rfl ?_
    intro RhR117 hR117
    refine Go1.seq ?_
    refine Go1.region ?_
    have hobt := obox (t := 29) (v := .agg #[.int .i64 e.Points, .bool e.Monoid, .slice bi e.Gens.length bj, .slice aE e.Elems.length aF, .slice ak e.Prefix.length al, .slice aX e.Last.length aY, .slice aG e.Right.length aH, .slice aI e.Rules.length aJ, .int .i64 e.Done]) (cs := #[.int .i64 e.Points, .bool e.Monoid, .slice bi e.Gens.length bj, .slice aE e.Elems.length aF, .slice ak e.Prefix.length al, .slice aX e.Last.length aY, .slice aG e.Right.length aH, .slice aI e.Rules.length aJ, .int .i64 e.Done]) hO rfl
    obtain ⟨M2, B119, gX, J1, Ds⟩ := hobt
    refine GoR.op (Ds rfl) rfl rfl ?_
    replace bh := bh.ch gX.ch
    replace aZ := aZ.ch gX.ch
    replace dU := dU.ch gX.ch
    replace dV := dV.ch gX.ch
    replace dW := dW.ch gX.ch
    replace dX := dX.ch gX.ch
    replace dY := dY.ch gX.ch
    replace dZ := dZ.ch gX.ch
    replace dH := dH.ch gX.ch
    replace hO := gX.own
    replace ah := ah.ch gX.ch
    replace ae := ae.ch gX.ch
    replace ac := ac.ch gX.ch
    replace ai := ai.ch gX.ch
    replace af := af.ch gX.ch
    replace ag := ag.ch gX.ch
    replace hB := hB.trans gX.fr
    refine GoR.op ((op_assign rfl) _) rfl rfl ?_
    refine GoR.nil ?_
    refine Go1.seq ?_
    refine Go1.drawS 0 [(0, .pure), (1, .pure), (2, .pure), (3, .pure), (4, .stable), (5, .pure), (6, .stable), (7, .pure), (8, .pure), (9, .pure), (10, .pure), (11, .pure), (12, .pure), (13, .stable), (14, .pure), (15, .stable), (16, .pure), (17, .pure), (18, .pure), (19, .pure), (20, .pure), (21, .pure), (22, .pure), (23, .stable), (24, .pure), (25, .stable), (26, .loud), (27, .pure), (28, .pure), (29, .pure), (30, .pure), (31, .pure), (32, .pure), (33, .stable), (34, .pure), (35, .stable), (36, .loud), (37, .pure), (38, .pure), (39, .pure), (40, .pure), (41, .pure), (42, .pure), (43, .stable), (44, .pure), (45, .stable), (46, .loud), (47, .pure), (48, .pure), (49, .pure), (50, .pure), (51, .pure), (52, .pure), (53, .stable), (54, .pure), (55, .stable), (56, .loud), (57, .pure), (58, .pure), (59, .pure), (60, .pure), (61, .pure), (62, .pure), (63, .stable), (64, .pure), (65, .stable), (66, .loud), (67, .pure), (68, .pure)] mixed (by kernel_rfl) ?_
    intro M3 Gi
    have lZ := Stp.same hO Gi
    replace bh := bh.ch lZ.ch
    replace aZ := aZ.ch lZ.ch
    replace dU := dU.ch lZ.ch
    replace dV := dV.ch lZ.ch
    replace dW := dW.ch lZ.ch
    replace dX := dX.ch lZ.ch
    replace dY := dY.ch lZ.ch
    replace dZ := dZ.ch lZ.ch
    replace dH := dH.ch lZ.ch
    replace hO := lZ.own
    replace ah := ah.ch lZ.ch
    replace ae := ae.ch lZ.ch
    replace ac := ac.ch lZ.ch
    replace ai := ai.ch lZ.ch
    replace af := af.ch lZ.ch
    replace ag := ag.ch lZ.ch
    replace hB := hB.trans lZ.fr
    refine GoQ.pure rfl (op_move rfl) rfl rfl ?_
    refine GoQ.pure rfl (op_nilCheck rfl) rfl rfl ?_
    refine GoQ.pure rfl (op_fieldAddr Try.underlying72 rfl ti29 rfl (by decide)) rfl rfl ?_
    refine GoQ.pure rfl (op_fieldAddr Try.underlying29 rfl ti3 rfl (by decide)) rfl rfl ?_
    refine GoQ.stable rfl (oblk (i := 0) 1 hO rfl rfl Try.underlying3 rfl rfl) rfl rfl ?_
    refine GoQ.pure rfl (op_fieldAddr Try.underlying29 rfl ti3 rfl (by decide)) rfl rfl ?_
    refine GoQ.stable rfl (oblk (i := 0) 0 hO rfl rfl Try.underlying3 rfl rfl) rfl rfl ?_
    by_cases zl : k2_37 = e.Points
    ·replace H := ifp zl H
     refine GoQ.pure rfl (fun w => opB (op_eql rfl rfl w) (decide_eq_true zl)) rfl rfl ?_
     refine GoQ.pure rfl (op_move rfl) rfl rfl ?_
     refine GoQ.pure rfl (op_move rfl) rfl rfl ?_
     refine GoQ.pure rfl (op_nilCheck rfl) rfl rfl ?_
     refine GoQ.pure rfl (op_fieldAddr Try.underlying72 rfl ti29 rfl (by decide)) rfl rfl ?_
     refine GoQ.pure rfl (op_fieldAddr Try.underlying29 rfl ti3 rfl (by decide)) rfl rfl ?_
     refine GoQ.stable rfl (oblk (i := 8) 1 hO rfl rfl Try.underlying3 rfl rfl) rfl rfl ?_
     refine GoQ.pure rfl (op_fieldAddr Try.underlying29 rfl ti3 rfl (by decide)) rfl rfl ?_
     refine GoQ.stable rfl (oblk (i := 8) 0 hO rfl rfl Try.underlying3 rfl rfl) rfl rfl ?_
     by_cases zm : k2_39 = e.Done
     ·replace H := ifp zm H
      refine GoQ.pure rfl (fun w => opB (op_eql rfl rfl w) (decide_eq_true zm)) rfl rfl ?_
      refine GoQ.pure rfl (op_pickT rfl rfl rfl) rfl rfl ?_
      refine GoQ.pure rfl (op_move rfl) rfl rfl ?_
      refine GoQ.pure rfl (op_move rfl) rfl rfl ?_
      refine GoQ.pure rfl (op_nilCheck rfl) rfl rfl ?_
      refine GoQ.pure rfl (op_fieldAddr Try.underlying72 rfl ti29 rfl (by decide)) rfl rfl ?_
      refine GoQ.pure rfl (op_fieldAddr Try.underlying29 rfl ti22 rfl (by decide)) rfl rfl ?_
      refine GoQ.stable rfl (oblk (i := 3) 1 hO rfl rfl Try.underlying22 rfl rfl) rfl rfl ?_
      refine GoQ.pure rfl (op_fieldAddr Try.underlying29 rfl ti22 rfl (by decide)) rfl rfl ?_
      refine GoQ.stable rfl (oblk (i := 3) 0 hO rfl rfl Try.underlying22 rfl rfl) rfl rfl ?_
      have hobt := rowlend 3 hO rfl aZ
      obtain ⟨Gj, Gk⟩ := hobt
      have hOc131 := hO.drop 3
      refine GoQ.call rfl (op_call body69 (show ([.slice p49 n51 c50, .slice aE e.Elems.length aF, .func (.func 70) #[] #[]] : List Value) = [.slice p49 d_46.length c50, .slice aE e.Elems.length aF, .func (.func 70) #[] #[]] from by rw [← Gk]) (walk_slices_EqualFunc_int hOc131.lt Gj (ae.ch (Owns.dropCh _ _ 3)) H)) (fun v w hr => by obtain ⟨_, _, hs, _⟩ := hr; assumption) rfl rfl ?_
      rintro IK IL ⟨r132, rfl, zn, H⟩
      have gt := Stp.same hO zn
      replace bh := bh.ch gt.ch
      replace aZ := aZ.ch gt.ch
      replace dU := dU.ch gt.ch
      replace dV := dV.ch gt.ch
      replace dW := dW.ch gt.ch
      replace dX := dX.ch gt.ch
      replace dY := dY.ch gt.ch
      replace dZ := dZ.ch gt.ch
      replace dH := dH.ch gt.ch
      replace hO := gt.own
      replace ah := ah.ch gt.ch
      replace ae := ae.ch gt.ch
      replace ac := ac.ch gt.ch
      replace ai := ai.ch gt.ch
      replace af := af.ch gt.ch
      replace ag := ag.ch gt.ch
      replace hB := hB.trans gt.fr
      refine GoQ.pure rfl (op_pickT rfl rfl rfl) rfl rfl ?_
      refine GoQ.pure rfl (op_move rfl) rfl rfl ?_
      cases r132
      ·replace H := ifn Bool.false_ne_true H
       refine GoQ.pass rfl rfl rfl ?_
       refine GoQ.pass rfl rfl rfl ?_
       refine GoQ.pass rfl rfl rfl ?_
       refine GoQ.pass rfl rfl rfl ?_
       refine GoQ.pass rfl rfl rfl ?_
       refine GoQ.pass rfl rfl rfl ?_
       refine GoQ.pass rfl rfl rfl ?_
       refine GoQ.pass rfl rfl rfl ?_
       refine GoQ.pure rfl (op_pickF rfl rfl rfl) rfl rfl ?_
       refine GoQ.pure rfl (op_move rfl) rfl rfl ?_
       refine GoQ.pass rfl rfl rfl ?_
       refine GoQ.pass rfl rfl rfl ?_
       refine GoQ.pass rfl rfl rfl ?_
       refine GoQ.pass rfl rfl rfl ?_
       refine GoQ.pass rfl rfl rfl ?_
       refine GoQ.pass rfl rfl rfl ?_
       refine GoQ.pass rfl rfl rfl ?_
       refine GoQ.pass rfl rfl rfl ?_
       refine GoQ.pure rfl (op_pickF rfl rfl rfl) rfl rfl ?_
       refine GoQ.pure rfl (op_move rfl) rfl rfl ?_
       refine GoQ.pass rfl rfl rfl ?_
       refine GoQ.pass rfl rfl rfl ?_
       refine GoQ.pass rfl rfl rfl ?_
       refine GoQ.pass rfl rfl rfl ?_
       refine GoQ.pass rfl rfl rfl ?_
       refine GoQ.pass rfl rfl rfl ?_
       refine GoQ.pass rfl rfl rfl ?_
       refine GoQ.pass rfl rfl rfl ?_
       refine GoQ.pure rfl (op_pickF rfl rfl rfl) rfl rfl ?_
       refine GoQ.pure rfl (op_move rfl) rfl rfl ?_
       refine GoQ.pass rfl rfl rfl ?_
       refine GoQ.pass rfl rfl rfl ?_
       refine GoQ.pass rfl rfl rfl ?_
       refine GoQ.pass rfl rfl rfl ?_
       refine GoQ.pass rfl rfl rfl ?_
       refine GoQ.pass rfl rfl rfl ?_
       refine GoQ.pass rfl rfl rfl ?_
       refine GoQ.pass rfl rfl rfl ?_
       refine GoQ.pure rfl (op_pickF rfl rfl rfl) rfl rfl ?_
       refine GoQ.pure rfl (op_assign rfl) rfl rfl ?_
       refine GoQ.nil ?_
       refine Go1.ret1V Try.func68 rfl (show _ = .bool false from rfl) ?_
       refine hR117 _ _ ?_
       refine GoR.op ((op_assign rfl) _) rfl rfl ?_
       refine GoR.op ((op_assign rfl) _) rfl rfl ?_
       refine GoR.nil ?_
       replace ah := ah.ch (Owns.dropCh _ _ 0)
       replace ae := ae.ch (Owns.dropCh _ _ 0)
       replace ac := ac.ch (Owns.dropCh _ _ 0)
       replace ai := ai.ch (Owns.dropCh _ _ 0)
       replace af := af.ch (Owns.dropCh _ _ 0)
       replace ag := ag.ch (Owns.dropCh _ _ 0)
       replace bh := bh.ch (Owns.dropCh _ _ 0)
       replace aZ := aZ.ch (Owns.dropCh _ _ 0)
       replace dU := dU.ch (Owns.dropCh _ _ 0)
       replace dV := dV.ch (Owns.dropCh _ _ 0)
       replace dW := dW.ch (Owns.dropCh _ _ 0)
       replace dX := dX.ch (Owns.dropCh _ _ 0)
       replace dY := dY.ch (Owns.dropCh _ _ 0)
       replace dZ := dZ.ch (Owns.dropCh _ _ 0)
       replace dH := dH.ch (Owns.dropCh _ _ 0)
       replace hB := hB.trans (Owns.dropFr _ _ 0)
       replace hO := hO.drop 0
       dsimp only [eS, eZ] at hB hO ah ae ac ai af ag bh aZ dU dV dW dX dY dZ dH
       replace ah := ah.ch (Owns.dropCh _ _ 11)
       replace ae := ae.ch (Owns.dropCh _ _ 11)
       replace ac := ac.ch (Owns.dropCh _ _ 11)
       replace ai := ai.ch (Owns.dropCh _ _ 11)
       replace af := af.ch (Owns.dropCh _ _ 11)
       replace ag := ag.ch (Owns.dropCh _ _ 11)
       replace bh := bh.ch (Owns.dropCh _ _ 11)
       replace aZ := aZ.ch (Owns.dropCh _ _ 11)
       replace dU := dU.ch (Owns.dropCh _ _ 11)
       replace dV := dV.ch (Owns.dropCh _ _ 11)
       replace dW := dW.ch (Owns.dropCh _ _ 11)
       replace dX := dX.ch (Owns.dropCh _ _ 11)
       replace dY := dY.ch (Owns.dropCh _ _ 11)
       replace dZ := dZ.ch (Owns.dropCh _ _ 11)
       replace dH := dH.ch (Owns.dropCh _ _ 11)
       replace hB := hB.trans (Owns.dropFr _ _ 11)
       replace hO := hO.drop 11
       dsimp only [eS, eZ] at hB hO ah ae ac ai af ag bh aZ dU dV dW dX dY dZ dH
       refine Go1.ret2 Try.func53 rfl ?_
       exact Or.inr ⟨(⟨(⟨k2_37, b2_38, d_40, d_46, d_52, d_58, d_64, d_70, k2_39⟩ : Enum), m2_94, d_76, d_82, d_88⟩ : run), false, iK, n45, p43, c44, e8, n51, p49, c50, e9, n57, p55, c56, jN, n63, p61, c62, jO, n69, p67, c68, jP, n75, p73, c74, jQ, bX, n81, p79, c80, jR, n87, p85, c86, jS, n93, p91, c92, jT, rfl, hB.same, hO, bh, aZ, dU, dV, dW, dX, dY, dZ, dH, H⟩
      replace H := ifp rfl H
      refine GoQ.pure rfl (op_move rfl) rfl rfl ?_
      refine GoQ.pure rfl (op_nilCheck rfl) rfl rfl ?_
      refine GoQ.pure rfl (op_fieldAddr Try.underlying72 rfl ti29 rfl (by decide)) rfl rfl ?_
      refine GoQ.pure rfl (op_fieldAddr Try.underlying29 rfl ti26 rfl (by decide)) rfl rfl ?_
      refine GoQ.stable rfl (oblk (i := 4) 1 hO rfl rfl Try.underlying26 rfl rfl) rfl rfl ?_
      refine GoQ.pure rfl (op_fieldAddr Try.underlying29 rfl ti26 rfl (by decide)) rfl rfl ?_
      refine GoQ.stable rfl (oblk (i := 4) 0 hO rfl rfl Try.underlying26 rfl rfl) rfl rfl ?_
      have hobt := rowlend 4 hO rfl dU
      obtain ⟨Gl, Gm⟩ := hobt
      have hOc140 := hO.drop 4
      refine GoQ.call rfl (op_call body70 (show ([.slice p55 n57 c56, .slice ak e.Prefix.length al] : List Value) = [.slice p55 d_52.length c56, .slice ak e.Prefix.length al] from by rw [← Gm]) (walk_slices_Equal_int hOc140.lt Gl (ac.ch (Owns.dropCh _ _ 4)) H)) (fun v w hr => by obtain ⟨_, _, hs, _⟩ := hr; assumption) rfl rfl ?_
      rintro M4 M5 ⟨r141, rfl, Gn, H⟩
      have l5 := Stp.same hO Gn
      replace bh := bh.ch l5.ch
      replace aZ := aZ.ch l5.ch
      replace dU := dU.ch l5.ch
      replace dV := dV.ch l5.ch
      replace dW := dW.ch l5.ch
      replace dX := dX.ch l5.ch
      replace dY := dY.ch l5.ch
      replace dZ := dZ.ch l5.ch
      replace dH := dH.ch l5.ch
      replace hO := l5.own
      replace ah := ah.ch l5.ch
      replace ae := ae.ch l5.ch
      replace ac := ac.ch l5.ch
      replace ai := ai.ch l5.ch
      replace af := af.ch l5.ch
      replace ag := ag.ch l5.ch
      replace hB := hB.trans l5.fr
      refine GoQ.pure rfl (op_pickT rfl rfl rfl) rfl rfl ?_
      refine GoQ.pure rfl (op_move rfl) rfl rfl ?_
      cases r141
      ·replace H := ifn Bool.false_ne_true H
       refine GoQ.pass rfl rfl rfl ?_
       refine GoQ.pass rfl rfl rfl ?_
       refine GoQ.pass rfl rfl rfl ?_
       refine GoQ.pass rfl rfl rfl ?_
       refine GoQ.pass rfl rfl rfl ?_
       refine GoQ.pass rfl rfl rfl ?_
       refine GoQ.pass rfl rfl rfl ?_
       refine GoQ.pass rfl rfl rfl ?_
       refine GoQ.pure rfl (op_pickF rfl rfl rfl) rfl rfl ?_
       refine GoQ.pure rfl (op_move rfl) rfl rfl ?_
       refine GoQ.pass rfl rfl rfl ?_
       refine GoQ.pass rfl rfl rfl ?_
       refine GoQ.pass rfl rfl rfl ?_
       refine GoQ.pass rfl rfl rfl ?_
       refine GoQ.pass rfl rfl rfl ?_
       refine GoQ.pass rfl rfl rfl ?_
       refine GoQ.pass rfl rfl rfl ?_
       refine GoQ.pass rfl rfl rfl ?_
       refine GoQ.pure rfl (op_pickF rfl rfl rfl) rfl rfl ?_
       refine GoQ.pure rfl (op_move rfl) rfl rfl ?_
       refine GoQ.pass rfl rfl rfl ?_
       refine GoQ.pass rfl rfl rfl ?_
       refine GoQ.pass rfl rfl rfl ?_
       refine GoQ.pass rfl rfl rfl ?_
       refine GoQ.pass rfl rfl rfl ?_
       refine GoQ.pass rfl rfl rfl ?_
       refine GoQ.pass rfl rfl rfl ?_
       refine GoQ.pass rfl rfl rfl ?_
       refine GoQ.pure rfl (op_pickF rfl rfl rfl) rfl rfl ?_
       refine GoQ.pure rfl (op_assign rfl) rfl rfl ?_
       refine GoQ.nil ?_
       refine Go1.ret1V Try.func68 rfl (show _ = .bool false from rfl) ?_
       refine hR117 _ _ ?_
       refine GoR.op ((op_assign rfl) _) rfl rfl ?_
       refine GoR.op ((op_assign rfl) _) rfl rfl ?_
       refine GoR.nil ?_
       replace ah := ah.ch (Owns.dropCh _ _ 0)
       replace ae := ae.ch (Owns.dropCh _ _ 0)
       replace ac := ac.ch (Owns.dropCh _ _ 0)
       replace ai := ai.ch (Owns.dropCh _ _ 0)
       replace af := af.ch (Owns.dropCh _ _ 0)
       replace ag := ag.ch (Owns.dropCh _ _ 0)
       replace bh := bh.ch (Owns.dropCh _ _ 0)
       replace aZ := aZ.ch (Owns.dropCh _ _ 0)
       replace dU := dU.ch (Owns.dropCh _ _ 0)
       replace dV := dV.ch (Owns.dropCh _ _ 0)
       replace dW := dW.ch (Owns.dropCh _ _ 0)
       replace dX := dX.ch (Owns.dropCh _ _ 0)
       replace dY := dY.ch (Owns.dropCh _ _ 0)
       replace dZ := dZ.ch (Owns.dropCh _ _ 0)
       replace dH := dH.ch (Owns.dropCh _ _ 0)
       replace hB := hB.trans (Owns.dropFr _ _ 0)
       replace hO := hO.drop 0
       dsimp only [eS, eZ] at hB hO ah ae ac ai af ag bh aZ dU dV dW dX dY dZ dH
       replace ah := ah.ch (Owns.dropCh _ _ 11)
       replace ae := ae.ch (Owns.dropCh _ _ 11)
       replace ac := ac.ch (Owns.dropCh _ _ 11)
       replace ai := ai.ch (Owns.dropCh _ _ 11)
       replace af := af.ch (Owns.dropCh _ _ 11)
       replace ag := ag.ch (Owns.dropCh _ _ 11)
       replace bh := bh.ch (Owns.dropCh _ _ 11)
       replace aZ := aZ.ch (Owns.dropCh _ _ 11)
       replace dU := dU.ch (Owns.dropCh _ _ 11)
       replace dV := dV.ch (Owns.dropCh _ _ 11)
       replace dW := dW.ch (Owns.dropCh _ _ 11)
       replace dX := dX.ch (Owns.dropCh _ _ 11)
       replace dY := dY.ch (Owns.dropCh _ _ 11)
       replace dZ := dZ.ch (Owns.dropCh _ _ 11)
       replace dH := dH.ch (Owns.dropCh _ _ 11)
       replace hB := hB.trans (Owns.dropFr _ _ 11)
       replace hO := hO.drop 11
       dsimp only [eS, eZ] at hB hO ah ae ac ai af ag bh aZ dU dV dW dX dY dZ dH
       refine Go1.ret2 Try.func53 rfl ?_
       exact Or.inr ⟨(⟨(⟨k2_37, b2_38, d_40, d_46, d_52, d_58, d_64, d_70, k2_39⟩ : Enum), m2_94, d_76, d_82, d_88⟩ : run), false, iK, n45, p43, c44, e8, n51, p49, c50, e9, n57, p55, c56, jN, n63, p61, c62, jO, n69, p67, c68, jP, n75, p73, c74, jQ, bX, n81, p79, c80, jR, n87, p85, c86, jS, n93, p91, c92, jT, rfl, hB.same, hO, bh, aZ, dU, dV, dW, dX, dY, dZ, dH, H⟩
      replace H := ifp rfl H
      refine GoQ.pure rfl (op_move rfl) rfl rfl ?_
      refine GoQ.pure rfl (op_nilCheck rfl) rfl rfl ?_
      refine GoQ.pure rfl (op_fieldAddr Try.underlying72 rfl ti29 rfl (by decide)) rfl rfl ?_
      refine GoQ.pure rfl (op_fieldAddr Try.underlying29 rfl ti26 rfl (by decide)) rfl rfl ?_
      refine GoQ.stable rfl (oblk (i := 5) 1 hO rfl rfl Try.underlying26 rfl rfl) rfl rfl ?_
      refine GoQ.pure rfl (op_fieldAddr Try.underlying29 rfl ti26 rfl (by decide)) rfl rfl ?_
      refine GoQ.stable rfl (oblk (i := 5) 0 hO rfl rfl Try.underlying26 rfl rfl) rfl rfl ?_
      have hobt := rowlend 5 hO rfl dV
      obtain ⟨Gp, Gq⟩ := hobt
      have hOc149 := hO.drop 5
      refine GoQ.call rfl (op_call body70 (show ([.slice p61 n63 c62, .slice aX e.Last.length aY] : List Value) = [.slice p61 d_58.length c62, .slice aX e.Last.length aY] from by rw [← Gq]) (walk_slices_Equal_int hOc149.lt Gp (ai.ch (Owns.dropCh _ _ 5)) H)) (fun v w hr => by obtain ⟨_, _, hs, _⟩ := hr; assumption) rfl rfl ?_
      rintro M6 M7 ⟨r150, rfl, Gr, H⟩
      have l7 := Stp.same hO Gr
      replace bh := bh.ch l7.ch
      replace aZ := aZ.ch l7.ch
      replace dU := dU.ch l7.ch
      replace dV := dV.ch l7.ch
      replace dW := dW.ch l7.ch
      replace dX := dX.ch l7.ch
      replace dY := dY.ch l7.ch
      replace dZ := dZ.ch l7.ch
      replace dH := dH.ch l7.ch
      replace hO := l7.own
      replace ah := ah.ch l7.ch
      replace ae := ae.ch l7.ch
      replace ac := ac.ch l7.ch
      replace ai := ai.ch l7.ch
      replace af := af.ch l7.ch
      replace ag := ag.ch l7.ch
      replace hB := hB.trans l7.fr
      refine GoQ.pure rfl (op_pickT rfl rfl rfl) rfl rfl ?_
      refine GoQ.pure rfl (op_move rfl) rfl rfl ?_
      cases r150
      ·replace H := ifn Bool.false_ne_true H
       refine GoQ.pass rfl rfl rfl ?_
       refine GoQ.pass rfl rfl rfl ?_
       refine GoQ.pass rfl rfl rfl ?_
       refine GoQ.pass rfl rfl rfl ?_
       refine GoQ.pass rfl rfl rfl ?_
       refine GoQ.pass rfl rfl rfl ?_
       refine GoQ.pass rfl rfl rfl ?_
       refine GoQ.pass rfl rfl rfl ?_
       refine GoQ.pure rfl (op_pickF rfl rfl rfl) rfl rfl ?_
       refine GoQ.pure rfl (op_move rfl) rfl rfl ?_
       refine GoQ.pass rfl rfl rfl ?_
       refine GoQ.pass rfl rfl rfl ?_
       refine GoQ.pass rfl rfl rfl ?_
       refine GoQ.pass rfl rfl rfl ?_
       refine GoQ.pass rfl rfl rfl ?_
       refine GoQ.pass rfl rfl rfl ?_
       refine GoQ.pass rfl rfl rfl ?_
       refine GoQ.pass rfl rfl rfl ?_
       refine GoQ.pure rfl (op_pickF rfl rfl rfl) rfl rfl ?_
       refine GoQ.pure rfl (op_assign rfl) rfl rfl ?_
       refine GoQ.nil ?_
       refine Go1.ret1V Try.func68 rfl (show _ = .bool false from rfl) ?_
       refine hR117 _ _ ?_
       refine GoR.op ((op_assign rfl) _) rfl rfl ?_
       refine GoR.op ((op_assign rfl) _) rfl rfl ?_
       refine GoR.nil ?_
       replace ah := ah.ch (Owns.dropCh _ _ 0)
       replace ae := ae.ch (Owns.dropCh _ _ 0)
       replace ac := ac.ch (Owns.dropCh _ _ 0)
       replace ai := ai.ch (Owns.dropCh _ _ 0)
       replace af := af.ch (Owns.dropCh _ _ 0)
       replace ag := ag.ch (Owns.dropCh _ _ 0)
       replace bh := bh.ch (Owns.dropCh _ _ 0)
       replace aZ := aZ.ch (Owns.dropCh _ _ 0)
       replace dU := dU.ch (Owns.dropCh _ _ 0)
       replace dV := dV.ch (Owns.dropCh _ _ 0)
       replace dW := dW.ch (Owns.dropCh _ _ 0)
       replace dX := dX.ch (Owns.dropCh _ _ 0)
       replace dY := dY.ch (Owns.dropCh _ _ 0)
       replace dZ := dZ.ch (Owns.dropCh _ _ 0)
       replace dH := dH.ch (Owns.dropCh _ _ 0)
       replace hB := hB.trans (Owns.dropFr _ _ 0)
       replace hO := hO.drop 0
       dsimp only [eS, eZ] at hB hO ah ae ac ai af ag bh aZ dU dV dW dX dY dZ dH
       replace ah := ah.ch (Owns.dropCh _ _ 11)
       replace ae := ae.ch (Owns.dropCh _ _ 11)
       replace ac := ac.ch (Owns.dropCh _ _ 11)
       replace ai := ai.ch (Owns.dropCh _ _ 11)
       replace af := af.ch (Owns.dropCh _ _ 11)
       replace ag := ag.ch (Owns.dropCh _ _ 11)
       replace bh := bh.ch (Owns.dropCh _ _ 11)
       replace aZ := aZ.ch (Owns.dropCh _ _ 11)
       replace dU := dU.ch (Owns.dropCh _ _ 11)
       replace dV := dV.ch (Owns.dropCh _ _ 11)
       replace dW := dW.ch (Owns.dropCh _ _ 11)
       replace dX := dX.ch (Owns.dropCh _ _ 11)
       replace dY := dY.ch (Owns.dropCh _ _ 11)
       replace dZ := dZ.ch (Owns.dropCh _ _ 11)
       replace dH := dH.ch (Owns.dropCh _ _ 11)
       replace hB := hB.trans (Owns.dropFr _ _ 11)
       replace hO := hO.drop 11
       dsimp only [eS, eZ] at hB hO ah ae ac ai af ag bh aZ dU dV dW dX dY dZ dH
       refine Go1.ret2 Try.func53 rfl ?_
       exact Or.inr ⟨(⟨(⟨k2_37, b2_38, d_40, d_46, d_52, d_58, d_64, d_70, k2_39⟩ : Enum), m2_94, d_76, d_82, d_88⟩ : run), false, iK, n45, p43, c44, e8, n51, p49, c50, e9, n57, p55, c56, jN, n63, p61, c62, jO, n69, p67, c68, jP, n75, p73, c74, jQ, bX, n81, p79, c80, jR, n87, p85, c86, jS, n93, p91, c92, jT, rfl, hB.same, hO, bh, aZ, dU, dV, dW, dX, dY, dZ, dH, H⟩
      replace H := ifp rfl H
      refine GoQ.pure rfl (op_move rfl) rfl rfl ?_
      refine GoQ.pure rfl (op_nilCheck rfl) rfl rfl ?_
      refine GoQ.pure rfl (op_fieldAddr Try.underlying72 rfl ti29 rfl (by decide)) rfl rfl ?_
      refine GoQ.pure rfl (op_fieldAddr Try.underlying29 rfl ti22 rfl (by decide)) rfl rfl ?_
      refine GoQ.stable rfl (oblk (i := 6) 1 hO rfl rfl Try.underlying22 rfl rfl) rfl rfl ?_
      refine GoQ.pure rfl (op_fieldAddr Try.underlying29 rfl ti22 rfl (by decide)) rfl rfl ?_
      refine GoQ.stable rfl (oblk (i := 6) 0 hO rfl rfl Try.underlying22 rfl rfl) rfl rfl ?_
      have hobt := rowlend 6 hO rfl dW
      obtain ⟨Gs, Gt⟩ := hobt
      have hOc158 := hO.drop 6
      refine GoQ.call rfl (op_call body69 (show ([.slice p67 n69 c68, .slice aG e.Right.length aH, .func (.func 70) #[] #[]] : List Value) = [.slice p67 d_64.length c68, .slice aG e.Right.length aH, .func (.func 70) #[] #[]] from by rw [← Gt]) (walk_slices_EqualFunc_int hOc158.lt Gs (af.ch (Owns.dropCh _ _ 6)) H)) (fun v w hr => by obtain ⟨_, _, hs, _⟩ := hr; assumption) rfl rfl ?_
      rintro M8 M9 ⟨r159, rfl, Gu, H⟩
      have l8 := Stp.same hO Gu
      replace bh := bh.ch l8.ch
      replace aZ := aZ.ch l8.ch
      replace dU := dU.ch l8.ch
      replace dV := dV.ch l8.ch
      replace dW := dW.ch l8.ch
      replace dX := dX.ch l8.ch
      replace dY := dY.ch l8.ch
      replace dZ := dZ.ch l8.ch
      replace dH := dH.ch l8.ch
      replace hO := l8.own
      replace ah := ah.ch l8.ch
      replace ae := ae.ch l8.ch
      replace ac := ac.ch l8.ch
      replace ai := ai.ch l8.ch
      replace af := af.ch l8.ch
      replace ag := ag.ch l8.ch
      replace hB := hB.trans l8.fr
      refine GoQ.pure rfl (op_pickT rfl rfl rfl) rfl rfl ?_
      refine GoQ.pure rfl (op_move rfl) rfl rfl ?_
      cases r159
      ·replace H := ifn Bool.false_ne_true H
       refine GoQ.pass rfl rfl rfl ?_
       refine GoQ.pass rfl rfl rfl ?_
       refine GoQ.pass rfl rfl rfl ?_
       refine GoQ.pass rfl rfl rfl ?_
       refine GoQ.pass rfl rfl rfl ?_
       refine GoQ.pass rfl rfl rfl ?_
       refine GoQ.pass rfl rfl rfl ?_
       refine GoQ.pass rfl rfl rfl ?_
       refine GoQ.pure rfl (op_pickF rfl rfl rfl) rfl rfl ?_
       refine GoQ.pure rfl (op_assign rfl) rfl rfl ?_
       refine GoQ.nil ?_
       refine Go1.ret1V Try.func68 rfl (show _ = .bool false from rfl) ?_
       refine hR117 _ _ ?_
       refine GoR.op ((op_assign rfl) _) rfl rfl ?_
       refine GoR.op ((op_assign rfl) _) rfl rfl ?_
       refine GoR.nil ?_
       replace ah := ah.ch (Owns.dropCh _ _ 0)
       replace ae := ae.ch (Owns.dropCh _ _ 0)
       replace ac := ac.ch (Owns.dropCh _ _ 0)
       replace ai := ai.ch (Owns.dropCh _ _ 0)
       replace af := af.ch (Owns.dropCh _ _ 0)
       replace ag := ag.ch (Owns.dropCh _ _ 0)
       replace bh := bh.ch (Owns.dropCh _ _ 0)
       replace aZ := aZ.ch (Owns.dropCh _ _ 0)
       replace dU := dU.ch (Owns.dropCh _ _ 0)
       replace dV := dV.ch (Owns.dropCh _ _ 0)
       replace dW := dW.ch (Owns.dropCh _ _ 0)
       replace dX := dX.ch (Owns.dropCh _ _ 0)
       replace dY := dY.ch (Owns.dropCh _ _ 0)
       replace dZ := dZ.ch (Owns.dropCh _ _ 0)
       replace dH := dH.ch (Owns.dropCh _ _ 0)
       replace hB := hB.trans (Owns.dropFr _ _ 0)
       replace hO := hO.drop 0
       dsimp only [eS, eZ] at hB hO ah ae ac ai af ag bh aZ dU dV dW dX dY dZ dH
       replace ah := ah.ch (Owns.dropCh _ _ 11)
       replace ae := ae.ch (Owns.dropCh _ _ 11)
       replace ac := ac.ch (Owns.dropCh _ _ 11)
       replace ai := ai.ch (Owns.dropCh _ _ 11)
       replace af := af.ch (Owns.dropCh _ _ 11)
       replace ag := ag.ch (Owns.dropCh _ _ 11)
       replace bh := bh.ch (Owns.dropCh _ _ 11)
       replace aZ := aZ.ch (Owns.dropCh _ _ 11)
       replace dU := dU.ch (Owns.dropCh _ _ 11)
       replace dV := dV.ch (Owns.dropCh _ _ 11)
       replace dW := dW.ch (Owns.dropCh _ _ 11)
       replace dX := dX.ch (Owns.dropCh _ _ 11)
       replace dY := dY.ch (Owns.dropCh _ _ 11)
       replace dZ := dZ.ch (Owns.dropCh _ _ 11)
       replace dH := dH.ch (Owns.dropCh _ _ 11)
       replace hB := hB.trans (Owns.dropFr _ _ 11)
       replace hO := hO.drop 11
       dsimp only [eS, eZ] at hB hO ah ae ac ai af ag bh aZ dU dV dW dX dY dZ dH
       refine Go1.ret2 Try.func53 rfl ?_
       exact Or.inr ⟨(⟨(⟨k2_37, b2_38, d_40, d_46, d_52, d_58, d_64, d_70, k2_39⟩ : Enum), m2_94, d_76, d_82, d_88⟩ : run), false, iK, n45, p43, c44, e8, n51, p49, c50, e9, n57, p55, c56, jN, n63, p61, c62, jO, n69, p67, c68, jP, n75, p73, c74, jQ, bX, n81, p79, c80, jR, n87, p85, c86, jS, n93, p91, c92, jT, rfl, hB.same, hO, bh, aZ, dU, dV, dW, dX, dY, dZ, dH, H⟩
      replace H := ifp rfl H
      refine GoQ.pure rfl (op_move rfl) rfl rfl ?_
      refine GoQ.pure rfl (op_nilCheck rfl) rfl rfl ?_
      refine GoQ.pure rfl (op_fieldAddr Try.underlying72 rfl ti29 rfl (by decide)) rfl rfl ?_
      refine GoQ.pure rfl (op_fieldAddr Try.underlying29 rfl ti27 rfl (by decide)) rfl rfl ?_
      refine GoQ.stable rfl (oblk (i := 7) 1 hO rfl rfl Try.underlying27 rfl rfl) rfl rfl ?_
      refine GoQ.pure rfl (op_fieldAddr Try.underlying29 rfl ti27 rfl (by decide)) rfl rfl ?_
      refine GoQ.stable rfl (oblk (i := 7) 0 hO rfl rfl Try.underlying27 rfl rfl) rfl rfl ?_
      have hobt := rowlend 7 hO rfl dX
      obtain ⟨Gv, Gw⟩ := hobt
      have hOc167 := hO.drop 7
      refine GoQ.call rfl (op_call body71 (show ([.slice p73 n75 c74, .slice aI e.Rules.length aJ] : List Value) = [.slice p73 d_70.length c74, .slice aI e.Rules.length aJ] from by rw [← Gw]) (walk_slices_Equal_api_Rule hOc167.lt Gv (ag.ch (Owns.dropCh _ _ 7)) H)) (fun v w hr => by obtain ⟨_, _, hs, _⟩ := hr; assumption) rfl rfl ?_
      rintro Na Nb ⟨r168, rfl, Gx, H⟩
      have l9 := Stp.same hO Gx
      replace bh := bh.ch l9.ch
      replace aZ := aZ.ch l9.ch
      replace dU := dU.ch l9.ch
      replace dV := dV.ch l9.ch
      replace dW := dW.ch l9.ch
      replace dX := dX.ch l9.ch
      replace dY := dY.ch l9.ch
      replace dZ := dZ.ch l9.ch
      replace dH := dH.ch l9.ch
      replace hO := l9.own
      replace ah := ah.ch l9.ch
      replace ae := ae.ch l9.ch
      replace ac := ac.ch l9.ch
      replace ai := ai.ch l9.ch
      replace af := af.ch l9.ch
      replace ag := ag.ch l9.ch
      replace hB := hB.trans l9.fr
      refine GoQ.pure rfl (op_pickT rfl rfl rfl) rfl rfl ?_
      refine GoQ.pure rfl (op_assign rfl) rfl rfl ?_
      refine GoQ.nil ?_
      refine Go1.ret1V Try.func68 rfl (show _ = .bool r168 from rfl) ?_
      refine hR117 _ _ ?_
      refine GoR.op ((op_assign rfl) _) rfl rfl ?_
      refine GoR.op ((op_assign rfl) _) rfl rfl ?_
      refine GoR.nil ?_
      replace ah := ah.ch (Owns.dropCh _ _ 0)
      replace ae := ae.ch (Owns.dropCh _ _ 0)
      replace ac := ac.ch (Owns.dropCh _ _ 0)
      replace ai := ai.ch (Owns.dropCh _ _ 0)
      replace af := af.ch (Owns.dropCh _ _ 0)
      replace ag := ag.ch (Owns.dropCh _ _ 0)
      replace bh := bh.ch (Owns.dropCh _ _ 0)
      replace aZ := aZ.ch (Owns.dropCh _ _ 0)
      replace dU := dU.ch (Owns.dropCh _ _ 0)
      replace dV := dV.ch (Owns.dropCh _ _ 0)
      replace dW := dW.ch (Owns.dropCh _ _ 0)
      replace dX := dX.ch (Owns.dropCh _ _ 0)
      replace dY := dY.ch (Owns.dropCh _ _ 0)
      replace dZ := dZ.ch (Owns.dropCh _ _ 0)
      replace dH := dH.ch (Owns.dropCh _ _ 0)
      replace hB := hB.trans (Owns.dropFr _ _ 0)
      replace hO := hO.drop 0
      dsimp only [eS, eZ] at hB hO ah ae ac ai af ag bh aZ dU dV dW dX dY dZ dH
      replace ah := ah.ch (Owns.dropCh _ _ 11)
      replace ae := ae.ch (Owns.dropCh _ _ 11)
      replace ac := ac.ch (Owns.dropCh _ _ 11)
      replace ai := ai.ch (Owns.dropCh _ _ 11)
      replace af := af.ch (Owns.dropCh _ _ 11)
      replace ag := ag.ch (Owns.dropCh _ _ 11)
      replace bh := bh.ch (Owns.dropCh _ _ 11)
      replace aZ := aZ.ch (Owns.dropCh _ _ 11)
      replace dU := dU.ch (Owns.dropCh _ _ 11)
      replace dV := dV.ch (Owns.dropCh _ _ 11)
      replace dW := dW.ch (Owns.dropCh _ _ 11)
      replace dX := dX.ch (Owns.dropCh _ _ 11)
      replace dY := dY.ch (Owns.dropCh _ _ 11)
      replace dZ := dZ.ch (Owns.dropCh _ _ 11)
      replace dH := dH.ch (Owns.dropCh _ _ 11)
      replace hB := hB.trans (Owns.dropFr _ _ 11)
      replace hO := hO.drop 11
      dsimp only [eS, eZ] at hB hO ah ae ac ai af ag bh aZ dU dV dW dX dY dZ dH
      refine Go1.ret2 Try.func53 rfl ?_
      exact Or.inr ⟨(⟨(⟨k2_37, b2_38, d_40, d_46, d_52, d_58, d_64, d_70, k2_39⟩ : Enum), m2_94, d_76, d_82, d_88⟩ : run), r168, iK, n45, p43, c44, e8, n51, p49, c50, e9, n57, p55, c56, jN, n63, p61, c62, jO, n69, p67, c68, jP, n75, p73, c74, jQ, bX, n81, p79, c80, jR, n87, p85, c86, jS, n93, p91, c92, jT, rfl, hB.same, hO, bh, aZ, dU, dV, dW, dX, dY, dZ, dH, H⟩
     replace H := ifn zm H
     refine GoQ.pure rfl (fun w => opB (op_eql rfl rfl w) (decide_eq_false zm)) rfl rfl ?_
     refine GoQ.pure rfl (op_pickT rfl rfl rfl) rfl rfl ?_
     refine GoQ.pure rfl (op_move rfl) rfl rfl ?_
     refine GoQ.pass rfl rfl rfl ?_
     refine GoQ.pass rfl rfl rfl ?_
     refine GoQ.pass rfl rfl rfl ?_
     refine GoQ.pass rfl rfl rfl ?_
     refine GoQ.pass rfl rfl rfl ?_
     refine GoQ.pass rfl rfl rfl ?_
     refine GoQ.pass rfl rfl rfl ?_
     refine GoQ.pass rfl rfl rfl ?_
     refine GoQ.pure rfl (op_pickF rfl rfl rfl) rfl rfl ?_
     refine GoQ.pure rfl (op_move rfl) rfl rfl ?_
     refine GoQ.pass rfl rfl rfl ?_
     refine GoQ.pass rfl rfl rfl ?_
     refine GoQ.pass rfl rfl rfl ?_
     refine GoQ.pass rfl rfl rfl ?_
     refine GoQ.pass rfl rfl rfl ?_
     refine GoQ.pass rfl rfl rfl ?_
     refine GoQ.pass rfl rfl rfl ?_
     refine GoQ.pass rfl rfl rfl ?_
     refine GoQ.pure rfl (op_pickF rfl rfl rfl) rfl rfl ?_
     refine GoQ.pure rfl (op_move rfl) rfl rfl ?_
     refine GoQ.pass rfl rfl rfl ?_
     refine GoQ.pass rfl rfl rfl ?_
     refine GoQ.pass rfl rfl rfl ?_
     refine GoQ.pass rfl rfl rfl ?_
     refine GoQ.pass rfl rfl rfl ?_
     refine GoQ.pass rfl rfl rfl ?_
     refine GoQ.pass rfl rfl rfl ?_
     refine GoQ.pass rfl rfl rfl ?_
     refine GoQ.pure rfl (op_pickF rfl rfl rfl) rfl rfl ?_
     refine GoQ.pure rfl (op_move rfl) rfl rfl ?_
     refine GoQ.pass rfl rfl rfl ?_
     refine GoQ.pass rfl rfl rfl ?_
     refine GoQ.pass rfl rfl rfl ?_
     refine GoQ.pass rfl rfl rfl ?_
     refine GoQ.pass rfl rfl rfl ?_
     refine GoQ.pass rfl rfl rfl ?_
     refine GoQ.pass rfl rfl rfl ?_
     refine GoQ.pass rfl rfl rfl ?_
     refine GoQ.pure rfl (op_pickF rfl rfl rfl) rfl rfl ?_
     refine GoQ.pure rfl (op_move rfl) rfl rfl ?_
     refine GoQ.pass rfl rfl rfl ?_
     refine GoQ.pass rfl rfl rfl ?_
     refine GoQ.pass rfl rfl rfl ?_
     refine GoQ.pass rfl rfl rfl ?_
     refine GoQ.pass rfl rfl rfl ?_
     refine GoQ.pass rfl rfl rfl ?_
     refine GoQ.pass rfl rfl rfl ?_
     refine GoQ.pass rfl rfl rfl ?_
     refine GoQ.pure rfl (op_pickF rfl rfl rfl) rfl rfl ?_
     refine GoQ.pure rfl (op_assign rfl) rfl rfl ?_
     refine GoQ.nil ?_
     refine Go1.ret1V Try.func68 rfl (show _ = .bool false from rfl) ?_
     refine hR117 _ _ ?_
     refine GoR.op ((op_assign rfl) _) rfl rfl ?_
     refine GoR.op ((op_assign rfl) _) rfl rfl ?_
     refine GoR.nil ?_
     replace ah := ah.ch (Owns.dropCh _ _ 0)
     replace ae := ae.ch (Owns.dropCh _ _ 0)
     replace ac := ac.ch (Owns.dropCh _ _ 0)
     replace ai := ai.ch (Owns.dropCh _ _ 0)
     replace af := af.ch (Owns.dropCh _ _ 0)
     replace ag := ag.ch (Owns.dropCh _ _ 0)
     replace bh := bh.ch (Owns.dropCh _ _ 0)
     replace aZ := aZ.ch (Owns.dropCh _ _ 0)
     replace dU := dU.ch (Owns.dropCh _ _ 0)
     replace dV := dV.ch (Owns.dropCh _ _ 0)
     replace dW := dW.ch (Owns.dropCh _ _ 0)
     replace dX := dX.ch (Owns.dropCh _ _ 0)
     replace dY := dY.ch (Owns.dropCh _ _ 0)
     replace dZ := dZ.ch (Owns.dropCh _ _ 0)
     replace dH := dH.ch (Owns.dropCh _ _ 0)
     replace hB := hB.trans (Owns.dropFr _ _ 0)
     replace hO := hO.drop 0
     dsimp only [eS, eZ] at hB hO ah ae ac ai af ag bh aZ dU dV dW dX dY dZ dH
     replace ah := ah.ch (Owns.dropCh _ _ 11)
     replace ae := ae.ch (Owns.dropCh _ _ 11)
     replace ac := ac.ch (Owns.dropCh _ _ 11)
     replace ai := ai.ch (Owns.dropCh _ _ 11)
     replace af := af.ch (Owns.dropCh _ _ 11)
     replace ag := ag.ch (Owns.dropCh _ _ 11)
     replace bh := bh.ch (Owns.dropCh _ _ 11)
     replace aZ := aZ.ch (Owns.dropCh _ _ 11)
     replace dU := dU.ch (Owns.dropCh _ _ 11)
     replace dV := dV.ch (Owns.dropCh _ _ 11)
     replace dW := dW.ch (Owns.dropCh _ _ 11)
     replace dX := dX.ch (Owns.dropCh _ _ 11)
     replace dY := dY.ch (Owns.dropCh _ _ 11)
     replace dZ := dZ.ch (Owns.dropCh _ _ 11)
     replace dH := dH.ch (Owns.dropCh _ _ 11)
     replace hB := hB.trans (Owns.dropFr _ _ 11)
     replace hO := hO.drop 11
     dsimp only [eS, eZ] at hB hO ah ae ac ai af ag bh aZ dU dV dW dX dY dZ dH
     refine Go1.ret2 Try.func53 rfl ?_
     exact Or.inr ⟨(⟨(⟨k2_37, b2_38, d_40, d_46, d_52, d_58, d_64, d_70, k2_39⟩ : Enum), m2_94, d_76, d_82, d_88⟩ : run), false, iK, n45, p43, c44, e8, n51, p49, c50, e9, n57, p55, c56, jN, n63, p61, c62, jO, n69, p67, c68, jP, n75, p73, c74, jQ, bX, n81, p79, c80, jR, n87, p85, c86, jS, n93, p91, c92, jT, rfl, hB.same, hO, bh, aZ, dU, dV, dW, dX, dY, dZ, dH, H⟩
    replace H := ifn zl H
    refine GoQ.pure rfl (fun w => opB (op_eql rfl rfl w) (decide_eq_false zl)) rfl rfl ?_
    refine GoQ.pure rfl (op_move rfl) rfl rfl ?_
    refine GoQ.pass rfl rfl rfl ?_
    refine GoQ.pass rfl rfl rfl ?_
    refine GoQ.pass rfl rfl rfl ?_
    refine GoQ.pass rfl rfl rfl ?_
    refine GoQ.pass rfl rfl rfl ?_
    refine GoQ.pass rfl rfl rfl ?_
    refine GoQ.pass rfl rfl rfl ?_
    refine GoQ.pass rfl rfl rfl ?_
    refine GoQ.pure rfl (op_pickF rfl rfl rfl) rfl rfl ?_
    refine GoQ.pure rfl (op_move rfl) rfl rfl ?_
    refine GoQ.pass rfl rfl rfl ?_
    refine GoQ.pass rfl rfl rfl ?_
    refine GoQ.pass rfl rfl rfl ?_
    refine GoQ.pass rfl rfl rfl ?_
    refine GoQ.pass rfl rfl rfl ?_
    refine GoQ.pass rfl rfl rfl ?_
    refine GoQ.pass rfl rfl rfl ?_
    refine GoQ.pass rfl rfl rfl ?_
    refine GoQ.pure rfl (op_pickF rfl rfl rfl) rfl rfl ?_
    refine GoQ.pure rfl (op_move rfl) rfl rfl ?_
    refine GoQ.pass rfl rfl rfl ?_
    refine GoQ.pass rfl rfl rfl ?_
    refine GoQ.pass rfl rfl rfl ?_
    refine GoQ.pass rfl rfl rfl ?_
    refine GoQ.pass rfl rfl rfl ?_
    refine GoQ.pass rfl rfl rfl ?_
    refine GoQ.pass rfl rfl rfl ?_
    refine GoQ.pass rfl rfl rfl ?_
    refine GoQ.pure rfl (op_pickF rfl rfl rfl) rfl rfl ?_
    refine GoQ.pure rfl (op_move rfl) rfl rfl ?_
    refine GoQ.pass rfl rfl rfl ?_
    refine GoQ.pass rfl rfl rfl ?_
    refine GoQ.pass rfl rfl rfl ?_
    refine GoQ.pass rfl rfl rfl ?_
    refine GoQ.pass rfl rfl rfl ?_
    refine GoQ.pass rfl rfl rfl ?_
    refine GoQ.pass rfl rfl rfl ?_
    refine GoQ.pass rfl rfl rfl ?_
    refine GoQ.pure rfl (op_pickF rfl rfl rfl) rfl rfl ?_
    refine GoQ.pure rfl (op_move rfl) rfl rfl ?_
    refine GoQ.pass rfl rfl rfl ?_
    refine GoQ.pass rfl rfl rfl ?_
    refine GoQ.pass rfl rfl rfl ?_
    refine GoQ.pass rfl rfl rfl ?_
    refine GoQ.pass rfl rfl rfl ?_
    refine GoQ.pass rfl rfl rfl ?_
    refine GoQ.pass rfl rfl rfl ?_
    refine GoQ.pass rfl rfl rfl ?_
    refine GoQ.pure rfl (op_pickF rfl rfl rfl) rfl rfl ?_
    refine GoQ.pure rfl (op_move rfl) rfl rfl ?_
    refine GoQ.pass rfl rfl rfl ?_
    refine GoQ.pass rfl rfl rfl ?_
    refine GoQ.pass rfl rfl rfl ?_
    refine GoQ.pass rfl rfl rfl ?_
    refine GoQ.pass rfl rfl rfl ?_
    refine GoQ.pass rfl rfl rfl ?_
    refine GoQ.pass rfl rfl rfl ?_
    refine GoQ.pass rfl rfl rfl ?_
    refine GoQ.pure rfl (op_pickF rfl rfl rfl) rfl rfl ?_
    refine GoQ.pure rfl (op_assign rfl) rfl rfl ?_
    refine GoQ.nil ?_
    refine Go1.ret1V Try.func68 rfl (show _ = .bool false from rfl) ?_
    refine hR117 _ _ ?_
    refine GoR.op ((op_assign rfl) _) rfl rfl ?_
    refine GoR.op ((op_assign rfl) _) rfl rfl ?_
    refine GoR.nil ?_
    replace ah := ah.ch (Owns.dropCh _ _ 0)
    replace ae := ae.ch (Owns.dropCh _ _ 0)
    replace ac := ac.ch (Owns.dropCh _ _ 0)
    replace ai := ai.ch (Owns.dropCh _ _ 0)
    replace af := af.ch (Owns.dropCh _ _ 0)
    replace ag := ag.ch (Owns.dropCh _ _ 0)
    replace bh := bh.ch (Owns.dropCh _ _ 0)
    replace aZ := aZ.ch (Owns.dropCh _ _ 0)
    replace dU := dU.ch (Owns.dropCh _ _ 0)
    replace dV := dV.ch (Owns.dropCh _ _ 0)
    replace dW := dW.ch (Owns.dropCh _ _ 0)
    replace dX := dX.ch (Owns.dropCh _ _ 0)
    replace dY := dY.ch (Owns.dropCh _ _ 0)
    replace dZ := dZ.ch (Owns.dropCh _ _ 0)
    replace dH := dH.ch (Owns.dropCh _ _ 0)
    replace hB := hB.trans (Owns.dropFr _ _ 0)
    replace hO := hO.drop 0
    dsimp only [eS, eZ] at hB hO ah ae ac ai af ag bh aZ dU dV dW dX dY dZ dH
    replace ah := ah.ch (Owns.dropCh _ _ 11)
    replace ae := ae.ch (Owns.dropCh _ _ 11)
    replace ac := ac.ch (Owns.dropCh _ _ 11)
    replace ai := ai.ch (Owns.dropCh _ _ 11)
    replace af := af.ch (Owns.dropCh _ _ 11)
    replace ag := ag.ch (Owns.dropCh _ _ 11)
    replace bh := bh.ch (Owns.dropCh _ _ 11)
    replace aZ := aZ.ch (Owns.dropCh _ _ 11)
    replace dU := dU.ch (Owns.dropCh _ _ 11)
    replace dV := dV.ch (Owns.dropCh _ _ 11)
    replace dW := dW.ch (Owns.dropCh _ _ 11)
    replace dX := dX.ch (Owns.dropCh _ _ 11)
    replace dY := dY.ch (Owns.dropCh _ _ 11)
    replace dZ := dZ.ch (Owns.dropCh _ _ 11)
    replace dH := dH.ch (Owns.dropCh _ _ 11)
    replace hB := hB.trans (Owns.dropFr _ _ 11)
    replace hO := hO.drop 11
    dsimp only [eS, eZ] at hB hO ah ae ac ai af ag bh aZ dU dV dW dX dY dZ dH
    refine Go1.ret2 Try.func53 rfl ?_
    exact Or.inr ⟨(⟨(⟨k2_37, b2_38, d_40, d_46, d_52, d_58, d_64, d_70, k2_39⟩ : Enum), m2_94, d_76, d_82, d_88⟩ : run), false, iK, n45, p43, c44, e8, n51, p49, c50, e9, n57, p55, c56, jN, n63, p61, c62, jO, n69, p67, c68, jP, n75, p73, c74, jQ, bX, n81, p79, c80, jR, n87, p85, c86, jS, n93, p91, c92, jT, rfl, hB.same, hO, bh, aZ, dU, dV, dW, dX, dY, dZ, dH, H⟩
   replace H := ifn h35 H
   refine GoR.op ((fun w => opB (op_neq rfl rfl w) (ndF h35)) _) rfl rfl ?_
   refine GoR.nil ?_
   refine Go1.condT rfl rfl ?_
   refine Go1.seq ?_
   refine Go1.cut [] trivial ?_
   intro σ _
   refine Go1.region ?_
   refine GoR.op ((op_assign rfl) _) rfl rfl ?_
   refine GoR.op ((op_assign rfl) _) rfl rfl ?_
   refine GoR.nil ?_
   refine Go1.ret2 Try.func53 rfl ?_
   exact Or.inl ⟨false, rfl, hB.same, H⟩
 replace H := ifn h7 H
 refine GoR.op (opB ((oblk (i := 1) 0 hO rfl rfl Try.underlying4 rfl rfl) _ (Same.refl _)) (Bool.eq_false_iff.2 h7)) rfl rfl ?_
 refine GoR.call (op_call body49 rfl (walk_enumerate_begin hO.lt ah H)) rfl rfl ?_
 intro Nc Nd hcase180
 refine Or.elim hcase180 ?_ ?_
 ·refine exE fun r175 => andE fun hv181 => andE fun zo => fun H => ?_
  subst hv181
  clear hcase180
  replace H := oElimN H
  have jW := Stp.same hO zo
  replace hO := jW.own
  replace ah := ah.ch jW.ch
  replace ae := ae.ch jW.ch
  replace ac := ac.ch jW.ch
  replace ai := ai.ch jW.ch
  replace af := af.ch jW.ch
  replace ag := ag.ch jW.ch
  replace hB := hB.trans jW.fr
  refine GoR.op ((op_move rfl) _) rfl rfl ?_
  refine GoR.op ((op_extract rfl rfl) _) rfl rfl ?_
  refine GoR.op ((op_extract rfl rfl) _) rfl rfl ?_
  refine GoR.op ((op_assign rfl) _) rfl rfl ?_
  refine GoR.op ((op_assign rfl) _) rfl rfl ?_
  refine GoR.nil ?_
  refine Go1.seq ?_
  refine Go1.seq ?_
  refine Go1.region ?_
  refine GoR.op ((op_move rfl) _) rfl rfl ?_
  by_cases zp : r175 = (0 : Int)
  ·replace H := ifp zp H
   refine GoR.op ((fun w => opB (op_neq rfl rfl w) (ndT zp)) _) rfl rfl ?_
   refine GoR.nil ?_
   refine Go1.condF rfl rfl ?_
   refine Go1.skip ?_
   refine Go1.seq ?_
   refine Go1.block ?_
   refine Go1.loopW (S := Unit) (fun s σ w => agrees σ [(1, .pointer (some ⟨B2, 0, none⟩)), (4, .pointer none)] ∧ Owns w0.heap.size w [.blk B2 (.cells #[.int .i64 e.Points, .bool e.Monoid, .slice bi e.Gens.length bj, .slice aE e.Elems.length aF, .slice ak e.Prefix.length al, .slice aX e.Last.length aY, .slice aG e.Right.length aH, .slice aI e.Rules.length aJ, .int .i64 e.Done] 29 (0, 0))] A ∧ ISl (Rp.sl (Rp.int .i64)) (bl [.blk B2 (.cells #[.int .i64 e.Points, .bool e.Monoid, .slice bi e.Gens.length bj, .slice aE e.Elems.length aF, .slice ak e.Prefix.length al, .slice aX e.Last.length aY, .slice aG e.Right.length aH, .slice aI e.Rules.length aJ, .int .i64 e.Done] 29 (0, 0))] ++ A) w bi bj e.Gens ∧ ISl (Rp.sl (Rp.int .i64)) (bl [.blk B2 (.cells #[.int .i64 e.Points, .bool e.Monoid, .slice bi e.Gens.length bj, .slice aE e.Elems.length aF, .slice ak e.Prefix.length al, .slice aX e.Last.length aY, .slice aG e.Right.length aH, .slice aI e.Rules.length aJ, .int .i64 e.Done] 29 (0, 0))] ++ A) w aE aF e.Elems ∧ ISl (Rp.int .i64) (bl [.blk B2 (.cells #[.int .i64 e.Points, .bool e.Monoid, .slice bi e.Gens.length bj, .slice aE e.Elems.length aF, .slice ak e.Prefix.length al, .slice aX e.Last.length aY, .slice aG e.Right.length aH, .slice aI e.Rules.length aJ, .int .i64 e.Done] 29 (0, 0))] ++ A) w ak al e.Prefix ∧ ISl (Rp.int .i64) (bl [.blk B2 (.cells #[.int .i64 e.Points, .bool e.Monoid, .slice bi e.Gens.length bj, .slice aE e.Elems.length aF, .slice ak e.Prefix.length al, .slice aX e.Last.length aY, .slice aG e.Right.length aH, .slice aI e.Rules.length aJ, .int .i64 e.Done] 29 (0, 0))] ++ A) w aX aY e.Last ∧ ISl (Rp.sl (Rp.int .i64)) (bl [.blk B2 (.cells #[.int .i64 e.Points, .bool e.Monoid, .slice bi e.Gens.length bj, .slice aE e.Elems.length aF, .slice ak e.Prefix.length al, .slice aX e.Last.length aY, .slice aG e.Right.length aH, .slice aI e.Rules.length aJ, .int .i64 e.Done] 29 (0, 0))] ++ A) w aG aH e.Right ∧ ISl (rpRule) (bl [.blk B2 (.cells #[.int .i64 e.Points, .bool e.Monoid, .slice bi e.Gens.length bj, .slice aE e.Elems.length aF, .slice ak e.Prefix.length al, .slice aX e.Last.length aY, .slice aG e.Right.length aH, .slice aI e.Rules.length aJ, .int .i64 e.Done] 29 (0, 0))] ++ A) w aI aJ e.Rules ∧ Fr (bl []) w0 (bl [.blk B2 (.cells #[.int .i64 e.Points, .bool e.Monoid, .slice bi e.Gens.length bj, .slice aE e.Elems.length aF, .slice ak e.Prefix.length al, .slice aX e.Last.length aY, .slice aG e.Right.length aH, .slice aI e.Rules.length aJ, .int .i64 e.Done] 29 (0, 0))]) w) H ⟨⟨rfl, rfl, trivial⟩, hO, ah, ae, ac, ai, af, ag, hB⟩ ?_
   intro X3 _
   intro H hX3 σ Nf
   refine andE fun hag => andE fun hO => andE fun ah => andE fun ae => andE fun ac => andE fun ai => andE fun af => andE fun ag => fun hB => ?_
   refine Go1.keep [(1, .pointer (some ⟨B2, 0, none⟩)), (4, .pointer none)] hag ?_
   refine Go1.seq ?_
   refine Go1.seq ?_
   refine Go1.drawS 0 [(0, .pure), (1, .pure), (2, .pure), (3, .pure), (4, .stable), (5, .pure), (6, .stable), (7, .pure)] mixed (by kernel_rfl) ?_
   intro Ng y4
   have kI := Stp.same hO y4
   replace hO := kI.own
   replace ah := ah.ch kI.ch
   replace ae := ae.ch kI.ch
   replace ac := ac.ch kI.ch
   replace ai := ai.ch kI.ch
   replace af := af.ch kI.ch
   replace ag := ag.ch kI.ch
   replace hB := hB.trans kI.fr
   refine GoQ.pure rfl (op_move rfl) rfl rfl ?_
   exact H.elim
  replace H := ifn zp H
  refine GoR.op ((fun w => opB (op_neq rfl rfl w) (ndF zp)) _) rfl rfl ?_
  refine GoR.nil ?_
  refine Go1.condT rfl rfl ?_
  refine Go1.seq ?_
  refine Go1.region ?_
  refine GoR.op ((op_assign rfl) _) rfl rfl ?_
  refine GoR.op ((op_assign rfl) _) rfl rfl ?_
  refine GoR.nil ?_
  refine Go1.ret2 Try.func53 rfl ?_
  exact Or.inl ⟨false, rfl, hB.same, H⟩
 ·refine exE fun r174 => exE fun r175 => exE fun eW => exE fun wl => exE fun wm => exE fun wn => exE fun vD => exE fun vE => exE fun vF => exE fun vG => exE fun ve => exE fun vg => exE fun vh => exE fun vi => exE fun uR => exE fun wo => exE fun wq => exE fun wr => exE fun vH => exE fun vI => exE fun vJ => exE fun vK => exE fun vj => exE fun vL => exE fun vM => exE fun vN => exE fun vk => exE fun bE => exE fun yb => exE fun yc => exE fun yd => exE fun xw => exE fun xx => exE fun xz => exE fun xA => exE fun xn => exE fun xB => exE fun xC => exE fun xD => exE fun xo => andE fun hv188 => andE fun zo => andE fun hN179 => andE fun oc => andE fun nN => andE fun nv => andE fun od => andE fun nO => andE fun nP => andE fun rP => andE fun ra => andE fun rb => fun H => ?_
  subst hv188
  clear hcase180
  replace H := oElimS H
  have sA := Stp.more hO zo hN179
  dsimp only [List.cons_append, List.nil_append] at sA
  replace hO := sA.own
  replace ah := ah.ch sA.ch
  replace ae := ae.ch sA.ch
  replace ac := ac.ch sA.ch
  replace ai := ai.ch sA.ch
  replace af := af.ch sA.ch
  replace ag := ag.ch sA.ch
  replace hB := hB.trans sA.fr
  replace oc := oc.ch (Ch.assoc _ _ _ _)
  dsimp only [List.cons_append, List.nil_append] at oc
  replace nN := nN.ch (Ch.assoc _ _ _ _)
  dsimp only [List.cons_append, List.nil_append] at nN
  replace nv := nv.ch (Ch.assoc _ _ _ _)
  dsimp only [List.cons_append, List.nil_append] at nv
  replace od := od.ch (Ch.assoc _ _ _ _)
  dsimp only [List.cons_append, List.nil_append] at od
  replace nO := nO.ch (Ch.assoc _ _ _ _)
  dsimp only [List.cons_append, List.nil_append] at nO
  replace nP := nP.ch (Ch.assoc _ _ _ _)
  dsimp only [List.cons_append, List.nil_append] at nP
  replace rP := rP.ch (Ch.assoc _ _ _ _)
  dsimp only [List.cons_append, List.nil_append] at rP
  replace ra := ra.ch (Ch.assoc _ _ _ _)
  dsimp only [List.cons_append, List.nil_append] at ra
  replace rb := rb.ch (Ch.assoc _ _ _ _)
  dsimp only [List.cons_append, List.nil_append] at rb
  refine GoR.op ((op_move rfl) _) rfl rfl ?_
  refine GoR.op ((op_extract rfl rfl) _) rfl rfl ?_
  refine GoR.op ((op_extract rfl rfl) _) rfl rfl ?_
  refine GoR.op ((op_assign rfl) _) rfl rfl ?_
  refine GoR.op ((op_assign rfl) _) rfl rfl ?_
  refine GoR.nil ?_
  refine Go1.seq ?_
  refine Go1.seq ?_
  refine Go1.region ?_
  refine GoR.op ((op_move rfl) _) rfl rfl ?_
  by_cases zq : r175 = (0 : Int)
  ·replace H := ifp zq H
   refine GoR.op ((fun w => opB (op_neq rfl rfl w) (ndT zq)) _) rfl rfl ?_
   refine GoR.nil ?_
   refine Go1.condF rfl rfl ?_
   refine Go1.skip ?_
   refine Go1.seq ?_
   refine Go1.block ?_
   refine Go1.loopW (S := Int × Bool × Int × List (List Int) × List (List Int) × List Int × List Int × List (List Int) × List Rule × List Str × List Int × List Int × (List (Str × Int))) (fun s σ w => match s with | (k4_203, b4_204, k4_205, d_206, d_212, d_218, d_224, d_230, d_236, d_242, d_248, d_254, m4_260) => ∃ (fC : Nat), ∃ (fD : Option Addr), ∃ (fE : Nat), ∃ (gv : List Value), ∃ (fv : Nat), ∃ (fd : Option Addr), ∃ (fe : Nat), ∃ (ik : List Value), ∃ (fw : Nat), ∃ (ff : Option Addr), ∃ (fh : Nat), ∃ (io : List Value), ∃ (fx : Nat), ∃ (fk : Option Addr), ∃ (fm : Nat), ∃ (ip : List Value), ∃ (fy : Nat), ∃ (fo : Option Addr), ∃ (fq : Nat), ∃ (iq : List Value), ∃ (fA : Nat), ∃ (ft : Option Addr), ∃ (fu : Nat), ∃ (ir : List Value), ∃ (fF : Nat), ∃ (fG : Option Addr), ∃ (fH : Nat), ∃ (iu : List Value), ∃ (fI : Nat), ∃ (fJ : Option Addr), ∃ (fK : Nat), ∃ (iv : List Value), ∃ (fL : Nat), ∃ (fM : Option Addr), ∃ (fN : Nat), ∃ (iw : List Value), agrees σ [(1, .pointer (some ⟨B2, 0, none⟩)), (4, .pointer (some ⟨eW, 0, none⟩))] ∧ Owns w0.heap.size w [.blk eW (.cells #[.int .i64 k4_203, .bool b4_204, .slice fD fC fE, .slice fd fv fe, .slice ff fw fh, .slice fk fx fm, .slice fo fy fq, .slice ft fA fu, .int .i64 k4_205, .map (some bE), .slice fG fF fH, .slice fJ fI fK, .slice fM fL fN] 72 (0, 0)), .row 26 1 fD fC fE gv, .row 26 1 fd fv fe ik, .row 3 1 ff fw fh io, .row 3 1 fk fx fm ip, .row 26 1 fo fy fq iq, .row 39 2 ft fA fu ir, .row 9 1 fG fF fH iu, .row 3 1 fJ fI fK iv, .row 3 1 fM fL fN iw, .any (mapE (fun a : List UInt8 => Value.string (gstr a)) (fun a : Int => Value.int .i64 a) bE m4_260), .blk B2 (.cells #[.int .i64 e.Points, .bool e.Monoid, .slice bi e.Gens.length bj, .slice aE e.Elems.length aF, .slice ak e.Prefix.length al, .slice aX e.Last.length aY, .slice aG e.Right.length aH, .slice aI e.Rules.length aJ, .int .i64 e.Done] 29 (0, 0))] A ∧ Els (Rp.sl (Rp.int .i64)) (bl [.blk eW (.cells #[.int .i64 k4_203, .bool b4_204, .slice fD fC fE, .slice fd fv fe, .slice ff fw fh, .slice fk fx fm, .slice fo fy fq, .slice ft fA fu, .int .i64 k4_205, .map (some bE), .slice fG fF fH, .slice fJ fI fK, .slice fM fL fN] 72 (0, 0)), .row 26 1 fD fC fE gv, .row 26 1 fd fv fe ik, .row 3 1 ff fw fh io, .row 3 1 fk fx fm ip, .row 26 1 fo fy fq iq, .row 39 2 ft fA fu ir, .row 9 1 fG fF fH iu, .row 3 1 fJ fI fK iv, .row 3 1 fM fL fN iw, .any (mapE (fun a : List UInt8 => Value.string (gstr a)) (fun a : Int => Value.int .i64 a) bE m4_260), .blk B2 (.cells #[.int .i64 e.Points, .bool e.Monoid, .slice bi e.Gens.length bj, .slice aE e.Elems.length aF, .slice ak e.Prefix.length al, .slice aX e.Last.length aY, .slice aG e.Right.length aH, .slice aI e.Rules.length aJ, .int .i64 e.Done] 29 (0, 0))] ++ A) w gv d_206 ∧ Els (Rp.sl (Rp.int .i64)) (bl [.blk eW (.cells #[.int .i64 k4_203, .bool b4_204, .slice fD fC fE, .slice fd fv fe, .slice ff fw fh, .slice fk fx fm, .slice fo fy fq, .slice ft fA fu, .int .i64 k4_205, .map (some bE), .slice fG fF fH, .slice fJ fI fK, .slice fM fL fN] 72 (0, 0)), .row 26 1 fD fC fE gv, .row 26 1 fd fv fe ik, .row 3 1 ff fw fh io, .row 3 1 fk fx fm ip, .row 26 1 fo fy fq iq, .row 39 2 ft fA fu ir, .row 9 1 fG fF fH iu, .row 3 1 fJ fI fK iv, .row 3 1 fM fL fN iw, .any (mapE (fun a : List UInt8 => Value.string (gstr a)) (fun a : Int => Value.int .i64 a) bE m4_260), .blk B2 (.cells #[.int .i64 e.Points, .bool e.Monoid, .slice bi e.Gens.length bj, .slice aE e.Elems.length aF, .slice ak e.Prefix.length al, .slice aX e.Last.length aY, .slice aG e.Right.length aH, .slice aI e.Rules.length aJ, .int .i64 e.Done] 29 (0, 0))] ++ A) w ik d_212 ∧ Els (Rp.int .i64) (bl [.blk eW (.cells #[.int .i64 k4_203, .bool b4_204, .slice fD fC fE, .slice fd fv fe, .slice ff fw fh, .slice fk fx fm, .slice fo fy fq, .slice ft fA fu, .int .i64 k4_205, .map (some bE), .slice fG fF fH, .slice fJ fI fK, .slice fM fL fN] 72 (0, 0)), .row 26 1 fD fC fE gv, .row 26 1 fd fv fe ik, .row 3 1 ff fw fh io, .row 3 1 fk fx fm ip, .row 26 1 fo fy fq iq, .row 39 2 ft fA fu ir, .row 9 1 fG fF fH iu, .row 3 1 fJ fI fK iv, .row 3 1 fM fL fN iw, .any (mapE (fun a : List UInt8 => Value.string (gstr a)) (fun a : Int => Value.int .i64 a) bE m4_260), .blk B2 (.cells #[.int .i64 e.Points, .bool e.Monoid, .slice bi e.Gens.length bj, .slice aE e.Elems.length aF, .slice ak e.Prefix.length al, .slice aX e.Last.length aY, .slice aG e.Right.length aH, .slice aI e.Rules.length aJ, .int .i64 e.Done] 29 (0, 0))] ++ A) w io d_218 ∧ Els (Rp.int .i64) (bl [.blk eW (.cells #[.int .i64 k4_203, .bool b4_204, .slice fD fC fE, .slice fd fv fe, .slice ff fw fh, .slice fk fx fm, .slice fo fy fq, .slice ft fA fu, .int .i64 k4_205, .map (some bE), .slice fG fF fH, .slice fJ fI fK, .slice fM fL fN] 72 (0, 0)), .row 26 1 fD fC fE gv, .row 26 1 fd fv fe ik, .row 3 1 ff fw fh io, .row 3 1 fk fx fm ip, .row 26 1 fo fy fq iq, .row 39 2 ft fA fu ir, .row 9 1 fG fF fH iu, .row 3 1 fJ fI fK iv, .row 3 1 fM fL fN iw, .any (mapE (fun a : List UInt8 => Value.string (gstr a)) (fun a : Int => Value.int .i64 a) bE m4_260), .blk B2 (.cells #[.int .i64 e.Points, .bool e.Monoid, .slice bi e.Gens.length bj, .slice aE e.Elems.length aF, .slice ak e.Prefix.length al, .slice aX e.Last.length aY, .slice aG e.Right.length aH, .slice aI e.Rules.length aJ, .int .i64 e.Done] 29 (0, 0))] ++ A) w ip d_224 ∧ Els (Rp.sl (Rp.int .i64)) (bl [.blk eW (.cells #[.int .i64 k4_203, .bool b4_204, .slice fD fC fE, .slice fd fv fe, .slice ff fw fh, .slice fk fx fm, .slice fo fy fq, .slice ft fA fu, .int .i64 k4_205, .map (some bE), .slice fG fF fH, .slice fJ fI fK, .slice fM fL fN] 72 (0, 0)), .row 26 1 fD fC fE gv, .row 26 1 fd fv fe ik, .row 3 1 ff fw fh io, .row 3 1 fk fx fm ip, .row 26 1 fo fy fq iq, .row 39 2 ft fA fu ir, .row 9 1 fG fF fH iu, .row 3 1 fJ fI fK iv, .row 3 1 fM fL fN iw, .any (mapE (fun a : List UInt8 => Value.string (gstr a)) (fun a : Int => Value.int .i64 a) bE m4_260), .blk B2 (.cells #[.int .i64 e.Points, .bool e.Monoid, .slice bi e.Gens.length bj, .slice aE e.Elems.length aF, .slice ak e.Prefix.length al, .slice aX e.Last.length aY, .slice aG e.Right.length aH, .slice aI e.Rules.length aJ, .int .i64 e.Done] 29 (0, 0))] ++ A) w iq d_230 ∧ Els (rpRule) (bl [.blk eW (.cells #[.int .i64 k4_203, .bool b4_204, .slice fD fC fE, .slice fd fv fe, .slice ff fw fh, .slice fk fx fm, .slice fo fy fq, .slice ft fA fu, .int .i64 k4_205, .map (some bE), .slice fG fF fH, .slice fJ fI fK, .slice fM fL fN] 72 (0, 0)), .row 26 1 fD fC fE gv, .row 26 1 fd fv fe ik, .row 3 1 ff fw fh io, .row 3 1 fk fx fm ip, .row 26 1 fo fy fq iq, .row 39 2 ft fA fu ir, .row 9 1 fG fF fH iu, .row 3 1 fJ fI fK iv, .row 3 1 fM fL fN iw, .any (mapE (fun a : List UInt8 => Value.string (gstr a)) (fun a : Int => Value.int .i64 a) bE m4_260), .blk B2 (.cells #[.int .i64 e.Points, .bool e.Monoid, .slice bi e.Gens.length bj, .slice aE e.Elems.length aF, .slice ak e.Prefix.length al, .slice aX e.Last.length aY, .slice aG e.Right.length aH, .slice aI e.Rules.length aJ, .int .i64 e.Done] 29 (0, 0))] ++ A) w ir d_236 ∧ Els (Rp.str) (bl [.blk eW (.cells #[.int .i64 k4_203, .bool b4_204, .slice fD fC fE, .slice fd fv fe, .slice ff fw fh, .slice fk fx fm, .slice fo fy fq, .slice ft fA fu, .int .i64 k4_205, .map (some bE), .slice fG fF fH, .slice fJ fI fK, .slice fM fL fN] 72 (0, 0)), .row 26 1 fD fC fE gv, .row 26 1 fd fv fe ik, .row 3 1 ff fw fh io, .row 3 1 fk fx fm ip, .row 26 1 fo fy fq iq, .row 39 2 ft fA fu ir, .row 9 1 fG fF fH iu, .row 3 1 fJ fI fK iv, .row 3 1 fM fL fN iw, .any (mapE (fun a : List UInt8 => Value.string (gstr a)) (fun a : Int => Value.int .i64 a) bE m4_260), .blk B2 (.cells #[.int .i64 e.Points, .bool e.Monoid, .slice bi e.Gens.length bj, .slice aE e.Elems.length aF, .slice ak e.Prefix.length al, .slice aX e.Last.length aY, .slice aG e.Right.length aH, .slice aI e.Rules.length aJ, .int .i64 e.Done] 29 (0, 0))] ++ A) w iu d_242 ∧ Els (Rp.int .i64) (bl [.blk eW (.cells #[.int .i64 k4_203, .bool b4_204, .slice fD fC fE, .slice fd fv fe, .slice ff fw fh, .slice fk fx fm, .slice fo fy fq, .slice ft fA fu, .int .i64 k4_205, .map (some bE), .slice fG fF fH, .slice fJ fI fK, .slice fM fL fN] 72 (0, 0)), .row 26 1 fD fC fE gv, .row 26 1 fd fv fe ik, .row 3 1 ff fw fh io, .row 3 1 fk fx fm ip, .row 26 1 fo fy fq iq, .row 39 2 ft fA fu ir, .row 9 1 fG fF fH iu, .row 3 1 fJ fI fK iv, .row 3 1 fM fL fN iw, .any (mapE (fun a : List UInt8 => Value.string (gstr a)) (fun a : Int => Value.int .i64 a) bE m4_260), .blk B2 (.cells #[.int .i64 e.Points, .bool e.Monoid, .slice bi e.Gens.length bj, .slice aE e.Elems.length aF, .slice ak e.Prefix.length al, .slice aX e.Last.length aY, .slice aG e.Right.length aH, .slice aI e.Rules.length aJ, .int .i64 e.Done] 29 (0, 0))] ++ A) w iv d_248 ∧ Els (Rp.int .i64) (bl [.blk eW (.cells #[.int .i64 k4_203, .bool b4_204, .slice fD fC fE, .slice fd fv fe, .slice ff fw fh, .slice fk fx fm, .slice fo fy fq, .slice ft fA fu, .int .i64 k4_205, .map (some bE), .slice fG fF fH, .slice fJ fI fK, .slice fM fL fN] 72 (0, 0)), .row 26 1 fD fC fE gv, .row 26 1 fd fv fe ik, .row 3 1 ff fw fh io, .row 3 1 fk fx fm ip, .row 26 1 fo fy fq iq, .row 39 2 ft fA fu ir, .row 9 1 fG fF fH iu, .row 3 1 fJ fI fK iv, .row 3 1 fM fL fN iw, .any (mapE (fun a : List UInt8 => Value.string (gstr a)) (fun a : Int => Value.int .i64 a) bE m4_260), .blk B2 (.cells #[.int .i64 e.Points, .bool e.Monoid, .slice bi e.Gens.length bj, .slice aE e.Elems.length aF, .slice ak e.Prefix.length al, .slice aX e.Last.length aY, .slice aG e.Right.length aH, .slice aI e.Rules.length aJ, .int .i64 e.Done] 29 (0, 0))] ++ A) w iw d_254 ∧ ISl (Rp.sl (Rp.int .i64)) (bl [.blk eW (.cells #[.int .i64 k4_203, .bool b4_204, .slice fD fC fE, .slice fd fv fe, .slice ff fw fh, .slice fk fx fm, .slice fo fy fq, .slice ft fA fu, .int .i64 k4_205, .map (some bE), .slice fG fF fH, .slice fJ fI fK, .slice fM fL fN] 72 (0, 0)), .row 26 1 fD fC fE gv, .row 26 1 fd fv fe ik, .row 3 1 ff fw fh io, .row 3 1 fk fx fm ip, .row 26 1 fo fy fq iq, .row 39 2 ft fA fu ir, .row 9 1 fG fF fH iu, .row 3 1 fJ fI fK iv, .row 3 1 fM fL fN iw, .any (mapE (fun a : List UInt8 => Value.string (gstr a)) (fun a : Int => Value.int .i64 a) bE m4_260), .blk B2 (.cells #[.int .i64 e.Points, .bool e.Monoid, .slice bi e.Gens.length bj, .slice aE e.Elems.length aF, .slice ak e.Prefix.length al, .slice aX e.Last.length aY, .slice aG e.Right.length aH, .slice aI e.Rules.length aJ, .int .i64 e.Done] 29 (0, 0))] ++ A) w bi bj e.Gens ∧ ISl (Rp.sl (Rp.int .i64)) (bl [.blk eW (.cells #[.int .i64 k4_203, .bool b4_204, .slice fD fC fE, .slice fd fv fe, .slice ff fw fh, .slice fk fx fm, .slice fo fy fq, .slice ft fA fu, .int .i64 k4_205, .map (some bE), .slice fG fF fH, .slice fJ fI fK, .slice fM fL fN] 72 (0, 0)), .row 26 1 fD fC fE gv, .row 26 1 fd fv fe ik, .row 3 1 ff fw fh io, .row 3 1 fk fx fm ip, .row 26 1 fo fy fq iq, .row 39 2 ft fA fu ir, .row 9 1 fG fF fH iu, .row 3 1 fJ fI fK iv, .row 3 1 fM fL fN iw, .any (mapE (fun a : List UInt8 => Value.string (gstr a)) (fun a : Int => Value.int .i64 a) bE m4_260), .blk B2 (.cells #[.int .i64 e.Points, .bool e.Monoid, .slice bi e.Gens.length bj, .slice aE e.Elems.length aF, .slice ak e.Prefix.length al, .slice aX e.Last.length aY, .slice aG e.Right.length aH, .slice aI e.Rules.length aJ, .int .i64 e.Done] 29 (0, 0))] ++ A) w aE aF e.Elems ∧ ISl (Rp.int .i64) (bl [.blk eW (.cells #[.int .i64 k4_203, .bool b4_204, .slice fD fC fE, .slice fd fv fe, .slice ff fw fh, .slice fk fx fm, .slice fo fy fq, .slice ft fA fu, .int .i64 k4_205, .map (some bE), .slice fG fF fH, .slice fJ fI fK, .slice fM fL fN] 72 (0, 0)), .row 26 1 fD fC fE gv, .row 26 1 fd fv fe ik, .row 3 1 ff fw fh io, .row 3 1 fk fx fm ip, .row 26 1 fo fy fq iq, .row 39 2 ft fA fu ir, .row 9 1 fG fF fH iu, .row 3 1 fJ fI fK iv, .row 3 1 fM fL fN iw, .any (mapE (fun a : List UInt8 => Value.string (gstr a)) (fun a : Int => Value.int .i64 a) bE m4_260), .blk B2 (.cells #[.int .i64 e.Points, .bool e.Monoid, .slice bi e.Gens.length bj, .slice aE e.Elems.length aF, .slice ak e.Prefix.length al, .slice aX e.Last.length aY, .slice aG e.Right.length aH, .slice aI e.Rules.length aJ, .int .i64 e.Done] 29 (0, 0))] ++ A) w ak al e.Prefix ∧ ISl (Rp.int .i64) (bl [.blk eW (.cells #[.int .i64 k4_203, .bool b4_204, .slice fD fC fE, .slice fd fv fe, .slice ff fw fh, .slice fk fx fm, .slice fo fy fq, .slice ft fA fu, .int .i64 k4_205, .map (some bE), .slice fG fF fH, .slice fJ fI fK, .slice fM fL fN] 72 (0, 0)), .row 26 1 fD fC fE gv, .row 26 1 fd fv fe ik, .row 3 1 ff fw fh io, .row 3 1 fk fx fm ip, .row 26 1 fo fy fq iq, .row 39 2 ft fA fu ir, .row 9 1 fG fF fH iu, .row 3 1 fJ fI fK iv, .row 3 1 fM fL fN iw, .any (mapE (fun a : List UInt8 => Value.string (gstr a)) (fun a : Int => Value.int .i64 a) bE m4_260), .blk B2 (.cells #[.int .i64 e.Points, .bool e.Monoid, .slice bi e.Gens.length bj, .slice aE e.Elems.length aF, .slice ak e.Prefix.length al, .slice aX e.Last.length aY, .slice aG e.Right.length aH, .slice aI e.Rules.length aJ, .int .i64 e.Done] 29 (0, 0))] ++ A) w aX aY e.Last ∧ ISl (Rp.sl (Rp.int .i64)) (bl [.blk eW (.cells #[.int .i64 k4_203, .bool b4_204, .slice fD fC fE, .slice fd fv fe, .slice ff fw fh, .slice fk fx fm, .slice fo fy fq, .slice ft fA fu, .int .i64 k4_205, .map (some bE), .slice fG fF fH, .slice fJ fI fK, .slice fM fL fN] 72 (0, 0)), .row 26 1 fD fC fE gv, .row 26 1 fd fv fe ik, .row 3 1 ff fw fh io, .row 3 1 fk fx fm ip, .row 26 1 fo fy fq iq, .row 39 2 ft fA fu ir, .row 9 1 fG fF fH iu, .row 3 1 fJ fI fK iv, .row 3 1 fM fL fN iw, .any (mapE (fun a : List UInt8 => Value.string (gstr a)) (fun a : Int => Value.int .i64 a) bE m4_260), .blk B2 (.cells #[.int .i64 e.Points, .bool e.Monoid, .slice bi e.Gens.length bj, .slice aE e.Elems.length aF, .slice ak e.Prefix.length al, .slice aX e.Last.length aY, .slice aG e.Right.length aH, .slice aI e.Rules.length aJ, .int .i64 e.Done] 29 (0, 0))] ++ A) w aG aH e.Right ∧ ISl (rpRule) (bl [.blk eW (.cells #[.int .i64 k4_203, .bool b4_204, .slice fD fC fE, .slice fd fv fe, .slice ff fw fh, .slice fk fx fm, .slice fo fy fq, .slice ft fA fu, .int .i64 k4_205, .map (some bE), .slice fG fF fH, .slice fJ fI fK, .slice fM fL fN] 72 (0, 0)), .row 26 1 fD fC fE gv, .row 26 1 fd fv fe ik, .row 3 1 ff fw fh io, .row 3 1 fk fx fm ip, .row 26 1 fo fy fq iq, .row 39 2 ft fA fu ir, .row 9 1 fG fF fH iu, .row 3 1 fJ fI fK iv, .row 3 1 fM fL fN iw, .any (mapE (fun a : List UInt8 => Value.string (gstr a)) (fun a : Int => Value.int .i64 a) bE m4_260), .blk B2 (.cells #[.int .i64 e.Points, .bool e.Monoid, .slice bi e.Gens.length bj, .slice aE e.Elems.length aF, .slice ak e.Prefix.length al, .slice aX e.Last.length aY, .slice aG e.Right.length aH, .slice aI e.Rules.length aJ, .int .i64 e.Done] 29 (0, 0))] ++ A) w aI aJ e.Rules ∧ Fr (bl []) w0 (bl [.blk eW (.cells #[.int .i64 k4_203, .bool b4_204, .slice fD fC fE, .slice fd fv fe, .slice ff fw fh, .slice fk fx fm, .slice fo fy fq, .slice ft fA fu, .int .i64 k4_205, .map (some bE), .slice fG fF fH, .slice fJ fI fK, .slice fM fL fN] 72 (0, 0)), .row 26 1 fD fC fE gv, .row 26 1 fd fv fe ik, .row 3 1 ff fw fh io, .row 3 1 fk fx fm ip, .row 26 1 fo fy fq iq, .row 39 2 ft fA fu ir, .row 9 1 fG fF fH iu, .row 3 1 fJ fI fK iv, .row 3 1 fM fL fN iw, .any (mapE (fun a : List UInt8 => Value.string (gstr a)) (fun a : Int => Value.int .i64 a) bE m4_260), .blk B2 (.cells #[.int .i64 e.Points, .bool e.Monoid, .slice bi e.Gens.length bj, .slice aE e.Elems.length aF, .slice ak e.Prefix.length al, .slice aX e.Last.length aY, .slice aG e.Right.length aH, .slice aI e.Rules.length aJ, .int .i64 e.Done] 29 (0, 0))]) w) H ⟨wl, wm, wn, vD, vE, vF, vG, ve, vg, vh, vi, uR, wo, wq, wr, vH, vI, vJ, vK, vj, vL, vM, vN, vk, yb, yc, yd, xw, xx, xz, xA, xn, xB, xC, xD, xo, ⟨rfl, rfl, trivial⟩, hO, oc, nN, nv, od, nO, nP, rP, ra, rb, ah, ae, ac, ai, af, ag, hB⟩ ?_
   intro X4
   refine prE fun k4_203 => prE fun b4_204 => prE fun k4_205 => prE fun d_206 => prE fun d_212 => prE fun d_218 => prE fun d_224 => prE fun d_230 => prE fun d_236 => prE fun d_242 => prE fun d_248 => prE fun d_254 => fun m4_260 => ?_
   intro H hX4 σ HE
   refine exE fun fC => exE fun fD => exE fun fE => exE fun gv => exE fun fv => exE fun fd => exE fun fe => exE fun ik => exE fun fw => exE fun ff => exE fun fh => exE fun io => exE fun fx => exE fun fk => exE fun fm => exE fun ip => exE fun fy => exE fun fo => exE fun fq => exE fun iq => exE fun fA => exE fun ft => exE fun fu => exE fun ir => exE fun fF => exE fun fG => exE fun fH => exE fun iu => exE fun fI => exE fun fJ => exE fun fK => exE fun iv => exE fun fL => exE fun fM => exE fun fN => exE fun iw => andE fun hag => andE fun hO => andE fun dB => andE fun du => andE fun dx => andE fun dy => andE fun dz => andE fun dA => andE fun dC => andE fun dD => andE fun dE => andE fun ah => andE fun ae => andE fun ac => andE fun ai => andE fun af => andE fun ag => fun hB => ?_
   dsimp only at H
   refine Go1.keep [(1, .pointer (some ⟨B2, 0, none⟩)), (4, .pointer (some ⟨eW, 0, none⟩))] hag ?_
   refine Go1.seq ?_
   refine Go1.seq ?_
   refine Go1.drawS 0 [(0, .pure), (1, .pure), (2, .pure), (3, .pure), (4, .stable), (5, .pure), (6, .stable), (7, .pure)] mixed (by kernel_rfl) ?_
   intro Nh Gy
   have ma := Stp.same hO Gy
   replace dB := dB.ch ma.ch
   replace du := du.ch ma.ch
   replace dx := dx.ch ma.ch
   replace dy := dy.ch ma.ch
   replace dz := dz.ch ma.ch
   replace dA := dA.ch ma.ch
   replace dC := dC.ch ma.ch
   replace dD := dD.ch ma.ch
   replace dE := dE.ch ma.ch
   replace hO := ma.own
   replace ah := ah.ch ma.ch
   replace ae := ae.ch ma.ch
   replace ac := ac.ch ma.ch
   replace ai := ai.ch ma.ch
   replace af := af.ch ma.ch
   replace ag := ag.ch ma.ch
   replace hB := hB.trans ma.fr
   refine GoQ.pure rfl (op_move rfl) rfl rfl ?_
   refine GoQ.pure rfl (op_nilCheck rfl) rfl rfl ?_
   refine GoQ.pure rfl (op_fieldAddr Try.underlying72 rfl ti29 rfl (by decide)) rfl rfl ?_
   refine GoQ.pure rfl (op_fieldAddr Try.underlying29 rfl ti3 rfl (by decide)) rfl rfl ?_
   refine GoQ.stable rfl (oblk (i := 8) 0 hO rfl rfl Try.underlying3 rfl rfl) rfl rfl ?_
   refine GoQ.pure rfl (op_fieldAddr Try.underlying29 rfl ti3 rfl (by decide)) rfl rfl ?_
   refine GoQ.stable rfl (oblk (i := 8) 11 hO rfl rfl Try.underlying3 rfl rfl) rfl rfl ?_
   by_cases zr : k4_205 < e.Done
   ·replace H := ifp zr H
    refine GoQ.pure rfl (fun w => opB (op_lss rfl rfl w) (decide_eq_true zr)) rfl rfl ?_
    refine GoQ.nil ?_
    refine Go1.condT rfl rfl ?_
    refine Go1.skip ?_
    refine Go1.block ?_
    refine Go1.seq ?_
    refine Go1.region ?_
    refine GoR.op ((op_move rfl) _) rfl rfl ?_
    refine GoR.inl (vs := [.pointer (some ⟨eW, 0, none⟩)]) (caps := []) rfl rfl body50 Try.func50 rfl Try.ntmps50 rfl rfl rfl ?_
    intro RhR265 hR265
    refine Go1.seq ?_
    refine Go1.region ?_
    refine GoR.op ((op_assign rfl) _) rfl rfl ?_
    refine GoR.nil ?_
    refine Go1.seq ?_
    refine Go1.drawS 0 [(0, .pure), (1, .pure), (2, .pure), (3, .pure), (4, .stable), (5, .pure), (6, .pure), (7, .pure), (8, .pure), (9, .stable), (10, .pure), (11, .pure), (12, .pure)] mixed (by kernel_rfl) ?_
    intro ye Gz
    have mb := Stp.same hO Gz
    replace dB := dB.ch mb.ch
    replace du := du.ch mb.ch
    replace dx := dx.ch mb.ch
    replace dy := dy.ch mb.ch
    replace dz := dz.ch mb.ch
    replace dA := dA.ch mb.ch
    replace dC := dC.ch mb.ch
    replace dD := dD.ch mb.ch
    replace dE := dE.ch mb.ch
    replace hO := mb.own
    replace ah := ah.ch mb.ch
    replace ae := ae.ch mb.ch
    replace ac := ac.ch mb.ch
    replace ai := ai.ch mb.ch
    replace af := af.ch mb.ch
    replace ag := ag.ch mb.ch
    replace hB := hB.trans mb.fr
    refine GoQ.pure rfl (op_move rfl) rfl rfl ?_
    refine GoQ.pure rfl (op_nilCheck rfl) rfl rfl ?_
    refine GoQ.pure rfl (op_fieldAddr Try.underlying72 rfl ti29 rfl (by decide)) rfl rfl ?_
    refine GoQ.pure rfl (op_fieldAddr Try.underlying29 rfl ti3 rfl (by decide)) rfl rfl ?_
    refine GoQ.stable rfl (oblk (i := 8) 0 hO rfl rfl Try.underlying3 rfl rfl) rfl rfl ?_
    refine GoQ.pure rfl (op_move rfl) rfl rfl ?_
    refine GoQ.pure rfl (op_nilCheck rfl) rfl rfl ?_
    refine GoQ.pure rfl (op_fieldAddr Try.underlying72 rfl ti29 rfl (by decide)) rfl rfl ?_
    refine GoQ.pure rfl (op_fieldAddr Try.underlying29 rfl ti22 rfl (by decide)) rfl rfl ?_
    refine GoQ.stable rfl (oblk (i := 3) 0 hO rfl rfl Try.underlying22 rfl rfl) rfl rfl ?_
    refine GoQ.pure rfl (op_lenN Try.underlying22 rfl (du.neq hO 2 rfl)) rfl rfl ?_
    by_cases zt : k4_205 = (d_212.length : Int)
    ·replace H := ifp zt H
     refine GoQ.pure rfl (fun w => opB (op_eql rfl rfl w) (decide_eq_true zt)) rfl rfl ?_
     refine GoQ.pure rfl (op_assign rfl) rfl rfl ?_
     refine GoQ.nil ?_
     refine Go1.ret1V Try.func50 rfl (show _ = .bool true from rfl) ?_
     refine hR265 _ _ ?_
     refine GoR.op ((op_move rfl) _) rfl rfl ?_
     refine GoR.pass rfl rfl ?_
     refine GoR.pass rfl rfl ?_
     refine GoR.pass rfl rfl ?_
     refine GoR.op ((op_pickT rfl rfl rfl) _) rfl rfl ?_
     refine GoR.nil ?_
     refine Go1.condT rfl rfl ?_
     refine Go1.seq ?_
     refine Go1.cut [] trivial ?_
     intro σ _
     refine Go1.region ?_
     refine GoR.op ((op_assign rfl) _) rfl rfl ?_
     refine GoR.op ((op_assign rfl) _) rfl rfl ?_
     refine GoR.nil ?_
     refine Go1.ret2 Try.func53 rfl ?_
     exact Or.inl ⟨false, rfl, hB.same, H⟩
    replace H := ifn zt H
    refine GoQ.pure rfl (fun w => opB (op_eql rfl rfl w) (decide_eq_false zt)) rfl rfl ?_
    refine GoQ.pure rfl (op_assign rfl) rfl rfl ?_
    refine GoQ.nil ?_
    refine Go1.ret1V Try.func50 rfl (show _ = .bool false from rfl) ?_
    refine hR265 _ _ ?_
    refine GoR.op ((op_move rfl) _) rfl rfl ?_
    refine GoR.op ((op_move rfl) _) rfl rfl ?_
    have Bd : Owns w0.heap.size ye ([.blk eW (.cells #[.int .i64 k4_203, .bool b4_204, .slice fD fC fE, .slice fd fv fe, .slice ff fw fh, .slice fk fx fm, .slice fo fy fq, .slice ft fA fu, .int .i64 k4_205, .map (some bE), .slice fG fF fH, .slice fJ fI fK, .slice fM fL fN] 72 (0, 0)), .row 26 1 fD fC fE gv, .row 26 1 fd fv fe ik, .row 3 1 ff fw fh io, .row 3 1 fk fx fm ip, .row 26 1 fo fy fq iq, .row 39 2 ft fA fu ir, .row 9 1 fG fF fH iu, .row 3 1 fJ fI fK iv, .row 3 1 fM fL fN iw, .any (mapE (fun a : List UInt8 => Value.string (gstr a)) (fun a : Int => Value.int .i64 a) bE m4_260)] ++ [.blk B2 (.cells #[.int .i64 e.Points, .bool e.Monoid, .slice bi e.Gens.length bj, .slice aE e.Elems.length aF, .slice ak e.Prefix.length al, .slice aX e.Last.length aY, .slice aG e.Right.length aH, .slice aI e.Rules.length aJ, .int .i64 e.Done] 29 (0, 0))]) A := hO
    have GA := Owns.split Bd
    have hca272 : Ch (bl [.blk eW (.cells #[.int .i64 k4_203, .bool b4_204, .slice fD fC fE, .slice fd fv fe, .slice ff fw fh, .slice fk fx fm, .slice fo fy fq, .slice ft fA fu, .int .i64 k4_205, .map (some bE), .slice fG fF fH, .slice fJ fI fK, .slice fM fL fN] 72 (0, 0)), .row 26 1 fD fC fE gv, .row 26 1 fd fv fe ik, .row 3 1 ff fw fh io, .row 3 1 fk fx fm ip, .row 26 1 fo fy fq iq, .row 39 2 ft fA fu ir, .row 9 1 fG fF fH iu, .row 3 1 fJ fI fK iv, .row 3 1 fM fL fN iw, .any (mapE (fun a : List UInt8 => Value.string (gstr a)) (fun a : Int => Value.int .i64 a) bE m4_260), .blk B2 (.cells #[.int .i64 e.Points, .bool e.Monoid, .slice bi e.Gens.length bj, .slice aE e.Elems.length aF, .slice ak e.Prefix.length al, .slice aX e.Last.length aY, .slice aG e.Right.length aH, .slice aI e.Rules.length aJ, .int .i64 e.Done] 29 (0, 0))] ++ A) ye (bl [.blk eW (.cells #[.int .i64 k4_203, .bool b4_204, .slice fD fC fE, .slice fd fv fe, .slice ff fw fh, .slice fk fx fm, .slice fo fy fq, .slice ft fA fu, .int .i64 k4_205, .map (some bE), .slice fG fF fH, .slice fJ fI fK, .slice fM fL fN] 72 (0, 0)), .row 26 1 fD fC fE gv, .row 26 1 fd fv fe ik, .row 3 1 ff fw fh io, .row 3 1 fk fx fm ip, .row 26 1 fo fy fq iq, .row 39 2 ft fA fu ir, .row 9 1 fG fF fH iu, .row 3 1 fJ fI fK iv, .row 3 1 fM fL fN iw, .any (mapE (fun a : List UInt8 => Value.string (gstr a)) (fun a : Int => Value.int .i64 a) bE m4_260)] ++ (bl [.blk B2 (.cells #[.int .i64 e.Points, .bool e.Monoid, .slice bi e.Gens.length bj, .slice aE e.Elems.length aF, .slice ak e.Prefix.length al, .slice aX e.Last.length aY, .slice aG e.Right.length aH, .slice aI e.Rules.length aJ, .int .i64 e.Done] 29 (0, 0))] ++ A)) ye := Ch.assoc' [.blk eW (.cells #[.int .i64 k4_203, .bool b4_204, .slice fD fC fE, .slice fd fv fe, .slice ff fw fh, .slice fk fx fm, .slice fo fy fq, .slice ft fA fu, .int .i64 k4_205, .map (some bE), .slice fG fF fH, .slice fJ fI fK, .slice fM fL fN] 72 (0, 0)), .row 26 1 fD fC fE gv, .row 26 1 fd fv fe ik, .row 3 1 ff fw fh io, .row 3 1 fk fx fm ip, .row 26 1 fo fy fq iq, .row 39 2 ft fA fu ir, .row 9 1 fG fF fH iu, .row 3 1 fJ fI fK iv, .row 3 1 fM fL fN iw, .any (mapE (fun a : List UInt8 => Value.string (gstr a)) (fun a : Int => Value.int .i64 a) bE m4_260)] [.blk B2 (.cells #[.int .i64 e.Points, .bool e.Monoid, .slice bi e.Gens.length bj, .slice aE e.Elems.length aF, .slice ak e.Prefix.length al, .slice aX e.Last.length aY, .slice aG e.Right.length aH, .slice aI e.Rules.length aJ, .int .i64 e.Done] 29 (0, 0))] A ye
    refine GoR.call (op_call body51 rfl (walk_enumerate_run_process (a0 := (⟨(⟨k4_203, b4_204, d_206, d_212, d_218, d_224, d_230, d_236, k4_205⟩ : Enum), m4_260, d_242, d_248, d_254⟩ : run)) GA (dB.ch hca272) (du.ch hca272) (dx.ch hca272) (dy.ch hca272) (dz.ch hca272) (dA.ch hca272) (dC.ch hca272) (dD.ch hca272) (dE.ch hca272) H)) rfl rfl ?_
    intro Ni zu
    refine exE fun r273 => exE fun q274 => exE fun iA => exE fun iB => exE fun iC => exE fun mW => exE fun gO => exE fun gP => exE fun gQ => exE fun mc => exE fun gn => exE fun gp => exE fun gq => exE fun lp => exE fun iD => exE fun iE => exE fun iF => exE fun mX => exE fun gR => exE fun gS => exE fun gT => exE fun me => exE fun gU => exE fun gV => exE fun gW => exE fun mf => exE fun kK => exE fun kM => exE fun kN => exE fun qh => exE fun jA => exE fun jB => exE fun jC => exE fun oL => exE fun jD => exE fun jE => exE fun jF => exE fun oM => andE fun hv280 => andE fun hN277 => andE fun rp => andE fun qU => andE fun qr => andE fun rq => andE fun qV => andE fun qW => andE fun tK => andE fun ta => andE fun tc => andE fun hF278 => fun H => ?_
    subst hv280
    have tD : Stp w0.heap.size A ye [.blk eW (.cells #[.int .i64 k4_203, .bool b4_204, .slice fD fC fE, .slice fd fv fe, .slice ff fw fh, .slice fk fx fm, .slice fo fy fq, .slice ft fA fu, .int .i64 k4_205, .map (some bE), .slice fG fF fH, .slice fJ fI fK, .slice fM fL fN] 72 (0, 0)), .row 26 1 fD fC fE gv, .row 26 1 fd fv fe ik, .row 3 1 ff fw fh io, .row 3 1 fk fx fm ip, .row 26 1 fo fy fq iq, .row 39 2 ft fA fu ir, .row 9 1 fG fF fH iu, .row 3 1 fJ fI fK iv, .row 3 1 fM fL fN iw, .any (mapE (fun a : List UInt8 => Value.string (gstr a)) (fun a : Int => Value.int .i64 a) bE m4_260), .blk B2 (.cells #[.int .i64 e.Points, .bool e.Monoid, .slice bi e.Gens.length bj, .slice aE e.Elems.length aF, .slice ak e.Prefix.length al, .slice aX e.Last.length aY, .slice aG e.Right.length aH, .slice aI e.Rules.length aJ, .int .i64 e.Done] 29 (0, 0))] zu [.blk eW (.cells #[.int .i64 q274.Enum.Points, .bool q274.Enum.Monoid, .slice iB iA iC, .slice gP gO gQ, .slice gp gn gq, .slice iE iD iF, .slice gS gR gT, .slice gV gU gW, .int .i64 q274.Enum.Done, .map (some bE), .slice kM kK kN, .slice jB jA jC, .slice jE jD jF] 72 (0, 0)), .row 26 1 iB iA iC mW, .row 26 1 gP gO gQ mc, .row 3 1 gp gn gq lp, .row 3 1 iE iD iF mX, .row 26 1 gS gR gT me, .row 39 2 gV gU gW mf, .row 9 1 kM kK kN qh, .row 3 1 jB jA jC oL, .row 3 1 jE jD jF oM, .any (mapE (fun a : List UInt8 => Value.string (gstr a)) (fun a : Int => Value.int .i64 a) bE q274.number), .blk B2 (.cells #[.int .i64 e.Points, .bool e.Monoid, .slice bi e.Gens.length bj, .slice aE e.Elems.length aF, .slice ak e.Prefix.length al, .slice aX e.Last.length aY, .slice aG e.Right.length aH, .slice aI e.Rules.length aJ, .int .i64 e.Done] 29 (0, 0))] := Stp.join Bd hN277 hF278
    replace hO := tD.own
    replace ah := ah.ch tD.ch
    replace ae := ae.ch tD.ch
    replace ac := ac.ch tD.ch
    replace ai := ai.ch tD.ch
    replace af := af.ch tD.ch
    replace ag := ag.ch tD.ch
    replace hB := hB.trans tD.fr
    have hca281 : Ch (bl [.blk eW (.cells #[.int .i64 q274.Enum.Points, .bool q274.Enum.Monoid, .slice iB iA iC, .slice gP gO gQ, .slice gp gn gq, .slice iE iD iF, .slice gS gR gT, .slice gV gU gW, .int .i64 q274.Enum.Done, .map (some bE), .slice kM kK kN, .slice jB jA jC, .slice jE jD jF] 72 (0, 0)), .row 26 1 iB iA iC mW, .row 26 1 gP gO gQ mc, .row 3 1 gp gn gq lp, .row 3 1 iE iD iF mX, .row 26 1 gS gR gT me, .row 39 2 gV gU gW mf, .row 9 1 kM kK kN qh, .row 3 1 jB jA jC oL, .row 3 1 jE jD jF oM, .any (mapE (fun a : List UInt8 => Value.string (gstr a)) (fun a : Int => Value.int .i64 a) bE q274.number)] ++ (bl [.blk B2 (.cells #[.int .i64 e.Points, .bool e.Monoid, .slice bi e.Gens.length bj, .slice aE e.Elems.length aF, .slice ak e.Prefix.length al, .slice aX e.Last.length aY, .slice aG e.Right.length aH, .slice aI e.Rules.length aJ, .int .i64 e.Done] 29 (0, 0))] ++ A)) zu (bl [.blk eW (.cells #[.int .i64 q274.Enum.Points, .bool q274.Enum.Monoid, .slice iB iA iC, .slice gP gO gQ, .slice gp gn gq, .slice iE iD iF, .slice gS gR gT, .slice gV gU gW, .int .i64 q274.Enum.Done, .map (some bE), .slice kM kK kN, .slice jB jA jC, .slice jE jD jF] 72 (0, 0)), .row 26 1 iB iA iC mW, .row 26 1 gP gO gQ mc, .row 3 1 gp gn gq lp, .row 3 1 iE iD iF mX, .row 26 1 gS gR gT me, .row 39 2 gV gU gW mf, .row 9 1 kM kK kN qh, .row 3 1 jB jA jC oL, .row 3 1 jE jD jF oM, .any (mapE (fun a : List UInt8 => Value.string (gstr a)) (fun a : Int => Value.int .i64 a) bE q274.number), .blk B2 (.cells #[.int .i64 e.Points, .bool e.Monoid, .slice bi e.Gens.length bj, .slice aE e.Elems.length aF, .slice ak e.Prefix.length al, .slice aX e.Last.length aY, .slice aG e.Right.length aH, .slice aI e.Rules.length aJ, .int .i64 e.Done] 29 (0, 0))] ++ A) zu := Ch.assoc [.blk eW (.cells #[.int .i64 q274.Enum.Points, .bool q274.Enum.Monoid, .slice iB iA iC, .slice gP gO gQ, .slice gp gn gq, .slice iE iD iF, .slice gS gR gT, .slice gV gU gW, .int .i64 q274.Enum.Done, .map (some bE), .slice kM kK kN, .slice jB jA jC, .slice jE jD jF] 72 (0, 0)), .row 26 1 iB iA iC mW, .row 26 1 gP gO gQ mc, .row 3 1 gp gn gq lp, .row 3 1 iE iD iF mX, .row 26 1 gS gR gT me, .row 39 2 gV gU gW mf, .row 9 1 kM kK kN qh, .row 3 1 jB jA jC oL, .row 3 1 jE jD jF oM, .any (mapE (fun a : List UInt8 => Value.string (gstr a)) (fun a : Int => Value.int .i64 a) bE q274.number)] [.blk B2 (.cells #[.int .i64 e.Points, .bool e.Monoid, .slice bi e.Gens.length bj, .slice aE e.Elems.length aF, .slice ak e.Prefix.length al, .slice aX e.Last.length aY, .slice aG e.Right.length aH, .slice aI e.Rules.length aJ, .int .i64 e.Done] 29 (0, 0))] A zu
    replace rp := rp.ch hca281
    replace qU := qU.ch hca281
    replace qr := qr.ch hca281
    replace rq := rq.ch hca281
    replace qV := qV.ch hca281
    replace qW := qW.ch hca281
    replace tK := tK.ch hca281
    replace ta := ta.ch hca281
    replace tc := tc.ch hca281
    by_cases zw : r273 = (0 : Int)
    ·replace H := ifp zw H
     refine GoR.op ((fun w => opB (op_neq rfl rfl w) (ndT zw)) _) rfl rfl ?_
     refine GoR.op ((op_pickF rfl rfl rfl) _) rfl rfl ?_
     refine GoR.nil ?_
     refine Go1.condF rfl rfl ?_
     refine Go1.skip ?_
     refine Go1.inBlock ?_
     exact hX4 _ H _ _ ⟨iA, iB, iC, mW, gO, gP, gQ, mc, gn, gp, gq, lp, iD, iE, iF, mX, gR, gS, gT, me, gU, gV, gW, mf, kK, kM, kN, qh, jA, jB, jC, oL, jD, jE, jF, oM, ⟨rfl, rfl, trivial⟩, hO, rp, qU, qr, rq, qV, qW, tK, ta, tc, ah, ae, ac, ai, af, ag, hB⟩
    replace H := ifn zw H
    refine GoR.op ((fun w => opB (op_neq rfl rfl w) (ndF zw)) _) rfl rfl ?_
    refine GoR.op ((op_pickF rfl rfl rfl) _) rfl rfl ?_
    refine GoR.nil ?_
    refine Go1.condT rfl rfl ?_
    refine Go1.seq ?_
    refine Go1.region ?_
    refine GoR.op ((op_assign rfl) _) rfl rfl ?_
    refine GoR.op ((op_assign rfl) _) rfl rfl ?_
    refine GoR.nil ?_
    refine Go1.ret2 Try.func53 rfl ?_
    exact Or.inl ⟨false, rfl, hB.same, H⟩
   replace H := ifn zr H
   refine GoQ.pure rfl (fun w => opB (op_lss rfl rfl w) (decide_eq_false zr)) rfl rfl ?_
   refine GoQ.nil ?_
   refine Go1.condF rfl rfl ?_
   refine Go1.exit rfl ?_
   refine Go1.seq ?_
   refine Go1.region ?_
   refine GoR.op ((op_move rfl) _) rfl rfl ?_
   refine GoR.op ((op_move rfl) _) rfl rfl ?_
   refine GoR.op ((oblkAgg (vs := [.int .i64 e.Points, .bool e.Monoid, .slice bi e.Gens.length bj, .slice aE e.Elems.length aF, .slice ak e.Prefix.length al, .slice aX e.Last.length aY, .slice aG e.Right.length aH, .slice aI e.Rules.length aJ, .int .i64 e.Done]) (i := 0) 11 hO rfl rfl Try.underlying29 rfl ti29 rfl) _ (Same.refl _)) rfl rfl ?_
   refine GoR.inl (vs := [.pointer (some ⟨eW, 0, none⟩), .agg #[.int .i64 e.Points, .bool e.Monoid, .slice bi e.Gens.length bj, .slice aE e.Elems.length aF, .slice ak e.Prefix.length al, .slice aX e.Last.length aY, .slice aG e.Right.length aH, .slice aI e.Rules.length aJ, .int .i64 e.Done]]) (caps := []) rfl rfl body68 Try.func68 rfl Try.ntmps68 rfl rfl rfl ?_
   intro RhR283 hR283
   refine Go1.seq ?_
   refine Go1.region ?_
   have hobt := obox (t := 29) (v := .agg #[.int .i64 e.Points, .bool e.Monoid, .slice bi e.Gens.length bj, .slice aE e.Elems.length aF, .slice ak e.Prefix.length al, .slice aX e.Last.length aY, .slice aG e.Right.length aH, .slice aI e.Rules.length aJ, .int .i64 e.Done]) (cs := #[.int .i64 e.Points, .bool e.Monoid, .slice bi e.Gens.length bj, .slice aE e.Elems.length aF, .slice ak e.Prefix.length al, .slice aX e.Last.length aY, .slice aG e.Right.length aH, .slice aI e.Rules.length aJ, .int .i64 e.Done]) hO rfl
   obtain ⟨HJ, B285, mg, J2, Dt⟩ := hobt
   refine GoR.op (Dt rfl) rfl rfl ?_
   replace dB := dB.ch mg.ch
   replace du := du.ch mg.ch
   replace dx := dx.ch mg.ch
   replace dy := dy.ch mg.ch
   replace dz := dz.ch mg.ch
   replace dA := dA.ch mg.ch
   replace dC := dC.ch mg.ch
   replace dD := dD.ch mg.ch
   replace dE := dE.ch mg.ch
   replace hO := mg.own
   replace ah := ah.ch mg.ch
   replace ae := ae.ch mg.ch
   replace ac := ac.ch mg.ch
   replace ai := ai.ch mg.ch
   replace af := af.ch mg.ch
   replace ag := ag.ch mg.ch
   replace hB := hB.trans mg.fr
   refine GoR.op ((op_assign rfl) _) rfl rfl ?_
   refine GoR.nil ?_
   refine Go1.seq ?_
   refine Go1.drawS 0 [(0, .pure), (1, .pure), (2, .pure), (3, .pure), (4, .stable), (5, .pure), (6, .stable), (7, .pure), (8, .pure), (9, .pure), (10, .pure), (11, .pure), (12, .pure), (13, .stable), (14, .pure), (15, .stable), (16, .pure), (17, .pure), (18, .pure), (19, .pure), (20, .pure), (21, .pure), (22, .pure), (23, .stable), (24, .pure), (25, .stable), (26, .loud), (27, .pure), (28, .pure), (29, .pure), (30, .pure), (31, .pure), (32, .pure), (33, .stable), (34, .pure), (35, .stable), (36, .loud), (37, .pure), (38, .pure), (39, .pure), (40, .pure), (41, .pure), (42, .pure), (43, .stable), (44, .pure), (45, .stable), (46, .loud), (47, .pure), (48, .pure), (49, .pure), (50, .pure), (51, .pure), (52, .pure), (53, .stable), (54, .pure), (55, .stable), (56, .loud), (57, .pure), (58, .pure), (59, .pure), (60, .pure), (61, .pure), (62, .pure), (63, .stable), (64, .pure), (65, .stable), (66, .loud), (67, .pure), (68, .pure)] mixed (by kernel_rfl) ?_
   intro Nj GB
   have mh := Stp.same hO GB
   replace dB := dB.ch mh.ch
   replace du := du.ch mh.ch
   replace dx := dx.ch mh.ch
   replace dy := dy.ch mh.ch
   replace dz := dz.ch mh.ch
   replace dA := dA.ch mh.ch
   replace dC := dC.ch mh.ch
   replace dD := dD.ch mh.ch
   replace dE := dE.ch mh.ch
   replace hO := mh.own
   replace ah := ah.ch mh.ch
   replace ae := ae.ch mh.ch
   replace ac := ac.ch mh.ch
   replace ai := ai.ch mh.ch
   replace af := af.ch mh.ch
   replace ag := ag.ch mh.ch
   replace hB := hB.trans mh.fr
   refine GoQ.pure rfl (op_move rfl) rfl rfl ?_
   refine GoQ.pure rfl (op_nilCheck rfl) rfl rfl ?_
   refine GoQ.pure rfl (op_fieldAddr Try.underlying72 rfl ti29 rfl (by decide)) rfl rfl ?_
   refine GoQ.pure rfl (op_fieldAddr Try.underlying29 rfl ti3 rfl (by decide)) rfl rfl ?_
   refine GoQ.stable rfl (oblk (i := 0) 1 hO rfl rfl Try.underlying3 rfl rfl) rfl rfl ?_
   refine GoQ.pure rfl (op_fieldAddr Try.underlying29 rfl ti3 rfl (by decide)) rfl rfl ?_
   refine GoQ.stable rfl (oblk (i := 0) 0 hO rfl rfl Try.underlying3 rfl rfl) rfl rfl ?_
   by_cases zx : k4_203 = e.Points
   ·replace H := ifp zx H
    refine GoQ.pure rfl (fun w => opB (op_eql rfl rfl w) (decide_eq_true zx)) rfl rfl ?_
    refine GoQ.pure rfl (op_move rfl) rfl rfl ?_
    refine GoQ.pure rfl (op_move rfl) rfl rfl ?_
    refine GoQ.pure rfl (op_nilCheck rfl) rfl rfl ?_
    refine GoQ.pure rfl (op_fieldAddr Try.underlying72 rfl ti29 rfl (by decide)) rfl rfl ?_
    refine GoQ.pure rfl (op_fieldAddr Try.underlying29 rfl ti3 rfl (by decide)) rfl rfl ?_
    refine GoQ.stable rfl (oblk (i := 8) 1 hO rfl rfl Try.underlying3 rfl rfl) rfl rfl ?_
    refine GoQ.pure rfl (op_fieldAddr Try.underlying29 rfl ti3 rfl (by decide)) rfl rfl ?_
    refine GoQ.stable rfl (oblk (i := 8) 0 hO rfl rfl Try.underlying3 rfl rfl) rfl rfl ?_
    by_cases zy : k4_205 = e.Done
    ·replace H := ifp zy H
     refine GoQ.pure rfl (fun w => opB (op_eql rfl rfl w) (decide_eq_true zy)) rfl rfl ?_
     refine GoQ.pure rfl (op_pickT rfl rfl rfl) rfl rfl ?_
     refine GoQ.pure rfl (op_move rfl) rfl rfl ?_
     refine GoQ.pure rfl (op_move rfl) rfl rfl ?_
     refine GoQ.pure rfl (op_nilCheck rfl) rfl rfl ?_
     refine GoQ.pure rfl (op_fieldAddr Try.underlying72 rfl ti29 rfl (by decide)) rfl rfl ?_
     refine GoQ.pure rfl (op_fieldAddr Try.underlying29 rfl ti22 rfl (by decide)) rfl rfl ?_
     refine GoQ.stable rfl (oblk (i := 3) 1 hO rfl rfl Try.underlying22 rfl rfl) rfl rfl ?_
     refine GoQ.pure rfl (op_fieldAddr Try.underlying29 rfl ti22 rfl (by decide)) rfl rfl ?_
     refine GoQ.stable rfl (oblk (i := 3) 0 hO rfl rfl Try.underlying22 rfl rfl) rfl rfl ?_
     have hobt := rowlend 3 hO rfl du
     obtain ⟨GC, GD⟩ := hobt
     have hOc297 := hO.drop 3
     refine GoQ.call rfl (op_call body69 (show ([.slice fd fv fe, .slice aE e.Elems.length aF, .func (.func 70) #[] #[]] : List Value) = [.slice fd d_212.length fe, .slice aE e.Elems.length aF, .func (.func 70) #[] #[]] from by rw [← GD]) (walk_slices_EqualFunc_int hOc297.lt GC (ae.ch (Owns.dropCh _ _ 3)) H)) (fun v w hr => by obtain ⟨_, _, hs, _⟩ := hr; assumption) rfl rfl ?_
     rintro Nk Nl ⟨r298, rfl, A7, H⟩
     have mj := Stp.same hO A7
     replace dB := dB.ch mj.ch
     replace du := du.ch mj.ch
     replace dx := dx.ch mj.ch
     replace dy := dy.ch mj.ch
     replace dz := dz.ch mj.ch
     replace dA := dA.ch mj.ch
     replace dC := dC.ch mj.ch
     replace dD := dD.ch mj.ch
     replace dE := dE.ch mj.ch
     replace hO := mj.own
     replace ah := ah.ch mj.ch
     replace ae := ae.ch mj.ch
     replace ac := ac.ch mj.ch
     replace ai := ai.ch mj.ch
     replace af := af.ch mj.ch
     replace ag := ag.ch mj.ch
     replace hB := hB.trans mj.fr
     refine GoQ.pure rfl (op_pickT rfl rfl rfl) rfl rfl ?_
     refine GoQ.pure rfl (op_move rfl) rfl rfl ?_
     cases r298
     ·replace H := ifn Bool.false_ne_true H
      refine GoQ.pass rfl rfl rfl ?_
      refine GoQ.pass rfl rfl rfl ?_
      refine GoQ.pass rfl rfl rfl ?_
      refine GoQ.pass rfl rfl rfl ?_
      refine GoQ.pass rfl rfl rfl ?_
      refine GoQ.pass rfl rfl rfl ?_
      refine GoQ.pass rfl rfl rfl ?_
      refine GoQ.pass rfl rfl rfl ?_
      refine GoQ.pure rfl (op_pickF rfl rfl rfl) rfl rfl ?_
      refine GoQ.pure rfl (op_move rfl) rfl rfl ?_
      refine GoQ.pass rfl rfl rfl ?_
      refine GoQ.pass rfl rfl rfl ?_
      refine GoQ.pass rfl rfl rfl ?_
      refine GoQ.pass rfl rfl rfl ?_
      refine GoQ.pass rfl rfl rfl ?_
      refine GoQ.pass rfl rfl rfl ?_
      refine GoQ.pass rfl rfl rfl ?_
      refine GoQ.pass rfl rfl rfl ?_
      refine GoQ.pure rfl (op_pickF rfl rfl rfl) rfl rfl ?_
      refine GoQ.pure rfl (op_move rfl) rfl rfl ?_
      refine GoQ.pass rfl rfl rfl ?_
      refine GoQ.pass rfl rfl rfl ?_
      refine GoQ.pass rfl rfl rfl ?_
      refine GoQ.pass rfl rfl rfl ?_
      refine GoQ.pass rfl rfl rfl ?_
      refine GoQ.pass rfl rfl rfl ?_
      refine GoQ.pass rfl rfl rfl ?_
      refine GoQ.pass rfl rfl rfl ?_
      refine GoQ.pure rfl (op_pickF rfl rfl rfl) rfl rfl ?_
      refine GoQ.pure rfl (op_move rfl) rfl rfl ?_
      refine GoQ.pass rfl rfl rfl ?_
      refine GoQ.pass rfl rfl rfl ?_
      refine GoQ.pass rfl rfl rfl ?_
      refine GoQ.pass rfl rfl rfl ?_
      refine GoQ.pass rfl rfl rfl ?_
      refine GoQ.pass rfl rfl rfl ?_
      refine GoQ.pass rfl rfl rfl ?_
      refine GoQ.pass rfl rfl rfl ?_
      refine GoQ.pure rfl (op_pickF rfl rfl rfl) rfl rfl ?_
      refine GoQ.pure rfl (op_assign rfl) rfl rfl ?_
      refine GoQ.nil ?_
      refine Go1.ret1V Try.func68 rfl (show _ = .bool false from rfl) ?_
      refine hR283 _ _ ?_
      refine GoR.op ((op_assign rfl) _) rfl rfl ?_
      refine GoR.op ((op_assign rfl) _) rfl rfl ?_
      refine GoR.nil ?_
      replace ah := ah.ch (Owns.dropCh _ _ 0)
      replace ae := ae.ch (Owns.dropCh _ _ 0)
      replace ac := ac.ch (Owns.dropCh _ _ 0)
      replace ai := ai.ch (Owns.dropCh _ _ 0)
      replace af := af.ch (Owns.dropCh _ _ 0)
      replace ag := ag.ch (Owns.dropCh _ _ 0)
      replace dB := dB.ch (Owns.dropCh _ _ 0)
      replace du := du.ch (Owns.dropCh _ _ 0)
      replace dx := dx.ch (Owns.dropCh _ _ 0)
      replace dy := dy.ch (Owns.dropCh _ _ 0)
      replace dz := dz.ch (Owns.dropCh _ _ 0)
      replace dA := dA.ch (Owns.dropCh _ _ 0)
      replace dC := dC.ch (Owns.dropCh _ _ 0)
      replace dD := dD.ch (Owns.dropCh _ _ 0)
      replace dE := dE.ch (Owns.dropCh _ _ 0)
      replace hB := hB.trans (Owns.dropFr _ _ 0)
      replace hO := hO.drop 0
      dsimp only [eS, eZ] at hB hO ah ae ac ai af ag dB du dx dy dz dA dC dD dE
      replace ah := ah.ch (Owns.dropCh _ _ 11)
      replace ae := ae.ch (Owns.dropCh _ _ 11)
      replace ac := ac.ch (Owns.dropCh _ _ 11)
      replace ai := ai.ch (Owns.dropCh _ _ 11)
      replace af := af.ch (Owns.dropCh _ _ 11)
      replace ag := ag.ch (Owns.dropCh _ _ 11)
      replace dB := dB.ch (Owns.dropCh _ _ 11)
      replace du := du.ch (Owns.dropCh _ _ 11)
      replace dx := dx.ch (Owns.dropCh _ _ 11)
      replace dy := dy.ch (Owns.dropCh _ _ 11)
      replace dz := dz.ch (Owns.dropCh _ _ 11)
      replace dA := dA.ch (Owns.dropCh _ _ 11)
      replace dC := dC.ch (Owns.dropCh _ _ 11)
      replace dD := dD.ch (Owns.dropCh _ _ 11)
      replace dE := dE.ch (Owns.dropCh _ _ 11)
      replace hB := hB.trans (Owns.dropFr _ _ 11)
      replace hO := hO.drop 11
      dsimp only [eS, eZ] at hB hO ah ae ac ai af ag dB du dx dy dz dA dC dD dE
      refine Go1.ret2 Try.func53 rfl ?_
      exact Or.inr ⟨(⟨(⟨k4_203, b4_204, d_206, d_212, d_218, d_224, d_230, d_236, k4_205⟩ : Enum), m4_260, d_242, d_248, d_254⟩ : run), false, eW, fC, fD, fE, gv, fv, fd, fe, ik, fw, ff, fh, io, fx, fk, fm, ip, fy, fo, fq, iq, fA, ft, fu, ir, bE, fF, fG, fH, iu, fI, fJ, fK, iv, fL, fM, fN, iw, rfl, hB.same, hO, dB, du, dx, dy, dz, dA, dC, dD, dE, H⟩
     replace H := ifp rfl H
     refine GoQ.pure rfl (op_move rfl) rfl rfl ?_
     refine GoQ.pure rfl (op_nilCheck rfl) rfl rfl ?_
     refine GoQ.pure rfl (op_fieldAddr Try.underlying72 rfl ti29 rfl (by decide)) rfl rfl ?_
     refine GoQ.pure rfl (op_fieldAddr Try.underlying29 rfl ti26 rfl (by decide)) rfl rfl ?_
     refine GoQ.stable rfl (oblk (i := 4) 1 hO rfl rfl Try.underlying26 rfl rfl) rfl rfl ?_
     refine GoQ.pure rfl (op_fieldAddr Try.underlying29 rfl ti26 rfl (by decide)) rfl rfl ?_
     refine GoQ.stable rfl (oblk (i := 4) 0 hO rfl rfl Try.underlying26 rfl rfl) rfl rfl ?_
     have hobt := rowlend 4 hO rfl dx
     obtain ⟨GE, GF⟩ := hobt
     have hOc306 := hO.drop 4
     refine GoQ.call rfl (op_call body70 (show ([.slice ff fw fh, .slice ak e.Prefix.length al] : List Value) = [.slice ff d_218.length fh, .slice ak e.Prefix.length al] from by rw [← GF]) (walk_slices_Equal_int hOc306.lt GE (ac.ch (Owns.dropCh _ _ 4)) H)) (fun v w hr => by obtain ⟨_, _, hs, _⟩ := hr; assumption) rfl rfl ?_
     rintro Nm Nn ⟨r307, rfl, GG, H⟩
     have ml := Stp.same hO GG
     replace dB := dB.ch ml.ch
     replace du := du.ch ml.ch
     replace dx := dx.ch ml.ch
     replace dy := dy.ch ml.ch
     replace dz := dz.ch ml.ch
     replace dA := dA.ch ml.ch
     replace dC := dC.ch ml.ch
     replace dD := dD.ch ml.ch
     replace dE := dE.ch ml.ch
     replace hO := ml.own
     replace ah := ah.ch ml.ch
     replace ae := ae.ch ml.ch
     replace ac := ac.ch ml.ch
     replace ai := ai.ch ml.ch
     replace af := af.ch ml.ch
     replace ag := ag.ch ml.ch
     replace hB := hB.trans ml.fr
     refine GoQ.pure rfl (op_pickT rfl rfl rfl) rfl rfl ?_
     refine GoQ.pure rfl (op_move rfl) rfl rfl ?_
     cases r307
     ·replace H := ifn Bool.false_ne_true H
      refine GoQ.pass rfl rfl rfl ?_
      refine GoQ.pass rfl rfl rfl ?_
      refine GoQ.pass rfl rfl rfl ?_
      refine GoQ.pass rfl rfl rfl ?_
      refine GoQ.pass rfl rfl rfl ?_
      refine GoQ.pass rfl rfl rfl ?_
      refine GoQ.pass rfl rfl rfl ?_
      refine GoQ.pass rfl rfl rfl ?_
      refine GoQ.pure rfl (op_pickF rfl rfl rfl) rfl rfl ?_
      refine GoQ.pure rfl (op_move rfl) rfl rfl ?_
      refine GoQ.pass rfl rfl rfl ?_
      refine GoQ.pass rfl rfl rfl ?_
      refine GoQ.pass rfl rfl rfl ?_
      refine GoQ.pass rfl rfl rfl ?_
      refine GoQ.pass rfl rfl rfl ?_
      refine GoQ.pass rfl rfl rfl ?_
      refine GoQ.pass rfl rfl rfl ?_
      refine GoQ.pass rfl rfl rfl ?_
      refine GoQ.pure rfl (op_pickF rfl rfl rfl) rfl rfl ?_
      refine GoQ.pure rfl (op_move rfl) rfl rfl ?_
      refine GoQ.pass rfl rfl rfl ?_
      refine GoQ.pass rfl rfl rfl ?_
      refine GoQ.pass rfl rfl rfl ?_
      refine GoQ.pass rfl rfl rfl ?_
      refine GoQ.pass rfl rfl rfl ?_
      refine GoQ.pass rfl rfl rfl ?_
      refine GoQ.pass rfl rfl rfl ?_
      refine GoQ.pass rfl rfl rfl ?_
      refine GoQ.pure rfl (op_pickF rfl rfl rfl) rfl rfl ?_
      refine GoQ.pure rfl (op_assign rfl) rfl rfl ?_
      refine GoQ.nil ?_
      refine Go1.ret1V Try.func68 rfl (show _ = .bool false from rfl) ?_
      refine hR283 _ _ ?_
      refine GoR.op ((op_assign rfl) _) rfl rfl ?_
      refine GoR.op ((op_assign rfl) _) rfl rfl ?_
      refine GoR.nil ?_
      replace ah := ah.ch (Owns.dropCh _ _ 0)
      replace ae := ae.ch (Owns.dropCh _ _ 0)
      replace ac := ac.ch (Owns.dropCh _ _ 0)
      replace ai := ai.ch (Owns.dropCh _ _ 0)
      replace af := af.ch (Owns.dropCh _ _ 0)
      replace ag := ag.ch (Owns.dropCh _ _ 0)
      replace dB := dB.ch (Owns.dropCh _ _ 0)
      replace du := du.ch (Owns.dropCh _ _ 0)
      replace dx := dx.ch (Owns.dropCh _ _ 0)
      replace dy := dy.ch (Owns.dropCh _ _ 0)
      replace dz := dz.ch (Owns.dropCh _ _ 0)
      replace dA := dA.ch (Owns.dropCh _ _ 0)
      replace dC := dC.ch (Owns.dropCh _ _ 0)
      replace dD := dD.ch (Owns.dropCh _ _ 0)
      replace dE := dE.ch (Owns.dropCh _ _ 0)
      replace hB := hB.trans (Owns.dropFr _ _ 0)
      replace hO := hO.drop 0
      dsimp only [eS, eZ] at hB hO ah ae ac ai af ag dB du dx dy dz dA dC dD dE
      replace ah := ah.ch (Owns.dropCh _ _ 11)
      replace ae := ae.ch (Owns.dropCh _ _ 11)
      replace ac := ac.ch (Owns.dropCh _ _ 11)
      replace ai := ai.ch (Owns.dropCh _ _ 11)
      replace af := af.ch (Owns.dropCh _ _ 11)
      replace ag := ag.ch (Owns.dropCh _ _ 11)
      replace dB := dB.ch (Owns.dropCh _ _ 11)
      replace du := du.ch (Owns.dropCh _ _ 11)
      replace dx := dx.ch (Owns.dropCh _ _ 11)
      replace dy := dy.ch (Owns.dropCh _ _ 11)
      replace dz := dz.ch (Owns.dropCh _ _ 11)
      replace dA := dA.ch (Owns.dropCh _ _ 11)
      replace dC := dC.ch (Owns.dropCh _ _ 11)
      replace dD := dD.ch (Owns.dropCh _ _ 11)
      replace dE := dE.ch (Owns.dropCh _ _ 11)
      replace hB := hB.trans (Owns.dropFr _ _ 11)
      replace hO := hO.drop 11
      dsimp only [eS, eZ] at hB hO ah ae ac ai af ag dB du dx dy dz dA dC dD dE
      refine Go1.ret2 Try.func53 rfl ?_
      exact Or.inr ⟨(⟨(⟨k4_203, b4_204, d_206, d_212, d_218, d_224, d_230, d_236, k4_205⟩ : Enum), m4_260, d_242, d_248, d_254⟩ : run), false, eW, fC, fD, fE, gv, fv, fd, fe, ik, fw, ff, fh, io, fx, fk, fm, ip, fy, fo, fq, iq, fA, ft, fu, ir, bE, fF, fG, fH, iu, fI, fJ, fK, iv, fL, fM, fN, iw, rfl, hB.same, hO, dB, du, dx, dy, dz, dA, dC, dD, dE, H⟩
     replace H := ifp rfl H
     refine GoQ.pure rfl (op_move rfl) rfl rfl ?_
     refine GoQ.pure rfl (op_nilCheck rfl) rfl rfl ?_
     refine GoQ.pure rfl (op_fieldAddr Try.underlying72 rfl ti29 rfl (by decide)) rfl rfl ?_
     refine GoQ.pure rfl (op_fieldAddr Try.underlying29 rfl ti26 rfl (by decide)) rfl rfl ?_
     refine GoQ.stable rfl (oblk (i := 5) 1 hO rfl rfl Try.underlying26 rfl rfl) rfl rfl ?_
     refine GoQ.pure rfl (op_fieldAddr Try.underlying29 rfl ti26 rfl (by decide)) rfl rfl ?_
     refine GoQ.stable rfl (oblk (i := 5) 0 hO rfl rfl Try.underlying26 rfl rfl) rfl rfl ?_
     have hobt := rowlend 5 hO rfl dy
     obtain ⟨GH, GJ⟩ := hobt
     have hOc315 := hO.drop 5
     refine GoQ.call rfl (op_call body70 (show ([.slice fk fx fm, .slice aX e.Last.length aY] : List Value) = [.slice fk d_224.length fm, .slice aX e.Last.length aY] from by rw [← GJ]) (walk_slices_Equal_int hOc315.lt GH (ai.ch (Owns.dropCh _ _ 5)) H)) (fun v w hr => by obtain ⟨_, _, hs, _⟩ := hr; assumption) rfl rfl ?_
     rintro Np HL ⟨r316, rfl, GK, H⟩
     have mm := Stp.same hO GK
     replace dB := dB.ch mm.ch
     replace du := du.ch mm.ch
     replace dx := dx.ch mm.ch
     replace dy := dy.ch mm.ch
     replace dz := dz.ch mm.ch
     replace dA := dA.ch mm.ch
     replace dC := dC.ch mm.ch
     replace dD := dD.ch mm.ch
     replace dE := dE.ch mm.ch
     replace hO := mm.own
     replace ah := ah.ch mm.ch
     replace ae := ae.ch mm.ch
     replace ac := ac.ch mm.ch
     replace ai := ai.ch mm.ch
     replace af := af.ch mm.ch
     replace ag := ag.ch mm.ch
     replace hB := hB.trans mm.fr
     refine GoQ.pure rfl (op_pickT rfl rfl rfl) rfl rfl ?_
     refine GoQ.pure rfl (op_move rfl) rfl rfl ?_
     cases r316
     ·replace H := ifn Bool.false_ne_true H
      refine GoQ.pass rfl rfl rfl ?_
      refine GoQ.pass rfl rfl rfl ?_
      refine GoQ.pass rfl rfl rfl ?_
      refine GoQ.pass rfl rfl rfl ?_
      refine GoQ.pass rfl rfl rfl ?_
      refine GoQ.pass rfl rfl rfl ?_
      refine GoQ.pass rfl rfl rfl ?_
      refine GoQ.pass rfl rfl rfl ?_
      refine GoQ.pure rfl (op_pickF rfl rfl rfl) rfl rfl ?_
      refine GoQ.pure rfl (op_move rfl) rfl rfl ?_
      refine GoQ.pass rfl rfl rfl ?_
      refine GoQ.pass rfl rfl rfl ?_
      refine GoQ.pass rfl rfl rfl ?_
      refine GoQ.pass rfl rfl rfl ?_
      refine GoQ.pass rfl rfl rfl ?_
      refine GoQ.pass rfl rfl rfl ?_
      refine GoQ.pass rfl rfl rfl ?_
      refine GoQ.pass rfl rfl rfl ?_
      refine GoQ.pure rfl (op_pickF rfl rfl rfl) rfl rfl ?_
      refine GoQ.pure rfl (op_assign rfl) rfl rfl ?_
      refine GoQ.nil ?_
      refine Go1.ret1V Try.func68 rfl (show _ = .bool false from rfl) ?_
      refine hR283 _ _ ?_
      refine GoR.op ((op_assign rfl) _) rfl rfl ?_
      refine GoR.op ((op_assign rfl) _) rfl rfl ?_
      refine GoR.nil ?_
      replace ah := ah.ch (Owns.dropCh _ _ 0)
      replace ae := ae.ch (Owns.dropCh _ _ 0)
      replace ac := ac.ch (Owns.dropCh _ _ 0)
      replace ai := ai.ch (Owns.dropCh _ _ 0)
      replace af := af.ch (Owns.dropCh _ _ 0)
      replace ag := ag.ch (Owns.dropCh _ _ 0)
      replace dB := dB.ch (Owns.dropCh _ _ 0)
      replace du := du.ch (Owns.dropCh _ _ 0)
      replace dx := dx.ch (Owns.dropCh _ _ 0)
      replace dy := dy.ch (Owns.dropCh _ _ 0)
      replace dz := dz.ch (Owns.dropCh _ _ 0)
      replace dA := dA.ch (Owns.dropCh _ _ 0)
      replace dC := dC.ch (Owns.dropCh _ _ 0)
      replace dD := dD.ch (Owns.dropCh _ _ 0)
      replace dE := dE.ch (Owns.dropCh _ _ 0)
      replace hB := hB.trans (Owns.dropFr _ _ 0)
      replace hO := hO.drop 0
      dsimp only [eS, eZ] at hB hO ah ae ac ai af ag dB du dx dy dz dA dC dD dE
      replace ah := ah.ch (Owns.dropCh _ _ 11)
      replace ae := ae.ch (Owns.dropCh _ _ 11)
      replace ac := ac.ch (Owns.dropCh _ _ 11)
      replace ai := ai.ch (Owns.dropCh _ _ 11)
      replace af := af.ch (Owns.dropCh _ _ 11)
      replace ag := ag.ch (Owns.dropCh _ _ 11)
      replace dB := dB.ch (Owns.dropCh _ _ 11)
      replace du := du.ch (Owns.dropCh _ _ 11)
      replace dx := dx.ch (Owns.dropCh _ _ 11)
      replace dy := dy.ch (Owns.dropCh _ _ 11)
      replace dz := dz.ch (Owns.dropCh _ _ 11)
      replace dA := dA.ch (Owns.dropCh _ _ 11)
      replace dC := dC.ch (Owns.dropCh _ _ 11)
      replace dD := dD.ch (Owns.dropCh _ _ 11)
      replace dE := dE.ch (Owns.dropCh _ _ 11)
      replace hB := hB.trans (Owns.dropFr _ _ 11)
      replace hO := hO.drop 11
      dsimp only [eS, eZ] at hB hO ah ae ac ai af ag dB du dx dy dz dA dC dD dE
      refine Go1.ret2 Try.func53 rfl ?_
      exact Or.inr ⟨(⟨(⟨k4_203, b4_204, d_206, d_212, d_218, d_224, d_230, d_236, k4_205⟩ : Enum), m4_260, d_242, d_248, d_254⟩ : run), false, eW, fC, fD, fE, gv, fv, fd, fe, ik, fw, ff, fh, io, fx, fk, fm, ip, fy, fo, fq, iq, fA, ft, fu, ir, bE, fF, fG, fH, iu, fI, fJ, fK, iv, fL, fM, fN, iw, rfl, hB.same, hO, dB, du, dx, dy, dz, dA, dC, dD, dE, H⟩
     replace H := ifp rfl H
     refine GoQ.pure rfl (op_move rfl) rfl rfl ?_
     refine GoQ.pure rfl (op_nilCheck rfl) rfl rfl ?_
     refine GoQ.pure rfl (op_fieldAddr Try.underlying72 rfl ti29 rfl (by decide)) rfl rfl ?_
     refine GoQ.pure rfl (op_fieldAddr Try.underlying29 rfl ti22 rfl (by decide)) rfl rfl ?_
     refine GoQ.stable rfl (oblk (i := 6) 1 hO rfl rfl Try.underlying22 rfl rfl) rfl rfl ?_
     refine GoQ.pure rfl (op_fieldAddr Try.underlying29 rfl ti22 rfl (by decide)) rfl rfl ?_
     refine GoQ.stable rfl (oblk (i := 6) 0 hO rfl rfl Try.underlying22 rfl rfl) rfl rfl ?_
     have hobt := rowlend 6 hO rfl dz
     obtain ⟨GL, GM⟩ := hobt
     have hOc324 := hO.drop 6
     refine GoQ.call rfl (op_call body69 (show ([.slice fo fy fq, .slice aG e.Right.length aH, .func (.func 70) #[] #[]] : List Value) = [.slice fo d_230.length fq, .slice aG e.Right.length aH, .func (.func 70) #[] #[]] from by rw [← GM]) (walk_slices_EqualFunc_int hOc324.lt GL (af.ch (Owns.dropCh _ _ 6)) H)) (fun v w hr => by obtain ⟨_, _, hs, _⟩ := hr; assumption) rfl rfl ?_
     rintro Nq Nr ⟨r325, rfl, GN, H⟩
     have mo := Stp.same hO GN
     replace dB := dB.ch mo.ch
     replace du := du.ch mo.ch
     replace dx := dx.ch mo.ch
     replace dy := dy.ch mo.ch
     replace dz := dz.ch mo.ch
     replace dA := dA.ch mo.ch
     replace dC := dC.ch mo.ch
     replace dD := dD.ch mo.ch
     replace dE := dE.ch mo.ch
     replace hO := mo.own
     replace ah := ah.ch mo.ch
     replace ae := ae.ch mo.ch
     replace ac := ac.ch mo.ch
     replace ai := ai.ch mo.ch
     replace af := af.ch mo.ch
     replace ag := ag.ch mo.ch
     replace hB := hB.trans mo.fr
     refine GoQ.pure rfl (op_pickT rfl rfl rfl) rfl rfl ?_
     refine GoQ.pure rfl (op_move rfl) rfl rfl ?_
     cases r325
     ·replace H := ifn Bool.false_ne_true H
      refine GoQ.pass rfl rfl rfl ?_
      refine GoQ.pass rfl rfl rfl ?_
      refine GoQ.pass rfl rfl rfl ?_
      refine GoQ.pass rfl rfl rfl ?_
      refine GoQ.pass rfl rfl rfl ?_
      refine GoQ.pass rfl rfl rfl ?_
      refine GoQ.pass rfl rfl rfl ?_
      refine GoQ.pass rfl rfl rfl ?_
      refine GoQ.pure rfl (op_pickF rfl rfl rfl) rfl rfl ?_
      refine GoQ.pure rfl (op_assign rfl) rfl rfl ?_
      refine GoQ.nil ?_
      refine Go1.ret1V Try.func68 rfl (show _ = .bool false from rfl) ?_
      refine hR283 _ _ ?_
      refine GoR.op ((op_assign rfl) _) rfl rfl ?_
      refine GoR.op ((op_assign rfl) _) rfl rfl ?_
      refine GoR.nil ?_
      replace ah := ah.ch (Owns.dropCh _ _ 0)
      replace ae := ae.ch (Owns.dropCh _ _ 0)
      replace ac := ac.ch (Owns.dropCh _ _ 0)
      replace ai := ai.ch (Owns.dropCh _ _ 0)
      replace af := af.ch (Owns.dropCh _ _ 0)
      replace ag := ag.ch (Owns.dropCh _ _ 0)
      replace dB := dB.ch (Owns.dropCh _ _ 0)
      replace du := du.ch (Owns.dropCh _ _ 0)
      replace dx := dx.ch (Owns.dropCh _ _ 0)
      replace dy := dy.ch (Owns.dropCh _ _ 0)
      replace dz := dz.ch (Owns.dropCh _ _ 0)
      replace dA := dA.ch (Owns.dropCh _ _ 0)
      replace dC := dC.ch (Owns.dropCh _ _ 0)
      replace dD := dD.ch (Owns.dropCh _ _ 0)
      replace dE := dE.ch (Owns.dropCh _ _ 0)
      replace hB := hB.trans (Owns.dropFr _ _ 0)
      replace hO := hO.drop 0
      dsimp only [eS, eZ] at hB hO ah ae ac ai af ag dB du dx dy dz dA dC dD dE
      replace ah := ah.ch (Owns.dropCh _ _ 11)
      replace ae := ae.ch (Owns.dropCh _ _ 11)
      replace ac := ac.ch (Owns.dropCh _ _ 11)
      replace ai := ai.ch (Owns.dropCh _ _ 11)
      replace af := af.ch (Owns.dropCh _ _ 11)
      replace ag := ag.ch (Owns.dropCh _ _ 11)
      replace dB := dB.ch (Owns.dropCh _ _ 11)
      replace du := du.ch (Owns.dropCh _ _ 11)
      replace dx := dx.ch (Owns.dropCh _ _ 11)
      replace dy := dy.ch (Owns.dropCh _ _ 11)
      replace dz := dz.ch (Owns.dropCh _ _ 11)
      replace dA := dA.ch (Owns.dropCh _ _ 11)
      replace dC := dC.ch (Owns.dropCh _ _ 11)
      replace dD := dD.ch (Owns.dropCh _ _ 11)
      replace dE := dE.ch (Owns.dropCh _ _ 11)
      replace hB := hB.trans (Owns.dropFr _ _ 11)
      replace hO := hO.drop 11
      dsimp only [eS, eZ] at hB hO ah ae ac ai af ag dB du dx dy dz dA dC dD dE
      refine Go1.ret2 Try.func53 rfl ?_
      exact Or.inr ⟨(⟨(⟨k4_203, b4_204, d_206, d_212, d_218, d_224, d_230, d_236, k4_205⟩ : Enum), m4_260, d_242, d_248, d_254⟩ : run), false, eW, fC, fD, fE, gv, fv, fd, fe, ik, fw, ff, fh, io, fx, fk, fm, ip, fy, fo, fq, iq, fA, ft, fu, ir, bE, fF, fG, fH, iu, fI, fJ, fK, iv, fL, fM, fN, iw, rfl, hB.same, hO, dB, du, dx, dy, dz, dA, dC, dD, dE, H⟩
     replace H := ifp rfl H
     refine GoQ.pure rfl (op_move rfl) rfl rfl ?_
     refine GoQ.pure rfl (op_nilCheck rfl) rfl rfl ?_
     refine GoQ.pure rfl (op_fieldAddr Try.underlying72 rfl ti29 rfl (by decide)) rfl rfl ?_
     refine GoQ.pure rfl (op_fieldAddr Try.underlying29 rfl ti27 rfl (by decide)) rfl rfl ?_
     refine GoQ.stable rfl (oblk (i := 7) 1 hO rfl rfl Try.underlying27 rfl rfl) rfl rfl ?_
     refine GoQ.pure rfl (op_fieldAddr Try.underlying29 rfl ti27 rfl (by decide)) rfl rfl ?_
     refine GoQ.stable rfl (oblk (i := 7) 0 hO rfl rfl Try.underlying27 rfl rfl) rfl rfl ?_
     have hobt := rowlend 7 hO rfl dA
     obtain ⟨GO, GP⟩ := hobt
     have hOc333 := hO.drop 7
     refine GoQ.call rfl (op_call body71 (show ([.slice ft fA fu, .slice aI e.Rules.length aJ] : List Value) = [.slice ft d_236.length fu, .slice aI e.Rules.length aJ] from by rw [← GP]) (walk_slices_Equal_api_Rule hOc333.lt GO (ag.ch (Owns.dropCh _ _ 7)) H)) (fun v w hr => by obtain ⟨_, _, hs, _⟩ := hr; assumption) rfl rfl ?_
     rintro Ns Nt ⟨r334, rfl, GQ, H⟩
     have mp := Stp.same hO GQ
     replace dB := dB.ch mp.ch
     replace du := du.ch mp.ch
     replace dx := dx.ch mp.ch
     replace dy := dy.ch mp.ch
     replace dz := dz.ch mp.ch
     replace dA := dA.ch mp.ch
     replace dC := dC.ch mp.ch
     replace dD := dD.ch mp.ch
     replace dE := dE.ch mp.ch
     replace hO := mp.own
     replace ah := ah.ch mp.ch
     replace ae := ae.ch mp.ch
     replace ac := ac.ch mp.ch
     replace ai := ai.ch mp.ch
     replace af := af.ch mp.ch
     replace ag := ag.ch mp.ch
     replace hB := hB.trans mp.fr
     refine GoQ.pure rfl (op_pickT rfl rfl rfl) rfl rfl ?_
     refine GoQ.pure rfl (op_assign rfl) rfl rfl ?_
     refine GoQ.nil ?_
     refine Go1.ret1V Try.func68 rfl (show _ = .bool r334 from rfl) ?_
     refine hR283 _ _ ?_
     refine GoR.op ((op_assign rfl) _) rfl rfl ?_
     refine GoR.op ((op_assign rfl) _) rfl rfl ?_
     refine GoR.nil ?_
     replace ah := ah.ch (Owns.dropCh _ _ 0)
     replace ae := ae.ch (Owns.dropCh _ _ 0)
     replace ac := ac.ch (Owns.dropCh _ _ 0)
     replace ai := ai.ch (Owns.dropCh _ _ 0)
     replace af := af.ch (Owns.dropCh _ _ 0)
     replace ag := ag.ch (Owns.dropCh _ _ 0)
     replace dB := dB.ch (Owns.dropCh _ _ 0)
     replace du := du.ch (Owns.dropCh _ _ 0)
     replace dx := dx.ch (Owns.dropCh _ _ 0)
     replace dy := dy.ch (Owns.dropCh _ _ 0)
     replace dz := dz.ch (Owns.dropCh _ _ 0)
     replace dA := dA.ch (Owns.dropCh _ _ 0)
     replace dC := dC.ch (Owns.dropCh _ _ 0)
     replace dD := dD.ch (Owns.dropCh _ _ 0)
     replace dE := dE.ch (Owns.dropCh _ _ 0)
     replace hB := hB.trans (Owns.dropFr _ _ 0)
     replace hO := hO.drop 0
     dsimp only [eS, eZ] at hB hO ah ae ac ai af ag dB du dx dy dz dA dC dD dE
     replace ah := ah.ch (Owns.dropCh _ _ 11)
     replace ae := ae.ch (Owns.dropCh _ _ 11)
     replace ac := ac.ch (Owns.dropCh _ _ 11)
     replace ai := ai.ch (Owns.dropCh _ _ 11)
     replace af := af.ch (Owns.dropCh _ _ 11)
     replace ag := ag.ch (Owns.dropCh _ _ 11)
     replace dB := dB.ch (Owns.dropCh _ _ 11)
     replace du := du.ch (Owns.dropCh _ _ 11)
     replace dx := dx.ch (Owns.dropCh _ _ 11)
     replace dy := dy.ch (Owns.dropCh _ _ 11)
     replace dz := dz.ch (Owns.dropCh _ _ 11)
     replace dA := dA.ch (Owns.dropCh _ _ 11)
     replace dC := dC.ch (Owns.dropCh _ _ 11)
     replace dD := dD.ch (Owns.dropCh _ _ 11)
     replace dE := dE.ch (Owns.dropCh _ _ 11)
     replace hB := hB.trans (Owns.dropFr _ _ 11)
     replace hO := hO.drop 11
     dsimp only [eS, eZ] at hB hO ah ae ac ai af ag dB du dx dy dz dA dC dD dE
     refine Go1.ret2 Try.func53 rfl ?_
     exact Or.inr ⟨(⟨(⟨k4_203, b4_204, d_206, d_212, d_218, d_224, d_230, d_236, k4_205⟩ : Enum), m4_260, d_242, d_248, d_254⟩ : run), r334, eW, fC, fD, fE, gv, fv, fd, fe, ik, fw, ff, fh, io, fx, fk, fm, ip, fy, fo, fq, iq, fA, ft, fu, ir, bE, fF, fG, fH, iu, fI, fJ, fK, iv, fL, fM, fN, iw, rfl, hB.same, hO, dB, du, dx, dy, dz, dA, dC, dD, dE, H⟩
    replace H := ifn zy H
    refine GoQ.pure rfl (fun w => opB (op_eql rfl rfl w) (decide_eq_false zy)) rfl rfl ?_
    refine GoQ.pure rfl (op_pickT rfl rfl rfl) rfl rfl ?_
    refine GoQ.pure rfl (op_move rfl) rfl rfl ?_
    refine GoQ.pass rfl rfl rfl ?_
    refine GoQ.pass rfl rfl rfl ?_
    refine GoQ.pass rfl rfl rfl ?_
    refine GoQ.pass rfl rfl rfl ?_
    refine GoQ.pass rfl rfl rfl ?_
    refine GoQ.pass rfl rfl rfl ?_
    refine GoQ.pass rfl rfl rfl ?_
    refine GoQ.pass rfl rfl rfl ?_
    refine GoQ.pure rfl (op_pickF rfl rfl rfl) rfl rfl ?_
    refine GoQ.pure rfl (op_move rfl) rfl rfl ?_
    refine GoQ.pass rfl rfl rfl ?_
    refine GoQ.pass rfl rfl rfl ?_
    refine GoQ.pass rfl rfl rfl ?_
    refine GoQ.pass rfl rfl rfl ?_
    refine GoQ.pass rfl rfl rfl ?_
    refine GoQ.pass rfl rfl rfl ?_
    refine GoQ.pass rfl rfl rfl ?_
    refine GoQ.pass rfl rfl rfl ?_
    refine GoQ.pure rfl (op_pickF rfl rfl rfl) rfl rfl ?_
    refine GoQ.pure rfl (op_move rfl) rfl rfl ?_
    refine GoQ.pass rfl rfl rfl ?_
    refine GoQ.pass rfl rfl rfl ?_
    refine GoQ.pass rfl rfl rfl ?_
    refine GoQ.pass rfl rfl rfl ?_
    refine GoQ.pass rfl rfl rfl ?_
    refine GoQ.pass rfl rfl rfl ?_
    refine GoQ.pass rfl rfl rfl ?_
    refine GoQ.pass rfl rfl rfl ?_
    refine GoQ.pure rfl (op_pickF rfl rfl rfl) rfl rfl ?_
    refine GoQ.pure rfl (op_move rfl) rfl rfl ?_
    refine GoQ.pass rfl rfl rfl ?_
    refine GoQ.pass rfl rfl rfl ?_
    refine GoQ.pass rfl rfl rfl ?_
    refine GoQ.pass rfl rfl rfl ?_
    refine GoQ.pass rfl rfl rfl ?_
    refine GoQ.pass rfl rfl rfl ?_
    refine GoQ.pass rfl rfl rfl ?_
    refine GoQ.pass rfl rfl rfl ?_
    refine GoQ.pure rfl (op_pickF rfl rfl rfl) rfl rfl ?_
    refine GoQ.pure rfl (op_move rfl) rfl rfl ?_
    refine GoQ.pass rfl rfl rfl ?_
    refine GoQ.pass rfl rfl rfl ?_
    refine GoQ.pass rfl rfl rfl ?_
    refine GoQ.pass rfl rfl rfl ?_
    refine GoQ.pass rfl rfl rfl ?_
    refine GoQ.pass rfl rfl rfl ?_
    refine GoQ.pass rfl rfl rfl ?_
    refine GoQ.pass rfl rfl rfl ?_
    refine GoQ.pure rfl (op_pickF rfl rfl rfl) rfl rfl ?_
    refine GoQ.pure rfl (op_assign rfl) rfl rfl ?_
    refine GoQ.nil ?_
    refine Go1.ret1V Try.func68 rfl (show _ = .bool false from rfl) ?_
    refine hR283 _ _ ?_
    refine GoR.op ((op_assign rfl) _) rfl rfl ?_
    refine GoR.op ((op_assign rfl) _) rfl rfl ?_
    refine GoR.nil ?_
    replace ah := ah.ch (Owns.dropCh _ _ 0)
    replace ae := ae.ch (Owns.dropCh _ _ 0)
    replace ac := ac.ch (Owns.dropCh _ _ 0)
    replace ai := ai.ch (Owns.dropCh _ _ 0)
    replace af := af.ch (Owns.dropCh _ _ 0)
    replace ag := ag.ch (Owns.dropCh _ _ 0)
    replace dB := dB.ch (Owns.dropCh _ _ 0)
    replace du := du.ch (Owns.dropCh _ _ 0)
    replace dx := dx.ch (Owns.dropCh _ _ 0)
    replace dy := dy.ch (Owns.dropCh _ _ 0)
    replace dz := dz.ch (Owns.dropCh _ _ 0)
    replace dA := dA.ch (Owns.dropCh _ _ 0)
    replace dC := dC.ch (Owns.dropCh _ _ 0)
    replace dD := dD.ch (Owns.dropCh _ _ 0)
    replace dE := dE.ch (Owns.dropCh _ _ 0)
    replace hB := hB.trans (Owns.dropFr _ _ 0)
    replace hO := hO.drop 0
    dsimp only [eS, eZ] at hB hO ah ae ac ai af ag dB du dx dy dz dA dC dD dE
    replace ah := ah.ch (Owns.dropCh _ _ 11)
    replace ae := ae.ch (Owns.dropCh _ _ 11)
    replace ac := ac.ch (Owns.dropCh _ _ 11)
    replace ai := ai.ch (Owns.dropCh _ _ 11)
    replace af := af.ch (Owns.dropCh _ _ 11)
    replace ag := ag.ch (Owns.dropCh _ _ 11)
    replace dB := dB.ch (Owns.dropCh _ _ 11)
    replace du := du.ch (Owns.dropCh _ _ 11)
    replace dx := dx.ch (Owns.dropCh _ _ 11)
    replace dy := dy.ch (Owns.dropCh _ _ 11)
    replace dz := dz.ch (Owns.dropCh _ _ 11)
    replace dA := dA.ch (Owns.dropCh _ _ 11)
    replace dC := dC.ch (Owns.dropCh _ _ 11)
    replace dD := dD.ch (Owns.dropCh _ _ 11)
    replace dE := dE.ch (Owns.dropCh _ _ 11)
    replace hB := hB.trans (Owns.dropFr _ _ 11)
    replace hO := hO.drop 11
    dsimp only [eS, eZ] at hB hO ah ae ac ai af ag dB du dx dy dz dA dC dD dE
    refine Go1.ret2 Try.func53 rfl ?_
    exact Or.inr ⟨(⟨(⟨k4_203, b4_204, d_206, d_212, d_218, d_224, d_230, d_236, k4_205⟩ : Enum), m4_260, d_242, d_248, d_254⟩ : run), false, eW, fC, fD, fE, gv, fv, fd, fe, ik, fw, ff, fh, io, fx, fk, fm, ip, fy, fo, fq, iq, fA, ft, fu, ir, bE, fF, fG, fH, iu, fI, fJ, fK, iv, fL, fM, fN, iw, rfl, hB.same, hO, dB, du, dx, dy, dz, dA, dC, dD, dE, H⟩
   replace H := ifn zx H
   refine GoQ.pure rfl (fun w => opB (op_eql rfl rfl w) (decide_eq_false zx)) rfl rfl ?_
   refine GoQ.pure rfl (op_move rfl) rfl rfl ?_
   refine GoQ.pass rfl rfl rfl ?_
   refine GoQ.pass rfl rfl rfl ?_
   refine GoQ.pass rfl rfl rfl ?_
   refine GoQ.pass rfl rfl rfl ?_
   refine GoQ.pass rfl rfl rfl ?_
   refine GoQ.pass rfl rfl rfl ?_
   refine GoQ.pass rfl rfl rfl ?_
   refine GoQ.pass rfl rfl rfl ?_
   refine GoQ.pure rfl (op_pickF rfl rfl rfl) rfl rfl ?_
   refine GoQ.pure rfl (op_move rfl) rfl rfl ?_
   refine GoQ.pass rfl rfl rfl ?_
   refine GoQ.pass rfl rfl rfl ?_
   refine GoQ.pass rfl rfl rfl ?_
   refine GoQ.pass rfl rfl rfl ?_
   refine GoQ.pass rfl rfl rfl ?_
   refine GoQ.pass rfl rfl rfl ?_
   refine GoQ.pass rfl rfl rfl ?_
   refine GoQ.pass rfl rfl rfl ?_
   refine GoQ.pure rfl (op_pickF rfl rfl rfl) rfl rfl ?_
   refine GoQ.pure rfl (op_move rfl) rfl rfl ?_
   refine GoQ.pass rfl rfl rfl ?_
   refine GoQ.pass rfl rfl rfl ?_
   refine GoQ.pass rfl rfl rfl ?_
   refine GoQ.pass rfl rfl rfl ?_
   refine GoQ.pass rfl rfl rfl ?_
   refine GoQ.pass rfl rfl rfl ?_
   refine GoQ.pass rfl rfl rfl ?_
   refine GoQ.pass rfl rfl rfl ?_
   refine GoQ.pure rfl (op_pickF rfl rfl rfl) rfl rfl ?_
   refine GoQ.pure rfl (op_move rfl) rfl rfl ?_
   refine GoQ.pass rfl rfl rfl ?_
   refine GoQ.pass rfl rfl rfl ?_
   refine GoQ.pass rfl rfl rfl ?_
   refine GoQ.pass rfl rfl rfl ?_
   refine GoQ.pass rfl rfl rfl ?_
   refine GoQ.pass rfl rfl rfl ?_
   refine GoQ.pass rfl rfl rfl ?_
   refine GoQ.pass rfl rfl rfl ?_
   refine GoQ.pure rfl (op_pickF rfl rfl rfl) rfl rfl ?_
   refine GoQ.pure rfl (op_move rfl) rfl rfl ?_
   refine GoQ.pass rfl rfl rfl ?_
   refine GoQ.pass rfl rfl rfl ?_
   refine GoQ.pass rfl rfl rfl ?_
   refine GoQ.pass rfl rfl rfl ?_
   refine GoQ.pass rfl rfl rfl ?_
   refine GoQ.pass rfl rfl rfl ?_
   refine GoQ.pass rfl rfl rfl ?_
   refine GoQ.pass rfl rfl rfl ?_
   refine GoQ.pure rfl (op_pickF rfl rfl rfl) rfl rfl ?_
   refine GoQ.pure rfl (op_move rfl) rfl rfl ?_
   refine GoQ.pass rfl rfl rfl ?_
   refine GoQ.pass rfl rfl rfl ?_
   refine GoQ.pass rfl rfl rfl ?_
   refine GoQ.pass rfl rfl rfl ?_
   refine GoQ.pass rfl rfl rfl ?_
   refine GoQ.pass rfl rfl rfl ?_
   refine GoQ.pass rfl rfl rfl ?_
   refine GoQ.pass rfl rfl rfl ?_
   refine GoQ.pure rfl (op_pickF rfl rfl rfl) rfl rfl ?_
   refine GoQ.pure rfl (op_assign rfl) rfl rfl ?_
   refine GoQ.nil ?_
   refine Go1.ret1V Try.func68 rfl (show _ = .bool false from rfl) ?_
   refine hR283 _ _ ?_
   refine GoR.op ((op_assign rfl) _) rfl rfl ?_
   refine GoR.op ((op_assign rfl) _) rfl rfl ?_
   refine GoR.nil ?_
   replace ah := ah.ch (Owns.dropCh _ _ 0)
   replace ae := ae.ch (Owns.dropCh _ _ 0)
   replace ac := ac.ch (Owns.dropCh _ _ 0)
   replace ai := ai.ch (Owns.dropCh _ _ 0)
   replace af := af.ch (Owns.dropCh _ _ 0)
   replace ag := ag.ch (Owns.dropCh _ _ 0)
   replace dB := dB.ch (Owns.dropCh _ _ 0)
   replace du := du.ch (Owns.dropCh _ _ 0)
   replace dx := dx.ch (Owns.dropCh _ _ 0)
   replace dy := dy.ch (Owns.dropCh _ _ 0)
   replace dz := dz.ch (Owns.dropCh _ _ 0)
   replace dA := dA.ch (Owns.dropCh _ _ 0)
   replace dC := dC.ch (Owns.dropCh _ _ 0)
   replace dD := dD.ch (Owns.dropCh _ _ 0)
   replace dE := dE.ch (Owns.dropCh _ _ 0)
   replace hB := hB.trans (Owns.dropFr _ _ 0)
   replace hO := hO.drop 0
   dsimp only [eS, eZ] at hB hO ah ae ac ai af ag dB du dx dy dz dA dC dD dE
   replace ah := ah.ch (Owns.dropCh _ _ 11)
   replace ae := ae.ch (Owns.dropCh _ _ 11)
   replace ac := ac.ch (Owns.dropCh _ _ 11)
   replace ai := ai.ch (Owns.dropCh _ _ 11)
   replace af := af.ch (Owns.dropCh _ _ 11)
   replace ag := ag.ch (Owns.dropCh _ _ 11)
   replace dB := dB.ch (Owns.dropCh _ _ 11)
   replace du := du.ch (Owns.dropCh _ _ 11)
   replace dx := dx.ch (Owns.dropCh _ _ 11)
   replace dy := dy.ch (Owns.dropCh _ _ 11)
   replace dz := dz.ch (Owns.dropCh _ _ 11)
   replace dA := dA.ch (Owns.dropCh _ _ 11)
   replace dC := dC.ch (Owns.dropCh _ _ 11)
   replace dD := dD.ch (Owns.dropCh _ _ 11)
   replace dE := dE.ch (Owns.dropCh _ _ 11)
   replace hB := hB.trans (Owns.dropFr _ _ 11)
   replace hO := hO.drop 11
   dsimp only [eS, eZ] at hB hO ah ae ac ai af ag dB du dx dy dz dA dC dD dE
   refine Go1.ret2 Try.func53 rfl ?_
   exact Or.inr ⟨(⟨(⟨k4_203, b4_204, d_206, d_212, d_218, d_224, d_230, d_236, k4_205⟩ : Enum), m4_260, d_242, d_248, d_254⟩ : run), false, eW, fC, fD, fE, gv, fv, fd, fe, ik, fw, ff, fh, io, fx, fk, fm, ip, fy, fo, fq, iq, fA, ft, fu, ir, bE, fF, fG, fH, iu, fI, fJ, fK, iv, fL, fM, fN, iw, rfl, hB.same, hO, dB, du, dx, dy, dz, dA, dC, dD, dE, H⟩
  replace H := ifn zq H
  refine GoR.op ((fun w => opB (op_neq rfl rfl w) (ndF zq)) _) rfl rfl ?_
  refine GoR.nil ?_
  refine Go1.condT rfl rfl ?_
  refine Go1.seq ?_
  refine Go1.cut [] trivial ?_
  intro σ _
  refine Go1.region ?_
  refine GoR.op ((op_assign rfl) _) rfl rfl ?_
  refine GoR.op ((op_assign rfl) _) rfl rfl ?_
  refine GoR.nil ?_
  refine Go1.ret2 Try.func53 rfl ?_
  exact Or.inl ⟨false, rfl, hB.same, H⟩
theorem body29 : Body Try.prog 29 := ⟨Try.f29, Try.func29, rfl, by kernel_rfl⟩
theorem walk_enumerate_Word {A : List Nat} {w0 : World} {bi : Option Addr} {bj : Nat} {aE : Option Addr} {aF : Nat} {ak : Option Addr} {al : Nat} {aX : Option Addr} {aY : Nat} {aG : Option Addr} {aH : Nat} {aI : Option Addr} {aJ : Nat} {e : Enum} {i : Int} (hA : ∀ b ∈ A, b < w0.heap.size) (ah : ISl (Rp.sl (Rp.int .i64)) A w0 bi bj e.Gens) (ae : ISl (Rp.sl (Rp.int .i64)) A w0 aE aF e.Elems) (ac : ISl (Rp.int .i64) A w0 ak al e.Prefix) (ai : ISl (Rp.int .i64) A w0 aX aY e.Last) (af : ISl (Rp.sl (Rp.int .i64)) A w0 aG aH e.Right) (ag : ISl (rpRule) A w0 aI aJ e.Rules) {K : Str → Prop} (H : enumerate_Word e i K) :
    CallsV Try.prog 29 #[.agg #[.int .i64 e.Points, .bool e.Monoid, .slice bi e.Gens.length bj, .slice aE e.Elems.length aF, .slice ak e.Prefix.length al, .slice aX e.Last.length aY, .slice aG e.Right.length aH, .slice aI e.Rules.length aJ, .int .i64 e.Done], .int .i64 i] w0 (fun v w' => ∃ (r0 : Str), v = .string (gstr r0) ∧ Same w0 w' ∧ r0.length ≤ mx ∧ K r0) := by
 refine CallsV.of (l := [.agg #[.int .i64 e.Points, .bool e.Monoid, .slice bi e.Gens.length bj, .slice aE e.Elems.length aF, .slice ak e.Prefix.length al, .slice aX e.Last.length aY, .slice aG e.Right.length aH, .slice aI e.Rules.length aJ, .int .i64 e.Done], .int .i64 i]) Try.func29 rfl Try.ntmps29 rfl ?_
 have hO := Owns.start hA
 have hB := Fr.refl (bl []) w0
 unfold enumerate_Word at H
 replace ah := ah.ch (Ch.start A w0)
 replace ae := ae.ch (Ch.start A w0)
 replace ac := ac.ch (Ch.start A w0)
 replace ai := ai.ch (Ch.start A w0)
 replace af := af.ch (Ch.start A w0)
 replace ag := ag.ch (Ch.start A w0)
 refine Go1.seq ?_
 refine Go1.region ?_
 have hobt := obox (t := 29) (v := .agg #[.int .i64 e.Points, .bool e.Monoid, .slice bi e.Gens.length bj, .slice aE e.Elems.length aF, .slice ak e.Prefix.length al, .slice aX e.Last.length aY, .slice aG e.Right.length aH, .slice aI e.Rules.length aJ, .int .i64 e.Done]) (cs := #[.int .i64 e.Points, .bool e.Monoid, .slice bi e.Gens.length bj, .slice aE e.Elems.length aF, .slice ak e.Prefix.length al, .slice aX e.Last.length aY, .slice aG e.Right.length aH, .slice aI e.Rules.length aJ, .int .i64 e.Done]) hO rfl
 obtain ⟨w1, B2, gs, hs4, uF⟩ := hobt
 refine GoR.op (uF rfl) rfl rfl ?_
 replace hO := gs.own
 replace ah := ah.ch gs.ch
 replace ae := ae.ch gs.ch
 replace ac := ac.ch gs.ch
 replace ai := ai.ch gs.ch
 replace af := af.ch gs.ch
 replace ag := ag.ch gs.ch
 replace hB := hB.trans gs.fr
 refine GoR.op ((op_assign rfl) _) rfl rfl ?_
 refine GoR.nil ?_
 refine Go1.seq ?_
 refine Go1.region ?_
 refine GoR.op ((oblkAgg (vs := [.int .i64 e.Points, .bool e.Monoid, .slice bi e.Gens.length bj, .slice aE e.Elems.length aF, .slice ak e.Prefix.length al, .slice aX e.Last.length aY, .slice aG e.Right.length aH, .slice aI e.Rules.length aJ, .int .i64 e.Done]) (i := 0) 0 hO rfl rfl Try.underlying29 rfl ti29 rfl) _ (Same.refl _)) rfl rfl ?_
 refine GoR.call (op_call body53 rfl (walk_enumerate_replay (e := e) hO.lt ah ae ac ai af ag H)) rfl rfl ?_
 intro v9 w10 hcase13
 refine Or.elim hcase13 ?_ ?_
 ·refine exE fun r8 => andE fun hv14 => andE fun tH => fun H => ?_
  subst hv14
  clear hcase13
  replace H := oElimN H
  have kY := Stp.same hO tH
  replace hO := kY.own
  replace ah := ah.ch kY.ch
  replace ae := ae.ch kY.ch
  replace ac := ac.ch kY.ch
  replace ai := ai.ch kY.ch
  replace af := af.ch kY.ch
  replace ag := ag.ch kY.ch
  replace hB := hB.trans kY.fr
  refine GoR.op ((op_move rfl) _) rfl rfl ?_
  refine GoR.op ((op_extract rfl rfl) _) rfl rfl ?_
  refine GoR.op ((op_extract rfl rfl) _) rfl rfl ?_
  refine GoR.op ((op_assign rfl) _) rfl rfl ?_
  refine GoR.op ((op_assign rfl) _) rfl rfl ?_
  refine GoR.nil ?_
  refine Go1.seq ?_
  refine Go1.seq ?_
  refine Go1.region ?_
  refine GoR.op ((op_move rfl) _) rfl rfl ?_
  cases r8
  ·replace H := ifn Bool.false_ne_true H
   refine GoR.op ((op_not rfl) _) rfl rfl ?_
   refine GoR.op ((op_move rfl) _) rfl rfl ?_
   refine GoR.pass rfl rfl ?_
   refine GoR.pass rfl rfl ?_
   refine GoR.op ((op_pickT rfl rfl rfl) _) rfl rfl ?_
   refine GoR.op ((op_move rfl) _) rfl rfl ?_
   refine GoR.pass rfl rfl ?_
   refine GoR.pass rfl rfl ?_
   refine GoR.pass rfl rfl ?_
   refine GoR.pass rfl rfl ?_
   refine GoR.pass rfl rfl ?_
   refine GoR.pass rfl rfl ?_
   refine GoR.pass rfl rfl ?_
   refine GoR.pass rfl rfl ?_
   refine GoR.op ((op_pickT rfl rfl rfl) _) rfl rfl ?_
   refine GoR.nil ?_
   refine Go1.condT rfl rfl ?_
   refine Go1.seq ?_
   refine Go1.cut [] trivial ?_
   intro σ _
   refine Go1.region ?_
   refine GoR.op ((op_assign rfl) _) rfl rfl ?_
   refine GoR.nil ?_
   refine Go1.ret1 Try.func29 rfl ?_
   exact ⟨([] : Str), rfl, hB.same, (by decide), H⟩
  replace H := ifp rfl H
  refine GoR.op ((op_not rfl) _) rfl rfl ?_
  refine GoR.op ((op_move rfl) _) rfl rfl ?_
  refine GoR.op ((op_move rfl) _) rfl rfl ?_
  by_cases h16 : i < (0 : Int)
  ·replace H := ifp h16 H
   refine GoR.op ((fun w => opB (op_lss rfl rfl w) (decide_eq_true h16)) _) rfl rfl ?_
   refine GoR.op ((op_pickF rfl rfl rfl) _) rfl rfl ?_
   refine GoR.op ((op_move rfl) _) rfl rfl ?_
   refine GoR.pass rfl rfl ?_
   refine GoR.pass rfl rfl ?_
   refine GoR.pass rfl rfl ?_
   refine GoR.pass rfl rfl ?_
   refine GoR.pass rfl rfl ?_
   refine GoR.pass rfl rfl ?_
   refine GoR.pass rfl rfl ?_
   refine GoR.pass rfl rfl ?_
   refine GoR.op ((op_pickT rfl rfl rfl) _) rfl rfl ?_
   refine GoR.nil ?_
   refine Go1.condT rfl rfl ?_
   refine Go1.seq ?_
   refine Go1.region ?_
   refine GoR.op ((op_assign rfl) _) rfl rfl ?_
   refine GoR.nil ?_
   refine Go1.ret1 Try.func29 rfl ?_
   exact ⟨([] : Str), rfl, hB.same, (by decide), H⟩
  replace H := ifn h16 H
  refine GoR.op ((fun w => opB (op_lss rfl rfl w) (decide_eq_false h16)) _) rfl rfl ?_
  refine GoR.op ((op_pickF rfl rfl rfl) _) rfl rfl ?_
  refine GoR.op ((op_move rfl) _) rfl rfl ?_
  refine GoR.op ((op_move rfl) _) rfl rfl ?_
  refine GoR.op ((op_move rfl) _) rfl rfl ?_
  exact H.elim
 ·refine exE fun r7 => exE fun r8 => exE fun ly => exE fun sQ => exE fun sR => exE fun sT => exE fun si => exE fun sj => exE fun sk => exE fun sm => exE fun rT => exE fun rU => exE fun rV => exE fun rW => exE fun ri => exE fun sU => exE fun sV => exE fun sW => exE fun sn => exE fun sq => exE fun sr => exE fun ss => exE fun rX => exE fun su => exE fun sv => exE fun sw => exE fun rY => exE fun cJ => exE fun uG => exE fun uH => exE fun uI => exE fun uj => exE fun uk => exE fun ul => exE fun um => exE fun t0 => exE fun un => exE fun uo => exE fun uq => exE fun t3 => andE fun hv17 => andE fun tH => andE fun hN12 => andE fun dK => andE fun dw => andE fun dt => andE fun dM => andE fun dF => andE fun dG => andE fun d6 => andE fun eH => andE fun eI => fun H => ?_
  subst hv17
  clear hcase13
  replace H := oElimS H
  have qX := Stp.more hO tH hN12
  dsimp only [List.cons_append, List.nil_append] at qX
  replace hO := qX.own
  replace ah := ah.ch qX.ch
  replace ae := ae.ch qX.ch
  replace ac := ac.ch qX.ch
  replace ai := ai.ch qX.ch
  replace af := af.ch qX.ch
  replace ag := ag.ch qX.ch
  replace hB := hB.trans qX.fr
  replace dK := dK.ch (Ch.assoc _ _ _ _)
  dsimp only [List.cons_append, List.nil_append] at dK
  replace dw := dw.ch (Ch.assoc _ _ _ _)
  dsimp only [List.cons_append, List.nil_append] at dw
  replace dt := dt.ch (Ch.assoc _ _ _ _)
  dsimp only [List.cons_append, List.nil_append] at dt
  replace dM := dM.ch (Ch.assoc _ _ _ _)
  dsimp only [List.cons_append, List.nil_append] at dM
  replace dF := dF.ch (Ch.assoc _ _ _ _)
  dsimp only [List.cons_append, List.nil_append] at dF
  replace dG := dG.ch (Ch.assoc _ _ _ _)
  dsimp only [List.cons_append, List.nil_append] at dG
  replace d6 := d6.ch (Ch.assoc _ _ _ _)
  dsimp only [List.cons_append, List.nil_append] at d6
  replace eH := eH.ch (Ch.assoc _ _ _ _)
  dsimp only [List.cons_append, List.nil_append] at eH
  replace eI := eI.ch (Ch.assoc _ _ _ _)
  dsimp only [List.cons_append, List.nil_append] at eI
  refine GoR.op ((op_move rfl) _) rfl rfl ?_
  refine GoR.op ((op_extract rfl rfl) _) rfl rfl ?_
  refine GoR.op ((op_extract rfl rfl) _) rfl rfl ?_
  refine GoR.op ((op_assign rfl) _) rfl rfl ?_
  refine GoR.op ((op_assign rfl) _) rfl rfl ?_
  refine GoR.nil ?_
  refine Go1.seq ?_
  refine Go1.seq ?_
  refine Go1.cut [(1, .int .i64 i), (5, .pointer (some ⟨ly, 0, none⟩)), (6, .bool r8)] ⟨rfl, rfl, rfl, trivial⟩ ?_
  intro σ _
  refine Go1.region ?_
  refine GoR.op ((op_move rfl) _) rfl rfl ?_
  cases r8
  ·replace H := ifn Bool.false_ne_true H
   refine GoR.op ((op_not rfl) _) rfl rfl ?_
   refine GoR.op ((op_move rfl) _) rfl rfl ?_
   refine GoR.pass rfl rfl ?_
   refine GoR.pass rfl rfl ?_
   refine GoR.op ((op_pickT rfl rfl rfl) _) rfl rfl ?_
   refine GoR.op ((op_move rfl) _) rfl rfl ?_
   refine GoR.pass rfl rfl ?_
   refine GoR.pass rfl rfl ?_
   refine GoR.pass rfl rfl ?_
   refine GoR.pass rfl rfl ?_
   refine GoR.pass rfl rfl ?_
   refine GoR.pass rfl rfl ?_
   refine GoR.pass rfl rfl ?_
   refine GoR.pass rfl rfl ?_
   refine GoR.op ((op_pickT rfl rfl rfl) _) rfl rfl ?_
   refine GoR.nil ?_
   refine Go1.condT rfl rfl ?_
   refine Go1.seq ?_
   refine Go1.region ?_
   refine GoR.op ((op_assign rfl) _) rfl rfl ?_
   refine GoR.nil ?_
   refine Go1.ret1 Try.func29 rfl ?_
   exact ⟨([] : Str), rfl, hB.same, (by decide), H⟩
  replace H := ifp rfl H
  refine GoR.op ((op_not rfl) _) rfl rfl ?_
  refine GoR.op ((op_move rfl) _) rfl rfl ?_
  refine GoR.op ((op_move rfl) _) rfl rfl ?_
  by_cases h30 : i < (0 : Int)
  ·replace H := ifp h30 H
   refine GoR.op ((fun w => opB (op_lss rfl rfl w) (decide_eq_true h30)) _) rfl rfl ?_
   refine GoR.op ((op_pickF rfl rfl rfl) _) rfl rfl ?_
   refine GoR.op ((op_move rfl) _) rfl rfl ?_
   refine GoR.pass rfl rfl ?_
   refine GoR.pass rfl rfl ?_
   refine GoR.pass rfl rfl ?_
   refine GoR.pass rfl rfl ?_
   refine GoR.pass rfl rfl ?_
   refine GoR.pass rfl rfl ?_
   refine GoR.pass rfl rfl ?_
   refine GoR.pass rfl rfl ?_
   refine GoR.op ((op_pickT rfl rfl rfl) _) rfl rfl ?_
   refine GoR.nil ?_
   refine Go1.condT rfl rfl ?_
   refine Go1.seq ?_
   refine Go1.cut [] trivial ?_
   intro σ _
   refine Go1.region ?_
   refine GoR.op ((op_assign rfl) _) rfl rfl ?_
   refine GoR.nil ?_
   refine Go1.ret1 Try.func29 rfl ?_
   exact ⟨([] : Str), rfl, hB.same, (by decide), H⟩
  replace H := ifn h30 H
  refine GoR.op ((fun w => opB (op_lss rfl rfl w) (decide_eq_false h30)) _) rfl rfl ?_
  refine GoR.op ((op_pickF rfl rfl rfl) _) rfl rfl ?_
  refine GoR.op ((op_move rfl) _) rfl rfl ?_
  refine GoR.op ((op_move rfl) _) rfl rfl ?_
  refine GoR.op ((op_move rfl) _) rfl rfl ?_
  refine GoR.op ((op_nilCheck rfl) _) rfl rfl ?_
  refine GoR.op ((op_fieldAddr Try.underlying72 rfl ti29 rfl (by decide)) _) rfl rfl ?_
  refine GoR.op ((op_fieldAddr Try.underlying29 rfl ti22 rfl (by decide)) _) rfl rfl ?_
  refine GoR.op ((oblk (i := 3) 0 hO rfl rfl Try.underlying22 rfl rfl) _ (Same.refl _)) rfl rfl ?_
  refine GoR.op ((op_lenN Try.underlying22 rfl (dw.neq hO 2 rfl)) _) rfl rfl ?_
  by_cases h31 : (r7.Enum.Elems.length : Int) ≤ i
  ·replace H := ifp h31 H
   refine GoR.op ((fun w => opB (op_geq rfl rfl w) (decide_eq_true h31)) _) rfl rfl ?_
   refine GoR.op ((op_pickF rfl rfl rfl) _) rfl rfl ?_
   refine GoR.nil ?_
   refine Go1.condT rfl rfl ?_
   refine Go1.seq ?_
   refine Go1.region ?_
   refine GoR.op ((op_assign rfl) _) rfl rfl ?_
   refine GoR.nil ?_
   refine Go1.ret1 Try.func29 rfl ?_
   exact ⟨([] : Str), rfl, hB.same, (by decide), H⟩
  replace H := ifn h31 H
  refine GoR.op ((fun w => opB (op_geq rfl rfl w) (decide_eq_false h31)) _) rfl rfl ?_
  refine GoR.op ((op_pickF rfl rfl rfl) _) rfl rfl ?_
  refine GoR.nil ?_
  refine Go1.condF rfl rfl ?_
  refine Go1.skip ?_
  refine Go1.seq ?_
  refine Go1.region ?_
  refine GoR.op ((op_move rfl) _) rfl rfl ?_
  refine GoR.op ((op_nilCheck rfl) _) rfl rfl ?_
  refine GoR.op ((op_fieldAddr Try.underlying72 rfl ti70 rfl (by decide)) _) rfl rfl ?_
  refine GoR.op ((oblk (i := 10) 0 hO rfl rfl Try.underlying70 rfl rfl) _ (Same.refl _)) rfl rfl ?_
  refine GoR.op ((op_move rfl) _) rfl rfl ?_
  obtain ⟨h32, H⟩ := H
  obtain ⟨h33, H⟩ := H
  refine GoR.op ((op_index Try.underlying70 ti9 rfl rfl h32 (ltn (d6.neq hO 7 rfl) h33) (d6.psome hO 7 rfl h32 h33)) _) rfl rfl ?_
  refine GoR.op ((oldStr 7 hO rfl d6 h32 h33 Try.underlying9 rfl rfl) _ (Same.refl _)) rfl rfl ?_
  have hle34 := Els.str_le d6 h32 h33
  refine GoR.op ((op_assign rfl) _) rfl rfl ?_
  refine GoR.nil ?_
  refine Go1.ret1 Try.func29 rfl ?_
  exact ⟨ix r7.words i, rfl, hB.same, hle34, H⟩
end Sg
