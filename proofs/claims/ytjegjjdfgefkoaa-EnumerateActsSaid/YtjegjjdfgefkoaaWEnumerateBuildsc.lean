/- The walks: each call keeps to its plain transformer. Printed by walkgen.py. -/
import Derived.Test.YtjegjjdfgefkoaaTi
import Derived.Test.YtjegjjdfgefkoaaWEnumerateBuilds
import Derived.Test.YtjegjjdfgefkoaaWEnumerateBuildsb
namespace Sg
open Go Go.RowKit Go.Proofs
set_option linter.unusedVariables false
set_option linter.unusedSimpArgs false
set_option maxRecDepth 100000
set_option maxHeartbeats 4000000
theorem body68 : Body Try.prog 68 := ⟨Try.f68, Try.func68, rfl, by kernel_rfl⟩
theorem body53 : Body Try.prog 53 := ⟨Try.f53, Try.func53, rfl, by kernel_rfl⟩
theorem walk_enumerate_replay {A : List Nat} {w0 : World} {bY : Option Addr} {bZ : Nat} {bp : Option Addr} {bq : Nat} {bi : Option Addr} {bj : Nat} {bP : Option Addr} {bQ : Nat} {bt : Option Addr} {bu : Nat} {bv : Option Addr} {bw : Nat} {e : Enum} (hA : ∀ b ∈ A, b < w0.heap.size) (aZ : ISl (Rp.sl (Rp.int .i64)) A w0 bY bZ e.Gens) (aU : ISl (Rp.sl (Rp.int .i64)) A w0 bp bq e.Elems) (aK : ISl (Rp.int .i64) A w0 bi bj e.Prefix) (a5 : ISl (Rp.int .i64) A w0 bP bQ e.Last) (aV : ISl (Rp.sl (Rp.int .i64)) A w0 bt bu e.Right) (aW : ISl (rpRule) A w0 bv bw e.Rules) {K : Option run → Bool → Prop} (H : enumerate_replay e K) :
    CallsV Try.prog 53 #[.agg #[.int .i64 e.Points, .bool e.Monoid, .slice bY e.Gens.length bZ, .slice bp e.Elems.length bq, .slice bi e.Prefix.length bj, .slice bP e.Last.length bQ, .slice bt e.Right.length bu, .slice bv e.Rules.length bw, .int .i64 e.Done]] w0 (fun v w' => (∃ (r1 : Bool), v = .tuple #[.pointer none, .bool r1] ∧ Same w0 w' ∧ K none r1) ∨ (∃ (q : run), ∃ (r1 : Bool), ∃ (b_q : Nat), ∃ (bS : Nat), ∃ (bT : Option Addr), ∃ (bU : Nat), ∃ (cy : List Value), ∃ (bC : Nat), ∃ (bD : Option Addr), ∃ (bE : Nat), ∃ (cv : List Value), ∃ (bm : Nat), ∃ (bn : Option Addr), ∃ (bo : Nat), ∃ (cl : List Value), ∃ (bV : Nat), ∃ (bW : Option Addr), ∃ (bX : Nat), ∃ (cz : List Value), ∃ (bF : Nat), ∃ (bG : Option Addr), ∃ (bH : Nat), ∃ (cw : List Value), ∃ (bI : Nat), ∃ (bK : Option Addr), ∃ (bM : Nat), ∃ (cx : List Value), ∃ (cT : Nat), ∃ (co : Nat), ∃ (cp : Option Addr), ∃ (cq : Nat), ∃ (dl : List Value), ∃ (cb : Nat), ∃ (cd : Option Addr), ∃ (ce : Nat), ∃ (c6 : List Value), ∃ (cf : Nat), ∃ (cg : Option Addr), ∃ (ci : Nat), ∃ (c7 : List Value), v = .tuple #[.pointer (some ⟨b_q, 0, none⟩), .bool r1] ∧ Same w0 w' ∧ Owns w0.heap.size w' [.blk b_q (.cells #[.int .i64 q.Enum.Points, .bool q.Enum.Monoid, .slice bT bS bU, .slice bD bC bE, .slice bn bm bo, .slice bW bV bX, .slice bG bF bH, .slice bK bI bM, .int .i64 q.Enum.Done, .map (some cT), .slice cp co cq, .slice cd cb ce, .slice cg cf ci] 72 (0, 0)), .row 26 1 bT bS bU cy, .row 26 1 bD bC bE cv, .row 3 1 bn bm bo cl, .row 3 1 bW bV bX cz, .row 26 1 bG bF bH cw, .row 39 2 bK bI bM cx, .row 9 1 cp co cq dl, .row 3 1 cd cb ce c6, .row 3 1 cg cf ci c7, .any (mapE (fun a : List UInt8 => Value.string (gstr a)) (fun a : Int => Value.int .i64 a) cT q.number)] A ∧ Els (Rp.sl (Rp.int .i64)) (bl [.blk b_q (.cells #[.int .i64 q.Enum.Points, .bool q.Enum.Monoid, .slice bT bS bU, .slice bD bC bE, .slice bn bm bo, .slice bW bV bX, .slice bG bF bH, .slice bK bI bM, .int .i64 q.Enum.Done, .map (some cT), .slice cp co cq, .slice cd cb ce, .slice cg cf ci] 72 (0, 0)), .row 26 1 bT bS bU cy, .row 26 1 bD bC bE cv, .row 3 1 bn bm bo cl, .row 3 1 bW bV bX cz, .row 26 1 bG bF bH cw, .row 39 2 bK bI bM cx, .row 9 1 cp co cq dl, .row 3 1 cd cb ce c6, .row 3 1 cg cf ci c7, .any (mapE (fun a : List UInt8 => Value.string (gstr a)) (fun a : Int => Value.int .i64 a) cT q.number)] ++ A) w' cy q.Enum.Gens ∧ Els (Rp.sl (Rp.int .i64)) (bl [.blk b_q (.cells #[.int .i64 q.Enum.Points, .bool q.Enum.Monoid, .slice bT bS bU, .slice bD bC bE, .slice bn bm bo, .slice bW bV bX, .slice bG bF bH, .slice bK bI bM, .int .i64 q.Enum.Done, .map (some cT), .slice cp co cq, .slice cd cb ce, .slice cg cf ci] 72 (0, 0)), .row 26 1 bT bS bU cy, .row 26 1 bD bC bE cv, .row 3 1 bn bm bo cl, .row 3 1 bW bV bX cz, .row 26 1 bG bF bH cw, .row 39 2 bK bI bM cx, .row 9 1 cp co cq dl, .row 3 1 cd cb ce c6, .row 3 1 cg cf ci c7, .any (mapE (fun a : List UInt8 => Value.string (gstr a)) (fun a : Int => Value.int .i64 a) cT q.number)] ++ A) w' cv q.Enum.Elems ∧ Els (Rp.int .i64) (bl [.blk b_q (.cells #[.int .i64 q.Enum.Points, .bool q.Enum.Monoid, .slice bT bS bU, .slice bD bC bE, .slice bn bm bo, .slice bW bV bX, .slice bG bF bH, .slice bK bI bM, .int .i64 q.Enum.Done, .map (some cT), .slice cp co cq, .slice cd cb ce, .slice cg cf ci] 72 (0, 0)), .row 26 1 bT bS bU cy, .row 26 1 bD bC bE cv, .row 3 1 bn bm bo cl, .row 3 1 bW bV bX cz, .row 26 1 bG bF bH cw, .row 39 2 bK bI bM cx, .row 9 1 cp co cq dl, .row 3 1 cd cb ce c6, .row 3 1 cg cf ci c7, .any (mapE (fun a : List UInt8 => Value.string (gstr a)) (fun a : Int => Value.int .i64 a) cT q.number)] ++ A) w' cl q.Enum.Prefix ∧ Els (Rp.int .i64) (bl [.blk b_q (.cells #[.int .i64 q.Enum.Points, .bool q.Enum.Monoid, .slice bT bS bU, .slice bD bC bE, .slice bn bm bo, .slice bW bV bX, .slice bG bF bH, .slice bK bI bM, .int .i64 q.Enum.Done, .map (some cT), .slice cp co cq, .slice cd cb ce, .slice cg cf ci] 72 (0, 0)), .row 26 1 bT bS bU cy, .row 26 1 bD bC bE cv, .row 3 1 bn bm bo cl, .row 3 1 bW bV bX cz, .row 26 1 bG bF bH cw, .row 39 2 bK bI bM cx, .row 9 1 cp co cq dl, .row 3 1 cd cb ce c6, .row 3 1 cg cf ci c7, .any (mapE (fun a : List UInt8 => Value.string (gstr a)) (fun a : Int => Value.int .i64 a) cT q.number)] ++ A) w' cz q.Enum.Last ∧ Els (Rp.sl (Rp.int .i64)) (bl [.blk b_q (.cells #[.int .i64 q.Enum.Points, .bool q.Enum.Monoid, .slice bT bS bU, .slice bD bC bE, .slice bn bm bo, .slice bW bV bX, .slice bG bF bH, .slice bK bI bM, .int .i64 q.Enum.Done, .map (some cT), .slice cp co cq, .slice cd cb ce, .slice cg cf ci] 72 (0, 0)), .row 26 1 bT bS bU cy, .row 26 1 bD bC bE cv, .row 3 1 bn bm bo cl, .row 3 1 bW bV bX cz, .row 26 1 bG bF bH cw, .row 39 2 bK bI bM cx, .row 9 1 cp co cq dl, .row 3 1 cd cb ce c6, .row 3 1 cg cf ci c7, .any (mapE (fun a : List UInt8 => Value.string (gstr a)) (fun a : Int => Value.int .i64 a) cT q.number)] ++ A) w' cw q.Enum.Right ∧ Els (rpRule) (bl [.blk b_q (.cells #[.int .i64 q.Enum.Points, .bool q.Enum.Monoid, .slice bT bS bU, .slice bD bC bE, .slice bn bm bo, .slice bW bV bX, .slice bG bF bH, .slice bK bI bM, .int .i64 q.Enum.Done, .map (some cT), .slice cp co cq, .slice cd cb ce, .slice cg cf ci] 72 (0, 0)), .row 26 1 bT bS bU cy, .row 26 1 bD bC bE cv, .row 3 1 bn bm bo cl, .row 3 1 bW bV bX cz, .row 26 1 bG bF bH cw, .row 39 2 bK bI bM cx, .row 9 1 cp co cq dl, .row 3 1 cd cb ce c6, .row 3 1 cg cf ci c7, .any (mapE (fun a : List UInt8 => Value.string (gstr a)) (fun a : Int => Value.int .i64 a) cT q.number)] ++ A) w' cx q.Enum.Rules ∧ Els (Rp.str) (bl [.blk b_q (.cells #[.int .i64 q.Enum.Points, .bool q.Enum.Monoid, .slice bT bS bU, .slice bD bC bE, .slice bn bm bo, .slice bW bV bX, .slice bG bF bH, .slice bK bI bM, .int .i64 q.Enum.Done, .map (some cT), .slice cp co cq, .slice cd cb ce, .slice cg cf ci] 72 (0, 0)), .row 26 1 bT bS bU cy, .row 26 1 bD bC bE cv, .row 3 1 bn bm bo cl, .row 3 1 bW bV bX cz, .row 26 1 bG bF bH cw, .row 39 2 bK bI bM cx, .row 9 1 cp co cq dl, .row 3 1 cd cb ce c6, .row 3 1 cg cf ci c7, .any (mapE (fun a : List UInt8 => Value.string (gstr a)) (fun a : Int => Value.int .i64 a) cT q.number)] ++ A) w' dl q.words ∧ Els (Rp.int .i64) (bl [.blk b_q (.cells #[.int .i64 q.Enum.Points, .bool q.Enum.Monoid, .slice bT bS bU, .slice bD bC bE, .slice bn bm bo, .slice bW bV bX, .slice bG bF bH, .slice bK bI bM, .int .i64 q.Enum.Done, .map (some cT), .slice cp co cq, .slice cd cb ce, .slice cg cf ci] 72 (0, 0)), .row 26 1 bT bS bU cy, .row 26 1 bD bC bE cv, .row 3 1 bn bm bo cl, .row 3 1 bW bV bX cz, .row 26 1 bG bF bH cw, .row 39 2 bK bI bM cx, .row 9 1 cp co cq dl, .row 3 1 cd cb ce c6, .row 3 1 cg cf ci c7, .any (mapE (fun a : List UInt8 => Value.string (gstr a)) (fun a : Int => Value.int .i64 a) cT q.number)] ++ A) w' c6 q.behind ∧ Els (Rp.int .i64) (bl [.blk b_q (.cells #[.int .i64 q.Enum.Points, .bool q.Enum.Monoid, .slice bT bS bU, .slice bD bC bE, .slice bn bm bo, .slice bW bV bX, .slice bG bF bH, .slice bK bI bM, .int .i64 q.Enum.Done, .map (some cT), .slice cp co cq, .slice cd cb ce, .slice cg cf ci] 72 (0, 0)), .row 26 1 bT bS bU cy, .row 26 1 bD bC bE cv, .row 3 1 bn bm bo cl, .row 3 1 bW bV bX cz, .row 26 1 bG bF bH cw, .row 39 2 bK bI bM cx, .row 9 1 cp co cq dl, .row 3 1 cd cb ce c6, .row 3 1 cg cf ci c7, .any (mapE (fun a : List UInt8 => Value.string (gstr a)) (fun a : Int => Value.int .i64 a) cT q.number)] ++ A) w' c7 q.single ∧ K (some q) r1)) := by
 refine CallsV.of (l := [.agg #[.int .i64 e.Points, .bool e.Monoid, .slice bY e.Gens.length bZ, .slice bp e.Elems.length bq, .slice bi e.Prefix.length bj, .slice bP e.Last.length bQ, .slice bt e.Right.length bu, .slice bv e.Rules.length bw, .int .i64 e.Done]]) Try.func53 rfl Try.ntmps53 rfl ?_
 have hO := Owns.start hA
 have hB := Fr.refl (bl []) w0
 unfold enumerate_replay at H
 replace aZ := aZ.ch (Ch.start A w0)
 replace aU := aU.ch (Ch.start A w0)
 replace aK := aK.ch (Ch.start A w0)
 replace a5 := a5.ch (Ch.start A w0)
 replace aV := aV.ch (Ch.start A w0)
 replace aW := aW.ch (Ch.start A w0)
 refine Go1.seq ?_
 refine Go1.region ?_
 have hobt := obox (t := 29) (v := .agg #[.int .i64 e.Points, .bool e.Monoid, .slice bY e.Gens.length bZ, .slice bp e.Elems.length bq, .slice bi e.Prefix.length bj, .slice bP e.Last.length bQ, .slice bt e.Right.length bu, .slice bv e.Rules.length bw, .int .i64 e.Done]) (cs := #[.int .i64 e.Points, .bool e.Monoid, .slice bY e.Gens.length bZ, .slice bp e.Elems.length bq, .slice bi e.Prefix.length bj, .slice bP e.Last.length bQ, .slice bt e.Right.length bu, .slice bv e.Rules.length bw, .int .i64 e.Done]) hO rfl
 obtain ⟨w1, B2, gr, hs4, u5⟩ := hobt
 refine GoR.op (u5 rfl) rfl rfl ?_
 replace hO := gr.own
 replace aZ := aZ.ch gr.ch
 replace aU := aU.ch gr.ch
 replace aK := aK.ch gr.ch
 replace a5 := a5.ch gr.ch
 replace aV := aV.ch gr.ch
 replace aW := aW.ch gr.ch
 replace hB := hB.trans gr.fr
 refine GoR.op ((op_assign rfl) _) rfl rfl ?_
 refine GoR.op ((op_assign rfl) _) rfl rfl ?_
 refine GoR.nil ?_
 refine Go1.seq ?_
 refine Go1.region ?_
 refine GoR.op ((op_fieldAddr Try.underlying29 rfl ti22 rfl (by decide)) _) rfl rfl ?_
 refine GoR.op ((oblk (i := 2) 0 hO rfl rfl Try.underlying22 rfl rfl) _ (Same.refl _)) rfl rfl ?_
 refine GoR.op ((op_fieldAddr Try.underlying29 rfl ti4 rfl (by decide)) _) rfl rfl ?_
 by_cases h7 : e.Monoid = true
 ·replace H := ifp h7 H
  refine GoR.op (opB ((oblk (i := 1) 0 hO rfl rfl Try.underlying4 rfl rfl) _ (Same.refl _)) (h7)) rfl rfl ?_
  refine GoR.call (op_call body49 rfl (walk_enumerate_begin hO.lt aZ H)) rfl rfl ?_
  intro v10 w11 hcase14
  refine Or.elim hcase14 ?_ ?_
  ·refine exE fun r9 => andE fun hv15 => andE fun yX => fun H => ?_
   subst hv15
   clear hcase14
   replace H := oElimN H
   have uD := Stp.same hO yX
   replace hO := uD.own
   replace aZ := aZ.ch uD.ch
   replace aU := aU.ch uD.ch
   replace aK := aK.ch uD.ch
   replace a5 := a5.ch uD.ch
   replace aV := aV.ch uD.ch
   replace aW := aW.ch uD.ch
   replace hB := hB.trans uD.fr
   refine GoR.op ((op_move rfl) _) rfl rfl ?_
   refine GoR.op ((op_extract rfl rfl) _) rfl rfl ?_
   refine GoR.op ((op_extract rfl rfl) _) rfl rfl ?_
   refine GoR.op ((op_assign rfl) _) rfl rfl ?_
   refine GoR.op ((op_assign rfl) _) rfl rfl ?_
   refine GoR.nil ?_
   refine Go1.seq ?_
   refine Go1.seq ?_
   refine Go1.region ?_
   refine GoR.op ((op_move rfl) _) rfl rfl ?_
   by_cases h17 : r9 = (0 : Int)
   ·replace H := ifp h17 H
    refine GoR.op ((fun w => opB (op_neq rfl rfl w) (ndT h17)) _) rfl rfl ?_
    refine GoR.nil ?_
    refine Go1.condF rfl rfl ?_
    refine Go1.skip ?_
    refine Go1.seq ?_
    refine Go1.block ?_
    refine Go1.loopW (S := Unit) (fun s σ w => agrees σ [(1, .pointer (some ⟨B2, 0, none⟩)), (4, .pointer none)] ∧ Owns w0.heap.size w [.blk B2 (.cells #[.int .i64 e.Points, .bool e.Monoid, .slice bY e.Gens.length bZ, .slice bp e.Elems.length bq, .slice bi e.Prefix.length bj, .slice bP e.Last.length bQ, .slice bt e.Right.length bu, .slice bv e.Rules.length bw, .int .i64 e.Done] 29 (0, 0))] A ∧ ISl (Rp.sl (Rp.int .i64)) (bl [.blk B2 (.cells #[.int .i64 e.Points, .bool e.Monoid, .slice bY e.Gens.length bZ, .slice bp e.Elems.length bq, .slice bi e.Prefix.length bj, .slice bP e.Last.length bQ, .slice bt e.Right.length bu, .slice bv e.Rules.length bw, .int .i64 e.Done] 29 (0, 0))] ++ A) w bY bZ e.Gens ∧ ISl (Rp.sl (Rp.int .i64)) (bl [.blk B2 (.cells #[.int .i64 e.Points, .bool e.Monoid, .slice bY e.Gens.length bZ, .slice bp e.Elems.length bq, .slice bi e.Prefix.length bj, .slice bP e.Last.length bQ, .slice bt e.Right.length bu, .slice bv e.Rules.length bw, .int .i64 e.Done] 29 (0, 0))] ++ A) w bp bq e.Elems ∧ ISl (Rp.int .i64) (bl [.blk B2 (.cells #[.int .i64 e.Points, .bool e.Monoid, .slice bY e.Gens.length bZ, .slice bp e.Elems.length bq, .slice bi e.Prefix.length bj, .slice bP e.Last.length bQ, .slice bt e.Right.length bu, .slice bv e.Rules.length bw, .int .i64 e.Done] 29 (0, 0))] ++ A) w bi bj e.Prefix ∧ ISl (Rp.int .i64) (bl [.blk B2 (.cells #[.int .i64 e.Points, .bool e.Monoid, .slice bY e.Gens.length bZ, .slice bp e.Elems.length bq, .slice bi e.Prefix.length bj, .slice bP e.Last.length bQ, .slice bt e.Right.length bu, .slice bv e.Rules.length bw, .int .i64 e.Done] 29 (0, 0))] ++ A) w bP bQ e.Last ∧ ISl (Rp.sl (Rp.int .i64)) (bl [.blk B2 (.cells #[.int .i64 e.Points, .bool e.Monoid, .slice bY e.Gens.length bZ, .slice bp e.Elems.length bq, .slice bi e.Prefix.length bj, .slice bP e.Last.length bQ, .slice bt e.Right.length bu, .slice bv e.Rules.length bw, .int .i64 e.Done] 29 (0, 0))] ++ A) w bt bu e.Right ∧ ISl (rpRule) (bl [.blk B2 (.cells #[.int .i64 e.Points, .bool e.Monoid, .slice bY e.Gens.length bZ, .slice bp e.Elems.length bq, .slice bi e.Prefix.length bj, .slice bP e.Last.length bQ, .slice bt e.Right.length bu, .slice bv e.Rules.length bw, .int .i64 e.Done] 29 (0, 0))] ++ A) w bv bw e.Rules ∧ Fr (bl []) w0 (bl [.blk B2 (.cells #[.int .i64 e.Points, .bool e.Monoid, .slice bY e.Gens.length bZ, .slice bp e.Elems.length bq, .slice bi e.Prefix.length bj, .slice bP e.Last.length bQ, .slice bt e.Right.length bu, .slice bv e.Rules.length bw, .int .i64 e.Done] 29 (0, 0))]) w) H ⟨⟨rfl, rfl, trivial⟩, hO, aZ, aU, aK, a5, aV, aW, hB⟩ ?_
    intro X1 _
    intro H hX1 σ w18
    refine andE fun hag => andE fun hO => andE fun aZ => andE fun aU => andE fun aK => andE fun a5 => andE fun aV => andE fun aW => fun hB => ?_
    refine Go1.keep [(1, .pointer (some ⟨B2, 0, none⟩)), (4, .pointer none)] hag ?_
    refine Go1.seq ?_
    refine Go1.seq ?_
    refine Go1.drawS 0 [(0, .pure), (1, .pure), (2, .pure), (3, .pure), (4, .stable), (5, .pure), (6, .stable), (7, .pure)] mixed (by kernel_rfl) ?_
    intro w19 BW
    have sJ := Stp.same hO BW
    replace hO := sJ.own
    replace aZ := aZ.ch sJ.ch
    replace aU := aU.ch sJ.ch
    replace aK := aK.ch sJ.ch
    replace a5 := a5.ch sJ.ch
    replace aV := aV.ch sJ.ch
    replace aW := aW.ch sJ.ch
    replace hB := hB.trans sJ.fr
    refine GoQ.pure rfl (op_move rfl) rfl rfl ?_
    exact H.elim
   replace H := ifn h17 H
   refine GoR.op ((fun w => opB (op_neq rfl rfl w) (ndF h17)) _) rfl rfl ?_
   refine GoR.nil ?_
   refine Go1.condT rfl rfl ?_
   refine Go1.seq ?_
   refine Go1.region ?_
   refine GoR.op ((op_assign rfl) _) rfl rfl ?_
   refine GoR.op ((op_assign rfl) _) rfl rfl ?_
   refine GoR.nil ?_
   refine Go1.ret2 Try.func53 rfl ?_
   exact Or.inl ⟨false, rfl, hB.same, H⟩
  ·refine exE fun r8 => exE fun r9 => exE fun iP => exE fun yf => exE fun yg => exE fun yh => exE fun xM => exE fun xN => exE fun xO => exE fun xP => exE fun xd => exE fun xe => exE fun xg => exE fun xh => exE fun wl => exE fun yi => exE fun yj => exE fun yk => exE fun xQ => exE fun xR => exE fun xS => exE fun xT => exE fun xi => exE fun xU => exE fun xV => exE fun xW => exE fun xj => exE fun b9 => exE fun Au => exE fun Aw => exE fun Ax => exE fun zl => exE fun zm => exE fun zn => exE fun zo => exE fun zd => exE fun zp => exE fun zq => exE fun zr => exE fun zf => andE fun hv22 => andE fun yX => andE fun hN13 => andE fun ra => andE fun pK => andE fun oA => andE fun rb => andE fun pM => andE fun pN => andE fun tu => andE fun sK => andE fun sL => fun H => ?_
   subst hv22
   clear hcase14
   replace H := oElimS H
   have jq := Stp.more hO yX hN13
   dsimp only [List.cons_append, List.nil_append] at jq
   replace hO := jq.own
   replace aZ := aZ.ch jq.ch
   replace aU := aU.ch jq.ch
   replace aK := aK.ch jq.ch
   replace a5 := a5.ch jq.ch
   replace aV := aV.ch jq.ch
   replace aW := aW.ch jq.ch
   replace hB := hB.trans jq.fr
   replace ra := ra.ch (Ch.assoc _ _ _ _)
   dsimp only [List.cons_append, List.nil_append] at ra
   replace pK := pK.ch (Ch.assoc _ _ _ _)
   dsimp only [List.cons_append, List.nil_append] at pK
   replace oA := oA.ch (Ch.assoc _ _ _ _)
   dsimp only [List.cons_append, List.nil_append] at oA
   replace rb := rb.ch (Ch.assoc _ _ _ _)
   dsimp only [List.cons_append, List.nil_append] at rb
   replace pM := pM.ch (Ch.assoc _ _ _ _)
   dsimp only [List.cons_append, List.nil_append] at pM
   replace pN := pN.ch (Ch.assoc _ _ _ _)
   dsimp only [List.cons_append, List.nil_append] at pN
   replace tu := tu.ch (Ch.assoc _ _ _ _)
   dsimp only [List.cons_append, List.nil_append] at tu
   replace sK := sK.ch (Ch.assoc _ _ _ _)
   dsimp only [List.cons_append, List.nil_append] at sK
   replace sL := sL.ch (Ch.assoc _ _ _ _)
   dsimp only [List.cons_append, List.nil_append] at sL
   refine GoR.op ((op_move rfl) _) rfl rfl ?_
   refine GoR.op ((op_extract rfl rfl) _) rfl rfl ?_
   refine GoR.op ((op_extract rfl rfl) _) rfl rfl ?_
   refine GoR.op ((op_assign rfl) _) rfl rfl ?_
   refine GoR.op ((op_assign rfl) _) rfl rfl ?_
   refine GoR.nil ?_
   refine Go1.seq ?_
   refine Go1.seq ?_
   refine Go1.region ?_
   refine GoR.op ((op_move rfl) _) rfl rfl ?_
   by_cases h35 : r9 = (0 : Int)
   ·replace H := ifp h35 H
    refine GoR.op ((fun w => opB (op_neq rfl rfl w) (ndT h35)) _) rfl rfl ?_
    refine GoR.nil ?_
    refine Go1.condF rfl rfl ?_
    refine Go1.skip ?_
    refine Go1.seq ?_
    refine Go1.block ?_
    refine Go1.loopW (S := Int × Bool × Int × List (List Int) × List (List Int) × List Int × List Int × List (List Int) × List Rule × List Str × List Int × List Int × (List (Str × Int))) (fun s σ w => match s with | (k2_37, b2_38, k2_39, d_40, d_46, d_52, d_58, d_64, d_70, d_76, d_82, d_88, m2_94) => ∃ (n45 : Nat), ∃ (p43 : Option Addr), ∃ (c44 : Nat), ∃ (eB : List Value), ∃ (n51 : Nat), ∃ (p49 : Option Addr), ∃ (c50 : Nat), ∃ (eC : List Value), ∃ (n57 : Nat), ∃ (p55 : Option Addr), ∃ (c56 : Nat), ∃ (jR : List Value), ∃ (n63 : Nat), ∃ (p61 : Option Addr), ∃ (c62 : Nat), ∃ (jS : List Value), ∃ (n69 : Nat), ∃ (p67 : Option Addr), ∃ (c68 : Nat), ∃ (jh : List Value), ∃ (n75 : Nat), ∃ (p73 : Option Addr), ∃ (c74 : Nat), ∃ (jT : List Value), ∃ (n81 : Nat), ∃ (p79 : Option Addr), ∃ (c80 : Nat), ∃ (jU : List Value), ∃ (n87 : Nat), ∃ (p85 : Option Addr), ∃ (c86 : Nat), ∃ (jV : List Value), ∃ (n93 : Nat), ∃ (p91 : Option Addr), ∃ (c92 : Nat), ∃ (jW : List Value), agrees σ [(1, .pointer (some ⟨B2, 0, none⟩)), (4, .pointer (some ⟨iP, 0, none⟩))] ∧ Owns w0.heap.size w [.blk iP (.cells #[.int .i64 k2_37, .bool b2_38, .slice p43 n45 c44, .slice p49 n51 c50, .slice p55 n57 c56, .slice p61 n63 c62, .slice p67 n69 c68, .slice p73 n75 c74, .int .i64 k2_39, .map (some b9), .slice p79 n81 c80, .slice p85 n87 c86, .slice p91 n93 c92] 72 (0, 0)), .row 26 1 p43 n45 c44 eB, .row 26 1 p49 n51 c50 eC, .row 3 1 p55 n57 c56 jR, .row 3 1 p61 n63 c62 jS, .row 26 1 p67 n69 c68 jh, .row 39 2 p73 n75 c74 jT, .row 9 1 p79 n81 c80 jU, .row 3 1 p85 n87 c86 jV, .row 3 1 p91 n93 c92 jW, .any (mapE (fun a : List UInt8 => Value.string (gstr a)) (fun a : Int => Value.int .i64 a) b9 m2_94), .blk B2 (.cells #[.int .i64 e.Points, .bool e.Monoid, .slice bY e.Gens.length bZ, .slice bp e.Elems.length bq, .slice bi e.Prefix.length bj, .slice bP e.Last.length bQ, .slice bt e.Right.length bu, .slice bv e.Rules.length bw, .int .i64 e.Done] 29 (0, 0))] A ∧ Els (Rp.sl (Rp.int .i64)) (bl [.blk iP (.cells #[.int .i64 k2_37, .bool b2_38, .slice p43 n45 c44, .slice p49 n51 c50, .slice p55 n57 c56, .slice p61 n63 c62, .slice p67 n69 c68, .slice p73 n75 c74, .int .i64 k2_39, .map (some b9), .slice p79 n81 c80, .slice p85 n87 c86, .slice p91 n93 c92] 72 (0, 0)), .row 26 1 p43 n45 c44 eB, .row 26 1 p49 n51 c50 eC, .row 3 1 p55 n57 c56 jR, .row 3 1 p61 n63 c62 jS, .row 26 1 p67 n69 c68 jh, .row 39 2 p73 n75 c74 jT, .row 9 1 p79 n81 c80 jU, .row 3 1 p85 n87 c86 jV, .row 3 1 p91 n93 c92 jW, .any (mapE (fun a : List UInt8 => Value.string (gstr a)) (fun a : Int => Value.int .i64 a) b9 m2_94), .blk B2 (.cells #[.int .i64 e.Points, .bool e.Monoid, .slice bY e.Gens.length bZ, .slice bp e.Elems.length bq, .slice bi e.Prefix.length bj, .slice bP e.Last.length bQ, .slice bt e.Right.length bu, .slice bv e.Rules.length bw, .int .i64 e.Done] 29 (0, 0))] ++ A) w eB d_40 ∧ Els (Rp.sl (Rp.int .i64)) (bl [.blk iP (.cells #[.int .i64 k2_37, .bool b2_38, .slice p43 n45 c44, .slice p49 n51 c50, .slice p55 n57 c56, .slice p61 n63 c62, .slice p67 n69 c68, .slice p73 n75 c74, .int .i64 k2_39, .map (some b9), .slice p79 n81 c80, .slice p85 n87 c86, .slice p91 n93 c92] 72 (0, 0)), .row 26 1 p43 n45 c44 eB, .row 26 1 p49 n51 c50 eC, .row 3 1 p55 n57 c56 jR, .row 3 1 p61 n63 c62 jS, .row 26 1 p67 n69 c68 jh, .row 39 2 p73 n75 c74 jT, .row 9 1 p79 n81 c80 jU, .row 3 1 p85 n87 c86 jV, .row 3 1 p91 n93 c92 jW, .any (mapE (fun a : List UInt8 => Value.string (gstr a)) (fun a : Int => Value.int .i64 a) b9 m2_94), .blk B2 (.cells #[.int .i64 e.Points, .bool e.Monoid, .slice bY e.Gens.length bZ, .slice bp e.Elems.length bq, .slice bi e.Prefix.length bj, .slice bP e.Last.length bQ, .slice bt e.Right.length bu, .slice bv e.Rules.length bw, .int .i64 e.Done] 29 (0, 0))] ++ A) w eC d_46 ∧ Els (Rp.int .i64) (bl [.blk iP (.cells #[.int .i64 k2_37, .bool b2_38, .slice p43 n45 c44, .slice p49 n51 c50, .slice p55 n57 c56, .slice p61 n63 c62, .slice p67 n69 c68, .slice p73 n75 c74, .int .i64 k2_39, .map (some b9), .slice p79 n81 c80, .slice p85 n87 c86, .slice p91 n93 c92] 72 (0, 0)), .row 26 1 p43 n45 c44 eB, .row 26 1 p49 n51 c50 eC, .row 3 1 p55 n57 c56 jR, .row 3 1 p61 n63 c62 jS, .row 26 1 p67 n69 c68 jh, .row 39 2 p73 n75 c74 jT, .row 9 1 p79 n81 c80 jU, .row 3 1 p85 n87 c86 jV, .row 3 1 p91 n93 c92 jW, .any (mapE (fun a : List UInt8 => Value.string (gstr a)) (fun a : Int => Value.int .i64 a) b9 m2_94), .blk B2 (.cells #[.int .i64 e.Points, .bool e.Monoid, .slice bY e.Gens.length bZ, .slice bp e.Elems.length bq, .slice bi e.Prefix.length bj, .slice bP e.Last.length bQ, .slice bt e.Right.length bu, .slice bv e.Rules.length bw, .int .i64 e.Done] 29 (0, 0))] ++ A) w jR d_52 ∧ Els (Rp.int .i64) (bl [.blk iP (.cells #[.int .i64 k2_37, .bool b2_38, .slice p43 n45 c44, .slice p49 n51 c50, .slice p55 n57 c56, .slice p61 n63 c62, .slice p67 n69 c68, .slice p73 n75 c74, .int .i64 k2_39, .map (some b9), .slice p79 n81 c80, .slice p85 n87 c86, .slice p91 n93 c92] 72 (0, 0)), .row 26 1 p43 n45 c44 eB, .row 26 1 p49 n51 c50 eC, .row 3 1 p55 n57 c56 jR, .row 3 1 p61 n63 c62 jS, .row 26 1 p67 n69 c68 jh, .row 39 2 p73 n75 c74 jT, .row 9 1 p79 n81 c80 jU, .row 3 1 p85 n87 c86 jV, .row 3 1 p91 n93 c92 jW, .any (mapE (fun a : List UInt8 => Value.string (gstr a)) (fun a : Int => Value.int .i64 a) b9 m2_94), .blk B2 (.cells #[.int .i64 e.Points, .bool e.Monoid, .slice bY e.Gens.length bZ, .slice bp e.Elems.length bq, .slice bi e.Prefix.length bj, .slice bP e.Last.length bQ, .slice bt e.Right.length bu, .slice bv e.Rules.length bw, .int .i64 e.Done] 29 (0, 0))] ++ A) w jS d_58 ∧ Els (Rp.sl (Rp.int .i64)) (bl [.blk iP (.cells #[.int .i64 k2_37, .bool b2_38, .slice p43 n45 c44, .slice p49 n51 c50, .slice p55 n57 c56, .slice p61 n63 c62, .slice p67 n69 c68, .slice p73 n75 c74, .int .i64 k2_39, .map (some b9), .slice p79 n81 c80, .slice p85 n87 c86, .slice p91 n93 c92] 72 (0, 0)), .row 26 1 p43 n45 c44 eB, .row 26 1 p49 n51 c50 eC, .row 3 1 p55 n57 c56 jR, .row 3 1 p61 n63 c62 jS, .row 26 1 p67 n69 c68 jh, .row 39 2 p73 n75 c74 jT, .row 9 1 p79 n81 c80 jU, .row 3 1 p85 n87 c86 jV, .row 3 1 p91 n93 c92 jW, .any (mapE (fun a : List UInt8 => Value.string (gstr a)) (fun a : Int => Value.int .i64 a) b9 m2_94), .blk B2 (.cells #[.int .i64 e.Points, .bool e.Monoid, .slice bY e.Gens.length bZ, .slice bp e.Elems.length bq, .slice bi e.Prefix.length bj, .slice bP e.Last.length bQ, .slice bt e.Right.length bu, .slice bv e.Rules.length bw, .int .i64 e.Done] 29 (0, 0))] ++ A) w jh d_64 ∧ Els (rpRule) (bl [.blk iP (.cells #[.int .i64 k2_37, .bool b2_38, .slice p43 n45 c44, .slice p49 n51 c50, .slice p55 n57 c56, .slice p61 n63 c62, .slice p67 n69 c68, .slice p73 n75 c74, .int .i64 k2_39, .map (some b9), .slice p79 n81 c80, .slice p85 n87 c86, .slice p91 n93 c92] 72 (0, 0)), .row 26 1 p43 n45 c44 eB, .row 26 1 p49 n51 c50 eC, .row 3 1 p55 n57 c56 jR, .row 3 1 p61 n63 c62 jS, .row 26 1 p67 n69 c68 jh, .row 39 2 p73 n75 c74 jT, .row 9 1 p79 n81 c80 jU, .row 3 1 p85 n87 c86 jV, .row 3 1 p91 n93 c92 jW, .any (mapE (fun a : List UInt8 => Value.string (gstr a)) (fun a : Int => Value.int .i64 a) b9 m2_94), .blk B2 (.cells #[.int .i64 e.Points, .bool e.Monoid, .slice bY e.Gens.length bZ, .slice bp e.Elems.length bq, .slice bi e.Prefix.length bj, .slice bP e.Last.length bQ, .slice bt e.Right.length bu, .slice bv e.Rules.length bw, .int .i64 e.Done] 29 (0, 0))] ++ A) w jT d_70 ∧ Els (Rp.str) (bl [.blk iP (.cells #[.int .i64 k2_37, .bool b2_38, .slice p43 n45 c44, .slice p49 n51 c50, .slice p55 n57 c56, .slice p61 n63 c62, .slice p67 n69 c68, .slice p73 n75 c74, .int .i64 k2_39, .map (some b9), .slice p79 n81 c80, .slice p85 n87 c86, .slice p91 n93 c92] 72 (0, 0)), .row 26 1 p43 n45 c44 eB, .row 26 1 p49 n51 c50 eC, .row 3 1 p55 n57 c56 jR, .row 3 1 p61 n63 c62 jS, .row 26 1 p67 n69 c68 jh, .row 39 2 p73 n75 c74 jT, .row 9 1 p79 n81 c80 jU, .row 3 1 p85 n87 c86 jV, .row 3 1 p91 n93 c92 jW, .any (mapE (fun a : List UInt8 => Value.string (gstr a)) (fun a : Int => Value.int .i64 a) b9 m2_94), .blk B2 (.cells #[.int .i64 e.Points, .bool e.Monoid, .slice bY e.Gens.length bZ, .slice bp e.Elems.length bq, .slice bi e.Prefix.length bj, .slice bP e.Last.length bQ, .slice bt e.Right.length bu, .slice bv e.Rules.length bw, .int .i64 e.Done] 29 (0, 0))] ++ A) w jU d_76 ∧ Els (Rp.int .i64) (bl [.blk iP (.cells #[.int .i64 k2_37, .bool b2_38, .slice p43 n45 c44, .slice p49 n51 c50, .slice p55 n57 c56, .slice p61 n63 c62, .slice p67 n69 c68, .slice p73 n75 c74, .int .i64 k2_39, .map (some b9), .slice p79 n81 c80, .slice p85 n87 c86, .slice p91 n93 c92] 72 (0, 0)), .row 26 1 p43 n45 c44 eB, .row 26 1 p49 n51 c50 eC, .row 3 1 p55 n57 c56 jR, .row 3 1 p61 n63 c62 jS, .row 26 1 p67 n69 c68 jh, .row 39 2 p73 n75 c74 jT, .row 9 1 p79 n81 c80 jU, .row 3 1 p85 n87 c86 jV, .row 3 1 p91 n93 c92 jW, .any (mapE (fun a : List UInt8 => Value.string (gstr a)) (fun a : Int => Value.int .i64 a) b9 m2_94), .blk B2 (.cells #[.int .i64 e.Points, .bool e.Monoid, .slice bY e.Gens.length bZ, .slice bp e.Elems.length bq, .slice bi e.Prefix.length bj, .slice bP e.Last.length bQ, .slice bt e.Right.length bu, .slice bv e.Rules.length bw, .int .i64 e.Done] 29 (0, 0))] ++ A) w jV d_82 ∧ Els (Rp.int .i64) (bl [.blk iP (.cells #[.int .i64 k2_37, .bool b2_38, .slice p43 n45 c44, .slice p49 n51 c50, .slice p55 n57 c56, .slice p61 n63 c62, .slice p67 n69 c68, .slice p73 n75 c74, .int .i64 k2_39, .map (some b9), .slice p79 n81 c80, .slice p85 n87 c86, .slice p91 n93 c92] 72 (0, 0)), .row 26 1 p43 n45 c44 eB, .row 26 1 p49 n51 c50 eC, .row 3 1 p55 n57 c56 jR, .row 3 1 p61 n63 c62 jS, .row 26 1 p67 n69 c68 jh, .row 39 2 p73 n75 c74 jT, .row 9 1 p79 n81 c80 jU, .row 3 1 p85 n87 c86 jV, .row 3 1 p91 n93 c92 jW, .any (mapE (fun a : List UInt8 => Value.string (gstr a)) (fun a : Int => Value.int .i64 a) b9 m2_94), .blk B2 (.cells #[.int .i64 e.Points, .bool e.Monoid, .slice bY e.Gens.length bZ, .slice bp e.Elems.length bq, .slice bi e.Prefix.length bj, .slice bP e.Last.length bQ, .slice bt e.Right.length bu, .slice bv e.Rules.length bw, .int .i64 e.Done] 29 (0, 0))] ++ A) w jW d_88 ∧ ISl (Rp.sl (Rp.int .i64)) (bl [.blk iP (.cells #[.int .i64 k2_37, .bool b2_38, .slice p43 n45 c44, .slice p49 n51 c50, .slice p55 n57 c56, .slice p61 n63 c62, .slice p67 n69 c68, .slice p73 n75 c74, .int .i64 k2_39, .map (some b9), .slice p79 n81 c80, .slice p85 n87 c86, .slice p91 n93 c92] 72 (0, 0)), .row 26 1 p43 n45 c44 eB, .row 26 1 p49 n51 c50 eC, .row 3 1 p55 n57 c56 jR, .row 3 1 p61 n63 c62 jS, .row 26 1 p67 n69 c68 jh, .row 39 2 p73 n75 c74 jT, .row 9 1 p79 n81 c80 jU, .row 3 1 p85 n87 c86 jV, .row 3 1 p91 n93 c92 jW, .any (mapE (fun a : List UInt8 => Value.string (gstr a)) (fun a : Int => Value.int .i64 a) b9 m2_94), .blk B2 (.cells #[.int .i64 e.Points, .bool e.Monoid, .slice bY e.Gens.length bZ, .slice bp e.Elems.length bq, .slice bi e.Prefix.length bj, .slice bP e.Last.length bQ, .slice bt e.Right.length bu, .slice bv e.Rules.length bw, .int .i64 e.Done] 29 (0, 0))] ++ A) w bY bZ e.Gens ∧ ISl (Rp.sl (Rp.int .i64)) (bl [.blk iP (.cells #[.int .i64 k2_37, .bool b2_38, .slice p43 n45 c44, .slice p49 n51 c50, .slice p55 n57 c56, .slice p61 n63 c62, .slice p67 n69 c68, .slice p73 n75 c74, .int .i64 k2_39, .map (some b9), .slice p79 n81 c80, .slice p85 n87 c86, .slice p91 n93 c92] 72 (0, 0)), .row 26 1 p43 n45 c44 eB, .row 26 1 p49 n51 c50 eC, .row 3 1 p55 n57 c56 jR, .row 3 1 p61 n63 c62 jS, .row 26 1 p67 n69 c68 jh, .row 39 2 p73 n75 c74 jT, .row 9 1 p79 n81 c80 jU, .row 3 1 p85 n87 c86 jV, .row 3 1 p91 n93 c92 jW, .any (mapE (fun a : List UInt8 => Value.string (gstr a)) (fun a : Int => Value.int .i64 a) b9 m2_94), .blk B2 (.cells #[.int .i64 e.Points, .bool e.Monoid, .slice bY e.Gens.length bZ, .slice bp e.Elems.length bq, .slice bi e.Prefix.length bj, .slice bP e.Last.length bQ, .slice bt e.Right.length bu, .slice bv e.Rules.length bw, .int .i64 e.Done] 29 (0, 0))] ++ A) w bp bq e.Elems ∧ ISl (Rp.int .i64) (bl [.blk iP (.cells #[.int .i64 k2_37, .bool b2_38, .slice p43 n45 c44, .slice p49 n51 c50, .slice p55 n57 c56, .slice p61 n63 c62, .slice p67 n69 c68, .slice p73 n75 c74, .int .i64 k2_39, .map (some b9), .slice p79 n81 c80, .slice p85 n87 c86, .slice p91 n93 c92] 72 (0, 0)), .row 26 1 p43 n45 c44 eB, .row 26 1 p49 n51 c50 eC, .row 3 1 p55 n57 c56 jR, .row 3 1 p61 n63 c62 jS, .row 26 1 p67 n69 c68 jh, .row 39 2 p73 n75 c74 jT, .row 9 1 p79 n81 c80 jU, .row 3 1 p85 n87 c86 jV, .row 3 1 p91 n93 c92 jW, .any (mapE (fun a : List UInt8 => Value.string (gstr a)) (fun a : Int => Value.int .i64 a) b9 m2_94), .blk B2 (.cells #[.int .i64 e.Points, .bool e.Monoid, .slice bY e.Gens.length bZ, .slice bp e.Elems.length bq, .slice bi e.Prefix.length bj, .slice bP e.Last.length bQ, .slice bt e.Right.length bu, .slice bv e.Rules.length bw, .int .i64 e.Done] 29 (0, 0))] ++ A) w bi bj e.Prefix ∧ ISl (Rp.int .i64) (bl [.blk iP (.cells #[.int .i64 k2_37, .bool b2_38, .slice p43 n45 c44, .slice p49 n51 c50, .slice p55 n57 c56, .slice p61 n63 c62, .slice p67 n69 c68, .slice p73 n75 c74, .int .i64 k2_39, .map (some b9), .slice p79 n81 c80, .slice p85 n87 c86, .slice p91 n93 c92] 72 (0, 0)), .row 26 1 p43 n45 c44 eB, .row 26 1 p49 n51 c50 eC, .row 3 1 p55 n57 c56 jR, .row 3 1 p61 n63 c62 jS, .row 26 1 p67 n69 c68 jh, .row 39 2 p73 n75 c74 jT, .row 9 1 p79 n81 c80 jU, .row 3 1 p85 n87 c86 jV, .row 3 1 p91 n93 c92 jW, .any (mapE (fun a : List UInt8 => Value.string (gstr a)) (fun a : Int => Value.int .i64 a) b9 m2_94), .blk B2 (.cells #[.int .i64 e.Points, .bool e.Monoid, .slice bY e.Gens.length bZ, .slice bp e.Elems.length bq, .slice bi e.Prefix.length bj, .slice bP e.Last.length bQ, .slice bt e.Right.length bu, .slice bv e.Rules.length bw, .int .i64 e.Done] 29 (0, 0))] ++ A) w bP bQ e.Last ∧ ISl (Rp.sl (Rp.int .i64)) (bl [.blk iP (.cells #[.int .i64 k2_37, .bool b2_38, .slice p43 n45 c44, .slice p49 n51 c50, .slice p55 n57 c56, .slice p61 n63 c62, .slice p67 n69 c68, .slice p73 n75 c74, .int .i64 k2_39, .map (some b9), .slice p79 n81 c80, .slice p85 n87 c86, .slice p91 n93 c92] 72 (0, 0)), .row 26 1 p43 n45 c44 eB, .row 26 1 p49 n51 c50 eC, .row 3 1 p55 n57 c56 jR, .row 3 1 p61 n63 c62 jS, .row 26 1 p67 n69 c68 jh, .row 39 2 p73 n75 c74 jT, .row 9 1 p79 n81 c80 jU, .row 3 1 p85 n87 c86 jV, .row 3 1 p91 n93 c92 jW, .any (mapE (fun a : List UInt8 => Value.string (gstr a)) (fun a : Int => Value.int .i64 a) b9 m2_94), .blk B2 (.cells #[.int .i64 e.Points, .bool e.Monoid, .slice bY e.Gens.length bZ, .slice bp e.Elems.length bq, .slice bi e.Prefix.length bj, .slice bP e.Last.length bQ, .slice bt e.Right.length bu, .slice bv e.Rules.length bw, .int .i64 e.Done] 29 (0, 0))] ++ A) w bt bu e.Right ∧ ISl (rpRule) (bl [.blk iP (.cells #[.int .i64 k2_37, .bool b2_38, .slice p43 n45 c44, .slice p49 n51 c50, .slice p55 n57 c56, .slice p61 n63 c62, .slice p67 n69 c68, .slice p73 n75 c74, .int .i64 k2_39, .map (some b9), .slice p79 n81 c80, .slice p85 n87 c86, .slice p91 n93 c92] 72 (0, 0)), .row 26 1 p43 n45 c44 eB, .row 26 1 p49 n51 c50 eC, .row 3 1 p55 n57 c56 jR, .row 3 1 p61 n63 c62 jS, .row 26 1 p67 n69 c68 jh, .row 39 2 p73 n75 c74 jT, .row 9 1 p79 n81 c80 jU, .row 3 1 p85 n87 c86 jV, .row 3 1 p91 n93 c92 jW, .any (mapE (fun a : List UInt8 => Value.string (gstr a)) (fun a : Int => Value.int .i64 a) b9 m2_94), .blk B2 (.cells #[.int .i64 e.Points, .bool e.Monoid, .slice bY e.Gens.length bZ, .slice bp e.Elems.length bq, .slice bi e.Prefix.length bj, .slice bP e.Last.length bQ, .slice bt e.Right.length bu, .slice bv e.Rules.length bw, .int .i64 e.Done] 29 (0, 0))] ++ A) w bv bw e.Rules ∧ Fr (bl []) w0 (bl [.blk iP (.cells #[.int .i64 k2_37, .bool b2_38, .slice p43 n45 c44, .slice p49 n51 c50, .slice p55 n57 c56, .slice p61 n63 c62, .slice p67 n69 c68, .slice p73 n75 c74, .int .i64 k2_39, .map (some b9), .slice p79 n81 c80, .slice p85 n87 c86, .slice p91 n93 c92] 72 (0, 0)), .row 26 1 p43 n45 c44 eB, .row 26 1 p49 n51 c50 eC, .row 3 1 p55 n57 c56 jR, .row 3 1 p61 n63 c62 jS, .row 26 1 p67 n69 c68 jh, .row 39 2 p73 n75 c74 jT, .row 9 1 p79 n81 c80 jU, .row 3 1 p85 n87 c86 jV, .row 3 1 p91 n93 c92 jW, .any (mapE (fun a : List UInt8 => Value.string (gstr a)) (fun a : Int => Value.int .i64 a) b9 m2_94), .blk B2 (.cells #[.int .i64 e.Points, .bool e.Monoid, .slice bY e.Gens.length bZ, .slice bp e.Elems.length bq, .slice bi e.Prefix.length bj, .slice bP e.Last.length bQ, .slice bt e.Right.length bu, .slice bv e.Rules.length bw, .int .i64 e.Done] 29 (0, 0))]) w) H ⟨yf, yg, yh, xM, xN, xO, xP, xd, xe, xg, xh, wl, yi, yj, yk, xQ, xR, xS, xT, xi, xU, xV, xW, xj, Au, Aw, Ax, zl, zm, zn, zo, zd, zp, zq, zr, zf, ⟨rfl, rfl, trivial⟩, hO, ra, pK, oA, rb, pM, pN, tu, sK, sL, aZ, aU, aK, a5, aV, aW, hB⟩ ?_
    intro X2
    refine prE fun k2_37 => prE fun b2_38 => prE fun k2_39 => prE fun d_40 => prE fun d_46 => prE fun d_52 => prE fun d_58 => prE fun d_64 => prE fun d_70 => prE fun d_76 => prE fun d_82 => prE fun d_88 => fun m2_94 => ?_
    intro H hX2 σ w36
    refine exE fun n45 => exE fun p43 => exE fun c44 => exE fun eB => exE fun n51 => exE fun p49 => exE fun c50 => exE fun eC => exE fun n57 => exE fun p55 => exE fun c56 => exE fun jR => exE fun n63 => exE fun p61 => exE fun c62 => exE fun jS => exE fun n69 => exE fun p67 => exE fun c68 => exE fun jh => exE fun n75 => exE fun p73 => exE fun c74 => exE fun jT => exE fun n81 => exE fun p79 => exE fun c80 => exE fun jU => exE fun n87 => exE fun p85 => exE fun c86 => exE fun jV => exE fun n93 => exE fun p91 => exE fun c92 => exE fun jW => andE fun hag => andE fun hO => andE fun bN => andE fun bB => andE fun dN => andE fun dO => andE fun dP => andE fun dQ => andE fun dR => andE fun dS => andE fun dD => andE fun aZ => andE fun aU => andE fun aK => andE fun a5 => andE fun aV => andE fun aW => fun hB => ?_
    dsimp only at H
    refine Go1.keep [(1, .pointer (some ⟨B2, 0, none⟩)), (4, .pointer (some ⟨iP, 0, none⟩))] hag ?_
    refine Go1.seq ?_
    refine Go1.seq ?_
    refine Go1.drawS 0 [(0, .pure), (1, .pure), (2, .pure), (3, .pure), (4, .stable), (5, .pure), (6, .stable), (7, .pure)] mixed (by kernel_rfl) ?_
    intro w95 J4
    have gs := Stp.same hO J4
    replace bN := bN.ch gs.ch
    replace bB := bB.ch gs.ch
    replace dN := dN.ch gs.ch
    replace dO := dO.ch gs.ch
    replace dP := dP.ch gs.ch
    replace dQ := dQ.ch gs.ch
    replace dR := dR.ch gs.ch
    replace dS := dS.ch gs.ch
    replace dD := dD.ch gs.ch
    replace hO := gs.own
    replace aZ := aZ.ch gs.ch
    replace aU := aU.ch gs.ch
    replace aK := aK.ch gs.ch
    replace a5 := a5.ch gs.ch
    replace aV := aV.ch gs.ch
    replace aW := aW.ch gs.ch
    replace hB := hB.trans gs.fr
    refine GoQ.pure rfl (op_move rfl) rfl rfl ?_
    refine GoQ.pure rfl (op_nilCheck rfl) rfl rfl ?_
    refine GoQ.pure rfl (op_fieldAddr Try.underlying72 rfl ti29 rfl (by decide)) rfl rfl ?_
    refine GoQ.pure rfl (op_fieldAddr Try.underlying29 rfl ti3 rfl (by decide)) rfl rfl ?_
    refine GoQ.stable rfl (oblk (i := 8) 0 hO rfl rfl Try.underlying3 rfl rfl) rfl rfl ?_
    refine GoQ.pure rfl (op_fieldAddr Try.underlying29 rfl ti3 rfl (by decide)) rfl rfl ?_
    refine GoQ.stable rfl (oblk (i := 8) 11 hO rfl rfl Try.underlying3 rfl rfl) rfl rfl ?_
    by_cases h98 : k2_39 < e.Done
    ·replace H := ifp h98 H
     refine GoQ.pure rfl (fun w => opB (op_lss rfl rfl w) (decide_eq_true h98)) rfl rfl ?_
     refine GoQ.nil ?_
     refine Go1.condT rfl rfl ?_
     refine Go1.skip ?_
     refine Go1.block ?_
     refine Go1.seq ?_
     refine Go1.region ?_
     refine GoR.op ((op_move rfl) _) rfl rfl ?_
     refine GoR.inl (vs := [.pointer (some ⟨iP, 0, none⟩)]) (caps := []) rfl rfl body50 Try.func50 rfl Try.ntmps50 rfl rfl rfl ?_
     intro RhR99 hR99
     refine Go1.seq ?_
     refine Go1.region ?_
     refine GoR.op ((op_assign rfl) _) rfl rfl ?_
     refine GoR.nil ?_
     refine Go1.seq ?_
     refine Go1.drawS 0 [(0, .pure), (1, .pure), (2, .pure), (3, .pure), (4, .stable), (5, .pure), (6, .pure), (7, .pure), (8, .pure), (9, .stable), (10, .pure), (11, .pure), (12, .pure)] mixed (by kernel_rfl) ?_
     intro zg HJ
     have mc := Stp.same hO HJ
     replace bN := bN.ch mc.ch
     replace bB := bB.ch mc.ch
     replace dN := dN.ch mc.ch
     replace dO := dO.ch mc.ch
     replace dP := dP.ch mc.ch
     replace dQ := dQ.ch mc.ch
     replace dR := dR.ch mc.ch
     replace dS := dS.ch mc.ch
     replace dD := dD.ch mc.ch
     replace hO := mc.own
     replace aZ := aZ.ch mc.ch
     replace aU := aU.ch mc.ch
     replace aK := aK.ch mc.ch
     replace a5 := a5.ch mc.ch
     replace aV := aV.ch mc.ch
     replace aW := aW.ch mc.ch
     replace hB := hB.trans mc.fr
     refine GoQ.pure rfl (op_move rfl) rfl rfl ?_
     refine GoQ.pure rfl (op_nilCheck rfl) rfl rfl ?_
     refine GoQ.pure rfl (op_fieldAddr Try.underlying72 rfl ti29 rfl (by decide)) rfl rfl ?_
     refine GoQ.pure rfl (op_fieldAddr Try.underlying29 rfl ti3 rfl (by decide)) rfl rfl ?_
     refine GoQ.stable rfl (oblk (i := 8) 0 hO rfl rfl Try.underlying3 rfl rfl) rfl rfl ?_
     refine GoQ.pure rfl (op_move rfl) rfl rfl ?_
     refine GoQ.pure rfl (op_nilCheck rfl) rfl rfl ?_
     refine GoQ.pure rfl (op_fieldAddr Try.underlying72 rfl ti29 rfl (by decide)) rfl rfl ?_
     refine GoQ.pure rfl (op_fieldAddr Try.underlying29 rfl ti22 rfl (by decide)) rfl rfl ?_
     refine GoQ.stable rfl (oblk (i := 3) 0 hO rfl rfl Try.underlying22 rfl rfl) rfl rfl ?_
     refine GoQ.pure rfl (op_lenN Try.underlying22 rfl (bB.neq hO 2 rfl)) rfl rfl ?_
     by_cases uG : k2_39 = (d_46.length : Int)
     ·replace H := ifp uG H
      refine GoQ.pure rfl (fun w => opB (op_eql rfl rfl w) (decide_eq_true uG)) rfl rfl ?_
      refine GoQ.pure rfl (op_assign rfl) rfl rfl ?_
      refine GoQ.nil ?_
      refine Go1.ret1V Try.func50 rfl (show _ = .bool true from rfl) ?_
      refine hR99 _ _ ?_
      refine GoR.op ((op_move rfl) _) rfl rfl ?_
      refine GoR.pass rfl rfl ?_
      refine GoR.pass rfl rfl ?_
      refine GoR.pass rfl rfl ?_
      refine GoR.op ((op_pickT rfl rfl rfl) _) rfl rfl ?_
      refine GoR.nil ?_
      refine Go1.condT rfl rfl ?_
      refine Go1.seq ?_
      refine Go1.cut [] trivial ?_
      intro σ _
      refine Go1.region ?_
      refine GoR.op ((op_assign rfl) _) rfl rfl ?_
      refine GoR.op ((op_assign rfl) _) rfl rfl ?_
      refine GoR.nil ?_
      refine Go1.ret2 Try.func53 rfl ?_
      exact Or.inl ⟨false, rfl, hB.same, H⟩
     replace H := ifn uG H
     refine GoQ.pure rfl (fun w => opB (op_eql rfl rfl w) (decide_eq_false uG)) rfl rfl ?_
     refine GoQ.pure rfl (op_assign rfl) rfl rfl ?_
     refine GoQ.nil ?_
     refine Go1.ret1V Try.func50 rfl (show _ = .bool false from rfl) ?_
     refine hR99 _ _ ?_
     refine GoR.op ((op_move rfl) _) rfl rfl ?_
     refine GoR.op ((op_move rfl) _) rfl rfl ?_
     have Cl : Owns w0.heap.size zg ([.blk iP (.cells #[.int .i64 k2_37, .bool b2_38, .slice p43 n45 c44, .slice p49 n51 c50, .slice p55 n57 c56, .slice p61 n63 c62, .slice p67 n69 c68, .slice p73 n75 c74, .int .i64 k2_39, .map (some b9), .slice p79 n81 c80, .slice p85 n87 c86, .slice p91 n93 c92] 72 (0, 0)), .row 26 1 p43 n45 c44 eB, .row 26 1 p49 n51 c50 eC, .row 3 1 p55 n57 c56 jR, .row 3 1 p61 n63 c62 jS, .row 26 1 p67 n69 c68 jh, .row 39 2 p73 n75 c74 jT, .row 9 1 p79 n81 c80 jU, .row 3 1 p85 n87 c86 jV, .row 3 1 p91 n93 c92 jW, .any (mapE (fun a : List UInt8 => Value.string (gstr a)) (fun a : Int => Value.int .i64 a) b9 m2_94)] ++ [.blk B2 (.cells #[.int .i64 e.Points, .bool e.Monoid, .slice bY e.Gens.length bZ, .slice bp e.Elems.length bq, .slice bi e.Prefix.length bj, .slice bP e.Last.length bQ, .slice bt e.Right.length bu, .slice bv e.Rules.length bw, .int .i64 e.Done] 29 (0, 0))]) A := hO
     have HK := Owns.split Cl
     have hca106 : Ch (bl [.blk iP (.cells #[.int .i64 k2_37, .bool b2_38, .slice p43 n45 c44, .slice p49 n51 c50, .slice p55 n57 c56, .slice p61 n63 c62, .slice p67 n69 c68, .slice p73 n75 c74, .int .i64 k2_39, .map (some b9), .slice p79 n81 c80, .slice p85 n87 c86, .slice p91 n93 c92] 72 (0, 0)), .row 26 1 p43 n45 c44 eB, .row 26 1 p49 n51 c50 eC, .row 3 1 p55 n57 c56 jR, .row 3 1 p61 n63 c62 jS, .row 26 1 p67 n69 c68 jh, .row 39 2 p73 n75 c74 jT, .row 9 1 p79 n81 c80 jU, .row 3 1 p85 n87 c86 jV, .row 3 1 p91 n93 c92 jW, .any (mapE (fun a : List UInt8 => Value.string (gstr a)) (fun a : Int => Value.int .i64 a) b9 m2_94), .blk B2 (.cells #[.int .i64 e.Points, .bool e.Monoid, .slice bY e.Gens.length bZ, .slice bp e.Elems.length bq, .slice bi e.Prefix.length bj, .slice bP e.Last.length bQ, .slice bt e.Right.length bu, .slice bv e.Rules.length bw, .int .i64 e.Done] 29 (0, 0))] ++ A) zg (bl [.blk iP (.cells #[.int .i64 k2_37, .bool b2_38, .slice p43 n45 c44, .slice p49 n51 c50, .slice p55 n57 c56, .slice p61 n63 c62, .slice p67 n69 c68, .slice p73 n75 c74, .int .i64 k2_39, .map (some b9), .slice p79 n81 c80, .slice p85 n87 c86, .slice p91 n93 c92] 72 (0, 0)), .row 26 1 p43 n45 c44 eB, .row 26 1 p49 n51 c50 eC, .row 3 1 p55 n57 c56 jR, .row 3 1 p61 n63 c62 jS, .row 26 1 p67 n69 c68 jh, .row 39 2 p73 n75 c74 jT, .row 9 1 p79 n81 c80 jU, .row 3 1 p85 n87 c86 jV, .row 3 1 p91 n93 c92 jW, .any (mapE (fun a : List UInt8 => Value.string (gstr a)) (fun a : Int => Value.int .i64 a) b9 m2_94)] ++ (bl [.blk B2 (.cells #[.int .i64 e.Points, .bool e.Monoid, .slice bY e.Gens.length bZ, .slice bp e.Elems.length bq, .slice bi e.Prefix.length bj, .slice bP e.Last.length bQ, .slice bt e.Right.length bu, .slice bv e.Rules.length bw, .int .i64 e.Done] 29 (0, 0))] ++ A)) zg := Ch.assoc' [.blk iP (.cells #[.int .i64 k2_37, .bool b2_38, .slice p43 n45 c44, .slice p49 n51 c50, .slice p55 n57 c56, .slice p61 n63 c62, .slice p67 n69 c68, .slice p73 n75 c74, .int .i64 k2_39, .map (some b9), .slice p79 n81 c80, .slice p85 n87 c86, .slice p91 n93 c92] 72 (0, 0)), .row 26 1 p43 n45 c44 eB, .row 26 1 p49 n51 c50 eC, .row 3 1 p55 n57 c56 jR, .row 3 1 p61 n63 c62 jS, .row 26 1 p67 n69 c68 jh, .row 39 2 p73 n75 c74 jT, .row 9 1 p79 n81 c80 jU, .row 3 1 p85 n87 c86 jV, .row 3 1 p91 n93 c92 jW, .any (mapE (fun a : List UInt8 => Value.string (gstr a)) (fun a : Int => Value.int .i64 a) b9 m2_94)] [.blk B2 (.cells #[.int .i64 e.Points, .bool e.Monoid, .slice bY e.Gens.length bZ, .slice bp e.Elems.length bq, .slice bi e.Prefix.length bj, .slice bP e.Last.length bQ, .slice bt e.Right.length bu, .slice bv e.Rules.length bw, .int .i64 e.Done] 29 (0, 0))] A zg
     refine GoR.call (op_call body51 rfl (walk_enumerate_run_process (a0 := (⟨(⟨k2_37, b2_38, d_40, d_46, d_52, d_58, d_64, d_70, k2_39⟩ : Enum), m2_94, d_76, d_82, d_88⟩ : run)) HK (bN.ch hca106) (bB.ch hca106) (dN.ch hca106) (dO.ch hca106) (dP.ch hca106) (dQ.ch hca106) (dR.ch hca106) (dS.ch hca106) (dD.ch hca106) H)) rfl rfl ?_
     intro OH x4
     refine exE fun r107 => exE fun q108 => exE fun ii => exE fun ik => exE fun io => exE fun m9 => exE fun gD => exE fun gE => exE fun gF => exE fun me => exE fun f6 => exE fun f7 => exE fun f8 => exE fun ly => exE fun ip => exE fun iq => exE fun ir => exE fun na => exE fun gG => exE fun gH => exE fun gI => exE fun mf => exE fun gJ => exE fun gK => exE fun gL => exE fun mg => exE fun kM => exE fun kN => exE fun kO => exE fun qB => exE fun jy => exE fun jz => exE fun jA => exE fun oY => exE fun jB => exE fun jC => exE fun jD => exE fun oZ => andE fun hv114 => andE fun hN111 => andE fun rR => andE fun ru => andE fun qN => andE fun rS => andE fun rv => andE fun ry => andE fun tJ => andE fun sX => andE fun sY => andE fun hF112 => fun H => ?_
     subst hv114
     have tB : Stp w0.heap.size A zg [.blk iP (.cells #[.int .i64 k2_37, .bool b2_38, .slice p43 n45 c44, .slice p49 n51 c50, .slice p55 n57 c56, .slice p61 n63 c62, .slice p67 n69 c68, .slice p73 n75 c74, .int .i64 k2_39, .map (some b9), .slice p79 n81 c80, .slice p85 n87 c86, .slice p91 n93 c92] 72 (0, 0)), .row 26 1 p43 n45 c44 eB, .row 26 1 p49 n51 c50 eC, .row 3 1 p55 n57 c56 jR, .row 3 1 p61 n63 c62 jS, .row 26 1 p67 n69 c68 jh, .row 39 2 p73 n75 c74 jT, .row 9 1 p79 n81 c80 jU, .row 3 1 p85 n87 c86 jV, .row 3 1 p91 n93 c92 jW, .any (mapE (fun a : List UInt8 => Value.string (gstr a)) (fun a : Int => Value.int .i64 a) b9 m2_94), .blk B2 (.cells #[.int .i64 e.Points, .bool e.Monoid, .slice bY e.Gens.length bZ, .slice bp e.Elems.length bq, .slice bi e.Prefix.length bj, .slice bP e.Last.length bQ, .slice bt e.Right.length bu, .slice bv e.Rules.length bw, .int .i64 e.Done] 29 (0, 0))] x4 [.blk iP (.cells #[.int .i64 q108.Enum.Points, .bool q108.Enum.Monoid, .slice ik ii io, .slice gE gD gF, .slice f7 f6 f8, .slice iq ip ir, .slice gH gG gI, .slice gK gJ gL, .int .i64 q108.Enum.Done, .map (some b9), .slice kN kM kO, .slice jz jy jA, .slice jC jB jD] 72 (0, 0)), .row 26 1 ik ii io m9, .row 26 1 gE gD gF me, .row 3 1 f7 f6 f8 ly, .row 3 1 iq ip ir na, .row 26 1 gH gG gI mf, .row 39 2 gK gJ gL mg, .row 9 1 kN kM kO qB, .row 3 1 jz jy jA oY, .row 3 1 jC jB jD oZ, .any (mapE (fun a : List UInt8 => Value.string (gstr a)) (fun a : Int => Value.int .i64 a) b9 q108.number), .blk B2 (.cells #[.int .i64 e.Points, .bool e.Monoid, .slice bY e.Gens.length bZ, .slice bp e.Elems.length bq, .slice bi e.Prefix.length bj, .slice bP e.Last.length bQ, .slice bt e.Right.length bu, .slice bv e.Rules.length bw, .int .i64 e.Done] 29 (0, 0))] := Stp.join Cl hN111 hF112
     replace hO := tB.own
     replace aZ := aZ.ch tB.ch
     replace aU := aU.ch tB.ch
     replace aK := aK.ch tB.ch
     replace a5 := a5.ch tB.ch
     replace aV := aV.ch tB.ch
     replace aW := aW.ch tB.ch
     replace hB := hB.trans tB.fr
     have hca115 : Ch (bl [.blk iP (.cells #[.int .i64 q108.Enum.Points, .bool q108.Enum.Monoid, .slice ik ii io, .slice gE gD gF, .slice f7 f6 f8, .slice iq ip ir, .slice gH gG gI, .slice gK gJ gL, .int .i64 q108.Enum.Done, .map (some b9), .slice kN kM kO, .slice jz jy jA, .slice jC jB jD] 72 (0, 0)), .row 26 1 ik ii io m9, .row 26 1 gE gD gF me, .row 3 1 f7 f6 f8 ly, .row 3 1 iq ip ir na, .row 26 1 gH gG gI mf, .row 39 2 gK gJ gL mg, .row 9 1 kN kM kO qB, .row 3 1 jz jy jA oY, .row 3 1 jC jB jD oZ, .any (mapE (fun a : List UInt8 => Value.string (gstr a)) (fun a : Int => Value.int .i64 a) b9 q108.number)] ++ (bl [.blk B2 (.cells #[.int .i64 e.Points, .bool e.Monoid, .slice bY e.Gens.length bZ, .slice bp e.Elems.length bq, .slice bi e.Prefix.length bj, .slice bP e.Last.length bQ, .slice bt e.Right.length bu, .slice bv e.Rules.length bw, .int .i64 e.Done] 29 (0, 0))] ++ A)) x4 (bl [.blk iP (.cells #[.int .i64 q108.Enum.Points, .bool q108.Enum.Monoid, .slice ik ii io, .slice gE gD gF, .slice f7 f6 f8, .slice iq ip ir, .slice gH gG gI, .slice gK gJ gL, .int .i64 q108.Enum.Done, .map (some b9), .slice kN kM kO, .slice jz jy jA, .slice jC jB jD] 72 (0, 0)), .row 26 1 ik ii io m9, .row 26 1 gE gD gF me, .row 3 1 f7 f6 f8 ly, .row 3 1 iq ip ir na, .row 26 1 gH gG gI mf, .row 39 2 gK gJ gL mg, .row 9 1 kN kM kO qB, .row 3 1 jz jy jA oY, .row 3 1 jC jB jD oZ, .any (mapE (fun a : List UInt8 => Value.string (gstr a)) (fun a : Int => Value.int .i64 a) b9 q108.number), .blk B2 (.cells #[.int .i64 e.Points, .bool e.Monoid, .slice bY e.Gens.length bZ, .slice bp e.Elems.length bq, .slice bi e.Prefix.length bj, .slice bP e.Last.length bQ, .slice bt e.Right.length bu, .slice bv e.Rules.length bw, .int .i64 e.Done] 29 (0, 0))] ++ A) x4 := Ch.assoc [.blk iP (.cells #[.int .i64 q108.Enum.Points, .bool q108.Enum.Monoid, .slice ik ii io, .slice gE gD gF, .slice f7 f6 f8, .slice iq ip ir, .slice gH gG gI, .slice gK gJ gL, .int .i64 q108.Enum.Done, .map (some b9), .slice kN kM kO, .slice jz jy jA, .slice jC jB jD] 72 (0, 0)), .row 26 1 ik ii io m9, .row 26 1 gE gD gF me, .row 3 1 f7 f6 f8 ly, .row 3 1 iq ip ir na, .row 26 1 gH gG gI mf, .row 39 2 gK gJ gL mg, .row 9 1 kN kM kO qB, .row 3 1 jz jy jA oY, .row 3 1 jC jB jD oZ, .any (mapE (fun a : List UInt8 => Value.string (gstr a)) (fun a : Int => Value.int .i64 a) b9 q108.number)] [.blk B2 (.cells #[.int .i64 e.Points, .bool e.Monoid, .slice bY e.Gens.length bZ, .slice bp e.Elems.length bq, .slice bi e.Prefix.length bj, .slice bP e.Last.length bQ, .slice bt e.Right.length bu, .slice bv e.Rules.length bw, .int .i64 e.Done] 29 (0, 0))] A x4
     replace rR := rR.ch hca115
     replace ru := ru.ch hca115
     replace qN := qN.ch hca115
     replace rS := rS.ch hca115
     replace rv := rv.ch hca115
     replace ry := ry.ch hca115
     replace tJ := tJ.ch hca115
     replace sX := sX.ch hca115
     replace sY := sY.ch hca115
     by_cases qE : r107 = (0 : Int)
     ·replace H := ifp qE H
      refine GoR.op ((fun w => opB (op_neq rfl rfl w) (ndT qE)) _) rfl rfl ?_
      refine GoR.op ((op_pickF rfl rfl rfl) _) rfl rfl ?_
      refine GoR.nil ?_
      refine Go1.condF rfl rfl ?_
      refine Go1.skip ?_
      refine Go1.inBlock ?_
      exact hX2 _ H _ _ ⟨ii, ik, io, m9, gD, gE, gF, me, f6, f7, f8, ly, ip, iq, ir, na, gG, gH, gI, mf, gJ, gK, gL, mg, kM, kN, kO, qB, jy, jz, jA, oY, jB, jC, jD, oZ, ⟨rfl, rfl, trivial⟩, hO, rR, ru, qN, rS, rv, ry, tJ, sX, sY, aZ, aU, aK, a5, aV, aW, hB⟩
     replace H := ifn qE H
     refine GoR.op ((fun w => opB (op_neq rfl rfl w) (ndF qE)) _) rfl rfl ?_
     refine GoR.op ((op_pickF rfl rfl rfl) _) rfl rfl ?_
     refine GoR.nil ?_
     refine Go1.condT rfl rfl ?_
     refine Go1.seq ?_
     refine Go1.region ?_
     refine GoR.op ((op_assign rfl) _) rfl rfl ?_
     refine GoR.op ((op_assign rfl) _) rfl rfl ?_
     refine GoR.nil ?_
     refine Go1.ret2 Try.func53 rfl ?_
     exact Or.inl ⟨false, rfl, hB.same, H⟩
    replace H := ifn h98 H
    refine GoQ.pure rfl (fun w => opB (op_lss rfl rfl w) (decide_eq_false h98)) rfl rfl ?_
    refine GoQ.nil ?_
    refine Go1.condF rfl rfl ?_
    refine Go1.exit rfl ?_
    refine Go1.seq ?_
    refine Go1.region ?_
    refine GoR.op ((op_move rfl) _) rfl rfl ?_
    refine GoR.op ((op_move rfl) _) rfl rfl ?_
    refine GoR.op ((oblkAgg (vs := [.int .i64 e.Points, .bool e.Monoid, .slice bY e.Gens.length bZ, .slice bp e.Elems.length bq, .slice bi e.Prefix.length bj, .slice bP e.Last.length bQ, .slice bt e.Right.length bu, .slice bv e.Rules.length bw, .int .i64 e.Done]) (i := 0) 11 hO rfl rfl Try.underlying29 rfl ti29 rfl) _ (Same.refl _)) rfl rfl ?_
    refine GoR.inl (vs := [.pointer (some ⟨iP, 0, none⟩), .agg #[.int .i64 e.Points, .bool e.Monoid, .slice bY e.Gens.length bZ, .slice bp e.Elems.length bq, .slice bi e.Prefix.length bj, .slice bP e.Last.length bQ, .slice bt e.Right.length bu, .slice bv e.Rules.length bw, .int .i64 e.Done]]) (caps := []) rfl rfl body68 Try.func68 rfl Try.ntmps68 rfl rfl rfl ?_
    intro RhR117 hR117
    refine Go1.seq ?_
    refine Go1.region ?_
    have hobt := obox (t := 29) (v := .agg #[.int .i64 e.Points, .bool e.Monoid, .slice bY e.Gens.length bZ, .slice bp e.Elems.length bq, .slice bi e.Prefix.length bj, .slice bP e.Last.length bQ, .slice bt e.Right.length bu, .slice bv e.Rules.length bw, .int .i64 e.Done]) (cs := #[.int .i64 e.Points, .bool e.Monoid, .slice bY e.Gens.length bZ, .slice bp e.Elems.length bq, .slice bi e.Prefix.length bj, .slice bP e.Last.length bQ, .slice bt e.Right.length bu, .slice bv e.Rules.length bw, .int .i64 e.Done]) hO rfl
    obtain ⟨OI, B119, mh, B5, EB⟩ := hobt
    refine GoR.op (EB rfl) rfl rfl ?_
    replace bN := bN.ch mh.ch
    replace bB := bB.ch mh.ch
    replace dN := dN.ch mh.ch
    replace dO := dO.ch mh.ch
    replace dP := dP.ch mh.ch
    replace dQ := dQ.ch mh.ch
    replace dR := dR.ch mh.ch
    replace dS := dS.ch mh.ch
    replace dD := dD.ch mh.ch
    replace hO := mh.own
    replace aZ := aZ.ch mh.ch
    replace aU := aU.ch mh.ch
    replace aK := aK.ch mh.ch
    replace a5 := a5.ch mh.ch
    replace aV := aV.ch mh.ch
    replace aW := aW.ch mh.ch
    replace hB := hB.trans mh.fr
    refine GoR.op ((op_assign rfl) _) rfl rfl ?_
    refine GoR.nil ?_
    refine Go1.seq ?_
    refine Go1.drawS 0 [(0, .pure), (1, .pure), (2, .pure), (3, .pure), (4, .stable), (5, .pure), (6, .stable), (7, .pure), (8, .pure), (9, .pure), (10, .pure), (11, .pure), (12, .pure), (13, .stable), (14, .pure), (15, .stable), (16, .pure), (17, .pure), (18, .pure), (19, .pure), (20, .pure), (21, .pure), (22, .pure), (23, .stable), (24, .pure), (25, .stable), (26, .loud), (27, .pure), (28, .pure), (29, .pure), (30, .pure), (31, .pure), (32, .pure), (33, .stable), (34, .pure), (35, .stable), (36, .loud), (37, .pure), (38, .pure), (39, .pure), (40, .pure), (41, .pure), (42, .pure), (43, .stable), (44, .pure), (45, .stable), (46, .loud), (47, .pure), (48, .pure), (49, .pure), (50, .pure), (51, .pure), (52, .pure), (53, .stable), (54, .pure), (55, .stable), (56, .loud), (57, .pure), (58, .pure), (59, .pure), (60, .pure), (61, .pure), (62, .pure), (63, .stable), (64, .pure), (65, .stable), (66, .loud), (67, .pure), (68, .pure)] mixed (by kernel_rfl) ?_
    intro OJ HL
    have mj := Stp.same hO HL
    replace bN := bN.ch mj.ch
    replace bB := bB.ch mj.ch
    replace dN := dN.ch mj.ch
    replace dO := dO.ch mj.ch
    replace dP := dP.ch mj.ch
    replace dQ := dQ.ch mj.ch
    replace dR := dR.ch mj.ch
    replace dS := dS.ch mj.ch
    replace dD := dD.ch mj.ch
    replace hO := mj.own
    replace aZ := aZ.ch mj.ch
    replace aU := aU.ch mj.ch
    replace aK := aK.ch mj.ch
    replace a5 := a5.ch mj.ch
    replace aV := aV.ch mj.ch
    replace aW := aW.ch mj.ch
    replace hB := hB.trans mj.fr
    refine GoQ.pure rfl (op_move rfl) rfl rfl ?_
    refine GoQ.pure rfl (op_nilCheck rfl) rfl rfl ?_
    refine GoQ.pure rfl (op_fieldAddr Try.underlying72 rfl ti29 rfl (by decide)) rfl rfl ?_
    refine GoQ.pure rfl (op_fieldAddr Try.underlying29 rfl ti3 rfl (by decide)) rfl rfl ?_
    refine GoQ.stable rfl (oblk (i := 0) 1 hO rfl rfl Try.underlying3 rfl rfl) rfl rfl ?_
    refine GoQ.pure rfl (op_fieldAddr Try.underlying29 rfl ti3 rfl (by decide)) rfl rfl ?_
    refine GoQ.stable rfl (oblk (i := 0) 0 hO rfl rfl Try.underlying3 rfl rfl) rfl rfl ?_
    by_cases tF : k2_37 = e.Points
    ·replace H := ifp tF H
     refine GoQ.pure rfl (fun w => opB (op_eql rfl rfl w) (decide_eq_true tF)) rfl rfl ?_
     refine GoQ.pure rfl (op_move rfl) rfl rfl ?_
     refine GoQ.pure rfl (op_move rfl) rfl rfl ?_
     refine GoQ.pure rfl (op_nilCheck rfl) rfl rfl ?_
     refine GoQ.pure rfl (op_fieldAddr Try.underlying72 rfl ti29 rfl (by decide)) rfl rfl ?_
     refine GoQ.pure rfl (op_fieldAddr Try.underlying29 rfl ti3 rfl (by decide)) rfl rfl ?_
     refine GoQ.stable rfl (oblk (i := 8) 1 hO rfl rfl Try.underlying3 rfl rfl) rfl rfl ?_
     refine GoQ.pure rfl (op_fieldAddr Try.underlying29 rfl ti3 rfl (by decide)) rfl rfl ?_
     refine GoQ.stable rfl (oblk (i := 8) 0 hO rfl rfl Try.underlying3 rfl rfl) rfl rfl ?_
     by_cases vE : k2_39 = e.Done
     ·replace H := ifp vE H
      refine GoQ.pure rfl (fun w => opB (op_eql rfl rfl w) (decide_eq_true vE)) rfl rfl ?_
      refine GoQ.pure rfl (op_pickT rfl rfl rfl) rfl rfl ?_
      refine GoQ.pure rfl (op_move rfl) rfl rfl ?_
      refine GoQ.pure rfl (op_move rfl) rfl rfl ?_
      refine GoQ.pure rfl (op_nilCheck rfl) rfl rfl ?_
      refine GoQ.pure rfl (op_fieldAddr Try.underlying72 rfl ti29 rfl (by decide)) rfl rfl ?_
      refine GoQ.pure rfl (op_fieldAddr Try.underlying29 rfl ti22 rfl (by decide)) rfl rfl ?_
      refine GoQ.stable rfl (oblk (i := 3) 1 hO rfl rfl Try.underlying22 rfl rfl) rfl rfl ?_
      refine GoQ.pure rfl (op_fieldAddr Try.underlying29 rfl ti22 rfl (by decide)) rfl rfl ?_
      refine GoQ.stable rfl (oblk (i := 3) 0 hO rfl rfl Try.underlying22 rfl rfl) rfl rfl ?_
      have hobt := rowlend 3 hO rfl bB
      obtain ⟨HM, HN⟩ := hobt
      have hOc131 := hO.drop 3
      refine GoQ.call rfl (op_call body69 (show ([.slice p49 n51 c50, .slice bp e.Elems.length bq, .func (.func 70) #[] #[]] : List Value) = [.slice p49 d_46.length c50, .slice bp e.Elems.length bq, .func (.func 70) #[] #[]] from by rw [← HN]) (walk_slices_EqualFunc_int hOc131.lt HM (aU.ch (Owns.dropCh _ _ 3)) H)) (fun v w hr => by obtain ⟨_, _, hs, _⟩ := hr; assumption) rfl rfl ?_
      rintro OK OL ⟨r132, rfl, HO, H⟩
      have ml := Stp.same hO HO
      replace bN := bN.ch ml.ch
      replace bB := bB.ch ml.ch
      replace dN := dN.ch ml.ch
      replace dO := dO.ch ml.ch
      replace dP := dP.ch ml.ch
      replace dQ := dQ.ch ml.ch
      replace dR := dR.ch ml.ch
      replace dS := dS.ch ml.ch
      replace dD := dD.ch ml.ch
      replace hO := ml.own
      replace aZ := aZ.ch ml.ch
      replace aU := aU.ch ml.ch
      replace aK := aK.ch ml.ch
      replace a5 := a5.ch ml.ch
      replace aV := aV.ch ml.ch
      replace aW := aW.ch ml.ch
      replace hB := hB.trans ml.fr
      refine GoQ.pure rfl (op_pickT rfl rfl rfl) rfl rfl ?_
      refine GoQ.pure rfl (op_move rfl) rfl rfl ?_
      cases r132
      ·replace H := ifn Bool.false_ne_true H
       refine GoQ.pass rfl rfl rfl ?_
       refine GoQ.pass rfl rfl rfl ?_
       refine GoQ.pass rfl rfl rfl ?_
       refine GoQ.pass rfl rfl rfl ?_
       refine GoQ.pass rfl rfl rfl ?_
       refine GoQ.pass rfl rfl rfl ?_
       refine GoQ.pass rfl rfl rfl ?_
       refine GoQ.pass rfl rfl rfl ?_
       refine GoQ.pure rfl (op_pickF rfl rfl rfl) rfl rfl ?_
       refine GoQ.pure rfl (op_move rfl) rfl rfl ?_
       refine GoQ.pass rfl rfl rfl ?_
       refine GoQ.pass rfl rfl rfl ?_
       refine GoQ.pass rfl rfl rfl ?_
       refine GoQ.pass rfl rfl rfl ?_
       refine GoQ.pass rfl rfl rfl ?_
       refine GoQ.pass rfl rfl rfl ?_
       refine GoQ.pass rfl rfl rfl ?_
       refine GoQ.pass rfl rfl rfl ?_
       refine GoQ.pure rfl (op_pickF rfl rfl rfl) rfl rfl ?_
       refine GoQ.pure rfl (op_move rfl) rfl rfl ?_
       refine GoQ.pass rfl rfl rfl ?_
       refine GoQ.pass rfl rfl rfl ?_
       refine GoQ.pass rfl rfl rfl ?_
       refine GoQ.pass rfl rfl rfl ?_
       refine GoQ.pass rfl rfl rfl ?_
       refine GoQ.pass rfl rfl rfl ?_
       refine GoQ.pass rfl rfl rfl ?_
       refine GoQ.pass rfl rfl rfl ?_
       refine GoQ.pure rfl (op_pickF rfl rfl rfl) rfl rfl ?_
       refine GoQ.pure rfl (op_move rfl) rfl rfl ?_
       refine GoQ.pass rfl rfl rfl ?_
       refine GoQ.pass rfl rfl rfl ?_
       refine GoQ.pass rfl rfl rfl ?_
       refine GoQ.pass rfl rfl rfl ?_
       refine GoQ.pass rfl rfl rfl ?_
       refine GoQ.pass rfl rfl rfl ?_
       refine GoQ.pass rfl rfl rfl ?_
       refine GoQ.pass rfl rfl rfl ?_
       refine GoQ.pure rfl (op_pickF rfl rfl rfl) rfl rfl ?_
       refine GoQ.pure rfl (op_assign rfl) rfl rfl ?_
       refine GoQ.nil ?_
       refine Go1.ret1V Try.func68 rfl (show _ = .bool false from rfl) ?_
       refine hR117 _ _ ?_
       refine GoR.op ((op_assign rfl) _) rfl rfl ?_
       refine GoR.op ((op_assign rfl) _) rfl rfl ?_
       refine GoR.nil ?_
       replace aZ := aZ.ch (Owns.dropCh _ _ 0)
       replace aU := aU.ch (Owns.dropCh _ _ 0)
       replace aK := aK.ch (Owns.dropCh _ _ 0)
       replace a5 := a5.ch (Owns.dropCh _ _ 0)
       replace aV := aV.ch (Owns.dropCh _ _ 0)
       replace aW := aW.ch (Owns.dropCh _ _ 0)
       replace bN := bN.ch (Owns.dropCh _ _ 0)
       replace bB := bB.ch (Owns.dropCh _ _ 0)
       replace dN := dN.ch (Owns.dropCh _ _ 0)
       replace dO := dO.ch (Owns.dropCh _ _ 0)
       replace dP := dP.ch (Owns.dropCh _ _ 0)
       replace dQ := dQ.ch (Owns.dropCh _ _ 0)
       replace dR := dR.ch (Owns.dropCh _ _ 0)
       replace dS := dS.ch (Owns.dropCh _ _ 0)
       replace dD := dD.ch (Owns.dropCh _ _ 0)
       replace hB := hB.trans (Owns.dropFr _ _ 0)
       replace hO := hO.drop 0
       dsimp only [eS, eZ] at hB hO aZ aU aK a5 aV aW bN bB dN dO dP dQ dR dS dD
       replace aZ := aZ.ch (Owns.dropCh _ _ 11)
       replace aU := aU.ch (Owns.dropCh _ _ 11)
       replace aK := aK.ch (Owns.dropCh _ _ 11)
       replace a5 := a5.ch (Owns.dropCh _ _ 11)
       replace aV := aV.ch (Owns.dropCh _ _ 11)
       replace aW := aW.ch (Owns.dropCh _ _ 11)
       replace bN := bN.ch (Owns.dropCh _ _ 11)
       replace bB := bB.ch (Owns.dropCh _ _ 11)
       replace dN := dN.ch (Owns.dropCh _ _ 11)
       replace dO := dO.ch (Owns.dropCh _ _ 11)
       replace dP := dP.ch (Owns.dropCh _ _ 11)
       replace dQ := dQ.ch (Owns.dropCh _ _ 11)
       replace dR := dR.ch (Owns.dropCh _ _ 11)
       replace dS := dS.ch (Owns.dropCh _ _ 11)
       replace dD := dD.ch (Owns.dropCh _ _ 11)
       replace hB := hB.trans (Owns.dropFr _ _ 11)
       replace hO := hO.drop 11
       dsimp only [eS, eZ] at hB hO aZ aU aK a5 aV aW bN bB dN dO dP dQ dR dS dD
       refine Go1.ret2 Try.func53 rfl ?_
       exact Or.inr ⟨(⟨(⟨k2_37, b2_38, d_40, d_46, d_52, d_58, d_64, d_70, k2_39⟩ : Enum), m2_94, d_76, d_82, d_88⟩ : run), false, iP, n45, p43, c44, eB, n51, p49, c50, eC, n57, p55, c56, jR, n63, p61, c62, jS, n69, p67, c68, jh, n75, p73, c74, jT, b9, n81, p79, c80, jU, n87, p85, c86, jV, n93, p91, c92, jW, rfl, hB.same, hO, bN, bB, dN, dO, dP, dQ, dR, dS, dD, H⟩
      replace H := ifp rfl H
      refine GoQ.pure rfl (op_move rfl) rfl rfl ?_
      refine GoQ.pure rfl (op_nilCheck rfl) rfl rfl ?_
      refine GoQ.pure rfl (op_fieldAddr Try.underlying72 rfl ti29 rfl (by decide)) rfl rfl ?_
      refine GoQ.pure rfl (op_fieldAddr Try.underlying29 rfl ti26 rfl (by decide)) rfl rfl ?_
      refine GoQ.stable rfl (oblk (i := 4) 1 hO rfl rfl Try.underlying26 rfl rfl) rfl rfl ?_
      refine GoQ.pure rfl (op_fieldAddr Try.underlying29 rfl ti26 rfl (by decide)) rfl rfl ?_
      refine GoQ.stable rfl (oblk (i := 4) 0 hO rfl rfl Try.underlying26 rfl rfl) rfl rfl ?_
      have hobt := rowlend 4 hO rfl dN
      obtain ⟨HP, HQ⟩ := hobt
      have hOc140 := hO.drop 4
      refine GoQ.call rfl (op_call body70 (show ([.slice p55 n57 c56, .slice bi e.Prefix.length bj] : List Value) = [.slice p55 d_52.length c56, .slice bi e.Prefix.length bj] from by rw [← HQ]) (walk_slices_Equal_int hOc140.lt HP (aK.ch (Owns.dropCh _ _ 4)) H)) (fun v w hr => by obtain ⟨_, _, hs, _⟩ := hr; assumption) rfl rfl ?_
      rintro OM ON ⟨r141, rfl, HR, H⟩
      have mm := Stp.same hO HR
      replace bN := bN.ch mm.ch
      replace bB := bB.ch mm.ch
      replace dN := dN.ch mm.ch
      replace dO := dO.ch mm.ch
      replace dP := dP.ch mm.ch
      replace dQ := dQ.ch mm.ch
      replace dR := dR.ch mm.ch
      replace dS := dS.ch mm.ch
      replace dD := dD.ch mm.ch
      replace hO := mm.own
      replace aZ := aZ.ch mm.ch
      replace aU := aU.ch mm.ch
      replace aK := aK.ch mm.ch
      replace a5 := a5.ch mm.ch
      replace aV := aV.ch mm.ch
      replace aW := aW.ch mm.ch
      replace hB := hB.trans mm.fr
      refine GoQ.pure rfl (op_pickT rfl rfl rfl) rfl rfl ?_
      refine GoQ.pure rfl (op_move rfl) rfl rfl ?_
      cases r141
      ·replace H := ifn Bool.false_ne_true H
       refine GoQ.pass rfl rfl rfl ?_
       refine GoQ.pass rfl rfl rfl ?_
       refine GoQ.pass rfl rfl rfl ?_
       refine GoQ.pass rfl rfl rfl ?_
       refine GoQ.pass rfl rfl rfl ?_
       refine GoQ.pass rfl rfl rfl ?_
       refine GoQ.pass rfl rfl rfl ?_
       refine GoQ.pass rfl rfl rfl ?_
       refine GoQ.pure rfl (op_pickF rfl rfl rfl) rfl rfl ?_
       refine GoQ.pure rfl (op_move rfl) rfl rfl ?_
       refine GoQ.pass rfl rfl rfl ?_
       refine GoQ.pass rfl rfl rfl ?_
       refine GoQ.pass rfl rfl rfl ?_
       refine GoQ.pass rfl rfl rfl ?_
       refine GoQ.pass rfl rfl rfl ?_
       refine GoQ.pass rfl rfl rfl ?_
       refine GoQ.pass rfl rfl rfl ?_
       refine GoQ.pass rfl rfl rfl ?_
       refine GoQ.pure rfl (op_pickF rfl rfl rfl) rfl rfl ?_
       refine GoQ.pure rfl (op_move rfl) rfl rfl ?_
       refine GoQ.pass rfl rfl rfl ?_
       refine GoQ.pass rfl rfl rfl ?_
       refine GoQ.pass rfl rfl rfl ?_
       refine GoQ.pass rfl rfl rfl ?_
       refine GoQ.pass rfl rfl rfl ?_
       refine GoQ.pass rfl rfl rfl ?_
       refine GoQ.pass rfl rfl rfl ?_
       refine GoQ.pass rfl rfl rfl ?_
       refine GoQ.pure rfl (op_pickF rfl rfl rfl) rfl rfl ?_
       refine GoQ.pure rfl (op_assign rfl) rfl rfl ?_
       refine GoQ.nil ?_
       refine Go1.ret1V Try.func68 rfl (show _ = .bool false from rfl) ?_
       refine hR117 _ _ ?_
       refine GoR.op ((op_assign rfl) _) rfl rfl ?_
       refine GoR.op ((op_assign rfl) _) rfl rfl ?_
       refine GoR.nil ?_
       replace aZ := aZ.ch (Owns.dropCh _ _ 0)
       replace aU := aU.ch (Owns.dropCh _ _ 0)
       replace aK := aK.ch (Owns.dropCh _ _ 0)
       replace a5 := a5.ch (Owns.dropCh _ _ 0)
       replace aV := aV.ch (Owns.dropCh _ _ 0)
       replace aW := aW.ch (Owns.dropCh _ _ 0)
       replace bN := bN.ch (Owns.dropCh _ _ 0)
       replace bB := bB.ch (Owns.dropCh _ _ 0)
       replace dN := dN.ch (Owns.dropCh _ _ 0)
       replace dO := dO.ch (Owns.dropCh _ _ 0)
       replace dP := dP.ch (Owns.dropCh _ _ 0)
       replace dQ := dQ.ch (Owns.dropCh _ _ 0)
       replace dR := dR.ch (Owns.dropCh _ _ 0)
       replace dS := dS.ch (Owns.dropCh _ _ 0)
       replace dD := dD.ch (Owns.dropCh _ _ 0)
       replace hB := hB.trans (Owns.dropFr _ _ 0)
       replace hO := hO.drop 0
       dsimp only [eS, eZ] at hB hO aZ aU aK a5 aV aW bN bB dN dO dP dQ dR dS dD
       replace aZ := aZ.ch (Owns.dropCh _ _ 11)
       replace aU := aU.ch (Owns.dropCh _ _ 11)
       replace aK := aK.ch (Owns.dropCh _ _ 11)
       replace a5 := a5.ch (Owns.dropCh _ _ 11)
       replace aV := aV.ch (Owns.dropCh _ _ 11)
       replace aW := aW.ch (Owns.dropCh _ _ 11)
       replace bN := bN.ch (Owns.dropCh _ _ 11)
       replace bB := bB.ch (Owns.dropCh _ _ 11)
       replace dN := dN.ch (Owns.dropCh _ _ 11)
       replace dO := dO.ch (Owns.dropCh _ _ 11)
       replace dP := dP.ch (Owns.dropCh _ _ 11)
       replace dQ := dQ.ch (Owns.dropCh _ _ 11)
       replace dR := dR.ch (Owns.dropCh _ _ 11)
       replace dS := dS.ch (Owns.dropCh _ _ 11)
       replace dD := dD.ch (Owns.dropCh _ _ 11)
       replace hB := hB.trans (Owns.dropFr _ _ 11)
       replace hO := hO.drop 11
       dsimp only [eS, eZ] at hB hO aZ aU aK a5 aV aW bN bB dN dO dP dQ dR dS dD
       refine Go1.ret2 Try.func53 rfl ?_
       exact Or.inr ⟨(⟨(⟨k2_37, b2_38, d_40, d_46, d_52, d_58, d_64, d_70, k2_39⟩ : Enum), m2_94, d_76, d_82, d_88⟩ : run), false, iP, n45, p43, c44, eB, n51, p49, c50, eC, n57, p55, c56, jR, n63, p61, c62, jS, n69, p67, c68, jh, n75, p73, c74, jT, b9, n81, p79, c80, jU, n87, p85, c86, jV, n93, p91, c92, jW, rfl, hB.same, hO, bN, bB, dN, dO, dP, dQ, dR, dS, dD, H⟩
      replace H := ifp rfl H
      refine GoQ.pure rfl (op_move rfl) rfl rfl ?_
      refine GoQ.pure rfl (op_nilCheck rfl) rfl rfl ?_
      refine GoQ.pure rfl (op_fieldAddr Try.underlying72 rfl ti29 rfl (by decide)) rfl rfl ?_
      refine GoQ.pure rfl (op_fieldAddr Try.underlying29 rfl ti26 rfl (by decide)) rfl rfl ?_
      refine GoQ.stable rfl (oblk (i := 5) 1 hO rfl rfl Try.underlying26 rfl rfl) rfl rfl ?_
      refine GoQ.pure rfl (op_fieldAddr Try.underlying29 rfl ti26 rfl (by decide)) rfl rfl ?_
      refine GoQ.stable rfl (oblk (i := 5) 0 hO rfl rfl Try.underlying26 rfl rfl) rfl rfl ?_
      have hobt := rowlend 5 hO rfl dO
      obtain ⟨HS, HT⟩ := hobt
      have hOc149 := hO.drop 5
      refine GoQ.call rfl (op_call body70 (show ([.slice p61 n63 c62, .slice bP e.Last.length bQ] : List Value) = [.slice p61 d_58.length c62, .slice bP e.Last.length bQ] from by rw [← HT]) (walk_slices_Equal_int hOc149.lt HS (a5.ch (Owns.dropCh _ _ 5)) H)) (fun v w hr => by obtain ⟨_, _, hs, _⟩ := hr; assumption) rfl rfl ?_
      rintro OO OP ⟨r150, rfl, HU, H⟩
      have mo := Stp.same hO HU
      replace bN := bN.ch mo.ch
      replace bB := bB.ch mo.ch
      replace dN := dN.ch mo.ch
      replace dO := dO.ch mo.ch
      replace dP := dP.ch mo.ch
      replace dQ := dQ.ch mo.ch
      replace dR := dR.ch mo.ch
      replace dS := dS.ch mo.ch
      replace dD := dD.ch mo.ch
      replace hO := mo.own
      replace aZ := aZ.ch mo.ch
      replace aU := aU.ch mo.ch
      replace aK := aK.ch mo.ch
      replace a5 := a5.ch mo.ch
      replace aV := aV.ch mo.ch
      replace aW := aW.ch mo.ch
      replace hB := hB.trans mo.fr
      refine GoQ.pure rfl (op_pickT rfl rfl rfl) rfl rfl ?_
      refine GoQ.pure rfl (op_move rfl) rfl rfl ?_
      cases r150
      ·replace H := ifn Bool.false_ne_true H
       refine GoQ.pass rfl rfl rfl ?_
       refine GoQ.pass rfl rfl rfl ?_
       refine GoQ.pass rfl rfl rfl ?_
       refine GoQ.pass rfl rfl rfl ?_
       refine GoQ.pass rfl rfl rfl ?_
       refine GoQ.pass rfl rfl rfl ?_
       refine GoQ.pass rfl rfl rfl ?_
       refine GoQ.pass rfl rfl rfl ?_
       refine GoQ.pure rfl (op_pickF rfl rfl rfl) rfl rfl ?_
       refine GoQ.pure rfl (op_move rfl) rfl rfl ?_
       refine GoQ.pass rfl rfl rfl ?_
       refine GoQ.pass rfl rfl rfl ?_
       refine GoQ.pass rfl rfl rfl ?_
       refine GoQ.pass rfl rfl rfl ?_
       refine GoQ.pass rfl rfl rfl ?_
       refine GoQ.pass rfl rfl rfl ?_
       refine GoQ.pass rfl rfl rfl ?_
       refine GoQ.pass rfl rfl rfl ?_
       refine GoQ.pure rfl (op_pickF rfl rfl rfl) rfl rfl ?_
       refine GoQ.pure rfl (op_assign rfl) rfl rfl ?_
       refine GoQ.nil ?_
       refine Go1.ret1V Try.func68 rfl (show _ = .bool false from rfl) ?_
       refine hR117 _ _ ?_
       refine GoR.op ((op_assign rfl) _) rfl rfl ?_
       refine GoR.op ((op_assign rfl) _) rfl rfl ?_
       refine GoR.nil ?_
       replace aZ := aZ.ch (Owns.dropCh _ _ 0)
       replace aU := aU.ch (Owns.dropCh _ _ 0)
       replace aK := aK.ch (Owns.dropCh _ _ 0)
       replace a5 := a5.ch (Owns.dropCh _ _ 0)
       replace aV := aV.ch (Owns.dropCh _ _ 0)
       replace aW := aW.ch (Owns.dropCh _ _ 0)
       replace bN := bN.ch (Owns.dropCh _ _ 0)
       replace bB := bB.ch (Owns.dropCh _ _ 0)
       replace dN := dN.ch (Owns.dropCh _ _ 0)
       replace dO := dO.ch (Owns.dropCh _ _ 0)
       replace dP := dP.ch (Owns.dropCh _ _ 0)
       replace dQ := dQ.ch (Owns.dropCh _ _ 0)
       replace dR := dR.ch (Owns.dropCh _ _ 0)
       replace dS := dS.ch (Owns.dropCh _ _ 0)
       replace dD := dD.ch (Owns.dropCh _ _ 0)
       replace hB := hB.trans (Owns.dropFr _ _ 0)
       replace hO := hO.drop 0
       dsimp only [eS, eZ] at hB hO aZ aU aK a5 aV aW bN bB dN dO dP dQ dR dS dD
       replace aZ := aZ.ch (Owns.dropCh _ _ 11)
       replace aU := aU.ch (Owns.dropCh _ _ 11)
       replace aK := aK.ch (Owns.dropCh _ _ 11)
       replace a5 := a5.ch (Owns.dropCh _ _ 11)
       replace aV := aV.ch (Owns.dropCh _ _ 11)
       replace aW := aW.ch (Owns.dropCh _ _ 11)
       replace bN := bN.ch (Owns.dropCh _ _ 11)
       replace bB := bB.ch (Owns.dropCh _ _ 11)
       replace dN := dN.ch (Owns.dropCh _ _ 11)
       replace dO := dO.ch (Owns.dropCh _ _ 11)
       replace dP := dP.ch (Owns.dropCh _ _ 11)
       replace dQ := dQ.ch (Owns.dropCh _ _ 11)
       replace dR := dR.ch (Owns.dropCh _ _ 11)
       replace dS := dS.ch (Owns.dropCh _ _ 11)
       replace dD := dD.ch (Owns.dropCh _ _ 11)
       replace hB := hB.trans (Owns.dropFr _ _ 11)
       replace hO := hO.drop 11
       dsimp only [eS, eZ] at hB hO aZ aU aK a5 aV aW bN bB dN dO dP dQ dR dS dD
       refine Go1.ret2 Try.func53 rfl ?_
       exact Or.inr ⟨(⟨(⟨k2_37, b2_38, d_40, d_46, d_52, d_58, d_64, d_70, k2_39⟩ : Enum), m2_94, d_76, d_82, d_88⟩ : run), false, iP, n45, p43, c44, eB, n51, p49, c50, eC, n57, p55, c56, jR, n63, p61, c62, jS, n69, p67, c68, jh, n75, p73, c74, jT, b9, n81, p79, c80, jU, n87, p85, c86, jV, n93, p91, c92, jW, rfl, hB.same, hO, bN, bB, dN, dO, dP, dQ, dR, dS, dD, H⟩
      replace H := ifp rfl H
      refine GoQ.pure rfl (op_move rfl) rfl rfl ?_
      refine GoQ.pure rfl (op_nilCheck rfl) rfl rfl ?_
      refine GoQ.pure rfl (op_fieldAddr Try.underlying72 rfl ti29 rfl (by decide)) rfl rfl ?_
      refine GoQ.pure rfl (op_fieldAddr Try.underlying29 rfl ti22 rfl (by decide)) rfl rfl ?_
      refine GoQ.stable rfl (oblk (i := 6) 1 hO rfl rfl Try.underlying22 rfl rfl) rfl rfl ?_
      refine GoQ.pure rfl (op_fieldAddr Try.underlying29 rfl ti22 rfl (by decide)) rfl rfl ?_
      refine GoQ.stable rfl (oblk (i := 6) 0 hO rfl rfl Try.underlying22 rfl rfl) rfl rfl ?_
      have hobt := rowlend 6 hO rfl dP
      obtain ⟨HV, HW⟩ := hobt
      have hOc158 := hO.drop 6
      refine GoQ.call rfl (op_call body69 (show ([.slice p67 n69 c68, .slice bt e.Right.length bu, .func (.func 70) #[] #[]] : List Value) = [.slice p67 d_64.length c68, .slice bt e.Right.length bu, .func (.func 70) #[] #[]] from by rw [← HW]) (walk_slices_EqualFunc_int hOc158.lt HV (aV.ch (Owns.dropCh _ _ 6)) H)) (fun v w hr => by obtain ⟨_, _, hs, _⟩ := hr; assumption) rfl rfl ?_
      rintro OQ OR ⟨r159, rfl, HX, H⟩
      have mp := Stp.same hO HX
      replace bN := bN.ch mp.ch
      replace bB := bB.ch mp.ch
      replace dN := dN.ch mp.ch
      replace dO := dO.ch mp.ch
      replace dP := dP.ch mp.ch
      replace dQ := dQ.ch mp.ch
      replace dR := dR.ch mp.ch
      replace dS := dS.ch mp.ch
      replace dD := dD.ch mp.ch
      replace hO := mp.own
      replace aZ := aZ.ch mp.ch
      replace aU := aU.ch mp.ch
      replace aK := aK.ch mp.ch
      replace a5 := a5.ch mp.ch
      replace aV := aV.ch mp.ch
      replace aW := aW.ch mp.ch
      replace hB := hB.trans mp.fr
      refine GoQ.pure rfl (op_pickT rfl rfl rfl) rfl rfl ?_
      refine GoQ.pure rfl (op_move rfl) rfl rfl ?_
      cases r159
      ·replace H := ifn Bool.false_ne_true H
       refine GoQ.pass rfl rfl rfl ?_
       refine GoQ.pass rfl rfl rfl ?_
       refine GoQ.pass rfl rfl rfl ?_
       refine GoQ.pass rfl rfl rfl ?_
       refine GoQ.pass rfl rfl rfl ?_
       refine GoQ.pass rfl rfl rfl ?_
       refine GoQ.pass rfl rfl rfl ?_
       refine GoQ.pass rfl rfl rfl ?_
       refine GoQ.pure rfl (op_pickF rfl rfl rfl) rfl rfl ?_
       refine GoQ.pure rfl (op_assign rfl) rfl rfl ?_
       refine GoQ.nil ?_
       refine Go1.ret1V Try.func68 rfl (show _ = .bool false from rfl) ?_
       refine hR117 _ _ ?_
       refine GoR.op ((op_assign rfl) _) rfl rfl ?_
       refine GoR.op ((op_assign rfl) _) rfl rfl ?_
       refine GoR.nil ?_
       replace aZ := aZ.ch (Owns.dropCh _ _ 0)
       replace aU := aU.ch (Owns.dropCh _ _ 0)
       replace aK := aK.ch (Owns.dropCh _ _ 0)
       replace a5 := a5.ch (Owns.dropCh _ _ 0)
       replace aV := aV.ch (Owns.dropCh _ _ 0)
       replace aW := aW.ch (Owns.dropCh _ _ 0)
       replace bN := bN.ch (Owns.dropCh _ _ 0)
       replace bB := bB.ch (Owns.dropCh _ _ 0)
       replace dN := dN.ch (Owns.dropCh _ _ 0)
       replace dO := dO.ch (Owns.dropCh _ _ 0)
       replace dP := dP.ch (Owns.dropCh _ _ 0)
       replace dQ := dQ.ch (Owns.dropCh _ _ 0)
       replace dR := dR.ch (Owns.dropCh _ _ 0)
       replace dS := dS.ch (Owns.dropCh _ _ 0)
       replace dD := dD.ch (Owns.dropCh _ _ 0)
       replace hB := hB.trans (Owns.dropFr _ _ 0)
       replace hO := hO.drop 0
       dsimp only [eS, eZ] at hB hO aZ aU aK a5 aV aW bN bB dN dO dP dQ dR dS dD
       replace aZ := aZ.ch (Owns.dropCh _ _ 11)
       replace aU := aU.ch (Owns.dropCh _ _ 11)
       replace aK := aK.ch (Owns.dropCh _ _ 11)
       replace a5 := a5.ch (Owns.dropCh _ _ 11)
       replace aV := aV.ch (Owns.dropCh _ _ 11)
       replace aW := aW.ch (Owns.dropCh _ _ 11)
       replace bN := bN.ch (Owns.dropCh _ _ 11)
       replace bB := bB.ch (Owns.dropCh _ _ 11)
       replace dN := dN.ch (Owns.dropCh _ _ 11)
       replace dO := dO.ch (Owns.dropCh _ _ 11)
       replace dP := dP.ch (Owns.dropCh _ _ 11)
       replace dQ := dQ.ch (Owns.dropCh _ _ 11)
       replace dR := dR.ch (Owns.dropCh _ _ 11)
       replace dS := dS.ch (Owns.dropCh _ _ 11)
       replace dD := dD.ch (Owns.dropCh _ _ 11)
       replace hB := hB.trans (Owns.dropFr _ _ 11)
       replace hO := hO.drop 11
       dsimp only [eS, eZ] at hB hO aZ aU aK a5 aV aW bN bB dN dO dP dQ dR dS dD
       refine Go1.ret2 Try.func53 rfl ?_
       exact Or.inr ⟨(⟨(⟨k2_37, b2_38, d_40, d_46, d_52, d_58, d_64, d_70, k2_39⟩ : Enum), m2_94, d_76, d_82, d_88⟩ : run), false, iP, n45, p43, c44, eB, n51, p49, c50, eC, n57, p55, c56, jR, n63, p61, c62, jS, n69, p67, c68, jh, n75, p73, c74, jT, b9, n81, p79, c80, jU, n87, p85, c86, jV, n93, p91, c92, jW, rfl, hB.same, hO, bN, bB, dN, dO, dP, dQ, dR, dS, dD, H⟩
      replace H := ifp rfl H
      refine GoQ.pure rfl (op_move rfl) rfl rfl ?_
      refine GoQ.pure rfl (op_nilCheck rfl) rfl rfl ?_
      refine GoQ.pure rfl (op_fieldAddr Try.underlying72 rfl ti29 rfl (by decide)) rfl rfl ?_
      refine GoQ.pure rfl (op_fieldAddr Try.underlying29 rfl ti27 rfl (by decide)) rfl rfl ?_
      refine GoQ.stable rfl (oblk (i := 7) 1 hO rfl rfl Try.underlying27 rfl rfl) rfl rfl ?_
      refine GoQ.pure rfl (op_fieldAddr Try.underlying29 rfl ti27 rfl (by decide)) rfl rfl ?_
      refine GoQ.stable rfl (oblk (i := 7) 0 hO rfl rfl Try.underlying27 rfl rfl) rfl rfl ?_
      have hobt := rowlend 7 hO rfl dQ
      obtain ⟨HY, HZ⟩ := hobt
      have hOc167 := hO.drop 7
      refine GoQ.call rfl (op_call body71 (show ([.slice p73 n75 c74, .slice bv e.Rules.length bw] : List Value) = [.slice p73 d_70.length c74, .slice bv e.Rules.length bw] from by rw [← HZ]) (walk_slices_Equal_api_Rule hOc167.lt HY (aW.ch (Owns.dropCh _ _ 7)) H)) (fun v w hr => by obtain ⟨_, _, hs, _⟩ := hr; assumption) rfl rfl ?_
      rintro OS OT ⟨r168, rfl, H0, H⟩
      have mq := Stp.same hO H0
      replace bN := bN.ch mq.ch
      replace bB := bB.ch mq.ch
      replace dN := dN.ch mq.ch
      replace dO := dO.ch mq.ch
      replace dP := dP.ch mq.ch
      replace dQ := dQ.ch mq.ch
      replace dR := dR.ch mq.ch
      replace dS := dS.ch mq.ch
      replace dD := dD.ch mq.ch
      replace hO := mq.own
      replace aZ := aZ.ch mq.ch
      replace aU := aU.ch mq.ch
      replace aK := aK.ch mq.ch
      replace a5 := a5.ch mq.ch
      replace aV := aV.ch mq.ch
      replace aW := aW.ch mq.ch
      replace hB := hB.trans mq.fr
      refine GoQ.pure rfl (op_pickT rfl rfl rfl) rfl rfl ?_
      refine GoQ.pure rfl (op_assign rfl) rfl rfl ?_
      refine GoQ.nil ?_
      refine Go1.ret1V Try.func68 rfl (show _ = .bool r168 from rfl) ?_
      refine hR117 _ _ ?_
      refine GoR.op ((op_assign rfl) _) rfl rfl ?_
      refine GoR.op ((op_assign rfl) _) rfl rfl ?_
      refine GoR.nil ?_
      replace aZ := aZ.ch (Owns.dropCh _ _ 0)
      replace aU := aU.ch (Owns.dropCh _ _ 0)
      replace aK := aK.ch (Owns.dropCh _ _ 0)
      replace a5 := a5.ch (Owns.dropCh _ _ 0)
      replace aV := aV.ch (Owns.dropCh _ _ 0)
      replace aW := aW.ch (Owns.dropCh _ _ 0)
      replace bN := bN.ch (Owns.dropCh _ _ 0)
      replace bB := bB.ch (Owns.dropCh _ _ 0)
      replace dN := dN.ch (Owns.dropCh _ _ 0)
      replace dO := dO.ch (Owns.dropCh _ _ 0)
      replace dP := dP.ch (Owns.dropCh _ _ 0)
      replace dQ := dQ.ch (Owns.dropCh _ _ 0)
      replace dR := dR.ch (Owns.dropCh _ _ 0)
      replace dS := dS.ch (Owns.dropCh _ _ 0)
      replace dD := dD.ch (Owns.dropCh _ _ 0)
      replace hB := hB.trans (Owns.dropFr _ _ 0)
      replace hO := hO.drop 0
      dsimp only [eS, eZ] at hB hO aZ aU aK a5 aV aW bN bB dN dO dP dQ dR dS dD
      replace aZ := aZ.ch (Owns.dropCh _ _ 11)
      replace aU := aU.ch (Owns.dropCh _ _ 11)
      replace aK := aK.ch (Owns.dropCh _ _ 11)
      replace a5 := a5.ch (Owns.dropCh _ _ 11)
      replace aV := aV.ch (Owns.dropCh _ _ 11)
      replace aW := aW.ch (Owns.dropCh _ _ 11)
      replace bN := bN.ch (Owns.dropCh _ _ 11)
      replace bB := bB.ch (Owns.dropCh _ _ 11)
      replace dN := dN.ch (Owns.dropCh _ _ 11)
      replace dO := dO.ch (Owns.dropCh _ _ 11)
      replace dP := dP.ch (Owns.dropCh _ _ 11)
      replace dQ := dQ.ch (Owns.dropCh _ _ 11)
      replace dR := dR.ch (Owns.dropCh _ _ 11)
      replace dS := dS.ch (Owns.dropCh _ _ 11)
      replace dD := dD.ch (Owns.dropCh _ _ 11)
      replace hB := hB.trans (Owns.dropFr _ _ 11)
      replace hO := hO.drop 11
      dsimp only [eS, eZ] at hB hO aZ aU aK a5 aV aW bN bB dN dO dP dQ dR dS dD
      refine Go1.ret2 Try.func53 rfl ?_
      exact Or.inr ⟨(⟨(⟨k2_37, b2_38, d_40, d_46, d_52, d_58, d_64, d_70, k2_39⟩ : Enum), m2_94, d_76, d_82, d_88⟩ : run), r168, iP, n45, p43, c44, eB, n51, p49, c50, eC, n57, p55, c56, jR, n63, p61, c62, jS, n69, p67, c68, jh, n75, p73, c74, jT, b9, n81, p79, c80, jU, n87, p85, c86, jV, n93, p91, c92, jW, rfl, hB.same, hO, bN, bB, dN, dO, dP, dQ, dR, dS, dD, H⟩
     replace H := ifn vE H
     refine GoQ.pure rfl (fun w => opB (op_eql rfl rfl w) (decide_eq_false vE)) rfl rfl ?_
     refine GoQ.pure rfl (op_pickT rfl rfl rfl) rfl rfl ?_
     refine GoQ.pure rfl (op_move rfl) rfl rfl ?_
     refine GoQ.pass rfl rfl rfl ?_
     refine GoQ.pass rfl rfl rfl ?_
     refine GoQ.pass rfl rfl rfl ?_
     refine GoQ.pass rfl rfl rfl ?_
     refine GoQ.pass rfl rfl rfl ?_
     refine GoQ.pass rfl rfl rfl ?_
     refine GoQ.pass rfl rfl rfl ?_
     refine GoQ.pass rfl rfl rfl ?_
     refine GoQ.pure rfl (op_pickF rfl rfl rfl) rfl rfl ?_
     refine GoQ.pure rfl (op_move rfl) rfl rfl ?_
     refine GoQ.pass rfl rfl rfl ?_
     refine GoQ.pass rfl rfl rfl ?_
     refine GoQ.pass rfl rfl rfl ?_
     refine GoQ.pass rfl rfl rfl ?_
     refine GoQ.pass rfl rfl rfl ?_
     refine GoQ.pass rfl rfl rfl ?_
     refine GoQ.pass rfl rfl rfl ?_
     refine GoQ.pass rfl rfl rfl ?_
     refine GoQ.pure rfl (op_pickF rfl rfl rfl) rfl rfl ?_
     refine GoQ.pure rfl (op_move rfl) rfl rfl ?_
     refine GoQ.pass rfl rfl rfl ?_
     refine GoQ.pass rfl rfl rfl ?_
     refine GoQ.pass rfl rfl rfl ?_
     refine GoQ.pass rfl rfl rfl ?_
     refine GoQ.pass rfl rfl rfl ?_
     refine GoQ.pass rfl rfl rfl ?_
     refine GoQ.pass rfl rfl rfl ?_
     refine GoQ.pass rfl rfl rfl ?_
     refine GoQ.pure rfl (op_pickF rfl rfl rfl) rfl rfl ?_
     refine GoQ.pure rfl (op_move rfl) rfl rfl ?_
     refine GoQ.pass rfl rfl rfl ?_
     refine GoQ.pass rfl rfl rfl ?_
     refine GoQ.pass rfl rfl rfl ?_
     refine GoQ.pass rfl rfl rfl ?_
     refine GoQ.pass rfl rfl rfl ?_
     refine GoQ.pass rfl rfl rfl ?_
     refine GoQ.pass rfl rfl rfl ?_
     refine GoQ.pass rfl rfl rfl ?_
     refine GoQ.pure rfl (op_pickF rfl rfl rfl) rfl rfl ?_
     refine GoQ.pure rfl (op_move rfl) rfl rfl ?_
     refine GoQ.pass rfl rfl rfl ?_
     refine GoQ.pass rfl rfl rfl ?_
     refine GoQ.pass rfl rfl rfl ?_
     refine GoQ.pass rfl rfl rfl ?_
     refine GoQ.pass rfl rfl rfl ?_
     refine GoQ.pass rfl rfl rfl ?_
     refine GoQ.pass rfl rfl rfl ?_
     refine GoQ.pass rfl rfl rfl ?_
     refine GoQ.pure rfl (op_pickF rfl rfl rfl) rfl rfl ?_
     refine GoQ.pure rfl (op_assign rfl) rfl rfl ?_
     refine GoQ.nil ?_
     refine Go1.ret1V Try.func68 rfl (show _ = .bool false from rfl) ?_
     refine hR117 _ _ ?_
     refine GoR.op ((op_assign rfl) _) rfl rfl ?_
     refine GoR.op ((op_assign rfl) _) rfl rfl ?_
     refine GoR.nil ?_
     replace aZ := aZ.ch (Owns.dropCh _ _ 0)
     replace aU := aU.ch (Owns.dropCh _ _ 0)
     replace aK := aK.ch (Owns.dropCh _ _ 0)
     replace a5 := a5.ch (Owns.dropCh _ _ 0)
     replace aV := aV.ch (Owns.dropCh _ _ 0)
     replace aW := aW.ch (Owns.dropCh _ _ 0)
     replace bN := bN.ch (Owns.dropCh _ _ 0)
     replace bB := bB.ch (Owns.dropCh _ _ 0)
     replace dN := dN.ch (Owns.dropCh _ _ 0)
     replace dO := dO.ch (Owns.dropCh _ _ 0)
     replace dP := dP.ch (Owns.dropCh _ _ 0)
     replace dQ := dQ.ch (Owns.dropCh _ _ 0)
     replace dR := dR.ch (Owns.dropCh _ _ 0)
     replace dS := dS.ch (Owns.dropCh _ _ 0)
     replace dD := dD.ch (Owns.dropCh _ _ 0)
     replace hB := hB.trans (Owns.dropFr _ _ 0)
     replace hO := hO.drop 0
     dsimp only [eS, eZ] at hB hO aZ aU aK a5 aV aW bN bB dN dO dP dQ dR dS dD
     replace aZ := aZ.ch (Owns.dropCh _ _ 11)
     replace aU := aU.ch (Owns.dropCh _ _ 11)
     replace aK := aK.ch (Owns.dropCh _ _ 11)
     replace a5 := a5.ch (Owns.dropCh _ _ 11)
     replace aV := aV.ch (Owns.dropCh _ _ 11)
     replace aW := aW.ch (Owns.dropCh _ _ 11)
     replace bN := bN.ch (Owns.dropCh _ _ 11)
     replace bB := bB.ch (Owns.dropCh _ _ 11)
     replace dN := dN.ch (Owns.dropCh _ _ 11)
     replace dO := dO.ch (Owns.dropCh _ _ 11)
     replace dP := dP.ch (Owns.dropCh _ _ 11)
     replace dQ := dQ.ch (Owns.dropCh _ _ 11)
     replace dR := dR.ch (Owns.dropCh _ _ 11)
     replace dS := dS.ch (Owns.dropCh _ _ 11)
     replace dD := dD.ch (Owns.dropCh _ _ 11)
     replace hB := hB.trans (Owns.dropFr _ _ 11)
     replace hO := hO.drop 11
     dsimp only [eS, eZ] at hB hO aZ aU aK a5 aV aW bN bB dN dO dP dQ dR dS dD
     refine Go1.ret2 Try.func53 rfl ?_
     exact Or.inr ⟨(⟨(⟨k2_37, b2_38, d_40, d_46, d_52, d_58, d_64, d_70, k2_39⟩ : Enum), m2_94, d_76, d_82, d_88⟩ : run), false, iP, n45, p43, c44, eB, n51, p49, c50, eC, n57, p55, c56, jR, n63, p61, c62, jS, n69, p67, c68, jh, n75, p73, c74, jT, b9, n81, p79, c80, jU, n87, p85, c86, jV, n93, p91, c92, jW, rfl, hB.same, hO, bN, bB, dN, dO, dP, dQ, dR, dS, dD, H⟩
    replace H := ifn tF H
    refine GoQ.pure rfl (fun w => opB (op_eql rfl rfl w) (decide_eq_false tF)) rfl rfl ?_
    refine GoQ.pure rfl (op_move rfl) rfl rfl ?_
    refine GoQ.pass rfl rfl rfl ?_
    refine GoQ.pass rfl rfl rfl ?_
    refine GoQ.pass rfl rfl rfl ?_
    refine GoQ.pass rfl rfl rfl ?_
    refine GoQ.pass rfl rfl rfl ?_
    refine GoQ.pass rfl rfl rfl ?_
    refine GoQ.pass rfl rfl rfl ?_
    refine GoQ.pass rfl rfl rfl ?_
    refine GoQ.pure rfl (op_pickF rfl rfl rfl) rfl rfl ?_
    refine GoQ.pure rfl (op_move rfl) rfl rfl ?_
    refine GoQ.pass rfl rfl rfl ?_
    refine GoQ.pass rfl rfl rfl ?_
    refine GoQ.pass rfl rfl rfl ?_
    refine GoQ.pass rfl rfl rfl ?_
    refine GoQ.pass rfl rfl rfl ?_
    refine GoQ.pass rfl rfl rfl ?_
    refine GoQ.pass rfl rfl rfl ?_
    refine GoQ.pass rfl rfl rfl ?_
    refine GoQ.pure rfl (op_pickF rfl rfl rfl) rfl rfl ?_
    refine GoQ.pure rfl (op_move rfl) rfl rfl ?_
    refine GoQ.pass rfl rfl rfl ?_
    refine GoQ.pass rfl rfl rfl ?_
    refine GoQ.pass rfl rfl rfl ?_
    refine GoQ.pass rfl rfl rfl ?_
    refine GoQ.pass rfl rfl rfl ?_
    refine GoQ.pass rfl rfl rfl ?_
    refine GoQ.pass rfl rfl rfl ?_
    refine GoQ.pass rfl rfl rfl ?_
    refine GoQ.pure rfl (op_pickF rfl rfl rfl) rfl rfl ?_
    refine GoQ.pure rfl (op_move rfl) rfl rfl ?_
    refine GoQ.pass rfl rfl rfl ?_
    refine GoQ.pass rfl rfl rfl ?_
    refine GoQ.pass rfl rfl rfl ?_
    refine GoQ.pass rfl rfl rfl ?_
    refine GoQ.pass rfl rfl rfl ?_
    refine GoQ.pass rfl rfl rfl ?_
    refine GoQ.pass rfl rfl rfl ?_
    refine GoQ.pass rfl rfl rfl ?_
    refine GoQ.pure rfl (op_pickF rfl rfl rfl) rfl rfl ?_
    refine GoQ.pure rfl (op_move rfl) rfl rfl ?_
    refine GoQ.pass rfl rfl rfl ?_
    refine GoQ.pass rfl rfl rfl ?_
    refine GoQ.pass rfl rfl rfl ?_
    refine GoQ.pass rfl rfl rfl ?_
    refine GoQ.pass rfl rfl rfl ?_
    refine GoQ.pass rfl rfl rfl ?_
    refine GoQ.pass rfl rfl rfl ?_
    refine GoQ.pass rfl rfl rfl ?_
    refine GoQ.pure rfl (op_pickF rfl rfl rfl) rfl rfl ?_
    refine GoQ.pure rfl (op_move rfl) rfl rfl ?_
    refine GoQ.pass rfl rfl rfl ?_
    refine GoQ.pass rfl rfl rfl ?_
    refine GoQ.pass rfl rfl rfl ?_
    refine GoQ.pass rfl rfl rfl ?_
    refine GoQ.pass rfl rfl rfl ?_
    refine GoQ.pass rfl rfl rfl ?_
    refine GoQ.pass rfl rfl rfl ?_
    refine GoQ.pass rfl rfl rfl ?_
    refine GoQ.pure rfl (op_pickF rfl rfl rfl) rfl rfl ?_
    refine GoQ.pure rfl (op_assign rfl) rfl rfl ?_
    refine GoQ.nil ?_
    refine Go1.ret1V Try.func68 rfl (show _ = .bool false from rfl) ?_
    refine hR117 _ _ ?_
    refine GoR.op ((op_assign rfl) _) rfl rfl ?_
    refine GoR.op ((op_assign rfl) _) rfl rfl ?_
    refine GoR.nil ?_
    replace aZ := aZ.ch (Owns.dropCh _ _ 0)
    replace aU := aU.ch (Owns.dropCh _ _ 0)
    replace aK := aK.ch (Owns.dropCh _ _ 0)
    replace a5 := a5.ch (Owns.dropCh _ _ 0)
    replace aV := aV.ch (Owns.dropCh _ _ 0)
    replace aW := aW.ch (Owns.dropCh _ _ 0)
    replace bN := bN.ch (Owns.dropCh _ _ 0)
    replace bB := bB.ch (Owns.dropCh _ _ 0)
    replace dN := dN.ch (Owns.dropCh _ _ 0)
    replace dO := dO.ch (Owns.dropCh _ _ 0)
    replace dP := dP.ch (Owns.dropCh _ _ 0)
    replace dQ := dQ.ch (Owns.dropCh _ _ 0)
    replace dR := dR.ch (Owns.dropCh _ _ 0)
    replace dS := dS.ch (Owns.dropCh _ _ 0)
    replace dD := dD.ch (Owns.dropCh _ _ 0)
    replace hB := hB.trans (Owns.dropFr _ _ 0)
    replace hO := hO.drop 0
    dsimp only [eS, eZ] at hB hO aZ aU aK a5 aV aW bN bB dN dO dP dQ dR dS dD
    replace aZ := aZ.ch (Owns.dropCh _ _ 11)
    replace aU := aU.ch (Owns.dropCh _ _ 11)
    replace aK := aK.ch (Owns.dropCh _ _ 11)
    replace a5 := a5.ch (Owns.dropCh _ _ 11)
    replace aV := aV.ch (Owns.dropCh _ _ 11)
    replace aW := aW.ch (Owns.dropCh _ _ 11)
    replace bN := bN.ch (Owns.dropCh _ _ 11)
    replace bB := bB.ch (Owns.dropCh _ _ 11)
    replace dN := dN.ch (Owns.dropCh _ _ 11)
    replace dO := dO.ch (Owns.dropCh _ _ 11)
    replace dP := dP.ch (Owns.dropCh _ _ 11)
    replace dQ := dQ.ch (Owns.dropCh _ _ 11)
    replace dR := dR.ch (Owns.dropCh _ _ 11)
    replace dS := dS.ch (Owns.dropCh _ _ 11)
    replace dD := dD.ch (Owns.dropCh _ _ 11)
    replace hB := hB.trans (Owns.dropFr _ _ 11)
    replace hO := hO.drop 11
    dsimp only [eS, eZ] at hB hO aZ aU aK a5 aV aW bN bB dN dO dP dQ dR dS dD
    refine Go1.ret2 Try.func53 rfl ?_
    exact Or.inr ⟨(⟨(⟨k2_37, b2_38, d_40, d_46, d_52, d_58, d_64, d_70, k2_39⟩ : Enum), m2_94, d_76, d_82, d_88⟩ : run), false, iP, n45, p43, c44, eB, n51, p49, c50, eC, n57, p55, c56, jR, n63, p61, c62, jS, n69, p67, c68, jh, n75, p73, c74, jT, b9, n81, p79, c80, jU, n87, p85, c86, jV, n93, p91, c92, jW, rfl, hB.same, hO, bN, bB, dN, dO, dP, dQ, dR, dS, dD, H⟩
   replace H := ifn h35 H
   refine GoR.op ((fun w => opB (op_neq rfl rfl w) (ndF h35)) _) rfl rfl ?_
   refine GoR.nil ?_
   refine Go1.condT rfl rfl ?_
   refine Go1.seq ?_
   refine Go1.cut [] trivial ?_
   intro σ _
   refine Go1.region ?_
   refine GoR.op ((op_assign rfl) _) rfl rfl ?_
   refine GoR.op ((op_assign rfl) _) rfl rfl ?_
   refine GoR.nil ?_
   refine Go1.ret2 Try.func53 rfl ?_
   exact Or.inl ⟨false, rfl, hB.same, H⟩
 replace H := ifn h7 H
 refine GoR.op (opB ((oblk (i := 1) 0 hO rfl rfl Try.underlying4 rfl rfl) _ (Same.refl _)) (Bool.eq_false_iff.2 h7)) rfl rfl ?_
 refine GoR.call (op_call body49 rfl (walk_enumerate_begin hO.lt aZ H)) rfl rfl ?_
 intro OU OV hcase180
 refine Or.elim hcase180 ?_ ?_
 ·refine exE fun r175 => andE fun hv181 => andE fun Ay => fun H => ?_
  subst hv181
  clear hcase180
  replace H := oElimN H
  have jY := Stp.same hO Ay
  replace hO := jY.own
  replace aZ := aZ.ch jY.ch
  replace aU := aU.ch jY.ch
  replace aK := aK.ch jY.ch
  replace a5 := a5.ch jY.ch
  replace aV := aV.ch jY.ch
  replace aW := aW.ch jY.ch
  replace hB := hB.trans jY.fr
  refine GoR.op ((op_move rfl) _) rfl rfl ?_
  refine GoR.op ((op_extract rfl rfl) _) rfl rfl ?_
  refine GoR.op ((op_extract rfl rfl) _) rfl rfl ?_
  refine GoR.op ((op_assign rfl) _) rfl rfl ?_
  refine GoR.op ((op_assign rfl) _) rfl rfl ?_
  refine GoR.nil ?_
  refine Go1.seq ?_
  refine Go1.seq ?_
  refine Go1.region ?_
  refine GoR.op ((op_move rfl) _) rfl rfl ?_
  by_cases Az : r175 = (0 : Int)
  ·replace H := ifp Az H
   refine GoR.op ((fun w => opB (op_neq rfl rfl w) (ndT Az)) _) rfl rfl ?_
   refine GoR.nil ?_
   refine Go1.condF rfl rfl ?_
   refine Go1.skip ?_
   refine Go1.seq ?_
   refine Go1.block ?_
   refine Go1.loopW (S := Unit) (fun s σ w => agrees σ [(1, .pointer (some ⟨B2, 0, none⟩)), (4, .pointer none)] ∧ Owns w0.heap.size w [.blk B2 (.cells #[.int .i64 e.Points, .bool e.Monoid, .slice bY e.Gens.length bZ, .slice bp e.Elems.length bq, .slice bi e.Prefix.length bj, .slice bP e.Last.length bQ, .slice bt e.Right.length bu, .slice bv e.Rules.length bw, .int .i64 e.Done] 29 (0, 0))] A ∧ ISl (Rp.sl (Rp.int .i64)) (bl [.blk B2 (.cells #[.int .i64 e.Points, .bool e.Monoid, .slice bY e.Gens.length bZ, .slice bp e.Elems.length bq, .slice bi e.Prefix.length bj, .slice bP e.Last.length bQ, .slice bt e.Right.length bu, .slice bv e.Rules.length bw, .int .i64 e.Done] 29 (0, 0))] ++ A) w bY bZ e.Gens ∧ ISl (Rp.sl (Rp.int .i64)) (bl [.blk B2 (.cells #[.int .i64 e.Points, .bool e.Monoid, .slice bY e.Gens.length bZ, .slice bp e.Elems.length bq, .slice bi e.Prefix.length bj, .slice bP e.Last.length bQ, .slice bt e.Right.length bu, .slice bv e.Rules.length bw, .int .i64 e.Done] 29 (0, 0))] ++ A) w bp bq e.Elems ∧ ISl (Rp.int .i64) (bl [.blk B2 (.cells #[.int .i64 e.Points, .bool e.Monoid, .slice bY e.Gens.length bZ, .slice bp e.Elems.length bq, .slice bi e.Prefix.length bj, .slice bP e.Last.length bQ, .slice bt e.Right.length bu, .slice bv e.Rules.length bw, .int .i64 e.Done] 29 (0, 0))] ++ A) w bi bj e.Prefix ∧ ISl (Rp.int .i64) (bl [.blk B2 (.cells #[.int .i64 e.Points, .bool e.Monoid, .slice bY e.Gens.length bZ, .slice bp e.Elems.length bq, .slice bi e.Prefix.length bj, .slice bP e.Last.length bQ, .slice bt e.Right.length bu, .slice bv e.Rules.length bw, .int .i64 e.Done] 29 (0, 0))] ++ A) w bP bQ e.Last ∧ ISl (Rp.sl (Rp.int .i64)) (bl [.blk B2 (.cells #[.int .i64 e.Points, .bool e.Monoid, .slice bY e.Gens.length bZ, .slice bp e.Elems.length bq, .slice bi e.Prefix.length bj, .slice bP e.Last.length bQ, .slice bt e.Right.length bu, .slice bv e.Rules.length bw, .int .i64 e.Done] 29 (0, 0))] ++ A) w bt bu e.Right ∧ ISl (rpRule) (bl [.blk B2 (.cells #[.int .i64 e.Points, .bool e.Monoid, .slice bY e.Gens.length bZ, .slice bp e.Elems.length bq, .slice bi e.Prefix.length bj, .slice bP e.Last.length bQ, .slice bt e.Right.length bu, .slice bv e.Rules.length bw, .int .i64 e.Done] 29 (0, 0))] ++ A) w bv bw e.Rules ∧ Fr (bl []) w0 (bl [.blk B2 (.cells #[.int .i64 e.Points, .bool e.Monoid, .slice bY e.Gens.length bZ, .slice bp e.Elems.length bq, .slice bi e.Prefix.length bj, .slice bP e.Last.length bQ, .slice bt e.Right.length bu, .slice bv e.Rules.length bw, .int .i64 e.Done] 29 (0, 0))]) w) H ⟨⟨rfl, rfl, trivial⟩, hO, aZ, aU, aK, a5, aV, aW, hB⟩ ?_
   intro X3 _
   intro H hX3 σ OW
   refine andE fun hag => andE fun hO => andE fun aZ => andE fun aU => andE fun aK => andE fun a5 => andE fun aV => andE fun aW => fun hB => ?_
   refine Go1.keep [(1, .pointer (some ⟨B2, 0, none⟩)), (4, .pointer none)] hag ?_
   refine Go1.seq ?_
   refine Go1.seq ?_
   refine Go1.drawS 0 [(0, .pure), (1, .pure), (2, .pure), (3, .pure), (4, .stable), (5, .pure), (6, .stable), (7, .pure)] mixed (by kernel_rfl) ?_
   intro OX Ag
   have tC := Stp.same hO Ag
   replace hO := tC.own
   replace aZ := aZ.ch tC.ch
   replace aU := aU.ch tC.ch
   replace aK := aK.ch tC.ch
   replace a5 := a5.ch tC.ch
   replace aV := aV.ch tC.ch
   replace aW := aW.ch tC.ch
   replace hB := hB.trans tC.fr
   refine GoQ.pure rfl (op_move rfl) rfl rfl ?_
   exact H.elim
  replace H := ifn Az H
  refine GoR.op ((fun w => opB (op_neq rfl rfl w) (ndF Az)) _) rfl rfl ?_
  refine GoR.nil ?_
  refine Go1.condT rfl rfl ?_
  refine Go1.seq ?_
  refine Go1.region ?_
  refine GoR.op ((op_assign rfl) _) rfl rfl ?_
  refine GoR.op ((op_assign rfl) _) rfl rfl ?_
  refine GoR.nil ?_
  refine Go1.ret2 Try.func53 rfl ?_
  exact Or.inl ⟨false, rfl, hB.same, H⟩
 ·refine exE fun r174 => exE fun r175 => exE fun er => exE fun xk => exE fun xl => exE fun xm => exE fun wm => exE fun wn => exE fun wo => exE fun wq => exE fun vU => exE fun vV => exE fun vW => exE fun vX => exE fun vp => exE fun xn => exE fun xo => exE fun xp => exE fun wr => exE fun ws => exE fun wt => exE fun wu => exE fun vY => exE fun wv => exE fun ww => exE fun wx => exE fun vZ => exE fun b4 => exE fun zh => exE fun zi => exE fun zj => exE fun yr => exE fun yt => exE fun yu => exE fun yv => exE fun yl => exE fun yw => exE fun yy => exE fun yz => exE fun ym => andE fun hv188 => andE fun Ay => andE fun hN179 => andE fun oB => andE fun oa => andE fun nN => andE fun oC => andE fun ob => andE fun oc => andE fun ss => andE fun rK => andE fun rL => fun H => ?_
  subst hv188
  clear hcase180
  replace H := oElimS H
  have sM := Stp.more hO Ay hN179
  dsimp only [List.cons_append, List.nil_append] at sM
  replace hO := sM.own
  replace aZ := aZ.ch sM.ch
  replace aU := aU.ch sM.ch
  replace aK := aK.ch sM.ch
  replace a5 := a5.ch sM.ch
  replace aV := aV.ch sM.ch
  replace aW := aW.ch sM.ch
  replace hB := hB.trans sM.fr
  replace oB := oB.ch (Ch.assoc _ _ _ _)
  dsimp only [List.cons_append, List.nil_append] at oB
  replace oa := oa.ch (Ch.assoc _ _ _ _)
  dsimp only [List.cons_append, List.nil_append] at oa
  replace nN := nN.ch (Ch.assoc _ _ _ _)
  dsimp only [List.cons_append, List.nil_append] at nN
  replace oC := oC.ch (Ch.assoc _ _ _ _)
  dsimp only [List.cons_append, List.nil_append] at oC
  replace ob := ob.ch (Ch.assoc _ _ _ _)
  dsimp only [List.cons_append, List.nil_append] at ob
  replace oc := oc.ch (Ch.assoc _ _ _ _)
  dsimp only [List.cons_append, List.nil_append] at oc
  replace ss := ss.ch (Ch.assoc _ _ _ _)
  dsimp only [List.cons_append, List.nil_append] at ss
  replace rK := rK.ch (Ch.assoc _ _ _ _)
  dsimp only [List.cons_append, List.nil_append] at rK
  replace rL := rL.ch (Ch.assoc _ _ _ _)
  dsimp only [List.cons_append, List.nil_append] at rL
  refine GoR.op ((op_move rfl) _) rfl rfl ?_
  refine GoR.op ((op_extract rfl rfl) _) rfl rfl ?_
  refine GoR.op ((op_extract rfl rfl) _) rfl rfl ?_
  refine GoR.op ((op_assign rfl) _) rfl rfl ?_
  refine GoR.op ((op_assign rfl) _) rfl rfl ?_
  refine GoR.nil ?_
  refine Go1.seq ?_
  refine Go1.seq ?_
  refine Go1.region ?_
  refine GoR.op ((op_move rfl) _) rfl rfl ?_
  by_cases AA : r175 = (0 : Int)
  ·replace H := ifp AA H
   refine GoR.op ((fun w => opB (op_neq rfl rfl w) (ndT AA)) _) rfl rfl ?_
   refine GoR.nil ?_
   refine Go1.condF rfl rfl ?_
   refine Go1.skip ?_
   refine Go1.seq ?_
   refine Go1.block ?_
   refine Go1.loopW (S := Int × Bool × Int × List (List Int) × List (List Int) × List Int × List Int × List (List Int) × List Rule × List Str × List Int × List Int × (List (Str × Int))) (fun s σ w => match s with | (k4_203, b4_204, k4_205, d_206, d_212, d_218, d_224, d_230, d_236, d_242, d_248, d_254, m4_260) => ∃ (ff : Nat), ∃ (fh : Option Addr), ∃ (fk : Nat), ∃ (gt : List Value), ∃ (eX : Nat), ∃ (eG : Option Addr), ∃ (eH : Nat), ∃ (iu : List Value), ∃ (eY : Nat), ∃ (eI : Option Addr), ∃ (eK : Nat), ∃ (iv : List Value), ∃ (e8 : Nat), ∃ (eM : Option Addr), ∃ (eN : Nat), ∃ (iw : List Value), ∃ (e9 : Nat), ∃ (eO : Option Addr), ∃ (eP : Nat), ∃ (iA : List Value), ∃ (fd : Nat), ∃ (eQ : Option Addr), ∃ (eU : Nat), ∃ (iB : List Value), ∃ (fm : Nat), ∃ (fo : Option Addr), ∃ (fq : Nat), ∃ (iC : List Value), ∃ (ft : Nat), ∃ (fu : Option Addr), ∃ (fv : Nat), ∃ (iD : List Value), ∃ (fw : Nat), ∃ (fx : Option Addr), ∃ (fy : Nat), ∃ (iE : List Value), agrees σ [(1, .pointer (some ⟨B2, 0, none⟩)), (4, .pointer (some ⟨er, 0, none⟩))] ∧ Owns w0.heap.size w [.blk er (.cells #[.int .i64 k4_203, .bool b4_204, .slice fh ff fk, .slice eG eX eH, .slice eI eY eK, .slice eM e8 eN, .slice eO e9 eP, .slice eQ fd eU, .int .i64 k4_205, .map (some b4), .slice fo fm fq, .slice fu ft fv, .slice fx fw fy] 72 (0, 0)), .row 26 1 fh ff fk gt, .row 26 1 eG eX eH iu, .row 3 1 eI eY eK iv, .row 3 1 eM e8 eN iw, .row 26 1 eO e9 eP iA, .row 39 2 eQ fd eU iB, .row 9 1 fo fm fq iC, .row 3 1 fu ft fv iD, .row 3 1 fx fw fy iE, .any (mapE (fun a : List UInt8 => Value.string (gstr a)) (fun a : Int => Value.int .i64 a) b4 m4_260), .blk B2 (.cells #[.int .i64 e.Points, .bool e.Monoid, .slice bY e.Gens.length bZ, .slice bp e.Elems.length bq, .slice bi e.Prefix.length bj, .slice bP e.Last.length bQ, .slice bt e.Right.length bu, .slice bv e.Rules.length bw, .int .i64 e.Done] 29 (0, 0))] A ∧ Els (Rp.sl (Rp.int .i64)) (bl [.blk er (.cells #[.int .i64 k4_203, .bool b4_204, .slice fh ff fk, .slice eG eX eH, .slice eI eY eK, .slice eM e8 eN, .slice eO e9 eP, .slice eQ fd eU, .int .i64 k4_205, .map (some b4), .slice fo fm fq, .slice fu ft fv, .slice fx fw fy] 72 (0, 0)), .row 26 1 fh ff fk gt, .row 26 1 eG eX eH iu, .row 3 1 eI eY eK iv, .row 3 1 eM e8 eN iw, .row 26 1 eO e9 eP iA, .row 39 2 eQ fd eU iB, .row 9 1 fo fm fq iC, .row 3 1 fu ft fv iD, .row 3 1 fx fw fy iE, .any (mapE (fun a : List UInt8 => Value.string (gstr a)) (fun a : Int => Value.int .i64 a) b4 m4_260), .blk B2 (.cells #[.int .i64 e.Points, .bool e.Monoid, .slice bY e.Gens.length bZ, .slice bp e.Elems.length bq, .slice bi e.Prefix.length bj, .slice bP e.Last.length bQ, .slice bt e.Right.length bu, .slice bv e.Rules.length bw, .int .i64 e.Done] 29 (0, 0))] ++ A) w gt d_206 ∧ Els (Rp.sl (Rp.int .i64)) (bl [.blk er (.cells #[.int .i64 k4_203, .bool b4_204, .slice fh ff fk, .slice eG eX eH, .slice eI eY eK, .slice eM e8 eN, .slice eO e9 eP, .slice eQ fd eU, .int .i64 k4_205, .map (some b4), .slice fo fm fq, .slice fu ft fv, .slice fx fw fy] 72 (0, 0)), .row 26 1 fh ff fk gt, .row 26 1 eG eX eH iu, .row 3 1 eI eY eK iv, .row 3 1 eM e8 eN iw, .row 26 1 eO e9 eP iA, .row 39 2 eQ fd eU iB, .row 9 1 fo fm fq iC, .row 3 1 fu ft fv iD, .row 3 1 fx fw fy iE, .any (mapE (fun a : List UInt8 => Value.string (gstr a)) (fun a : Int => Value.int .i64 a) b4 m4_260), .blk B2 (.cells #[.int .i64 e.Points, .bool e.Monoid, .slice bY e.Gens.length bZ, .slice bp e.Elems.length bq, .slice bi e.Prefix.length bj, .slice bP e.Last.length bQ, .slice bt e.Right.length bu, .slice bv e.Rules.length bw, .int .i64 e.Done] 29 (0, 0))] ++ A) w iu d_212 ∧ Els (Rp.int .i64) (bl [.blk er (.cells #[.int .i64 k4_203, .bool b4_204, .slice fh ff fk, .slice eG eX eH, .slice eI eY eK, .slice eM e8 eN, .slice eO e9 eP, .slice eQ fd eU, .int .i64 k4_205, .map (some b4), .slice fo fm fq, .slice fu ft fv, .slice fx fw fy] 72 (0, 0)), .row 26 1 fh ff fk gt, .row 26 1 eG eX eH iu, .row 3 1 eI eY eK iv, .row 3 1 eM e8 eN iw, .row 26 1 eO e9 eP iA, .row 39 2 eQ fd eU iB, .row 9 1 fo fm fq iC, .row 3 1 fu ft fv iD, .row 3 1 fx fw fy iE, .any (mapE (fun a : List UInt8 => Value.string (gstr a)) (fun a : Int => Value.int .i64 a) b4 m4_260), .blk B2 (.cells #[.int .i64 e.Points, .bool e.Monoid, .slice bY e.Gens.length bZ, .slice bp e.Elems.length bq, .slice bi e.Prefix.length bj, .slice bP e.Last.length bQ, .slice bt e.Right.length bu, .slice bv e.Rules.length bw, .int .i64 e.Done] 29 (0, 0))] ++ A) w iv d_218 ∧ Els (Rp.int .i64) (bl [.blk er (.cells #[.int .i64 k4_203, .bool b4_204, .slice fh ff fk, .slice eG eX eH, .slice eI eY eK, .slice eM e8 eN, .slice eO e9 eP, .slice eQ fd eU, .int .i64 k4_205, .map (some b4), .slice fo fm fq, .slice fu ft fv, .slice fx fw fy] 72 (0, 0)), .row 26 1 fh ff fk gt, .row 26 1 eG eX eH iu, .row 3 1 eI eY eK iv, .row 3 1 eM e8 eN iw, .row 26 1 eO e9 eP iA, .row 39 2 eQ fd eU iB, .row 9 1 fo fm fq iC, .row 3 1 fu ft fv iD, .row 3 1 fx fw fy iE, .any (mapE (fun a : List UInt8 => Value.string (gstr a)) (fun a : Int => Value.int .i64 a) b4 m4_260), .blk B2 (.cells #[.int .i64 e.Points, .bool e.Monoid, .slice bY e.Gens.length bZ, .slice bp e.Elems.length bq, .slice bi e.Prefix.length bj, .slice bP e.Last.length bQ, .slice bt e.Right.length bu, .slice bv e.Rules.length bw, .int .i64 e.Done] 29 (0, 0))] ++ A) w iw d_224 ∧ Els (Rp.sl (Rp.int .i64)) (bl [.blk er (.cells #[.int .i64 k4_203, .bool b4_204, .slice fh ff fk, .slice eG eX eH, .slice eI eY eK, .slice eM e8 eN, .slice eO e9 eP, .slice eQ fd eU, .int .i64 k4_205, .map (some b4), .slice fo fm fq, .slice fu ft fv, .slice fx fw fy] 72 (0, 0)), .row 26 1 fh ff fk gt, .row 26 1 eG eX eH iu, .row 3 1 eI eY eK iv, .row 3 1 eM e8 eN iw, .row 26 1 eO e9 eP iA, .row 39 2 eQ fd eU iB, .row 9 1 fo fm fq iC, .row 3 1 fu ft fv iD, .row 3 1 fx fw fy iE, .any (mapE (fun a : List UInt8 => Value.string (gstr a)) (fun a : Int => Value.int .i64 a) b4 m4_260), .blk B2 (.cells #[.int .i64 e.Points, .bool e.Monoid, .slice bY e.Gens.length bZ, .slice bp e.Elems.length bq, .slice bi e.Prefix.length bj, .slice bP e.Last.length bQ, .slice bt e.Right.length bu, .slice bv e.Rules.length bw, .int .i64 e.Done] 29 (0, 0))] ++ A) w iA d_230 ∧ Els (rpRule) (bl [.blk er (.cells #[.int .i64 k4_203, .bool b4_204, .slice fh ff fk, .slice eG eX eH, .slice eI eY eK, .slice eM e8 eN, .slice eO e9 eP, .slice eQ fd eU, .int .i64 k4_205, .map (some b4), .slice fo fm fq, .slice fu ft fv, .slice fx fw fy] 72 (0, 0)), .row 26 1 fh ff fk gt, .row 26 1 eG eX eH iu, .row 3 1 eI eY eK iv, .row 3 1 eM e8 eN iw, .row 26 1 eO e9 eP iA, .row 39 2 eQ fd eU iB, .row 9 1 fo fm fq iC, .row 3 1 fu ft fv iD, .row 3 1 fx fw fy iE, .any (mapE (fun a : List UInt8 => Value.string (gstr a)) (fun a : Int => Value.int .i64 a) b4 m4_260), .blk B2 (.cells #[.int .i64 e.Points, .bool e.Monoid, .slice bY e.Gens.length bZ, .slice bp e.Elems.length bq, .slice bi e.Prefix.length bj, .slice bP e.Last.length bQ, .slice bt e.Right.length bu, .slice bv e.Rules.length bw, .int .i64 e.Done] 29 (0, 0))] ++ A) w iB d_236 ∧ Els (Rp.str) (bl [.blk er (.cells #[.int .i64 k4_203, .bool b4_204, .slice fh ff fk, .slice eG eX eH, .slice eI eY eK, .slice eM e8 eN, .slice eO e9 eP, .slice eQ fd eU, .int .i64 k4_205, .map (some b4), .slice fo fm fq, .slice fu ft fv, .slice fx fw fy] 72 (0, 0)), .row 26 1 fh ff fk gt, .row 26 1 eG eX eH iu, .row 3 1 eI eY eK iv, .row 3 1 eM e8 eN iw, .row 26 1 eO e9 eP iA, .row 39 2 eQ fd eU iB, .row 9 1 fo fm fq iC, .row 3 1 fu ft fv iD, .row 3 1 fx fw fy iE, .any (mapE (fun a : List UInt8 => Value.string (gstr a)) (fun a : Int => Value.int .i64 a) b4 m4_260), .blk B2 (.cells #[.int .i64 e.Points, .bool e.Monoid, .slice bY e.Gens.length bZ, .slice bp e.Elems.length bq, .slice bi e.Prefix.length bj, .slice bP e.Last.length bQ, .slice bt e.Right.length bu, .slice bv e.Rules.length bw, .int .i64 e.Done] 29 (0, 0))] ++ A) w iC d_242 ∧ Els (Rp.int .i64) (bl [.blk er (.cells #[.int .i64 k4_203, .bool b4_204, .slice fh ff fk, .slice eG eX eH, .slice eI eY eK, .slice eM e8 eN, .slice eO e9 eP, .slice eQ fd eU, .int .i64 k4_205, .map (some b4), .slice fo fm fq, .slice fu ft fv, .slice fx fw fy] 72 (0, 0)), .row 26 1 fh ff fk gt, .row 26 1 eG eX eH iu, .row 3 1 eI eY eK iv, .row 3 1 eM e8 eN iw, .row 26 1 eO e9 eP iA, .row 39 2 eQ fd eU iB, .row 9 1 fo fm fq iC, .row 3 1 fu ft fv iD, .row 3 1 fx fw fy iE, .any (mapE (fun a : List UInt8 => Value.string (gstr a)) (fun a : Int => Value.int .i64 a) b4 m4_260), .blk B2 (.cells #[.int .i64 e.Points, .bool e.Monoid, .slice bY e.Gens.length bZ, .slice bp e.Elems.length bq, .slice bi e.Prefix.length bj, .slice bP e.Last.length bQ, .slice bt e.Right.length bu, .slice bv e.Rules.length bw, .int .i64 e.Done] 29 (0, 0))] ++ A) w iD d_248 ∧ Els (Rp.int .i64) (bl [.blk er (.cells #[.int .i64 k4_203, .bool b4_204, .slice fh ff fk, .slice eG eX eH, .slice eI eY eK, .slice eM e8 eN, .slice eO e9 eP, .slice eQ fd eU, .int .i64 k4_205, .map (some b4), .slice fo fm fq, .slice fu ft fv, .slice fx fw fy] 72 (0, 0)), .row 26 1 fh ff fk gt, .row 26 1 eG eX eH iu, .row 3 1 eI eY eK iv, .row 3 1 eM e8 eN iw, .row 26 1 eO e9 eP iA, .row 39 2 eQ fd eU iB, .row 9 1 fo fm fq iC, .row 3 1 fu ft fv iD, .row 3 1 fx fw fy iE, .any (mapE (fun a : List UInt8 => Value.string (gstr a)) (fun a : Int => Value.int .i64 a) b4 m4_260), .blk B2 (.cells #[.int .i64 e.Points, .bool e.Monoid, .slice bY e.Gens.length bZ, .slice bp e.Elems.length bq, .slice bi e.Prefix.length bj, .slice bP e.Last.length bQ, .slice bt e.Right.length bu, .slice bv e.Rules.length bw, .int .i64 e.Done] 29 (0, 0))] ++ A) w iE d_254 ∧ ISl (Rp.sl (Rp.int .i64)) (bl [.blk er (.cells #[.int .i64 k4_203, .bool b4_204, .slice fh ff fk, .slice eG eX eH, .slice eI eY eK, .slice eM e8 eN, .slice eO e9 eP, .slice eQ fd eU, .int .i64 k4_205, .map (some b4), .slice fo fm fq, .slice fu ft fv, .slice fx fw fy] 72 (0, 0)), .row 26 1 fh ff fk gt, .row 26 1 eG eX eH iu, .row 3 1 eI eY eK iv, .row 3 1 eM e8 eN iw, .row 26 1 eO e9 eP iA, .row 39 2 eQ fd eU iB, .row 9 1 fo fm fq iC, .row 3 1 fu ft fv iD, .row 3 1 fx fw fy iE, .any (mapE (fun a : List UInt8 => Value.string (gstr a)) (fun a : Int => Value.int .i64 a) b4 m4_260), .blk B2 (.cells #[.int .i64 e.Points, .bool e.Monoid, .slice bY e.Gens.length bZ, .slice bp e.Elems.length bq, .slice bi e.Prefix.length bj, .slice bP e.Last.length bQ, .slice bt e.Right.length bu, .slice bv e.Rules.length bw, .int .i64 e.Done] 29 (0, 0))] ++ A) w bY bZ e.Gens ∧ ISl (Rp.sl (Rp.int .i64)) (bl [.blk er (.cells #[.int .i64 k4_203, .bool b4_204, .slice fh ff fk, .slice eG eX eH, .slice eI eY eK, .slice eM e8 eN, .slice eO e9 eP, .slice eQ fd eU, .int .i64 k4_205, .map (some b4), .slice fo fm fq, .slice fu ft fv, .slice fx fw fy] 72 (0, 0)), .row 26 1 fh ff fk gt, .row 26 1 eG eX eH iu, .row 3 1 eI eY eK iv, .row 3 1 eM e8 eN iw, .row 26 1 eO e9 eP iA, .row 39 2 eQ fd eU iB, .row 9 1 fo fm fq iC, .row 3 1 fu ft fv iD, .row 3 1 fx fw fy iE, .any (mapE (fun a : List UInt8 => Value.string (gstr a)) (fun a : Int => Value.int .i64 a) b4 m4_260), .blk B2 (.cells #[.int .i64 e.Points, .bool e.Monoid, .slice bY e.Gens.length bZ, .slice bp e.Elems.length bq, .slice bi e.Prefix.length bj, .slice bP e.Last.length bQ, .slice bt e.Right.length bu, .slice bv e.Rules.length bw, .int .i64 e.Done] 29 (0, 0))] ++ A) w bp bq e.Elems ∧ ISl (Rp.int .i64) (bl [.blk er (.cells #[.int .i64 k4_203, .bool b4_204, .slice fh ff fk, .slice eG eX eH, .slice eI eY eK, .slice eM e8 eN, .slice eO e9 eP, .slice eQ fd eU, .int .i64 k4_205, .map (some b4), .slice fo fm fq, .slice fu ft fv, .slice fx fw fy] 72 (0, 0)), .row 26 1 fh ff fk gt, .row 26 1 eG eX eH iu, .row 3 1 eI eY eK iv, .row 3 1 eM e8 eN iw, .row 26 1 eO e9 eP iA, .row 39 2 eQ fd eU iB, .row 9 1 fo fm fq iC, .row 3 1 fu ft fv iD, .row 3 1 fx fw fy iE, .any (mapE (fun a : List UInt8 => Value.string (gstr a)) (fun a : Int => Value.int .i64 a) b4 m4_260), .blk B2 (.cells #[.int .i64 e.Points, .bool e.Monoid, .slice bY e.Gens.length bZ, .slice bp e.Elems.length bq, .slice bi e.Prefix.length bj, .slice bP e.Last.length bQ, .slice bt e.Right.length bu, .slice bv e.Rules.length bw, .int .i64 e.Done] 29 (0, 0))] ++ A) w bi bj e.Prefix ∧ ISl (Rp.int .i64) (bl [.blk er (.cells #[.int .i64 k4_203, .bool b4_204, .slice fh ff fk, .slice eG eX eH, .slice eI eY eK, .slice eM e8 eN, .slice eO e9 eP, .slice eQ fd eU, .int .i64 k4_205, .map (some b4), .slice fo fm fq, .slice fu ft fv, .slice fx fw fy] 72 (0, 0)), .row 26 1 fh ff fk gt, .row 26 1 eG eX eH iu, .row 3 1 eI eY eK iv, .row 3 1 eM e8 eN iw, .row 26 1 eO e9 eP iA, .row 39 2 eQ fd eU iB, .row 9 1 fo fm fq iC, .row 3 1 fu ft fv iD, .row 3 1 fx fw fy iE, .any (mapE (fun a : List UInt8 => Value.string (gstr a)) (fun a : Int => Value.int .i64 a) b4 m4_260), .blk B2 (.cells #[.int .i64 e.Points, .bool e.Monoid, .slice bY e.Gens.length bZ, .slice bp e.Elems.length bq, .slice bi e.Prefix.length bj, .slice bP e.Last.length bQ, .slice bt e.Right.length bu, .slice bv e.Rules.length bw, .int .i64 e.Done] 29 (0, 0))] ++ A) w bP bQ e.Last ∧ ISl (Rp.sl (Rp.int .i64)) (bl [.blk er (.cells #[.int .i64 k4_203, .bool b4_204, .slice fh ff fk, .slice eG eX eH, .slice eI eY eK, .slice eM e8 eN, .slice eO e9 eP, .slice eQ fd eU, .int .i64 k4_205, .map (some b4), .slice fo fm fq, .slice fu ft fv, .slice fx fw fy] 72 (0, 0)), .row 26 1 fh ff fk gt, .row 26 1 eG eX eH iu, .row 3 1 eI eY eK iv, .row 3 1 eM e8 eN iw, .row 26 1 eO e9 eP iA, .row 39 2 eQ fd eU iB, .row 9 1 fo fm fq iC, .row 3 1 fu ft fv iD, .row 3 1 fx fw fy iE, .any (mapE (fun a : List UInt8 => Value.string (gstr a)) (fun a : Int => Value.int .i64 a) b4 m4_260), .blk B2 (.cells #[.int .i64 e.Points, .bool e.Monoid, .slice bY e.Gens.length bZ, .slice bp e.Elems.length bq, .slice bi e.Prefix.length bj, .slice bP e.Last.length bQ, .slice bt e.Right.length bu, .slice bv e.Rules.length bw, .int .i64 e.Done] 29 (0, 0))] ++ A) w bt bu e.Right ∧ ISl (rpRule) (bl [.blk er (.cells #[.int .i64 k4_203, .bool b4_204, .slice fh ff fk, .slice eG eX eH, .slice eI eY eK, .slice eM e8 eN, .slice eO e9 eP, .slice eQ fd eU, .int .i64 k4_205, .map (some b4), .slice fo fm fq, .slice fu ft fv, .slice fx fw fy] 72 (0, 0)), .row 26 1 fh ff fk gt, .row 26 1 eG eX eH iu, .row 3 1 eI eY eK iv, .row 3 1 eM e8 eN iw, .row 26 1 eO e9 eP iA, .row 39 2 eQ fd eU iB, .row 9 1 fo fm fq iC, .row 3 1 fu ft fv iD, .row 3 1 fx fw fy iE, .any (mapE (fun a : List UInt8 => Value.string (gstr a)) (fun a : Int => Value.int .i64 a) b4 m4_260), .blk B2 (.cells #[.int .i64 e.Points, .bool e.Monoid, .slice bY e.Gens.length bZ, .slice bp e.Elems.length bq, .slice bi e.Prefix.length bj, .slice bP e.Last.length bQ, .slice bt e.Right.length bu, .slice bv e.Rules.length bw, .int .i64 e.Done] 29 (0, 0))] ++ A) w bv bw e.Rules ∧ Fr (bl []) w0 (bl [.blk er (.cells #[.int .i64 k4_203, .bool b4_204, .slice fh ff fk, .slice eG eX eH, .slice eI eY eK, .slice eM e8 eN, .slice eO e9 eP, .slice eQ fd eU, .int .i64 k4_205, .map (some b4), .slice fo fm fq, .slice fu ft fv, .slice fx fw fy] 72 (0, 0)), .row 26 1 fh ff fk gt, .row 26 1 eG eX eH iu, .row 3 1 eI eY eK iv, .row 3 1 eM e8 eN iw, .row 26 1 eO e9 eP iA, .row 39 2 eQ fd eU iB, .row 9 1 fo fm fq iC, .row 3 1 fu ft fv iD, .row 3 1 fx fw fy iE, .any (mapE (fun a : List UInt8 => Value.string (gstr a)) (fun a : Int => Value.int .i64 a) b4 m4_260), .blk B2 (.cells #[.int .i64 e.Points, .bool e.Monoid, .slice bY e.Gens.length bZ, .slice bp e.Elems.length bq, .slice bi e.Prefix.length bj, .slice bP e.Last.length bQ, .slice bt e.Right.length bu, .slice bv e.Rules.length bw, .int .i64 e.Done] 29 (0, 0))]) w) H ⟨xk, xl, xm, wm, wn, wo, wq, vU, vV, vW, vX, vp, xn, xo, xp, wr, ws, wt, wu, vY, wv, ww, wx, vZ, zh, zi, zj, yr, yt, yu, yv, yl, yw, yy, yz, ym, ⟨rfl, rfl, trivial⟩, hO, oB, oa, nN, oC, ob, oc, ss, rK, rL, aZ, aU, aK, a5, aV, aW, hB⟩ ?_
   intro X4
   refine prE fun k4_203 => prE fun b4_204 => prE fun k4_205 => prE fun d_206 => prE fun d_212 => prE fun d_218 => prE fun d_224 => prE fun d_230 => prE fun d_236 => prE fun d_242 => prE fun d_248 => prE fun d_254 => fun m4_260 => ?_
   intro H hX4 σ I6
   refine exE fun ff => exE fun fh => exE fun fk => exE fun gt => exE fun eX => exE fun eG => exE fun eH => exE fun iu => exE fun eY => exE fun eI => exE fun eK => exE fun iv => exE fun e8 => exE fun eM => exE fun eN => exE fun iw => exE fun e9 => exE fun eO => exE fun eP => exE fun iA => exE fun fd => exE fun eQ => exE fun eU => exE fun iB => exE fun fm => exE fun fo => exE fun fq => exE fun iC => exE fun ft => exE fun fu => exE fun fv => exE fun iD => exE fun fw => exE fun fx => exE fun fy => exE fun iE => andE fun hag => andE fun hO => andE fun dz => andE fun dt => andE fun du => andE fun dw => andE fun dx => andE fun dy => andE fun dA => andE fun dB => andE fun dC => andE fun aZ => andE fun aU => andE fun aK => andE fun a5 => andE fun aV => andE fun aW => fun hB => ?_
   dsimp only at H
   refine Go1.keep [(1, .pointer (some ⟨B2, 0, none⟩)), (4, .pointer (some ⟨er, 0, none⟩))] hag ?_
   refine Go1.seq ?_
   refine Go1.seq ?_
   refine Go1.drawS 0 [(0, .pure), (1, .pure), (2, .pure), (3, .pure), (4, .stable), (5, .pure), (6, .stable), (7, .pure)] mixed (by kernel_rfl) ?_
   intro OY H1
   have mr := Stp.same hO H1
   replace dz := dz.ch mr.ch
   replace dt := dt.ch mr.ch
   replace du := du.ch mr.ch
   replace dw := dw.ch mr.ch
   replace dx := dx.ch mr.ch
   replace dy := dy.ch mr.ch
   replace dA := dA.ch mr.ch
   replace dB := dB.ch mr.ch
   replace dC := dC.ch mr.ch
   replace hO := mr.own
   replace aZ := aZ.ch mr.ch
   replace aU := aU.ch mr.ch
   replace aK := aK.ch mr.ch
   replace a5 := a5.ch mr.ch
   replace aV := aV.ch mr.ch
   replace aW := aW.ch mr.ch
   replace hB := hB.trans mr.fr
   refine GoQ.pure rfl (op_move rfl) rfl rfl ?_
   refine GoQ.pure rfl (op_nilCheck rfl) rfl rfl ?_
   refine GoQ.pure rfl (op_fieldAddr Try.underlying72 rfl ti29 rfl (by decide)) rfl rfl ?_
   refine GoQ.pure rfl (op_fieldAddr Try.underlying29 rfl ti3 rfl (by decide)) rfl rfl ?_
   refine GoQ.stable rfl (oblk (i := 8) 0 hO rfl rfl Try.underlying3 rfl rfl) rfl rfl ?_
   refine GoQ.pure rfl (op_fieldAddr Try.underlying29 rfl ti3 rfl (by decide)) rfl rfl ?_
   refine GoQ.stable rfl (oblk (i := 8) 11 hO rfl rfl Try.underlying3 rfl rfl) rfl rfl ?_
   by_cases AB : k4_205 < e.Done
   ·replace H := ifp AB H
    refine GoQ.pure rfl (fun w => opB (op_lss rfl rfl w) (decide_eq_true AB)) rfl rfl ?_
    refine GoQ.nil ?_
    refine Go1.condT rfl rfl ?_
    refine Go1.skip ?_
    refine Go1.block ?_
    refine Go1.seq ?_
    refine Go1.region ?_
    refine GoR.op ((op_move rfl) _) rfl rfl ?_
    refine GoR.inl (vs := [.pointer (some ⟨er, 0, none⟩)]) (caps := []) rfl rfl body50 Try.func50 rfl Try.ntmps50 rfl rfl rfl ?_
    intro RhR265 hR265
    refine Go1.seq ?_
    refine Go1.region ?_
    refine GoR.op ((op_assign rfl) _) rfl rfl ?_
    refine GoR.nil ?_
    refine Go1.seq ?_
    refine Go1.drawS 0 [(0, .pure), (1, .pure), (2, .pure), (3, .pure), (4, .stable), (5, .pure), (6, .pure), (7, .pure), (8, .pure), (9, .stable), (10, .pure), (11, .pure), (12, .pure)] mixed (by kernel_rfl) ?_
    intro zk H2
    have ms := Stp.same hO H2
    replace dz := dz.ch ms.ch
    replace dt := dt.ch ms.ch
    replace du := du.ch ms.ch
    replace dw := dw.ch ms.ch
    replace dx := dx.ch ms.ch
    replace dy := dy.ch ms.ch
    replace dA := dA.ch ms.ch
    replace dB := dB.ch ms.ch
    replace dC := dC.ch ms.ch
    replace hO := ms.own
    replace aZ := aZ.ch ms.ch
    replace aU := aU.ch ms.ch
    replace aK := aK.ch ms.ch
    replace a5 := a5.ch ms.ch
    replace aV := aV.ch ms.ch
    replace aW := aW.ch ms.ch
    replace hB := hB.trans ms.fr
    refine GoQ.pure rfl (op_move rfl) rfl rfl ?_
    refine GoQ.pure rfl (op_nilCheck rfl) rfl rfl ?_
    refine GoQ.pure rfl (op_fieldAddr Try.underlying72 rfl ti29 rfl (by decide)) rfl rfl ?_
    refine GoQ.pure rfl (op_fieldAddr Try.underlying29 rfl ti3 rfl (by decide)) rfl rfl ?_
    refine GoQ.stable rfl (oblk (i := 8) 0 hO rfl rfl Try.underlying3 rfl rfl) rfl rfl ?_
    refine GoQ.pure rfl (op_move rfl) rfl rfl ?_
    refine GoQ.pure rfl (op_nilCheck rfl) rfl rfl ?_
    refine GoQ.pure rfl (op_fieldAddr Try.underlying72 rfl ti29 rfl (by decide)) rfl rfl ?_
    refine GoQ.pure rfl (op_fieldAddr Try.underlying29 rfl ti22 rfl (by decide)) rfl rfl ?_
    refine GoQ.stable rfl (oblk (i := 3) 0 hO rfl rfl Try.underlying22 rfl rfl) rfl rfl ?_
    refine GoQ.pure rfl (op_lenN Try.underlying22 rfl (dt.neq hO 2 rfl)) rfl rfl ?_
    by_cases AC : k4_205 = (d_212.length : Int)
    ·replace H := ifp AC H
     refine GoQ.pure rfl (fun w => opB (op_eql rfl rfl w) (decide_eq_true AC)) rfl rfl ?_
     refine GoQ.pure rfl (op_assign rfl) rfl rfl ?_
     refine GoQ.nil ?_
     refine Go1.ret1V Try.func50 rfl (show _ = .bool true from rfl) ?_
     refine hR265 _ _ ?_
     refine GoR.op ((op_move rfl) _) rfl rfl ?_
     refine GoR.pass rfl rfl ?_
     refine GoR.pass rfl rfl ?_
     refine GoR.pass rfl rfl ?_
     refine GoR.op ((op_pickT rfl rfl rfl) _) rfl rfl ?_
     refine GoR.nil ?_
     refine Go1.condT rfl rfl ?_
     refine Go1.seq ?_
     refine Go1.cut [] trivial ?_
     intro σ _
     refine Go1.region ?_
     refine GoR.op ((op_assign rfl) _) rfl rfl ?_
     refine GoR.op ((op_assign rfl) _) rfl rfl ?_
     refine GoR.nil ?_
     refine Go1.ret2 Try.func53 rfl ?_
     exact Or.inl ⟨false, rfl, hB.same, H⟩
    replace H := ifn AC H
    refine GoQ.pure rfl (fun w => opB (op_eql rfl rfl w) (decide_eq_false AC)) rfl rfl ?_
    refine GoQ.pure rfl (op_assign rfl) rfl rfl ?_
    refine GoQ.nil ?_
    refine Go1.ret1V Try.func50 rfl (show _ = .bool false from rfl) ?_
    refine hR265 _ _ ?_
    refine GoR.op ((op_move rfl) _) rfl rfl ?_
    refine GoR.op ((op_move rfl) _) rfl rfl ?_
    have Cm : Owns w0.heap.size zk ([.blk er (.cells #[.int .i64 k4_203, .bool b4_204, .slice fh ff fk, .slice eG eX eH, .slice eI eY eK, .slice eM e8 eN, .slice eO e9 eP, .slice eQ fd eU, .int .i64 k4_205, .map (some b4), .slice fo fm fq, .slice fu ft fv, .slice fx fw fy] 72 (0, 0)), .row 26 1 fh ff fk gt, .row 26 1 eG eX eH iu, .row 3 1 eI eY eK iv, .row 3 1 eM e8 eN iw, .row 26 1 eO e9 eP iA, .row 39 2 eQ fd eU iB, .row 9 1 fo fm fq iC, .row 3 1 fu ft fv iD, .row 3 1 fx fw fy iE, .any (mapE (fun a : List UInt8 => Value.string (gstr a)) (fun a : Int => Value.int .i64 a) b4 m4_260)] ++ [.blk B2 (.cells #[.int .i64 e.Points, .bool e.Monoid, .slice bY e.Gens.length bZ, .slice bp e.Elems.length bq, .slice bi e.Prefix.length bj, .slice bP e.Last.length bQ, .slice bt e.Right.length bu, .slice bv e.Rules.length bw, .int .i64 e.Done] 29 (0, 0))]) A := hO
    have H3 := Owns.split Cm
    have hca272 : Ch (bl [.blk er (.cells #[.int .i64 k4_203, .bool b4_204, .slice fh ff fk, .slice eG eX eH, .slice eI eY eK, .slice eM e8 eN, .slice eO e9 eP, .slice eQ fd eU, .int .i64 k4_205, .map (some b4), .slice fo fm fq, .slice fu ft fv, .slice fx fw fy] 72 (0, 0)), .row 26 1 fh ff fk gt, .row 26 1 eG eX eH iu, .row 3 1 eI eY eK iv, .row 3 1 eM e8 eN iw, .row 26 1 eO e9 eP iA, .row 39 2 eQ fd eU iB, .row 9 1 fo fm fq iC, .row 3 1 fu ft fv iD, .row 3 1 fx fw fy iE, .any (mapE (fun a : List UInt8 => Value.string (gstr a)) (fun a : Int => Value.int .i64 a) b4 m4_260), .blk B2 (.cells #[.int .i64 e.Points, .bool e.Monoid, .slice bY e.Gens.length bZ, .slice bp e.Elems.length bq, .slice bi e.Prefix.length bj, .slice bP e.Last.length bQ, .slice bt e.Right.length bu, .slice bv e.Rules.length bw, .int .i64 e.Done] 29 (0, 0))] ++ A) zk (bl [.blk er (.cells #[.int .i64 k4_203, .bool b4_204, .slice fh ff fk, .slice eG eX eH, .slice eI eY eK, .slice eM e8 eN, .slice eO e9 eP, .slice eQ fd eU, .int .i64 k4_205, .map (some b4), .slice fo fm fq, .slice fu ft fv, .slice fx fw fy] 72 (0, 0)), .row 26 1 fh ff fk gt, .row 26 1 eG eX eH iu, .row 3 1 eI eY eK iv, .row 3 1 eM e8 eN iw, .row 26 1 eO e9 eP iA, .row 39 2 eQ fd eU iB, .row 9 1 fo fm fq iC, .row 3 1 fu ft fv iD, .row 3 1 fx fw fy iE, .any (mapE (fun a : List UInt8 => Value.string (gstr a)) (fun a : Int => Value.int .i64 a) b4 m4_260)] ++ (bl [.blk B2 (.cells #[.int .i64 e.Points, .bool e.Monoid, .slice bY e.Gens.length bZ, .slice bp e.Elems.length bq, .slice bi e.Prefix.length bj, .slice bP e.Last.length bQ, .slice bt e.Right.length bu, .slice bv e.Rules.length bw, .int .i64 e.Done] 29 (0, 0))] ++ A)) zk := Ch.assoc' [.blk er (.cells #[.int .i64 k4_203, .bool b4_204, .slice fh ff fk, .slice eG eX eH, .slice eI eY eK, .slice eM e8 eN, .slice eO e9 eP, .slice eQ fd eU, .int .i64 k4_205, .map (some b4), .slice fo fm fq, .slice fu ft fv, .slice fx fw fy] 72 (0, 0)), .row 26 1 fh ff fk gt, .row 26 1 eG eX eH iu, .row 3 1 eI eY eK iv, .row 3 1 eM e8 eN iw, .row 26 1 eO e9 eP iA, .row 39 2 eQ fd eU iB, .row 9 1 fo fm fq iC, .row 3 1 fu ft fv iD, .row 3 1 fx fw fy iE, .any (mapE (fun a : List UInt8 => Value.string (gstr a)) (fun a : Int => Value.int .i64 a) b4 m4_260)] [.blk B2 (.cells #[.int .i64 e.Points, .bool e.Monoid, .slice bY e.Gens.length bZ, .slice bp e.Elems.length bq, .slice bi e.Prefix.length bj, .slice bP e.Last.length bQ, .slice bt e.Right.length bu, .slice bv e.Rules.length bw, .int .i64 e.Done] 29 (0, 0))] A zk
    refine GoR.call (op_call body51 rfl (walk_enumerate_run_process (a0 := (⟨(⟨k4_203, b4_204, d_206, d_212, d_218, d_224, d_230, d_236, k4_205⟩ : Enum), m4_260, d_242, d_248, d_254⟩ : run)) H3 (dz.ch hca272) (dt.ch hca272) (du.ch hca272) (dw.ch hca272) (dx.ch hca272) (dy.ch hca272) (dA.ch hca272) (dB.ch hca272) (dC.ch hca272) H)) rfl rfl ?_
    intro OZ AD
    refine exE fun r273 => exE fun q274 => exE fun iF => exE fun iG => exE fun iH => exE fun nb => exE fun gM => exE fun gN => exE fun gO => exE fun mt => exE fun f9 => exE fun gc => exE fun gf => exE fun lz => exE fun iI => exE fun iJ => exE fun iK => exE fun nc => exE fun gP => exE fun gQ => exE fun gR => exE fun mv => exE fun gS => exE fun gT => exE fun gU => exE fun mw => exE fun kP => exE fun kQ => exE fun kS => exE fun qC => exE fun jE => exE fun jF => exE fun jG => exE fun o0 => exE fun jH => exE fun jI => exE fun jJ => exE fun o3 => andE fun hv280 => andE fun hN277 => andE fun rT => andE fun rz => andE fun qO => andE fun rU => andE fun rB => andE fun rC => andE fun tK => andE fun ta => andE fun tc => andE fun hF278 => fun H => ?_
    subst hv280
    have tD : Stp w0.heap.size A zk [.blk er (.cells #[.int .i64 k4_203, .bool b4_204, .slice fh ff fk, .slice eG eX eH, .slice eI eY eK, .slice eM e8 eN, .slice eO e9 eP, .slice eQ fd eU, .int .i64 k4_205, .map (some b4), .slice fo fm fq, .slice fu ft fv, .slice fx fw fy] 72 (0, 0)), .row 26 1 fh ff fk gt, .row 26 1 eG eX eH iu, .row 3 1 eI eY eK iv, .row 3 1 eM e8 eN iw, .row 26 1 eO e9 eP iA, .row 39 2 eQ fd eU iB, .row 9 1 fo fm fq iC, .row 3 1 fu ft fv iD, .row 3 1 fx fw fy iE, .any (mapE (fun a : List UInt8 => Value.string (gstr a)) (fun a : Int => Value.int .i64 a) b4 m4_260), .blk B2 (.cells #[.int .i64 e.Points, .bool e.Monoid, .slice bY e.Gens.length bZ, .slice bp e.Elems.length bq, .slice bi e.Prefix.length bj, .slice bP e.Last.length bQ, .slice bt e.Right.length bu, .slice bv e.Rules.length bw, .int .i64 e.Done] 29 (0, 0))] AD [.blk er (.cells #[.int .i64 q274.Enum.Points, .bool q274.Enum.Monoid, .slice iG iF iH, .slice gN gM gO, .slice gc f9 gf, .slice iJ iI iK, .slice gQ gP gR, .slice gT gS gU, .int .i64 q274.Enum.Done, .map (some b4), .slice kQ kP kS, .slice jF jE jG, .slice jI jH jJ] 72 (0, 0)), .row 26 1 iG iF iH nb, .row 26 1 gN gM gO mt, .row 3 1 gc f9 gf lz, .row 3 1 iJ iI iK nc, .row 26 1 gQ gP gR mv, .row 39 2 gT gS gU mw, .row 9 1 kQ kP kS qC, .row 3 1 jF jE jG o0, .row 3 1 jI jH jJ o3, .any (mapE (fun a : List UInt8 => Value.string (gstr a)) (fun a : Int => Value.int .i64 a) b4 q274.number), .blk B2 (.cells #[.int .i64 e.Points, .bool e.Monoid, .slice bY e.Gens.length bZ, .slice bp e.Elems.length bq, .slice bi e.Prefix.length bj, .slice bP e.Last.length bQ, .slice bt e.Right.length bu, .slice bv e.Rules.length bw, .int .i64 e.Done] 29 (0, 0))] := Stp.join Cm hN277 hF278
    replace hO := tD.own
    replace aZ := aZ.ch tD.ch
    replace aU := aU.ch tD.ch
    replace aK := aK.ch tD.ch
    replace a5 := a5.ch tD.ch
    replace aV := aV.ch tD.ch
    replace aW := aW.ch tD.ch
    replace hB := hB.trans tD.fr
    have hca281 : Ch (bl [.blk er (.cells #[.int .i64 q274.Enum.Points, .bool q274.Enum.Monoid, .slice iG iF iH, .slice gN gM gO, .slice gc f9 gf, .slice iJ iI iK, .slice gQ gP gR, .slice gT gS gU, .int .i64 q274.Enum.Done, .map (some b4), .slice kQ kP kS, .slice jF jE jG, .slice jI jH jJ] 72 (0, 0)), .row 26 1 iG iF iH nb, .row 26 1 gN gM gO mt, .row 3 1 gc f9 gf lz, .row 3 1 iJ iI iK nc, .row 26 1 gQ gP gR mv, .row 39 2 gT gS gU mw, .row 9 1 kQ kP kS qC, .row 3 1 jF jE jG o0, .row 3 1 jI jH jJ o3, .any (mapE (fun a : List UInt8 => Value.string (gstr a)) (fun a : Int => Value.int .i64 a) b4 q274.number)] ++ (bl [.blk B2 (.cells #[.int .i64 e.Points, .bool e.Monoid, .slice bY e.Gens.length bZ, .slice bp e.Elems.length bq, .slice bi e.Prefix.length bj, .slice bP e.Last.length bQ, .slice bt e.Right.length bu, .slice bv e.Rules.length bw, .int .i64 e.Done] 29 (0, 0))] ++ A)) AD (bl [.blk er (.cells #[.int .i64 q274.Enum.Points, .bool q274.Enum.Monoid, .slice iG iF iH, .slice gN gM gO, .slice gc f9 gf, .slice iJ iI iK, .slice gQ gP gR, .slice gT gS gU, .int .i64 q274.Enum.Done, .map (some b4), .slice kQ kP kS, .slice jF jE jG, .slice jI jH jJ] 72 (0, 0)), .row 26 1 iG iF iH nb, .row 26 1 gN gM gO mt, .row 3 1 gc f9 gf lz, .row 3 1 iJ iI iK nc, .row 26 1 gQ gP gR mv, .row 39 2 gT gS gU mw, .row 9 1 kQ kP kS qC, .row 3 1 jF jE jG o0, .row 3 1 jI jH jJ o3, .any (mapE (fun a : List UInt8 => Value.string (gstr a)) (fun a : Int => Value.int .i64 a) b4 q274.number), .blk B2 (.cells #[.int .i64 e.Points, .bool e.Monoid, .slice bY e.Gens.length bZ, .slice bp e.Elems.length bq, .slice bi e.Prefix.length bj, .slice bP e.Last.length bQ, .slice bt e.Right.length bu, .slice bv e.Rules.length bw, .int .i64 e.Done] 29 (0, 0))] ++ A) AD := Ch.assoc [.blk er (.cells #[.int .i64 q274.Enum.Points, .bool q274.Enum.Monoid, .slice iG iF iH, .slice gN gM gO, .slice gc f9 gf, .slice iJ iI iK, .slice gQ gP gR, .slice gT gS gU, .int .i64 q274.Enum.Done, .map (some b4), .slice kQ kP kS, .slice jF jE jG, .slice jI jH jJ] 72 (0, 0)), .row 26 1 iG iF iH nb, .row 26 1 gN gM gO mt, .row 3 1 gc f9 gf lz, .row 3 1 iJ iI iK nc, .row 26 1 gQ gP gR mv, .row 39 2 gT gS gU mw, .row 9 1 kQ kP kS qC, .row 3 1 jF jE jG o0, .row 3 1 jI jH jJ o3, .any (mapE (fun a : List UInt8 => Value.string (gstr a)) (fun a : Int => Value.int .i64 a) b4 q274.number)] [.blk B2 (.cells #[.int .i64 e.Points, .bool e.Monoid, .slice bY e.Gens.length bZ, .slice bp e.Elems.length bq, .slice bi e.Prefix.length bj, .slice bP e.Last.length bQ, .slice bt e.Right.length bu, .slice bv e.Rules.length bw, .int .i64 e.Done] 29 (0, 0))] A AD
    replace rT := rT.ch hca281
    replace rz := rz.ch hca281
    replace qO := qO.ch hca281
    replace rU := rU.ch hca281
    replace rB := rB.ch hca281
    replace rC := rC.ch hca281
    replace tK := tK.ch hca281
    replace ta := ta.ch hca281
    replace tc := tc.ch hca281
    by_cases AE : r273 = (0 : Int)
    ·replace H := ifp AE H
     refine GoR.op ((fun w => opB (op_neq rfl rfl w) (ndT AE)) _) rfl rfl ?_
     refine GoR.op ((op_pickF rfl rfl rfl) _) rfl rfl ?_
     refine GoR.nil ?_
     refine Go1.condF rfl rfl ?_
     refine Go1.skip ?_
     refine Go1.inBlock ?_
     exact hX4 _ H _ _ ⟨iF, iG, iH, nb, gM, gN, gO, mt, f9, gc, gf, lz, iI, iJ, iK, nc, gP, gQ, gR, mv, gS, gT, gU, mw, kP, kQ, kS, qC, jE, jF, jG, o0, jH, jI, jJ, o3, ⟨rfl, rfl, trivial⟩, hO, rT, rz, qO, rU, rB, rC, tK, ta, tc, aZ, aU, aK, a5, aV, aW, hB⟩
    replace H := ifn AE H
    refine GoR.op ((fun w => opB (op_neq rfl rfl w) (ndF AE)) _) rfl rfl ?_
    refine GoR.op ((op_pickF rfl rfl rfl) _) rfl rfl ?_
    refine GoR.nil ?_
    refine Go1.condT rfl rfl ?_
    refine Go1.seq ?_
    refine Go1.region ?_
    refine GoR.op ((op_assign rfl) _) rfl rfl ?_
    refine GoR.op ((op_assign rfl) _) rfl rfl ?_
    refine GoR.nil ?_
    refine Go1.ret2 Try.func53 rfl ?_
    exact Or.inl ⟨false, rfl, hB.same, H⟩
   replace H := ifn AB H
   refine GoQ.pure rfl (fun w => opB (op_lss rfl rfl w) (decide_eq_false AB)) rfl rfl ?_
   refine GoQ.nil ?_
   refine Go1.condF rfl rfl ?_
   refine Go1.exit rfl ?_
   refine Go1.seq ?_
   refine Go1.region ?_
   refine GoR.op ((op_move rfl) _) rfl rfl ?_
   refine GoR.op ((op_move rfl) _) rfl rfl ?_
   refine GoR.op ((oblkAgg (vs := [.int .i64 e.Points, .bool e.Monoid, .slice bY e.Gens.length bZ, .slice bp e.Elems.length bq, .slice bi e.Prefix.length bj, .slice bP e.Last.length bQ, .slice bt e.Right.length bu, .slice bv e.Rules.length bw, .int .i64 e.Done]) (i := 0) 11 hO rfl rfl Try.underlying29 rfl ti29 rfl) _ (Same.refl _)) rfl rfl ?_
   refine GoR.inl (vs := [.pointer (some ⟨er, 0, none⟩), .agg #[.int .i64 e.Points, .bool e.Monoid, .slice bY e.Gens.length bZ, .slice bp e.Elems.length bq, .slice bi e.Prefix.length bj, .slice bP e.Last.length bQ, .slice bt e.Right.length bu, .slice bv e.Rules.length bw, .int .i64 e.Done]]) (caps := []) rfl rfl body68 Try.func68 rfl Try.ntmps68 rfl rfl rfl ?_
   intro RhR283 hR283
   refine Go1.seq ?_
   refine Go1.region ?_
   have hobt := obox (t := 29) (v := .agg #[.int .i64 e.Points, .bool e.Monoid, .slice bY e.Gens.length bZ, .slice bp e.Elems.length bq, .slice bi e.Prefix.length bj, .slice bP e.Last.length bQ, .slice bt e.Right.length bu, .slice bv e.Rules.length bw, .int .i64 e.Done]) (cs := #[.int .i64 e.Points, .bool e.Monoid, .slice bY e.Gens.length bZ, .slice bp e.Elems.length bq, .slice bi e.Prefix.length bj, .slice bP e.Last.length bQ, .slice bt e.Right.length bu, .slice bv e.Rules.length bw, .int .i64 e.Done]) hO rfl
   obtain ⟨Jb, B285, my, KY, EC⟩ := hobt
   refine GoR.op (EC rfl) rfl rfl ?_
   replace dz := dz.ch my.ch
   replace dt := dt.ch my.ch
   replace du := du.ch my.ch
   replace dw := dw.ch my.ch
   replace dx := dx.ch my.ch
   replace dy := dy.ch my.ch
   replace dA := dA.ch my.ch
   replace dB := dB.ch my.ch
   replace dC := dC.ch my.ch
   replace hO := my.own
   replace aZ := aZ.ch my.ch
   replace aU := aU.ch my.ch
   replace aK := aK.ch my.ch
   replace a5 := a5.ch my.ch
   replace aV := aV.ch my.ch
   replace aW := aW.ch my.ch
   replace hB := hB.trans my.fr
   refine GoR.op ((op_assign rfl) _) rfl rfl ?_
   refine GoR.nil ?_
   refine Go1.seq ?_
   refine Go1.drawS 0 [(0, .pure), (1, .pure), (2, .pure), (3, .pure), (4, .stable), (5, .pure), (6, .stable), (7, .pure), (8, .pure), (9, .pure), (10, .pure), (11, .pure), (12, .pure), (13, .stable), (14, .pure), (15, .stable), (16, .pure), (17, .pure), (18, .pure), (19, .pure), (20, .pure), (21, .pure), (22, .pure), (23, .stable), (24, .pure), (25, .stable), (26, .loud), (27, .pure), (28, .pure), (29, .pure), (30, .pure), (31, .pure), (32, .pure), (33, .stable), (34, .pure), (35, .stable), (36, .loud), (37, .pure), (38, .pure), (39, .pure), (40, .pure), (41, .pure), (42, .pure), (43, .stable), (44, .pure), (45, .stable), (46, .loud), (47, .pure), (48, .pure), (49, .pure), (50, .pure), (51, .pure), (52, .pure), (53, .stable), (54, .pure), (55, .stable), (56, .loud), (57, .pure), (58, .pure), (59, .pure), (60, .pure), (61, .pure), (62, .pure), (63, .stable), (64, .pure), (65, .stable), (66, .loud), (67, .pure), (68, .pure)] mixed (by kernel_rfl) ?_
   intro O0 H4
   have mz := Stp.same hO H4
   replace dz := dz.ch mz.ch
   replace dt := dt.ch mz.ch
   replace du := du.ch mz.ch
   replace dw := dw.ch mz.ch
   replace dx := dx.ch mz.ch
   replace dy := dy.ch mz.ch
   replace dA := dA.ch mz.ch
   replace dB := dB.ch mz.ch
   replace dC := dC.ch mz.ch
   replace hO := mz.own
   replace aZ := aZ.ch mz.ch
   replace aU := aU.ch mz.ch
   replace aK := aK.ch mz.ch
   replace a5 := a5.ch mz.ch
   replace aV := aV.ch mz.ch
   replace aW := aW.ch mz.ch
   replace hB := hB.trans mz.fr
   refine GoQ.pure rfl (op_move rfl) rfl rfl ?_
   refine GoQ.pure rfl (op_nilCheck rfl) rfl rfl ?_
   refine GoQ.pure rfl (op_fieldAddr Try.underlying72 rfl ti29 rfl (by decide)) rfl rfl ?_
   refine GoQ.pure rfl (op_fieldAddr Try.underlying29 rfl ti3 rfl (by decide)) rfl rfl ?_
   refine GoQ.stable rfl (oblk (i := 0) 1 hO rfl rfl Try.underlying3 rfl rfl) rfl rfl ?_
   refine GoQ.pure rfl (op_fieldAddr Try.underlying29 rfl ti3 rfl (by decide)) rfl rfl ?_
   refine GoQ.stable rfl (oblk (i := 0) 0 hO rfl rfl Try.underlying3 rfl rfl) rfl rfl ?_
   by_cases AF : k4_203 = e.Points
   ·replace H := ifp AF H
    refine GoQ.pure rfl (fun w => opB (op_eql rfl rfl w) (decide_eq_true AF)) rfl rfl ?_
    refine GoQ.pure rfl (op_move rfl) rfl rfl ?_
    refine GoQ.pure rfl (op_move rfl) rfl rfl ?_
    refine GoQ.pure rfl (op_nilCheck rfl) rfl rfl ?_
    refine GoQ.pure rfl (op_fieldAddr Try.underlying72 rfl ti29 rfl (by decide)) rfl rfl ?_
    refine GoQ.pure rfl (op_fieldAddr Try.underlying29 rfl ti3 rfl (by decide)) rfl rfl ?_
    refine GoQ.stable rfl (oblk (i := 8) 1 hO rfl rfl Try.underlying3 rfl rfl) rfl rfl ?_
    refine GoQ.pure rfl (op_fieldAddr Try.underlying29 rfl ti3 rfl (by decide)) rfl rfl ?_
    refine GoQ.stable rfl (oblk (i := 8) 0 hO rfl rfl Try.underlying3 rfl rfl) rfl rfl ?_
    by_cases AG : k4_205 = e.Done
    ·replace H := ifp AG H
     refine GoQ.pure rfl (fun w => opB (op_eql rfl rfl w) (decide_eq_true AG)) rfl rfl ?_
     refine GoQ.pure rfl (op_pickT rfl rfl rfl) rfl rfl ?_
     refine GoQ.pure rfl (op_move rfl) rfl rfl ?_
     refine GoQ.pure rfl (op_move rfl) rfl rfl ?_
     refine GoQ.pure rfl (op_nilCheck rfl) rfl rfl ?_
     refine GoQ.pure rfl (op_fieldAddr Try.underlying72 rfl ti29 rfl (by decide)) rfl rfl ?_
     refine GoQ.pure rfl (op_fieldAddr Try.underlying29 rfl ti22 rfl (by decide)) rfl rfl ?_
     refine GoQ.stable rfl (oblk (i := 3) 1 hO rfl rfl Try.underlying22 rfl rfl) rfl rfl ?_
     refine GoQ.pure rfl (op_fieldAddr Try.underlying29 rfl ti22 rfl (by decide)) rfl rfl ?_
     refine GoQ.stable rfl (oblk (i := 3) 0 hO rfl rfl Try.underlying22 rfl rfl) rfl rfl ?_
     have hobt := rowlend 3 hO rfl dt
     obtain ⟨H5, H6⟩ := hobt
     have hOc297 := hO.drop 3
     refine GoQ.call rfl (op_call body69 (show ([.slice eG eX eH, .slice bp e.Elems.length bq, .func (.func 70) #[] #[]] : List Value) = [.slice eG d_212.length eH, .slice bp e.Elems.length bq, .func (.func 70) #[] #[]] from by rw [← H6]) (walk_slices_EqualFunc_int hOc297.lt H5 (aU.ch (Owns.dropCh _ _ 3)) H)) (fun v w hr => by obtain ⟨_, _, hs, _⟩ := hr; assumption) rfl rfl ?_
     rintro O1 O2 ⟨r298, rfl, Cf, H⟩
     have mA := Stp.same hO Cf
     replace dz := dz.ch mA.ch
     replace dt := dt.ch mA.ch
     replace du := du.ch mA.ch
     replace dw := dw.ch mA.ch
     replace dx := dx.ch mA.ch
     replace dy := dy.ch mA.ch
     replace dA := dA.ch mA.ch
     replace dB := dB.ch mA.ch
     replace dC := dC.ch mA.ch
     replace hO := mA.own
     replace aZ := aZ.ch mA.ch
     replace aU := aU.ch mA.ch
     replace aK := aK.ch mA.ch
     replace a5 := a5.ch mA.ch
     replace aV := aV.ch mA.ch
     replace aW := aW.ch mA.ch
     replace hB := hB.trans mA.fr
     refine GoQ.pure rfl (op_pickT rfl rfl rfl) rfl rfl ?_
     refine GoQ.pure rfl (op_move rfl) rfl rfl ?_
     cases r298
     ·replace H := ifn Bool.false_ne_true H
      refine GoQ.pass rfl rfl rfl ?_
      refine GoQ.pass rfl rfl rfl ?_
      refine GoQ.pass rfl rfl rfl ?_
      refine GoQ.pass rfl rfl rfl ?_
      refine GoQ.pass rfl rfl rfl ?_
      refine GoQ.pass rfl rfl rfl ?_
      refine GoQ.pass rfl rfl rfl ?_
      refine GoQ.pass rfl rfl rfl ?_
      refine GoQ.pure rfl (op_pickF rfl rfl rfl) rfl rfl ?_
      refine GoQ.pure rfl (op_move rfl) rfl rfl ?_
      refine GoQ.pass rfl rfl rfl ?_
      refine GoQ.pass rfl rfl rfl ?_
      refine GoQ.pass rfl rfl rfl ?_
      refine GoQ.pass rfl rfl rfl ?_
      refine GoQ.pass rfl rfl rfl ?_
      refine GoQ.pass rfl rfl rfl ?_
      refine GoQ.pass rfl rfl rfl ?_
      refine GoQ.pass rfl rfl rfl ?_
      refine GoQ.pure rfl (op_pickF rfl rfl rfl) rfl rfl ?_
      refine GoQ.pure rfl (op_move rfl) rfl rfl ?_
      refine GoQ.pass rfl rfl rfl ?_
      refine GoQ.pass rfl rfl rfl ?_
      refine GoQ.pass rfl rfl rfl ?_
      refine GoQ.pass rfl rfl rfl ?_
      refine GoQ.pass rfl rfl rfl ?_
      refine GoQ.pass rfl rfl rfl ?_
      refine GoQ.pass rfl rfl rfl ?_
      refine GoQ.pass rfl rfl rfl ?_
      refine GoQ.pure rfl (op_pickF rfl rfl rfl) rfl rfl ?_
      refine GoQ.pure rfl (op_move rfl) rfl rfl ?_
      refine GoQ.pass rfl rfl rfl ?_
      refine GoQ.pass rfl rfl rfl ?_
      refine GoQ.pass rfl rfl rfl ?_
      refine GoQ.pass rfl rfl rfl ?_
      refine GoQ.pass rfl rfl rfl ?_
      refine GoQ.pass rfl rfl rfl ?_
      refine GoQ.pass rfl rfl rfl ?_
      refine GoQ.pass rfl rfl rfl ?_
      refine GoQ.pure rfl (op_pickF rfl rfl rfl) rfl rfl ?_
      refine GoQ.pure rfl (op_assign rfl) rfl rfl ?_
      refine GoQ.nil ?_
      refine Go1.ret1V Try.func68 rfl (show _ = .bool false from rfl) ?_
      refine hR283 _ _ ?_
      refine GoR.op ((op_assign rfl) _) rfl rfl ?_
      refine GoR.op ((op_assign rfl) _) rfl rfl ?_
      refine GoR.nil ?_
      replace aZ := aZ.ch (Owns.dropCh _ _ 0)
      replace aU := aU.ch (Owns.dropCh _ _ 0)
      replace aK := aK.ch (Owns.dropCh _ _ 0)
      replace a5 := a5.ch (Owns.dropCh _ _ 0)
      replace aV := aV.ch (Owns.dropCh _ _ 0)
      replace aW := aW.ch (Owns.dropCh _ _ 0)
      replace dz := dz.ch (Owns.dropCh _ _ 0)
      replace dt := dt.ch (Owns.dropCh _ _ 0)
      replace du := du.ch (Owns.dropCh _ _ 0)
      replace dw := dw.ch (Owns.dropCh _ _ 0)
      replace dx := dx.ch (Owns.dropCh _ _ 0)
      replace dy := dy.ch (Owns.dropCh _ _ 0)
      replace dA := dA.ch (Owns.dropCh _ _ 0)
      replace dB := dB.ch (Owns.dropCh _ _ 0)
      replace dC := dC.ch (Owns.dropCh _ _ 0)
      replace hB := hB.trans (Owns.dropFr _ _ 0)
      replace hO := hO.drop 0
      dsimp only [eS, eZ] at hB hO aZ aU aK a5 aV aW dz dt du dw dx dy dA dB dC
      replace aZ := aZ.ch (Owns.dropCh _ _ 11)
      replace aU := aU.ch (Owns.dropCh _ _ 11)
      replace aK := aK.ch (Owns.dropCh _ _ 11)
      replace a5 := a5.ch (Owns.dropCh _ _ 11)
      replace aV := aV.ch (Owns.dropCh _ _ 11)
      replace aW := aW.ch (Owns.dropCh _ _ 11)
      replace dz := dz.ch (Owns.dropCh _ _ 11)
      replace dt := dt.ch (Owns.dropCh _ _ 11)
      replace du := du.ch (Owns.dropCh _ _ 11)
      replace dw := dw.ch (Owns.dropCh _ _ 11)
      replace dx := dx.ch (Owns.dropCh _ _ 11)
      replace dy := dy.ch (Owns.dropCh _ _ 11)
      replace dA := dA.ch (Owns.dropCh _ _ 11)
      replace dB := dB.ch (Owns.dropCh _ _ 11)
      replace dC := dC.ch (Owns.dropCh _ _ 11)
      replace hB := hB.trans (Owns.dropFr _ _ 11)
      replace hO := hO.drop 11
      dsimp only [eS, eZ] at hB hO aZ aU aK a5 aV aW dz dt du dw dx dy dA dB dC
      refine Go1.ret2 Try.func53 rfl ?_
      exact Or.inr ⟨(⟨(⟨k4_203, b4_204, d_206, d_212, d_218, d_224, d_230, d_236, k4_205⟩ : Enum), m4_260, d_242, d_248, d_254⟩ : run), false, er, ff, fh, fk, gt, eX, eG, eH, iu, eY, eI, eK, iv, e8, eM, eN, iw, e9, eO, eP, iA, fd, eQ, eU, iB, b4, fm, fo, fq, iC, ft, fu, fv, iD, fw, fx, fy, iE, rfl, hB.same, hO, dz, dt, du, dw, dx, dy, dA, dB, dC, H⟩
     replace H := ifp rfl H
     refine GoQ.pure rfl (op_move rfl) rfl rfl ?_
     refine GoQ.pure rfl (op_nilCheck rfl) rfl rfl ?_
     refine GoQ.pure rfl (op_fieldAddr Try.underlying72 rfl ti29 rfl (by decide)) rfl rfl ?_
     refine GoQ.pure rfl (op_fieldAddr Try.underlying29 rfl ti26 rfl (by decide)) rfl rfl ?_
     refine GoQ.stable rfl (oblk (i := 4) 1 hO rfl rfl Try.underlying26 rfl rfl) rfl rfl ?_
     refine GoQ.pure rfl (op_fieldAddr Try.underlying29 rfl ti26 rfl (by decide)) rfl rfl ?_
     refine GoQ.stable rfl (oblk (i := 4) 0 hO rfl rfl Try.underlying26 rfl rfl) rfl rfl ?_
     have hobt := rowlend 4 hO rfl du
     obtain ⟨H7, H8⟩ := hobt
     have hOc306 := hO.drop 4
     refine GoQ.call rfl (op_call body70 (show ([.slice eI eY eK, .slice bi e.Prefix.length bj] : List Value) = [.slice eI d_218.length eK, .slice bi e.Prefix.length bj] from by rw [← H8]) (walk_slices_Equal_int hOc306.lt H7 (aK.ch (Owns.dropCh _ _ 4)) H)) (fun v w hr => by obtain ⟨_, _, hs, _⟩ := hr; assumption) rfl rfl ?_
     rintro O3 O4 ⟨r307, rfl, H9, H⟩
     have mB := Stp.same hO H9
     replace dz := dz.ch mB.ch
     replace dt := dt.ch mB.ch
     replace du := du.ch mB.ch
     replace dw := dw.ch mB.ch
     replace dx := dx.ch mB.ch
     replace dy := dy.ch mB.ch
     replace dA := dA.ch mB.ch
     replace dB := dB.ch mB.ch
     replace dC := dC.ch mB.ch
     replace hO := mB.own
     replace aZ := aZ.ch mB.ch
     replace aU := aU.ch mB.ch
     replace aK := aK.ch mB.ch
     replace a5 := a5.ch mB.ch
     replace aV := aV.ch mB.ch
     replace aW := aW.ch mB.ch
     replace hB := hB.trans mB.fr
     refine GoQ.pure rfl (op_pickT rfl rfl rfl) rfl rfl ?_
     refine GoQ.pure rfl (op_move rfl) rfl rfl ?_
     cases r307
     ·replace H := ifn Bool.false_ne_true H
      refine GoQ.pass rfl rfl rfl ?_
      refine GoQ.pass rfl rfl rfl ?_
      refine GoQ.pass rfl rfl rfl ?_
      refine GoQ.pass rfl rfl rfl ?_
      refine GoQ.pass rfl rfl rfl ?_
      refine GoQ.pass rfl rfl rfl ?_
      refine GoQ.pass rfl rfl rfl ?_
      refine GoQ.pass rfl rfl rfl ?_
      refine GoQ.pure rfl (op_pickF rfl rfl rfl) rfl rfl ?_
      refine GoQ.pure rfl (op_move rfl) rfl rfl ?_
      refine GoQ.pass rfl rfl rfl ?_
      refine GoQ.pass rfl rfl rfl ?_
      refine GoQ.pass rfl rfl rfl ?_
      refine GoQ.pass rfl rfl rfl ?_
      refine GoQ.pass rfl rfl rfl ?_
      refine GoQ.pass rfl rfl rfl ?_
      refine GoQ.pass rfl rfl rfl ?_
      refine GoQ.pass rfl rfl rfl ?_
      refine GoQ.pure rfl (op_pickF rfl rfl rfl) rfl rfl ?_
      refine GoQ.pure rfl (op_move rfl) rfl rfl ?_
      refine GoQ.pass rfl rfl rfl ?_
      refine GoQ.pass rfl rfl rfl ?_
      refine GoQ.pass rfl rfl rfl ?_
      refine GoQ.pass rfl rfl rfl ?_
      refine GoQ.pass rfl rfl rfl ?_
      refine GoQ.pass rfl rfl rfl ?_
      refine GoQ.pass rfl rfl rfl ?_
      refine GoQ.pass rfl rfl rfl ?_
      refine GoQ.pure rfl (op_pickF rfl rfl rfl) rfl rfl ?_
      refine GoQ.pure rfl (op_assign rfl) rfl rfl ?_
      refine GoQ.nil ?_
      refine Go1.ret1V Try.func68 rfl (show _ = .bool false from rfl) ?_
      refine hR283 _ _ ?_
      refine GoR.op ((op_assign rfl) _) rfl rfl ?_
      refine GoR.op ((op_assign rfl) _) rfl rfl ?_
      refine GoR.nil ?_
      replace aZ := aZ.ch (Owns.dropCh _ _ 0)
      replace aU := aU.ch (Owns.dropCh _ _ 0)
      replace aK := aK.ch (Owns.dropCh _ _ 0)
      replace a5 := a5.ch (Owns.dropCh _ _ 0)
      replace aV := aV.ch (Owns.dropCh _ _ 0)
      replace aW := aW.ch (Owns.dropCh _ _ 0)
      replace dz := dz.ch (Owns.dropCh _ _ 0)
      replace dt := dt.ch (Owns.dropCh _ _ 0)
      replace du := du.ch (Owns.dropCh _ _ 0)
      replace dw := dw.ch (Owns.dropCh _ _ 0)
      replace dx := dx.ch (Owns.dropCh _ _ 0)
      replace dy := dy.ch (Owns.dropCh _ _ 0)
      replace dA := dA.ch (Owns.dropCh _ _ 0)
      replace dB := dB.ch (Owns.dropCh _ _ 0)
      replace dC := dC.ch (Owns.dropCh _ _ 0)
      replace hB := hB.trans (Owns.dropFr _ _ 0)
      replace hO := hO.drop 0
      dsimp only [eS, eZ] at hB hO aZ aU aK a5 aV aW dz dt du dw dx dy dA dB dC
      replace aZ := aZ.ch (Owns.dropCh _ _ 11)
      replace aU := aU.ch (Owns.dropCh _ _ 11)
      replace aK := aK.ch (Owns.dropCh _ _ 11)
      replace a5 := a5.ch (Owns.dropCh _ _ 11)
      replace aV := aV.ch (Owns.dropCh _ _ 11)
      replace aW := aW.ch (Owns.dropCh _ _ 11)
      replace dz := dz.ch (Owns.dropCh _ _ 11)
      replace dt := dt.ch (Owns.dropCh _ _ 11)
      replace du := du.ch (Owns.dropCh _ _ 11)
      replace dw := dw.ch (Owns.dropCh _ _ 11)
      replace dx := dx.ch (Owns.dropCh _ _ 11)
      replace dy := dy.ch (Owns.dropCh _ _ 11)
      replace dA := dA.ch (Owns.dropCh _ _ 11)
      replace dB := dB.ch (Owns.dropCh _ _ 11)
      replace dC := dC.ch (Owns.dropCh _ _ 11)
      replace hB := hB.trans (Owns.dropFr _ _ 11)
      replace hO := hO.drop 11
      dsimp only [eS, eZ] at hB hO aZ aU aK a5 aV aW dz dt du dw dx dy dA dB dC
      refine Go1.ret2 Try.func53 rfl ?_
      exact Or.inr ⟨(⟨(⟨k4_203, b4_204, d_206, d_212, d_218, d_224, d_230, d_236, k4_205⟩ : Enum), m4_260, d_242, d_248, d_254⟩ : run), false, er, ff, fh, fk, gt, eX, eG, eH, iu, eY, eI, eK, iv, e8, eM, eN, iw, e9, eO, eP, iA, fd, eQ, eU, iB, b4, fm, fo, fq, iC, ft, fu, fv, iD, fw, fx, fy, iE, rfl, hB.same, hO, dz, dt, du, dw, dx, dy, dA, dB, dC, H⟩
     replace H := ifp rfl H
     refine GoQ.pure rfl (op_move rfl) rfl rfl ?_
     refine GoQ.pure rfl (op_nilCheck rfl) rfl rfl ?_
     refine GoQ.pure rfl (op_fieldAddr Try.underlying72 rfl ti29 rfl (by decide)) rfl rfl ?_
     refine GoQ.pure rfl (op_fieldAddr Try.underlying29 rfl ti26 rfl (by decide)) rfl rfl ?_
     refine GoQ.stable rfl (oblk (i := 5) 1 hO rfl rfl Try.underlying26 rfl rfl) rfl rfl ?_
     refine GoQ.pure rfl (op_fieldAddr Try.underlying29 rfl ti26 rfl (by decide)) rfl rfl ?_
     refine GoQ.stable rfl (oblk (i := 5) 0 hO rfl rfl Try.underlying26 rfl rfl) rfl rfl ?_
     have hobt := rowlend 5 hO rfl dw
     obtain ⟨Ia, Ib⟩ := hobt
     have hOc315 := hO.drop 5
     refine GoQ.call rfl (op_call body70 (show ([.slice eM e8 eN, .slice bP e.Last.length bQ] : List Value) = [.slice eM d_224.length eN, .slice bP e.Last.length bQ] from by rw [← Ib]) (walk_slices_Equal_int hOc315.lt Ia (a5.ch (Owns.dropCh _ _ 5)) H)) (fun v w hr => by obtain ⟨_, _, hs, _⟩ := hr; assumption) rfl rfl ?_
     rintro O5 Jd ⟨r316, rfl, Ic, H⟩
     have mC := Stp.same hO Ic
     replace dz := dz.ch mC.ch
     replace dt := dt.ch mC.ch
     replace du := du.ch mC.ch
     replace dw := dw.ch mC.ch
     replace dx := dx.ch mC.ch
     replace dy := dy.ch mC.ch
     replace dA := dA.ch mC.ch
     replace dB := dB.ch mC.ch
     replace dC := dC.ch mC.ch
     replace hO := mC.own
     replace aZ := aZ.ch mC.ch
     replace aU := aU.ch mC.ch
     replace aK := aK.ch mC.ch
     replace a5 := a5.ch mC.ch
     replace aV := aV.ch mC.ch
     replace aW := aW.ch mC.ch
     replace hB := hB.trans mC.fr
     refine GoQ.pure rfl (op_pickT rfl rfl rfl) rfl rfl ?_
     refine GoQ.pure rfl (op_move rfl) rfl rfl ?_
     cases r316
     ·replace H := ifn Bool.false_ne_true H
      refine GoQ.pass rfl rfl rfl ?_
      refine GoQ.pass rfl rfl rfl ?_
      refine GoQ.pass rfl rfl rfl ?_
      refine GoQ.pass rfl rfl rfl ?_
      refine GoQ.pass rfl rfl rfl ?_
      refine GoQ.pass rfl rfl rfl ?_
      refine GoQ.pass rfl rfl rfl ?_
      refine GoQ.pass rfl rfl rfl ?_
      refine GoQ.pure rfl (op_pickF rfl rfl rfl) rfl rfl ?_
      refine GoQ.pure rfl (op_move rfl) rfl rfl ?_
      refine GoQ.pass rfl rfl rfl ?_
      refine GoQ.pass rfl rfl rfl ?_
      refine GoQ.pass rfl rfl rfl ?_
      refine GoQ.pass rfl rfl rfl ?_
      refine GoQ.pass rfl rfl rfl ?_
      refine GoQ.pass rfl rfl rfl ?_
      refine GoQ.pass rfl rfl rfl ?_
      refine GoQ.pass rfl rfl rfl ?_
      refine GoQ.pure rfl (op_pickF rfl rfl rfl) rfl rfl ?_
      refine GoQ.pure rfl (op_assign rfl) rfl rfl ?_
      refine GoQ.nil ?_
      refine Go1.ret1V Try.func68 rfl (show _ = .bool false from rfl) ?_
      refine hR283 _ _ ?_
      refine GoR.op ((op_assign rfl) _) rfl rfl ?_
      refine GoR.op ((op_assign rfl) _) rfl rfl ?_
      refine GoR.nil ?_
      replace aZ := aZ.ch (Owns.dropCh _ _ 0)
      replace aU := aU.ch (Owns.dropCh _ _ 0)
      replace aK := aK.ch (Owns.dropCh _ _ 0)
      replace a5 := a5.ch (Owns.dropCh _ _ 0)
      replace aV := aV.ch (Owns.dropCh _ _ 0)
      replace aW := aW.ch (Owns.dropCh _ _ 0)
      replace dz := dz.ch (Owns.dropCh _ _ 0)
      replace dt := dt.ch (Owns.dropCh _ _ 0)
      replace du := du.ch (Owns.dropCh _ _ 0)
      replace dw := dw.ch (Owns.dropCh _ _ 0)
      replace dx := dx.ch (Owns.dropCh _ _ 0)
      replace dy := dy.ch (Owns.dropCh _ _ 0)
      replace dA := dA.ch (Owns.dropCh _ _ 0)
      replace dB := dB.ch (Owns.dropCh _ _ 0)
      replace dC := dC.ch (Owns.dropCh _ _ 0)
      replace hB := hB.trans (Owns.dropFr _ _ 0)
      replace hO := hO.drop 0
      dsimp only [eS, eZ] at hB hO aZ aU aK a5 aV aW dz dt du dw dx dy dA dB dC
      replace aZ := aZ.ch (Owns.dropCh _ _ 11)
      replace aU := aU.ch (Owns.dropCh _ _ 11)
      replace aK := aK.ch (Owns.dropCh _ _ 11)
      replace a5 := a5.ch (Owns.dropCh _ _ 11)
      replace aV := aV.ch (Owns.dropCh _ _ 11)
      replace aW := aW.ch (Owns.dropCh _ _ 11)
      replace dz := dz.ch (Owns.dropCh _ _ 11)
      replace dt := dt.ch (Owns.dropCh _ _ 11)
      replace du := du.ch (Owns.dropCh _ _ 11)
      replace dw := dw.ch (Owns.dropCh _ _ 11)
      replace dx := dx.ch (Owns.dropCh _ _ 11)
      replace dy := dy.ch (Owns.dropCh _ _ 11)
      replace dA := dA.ch (Owns.dropCh _ _ 11)
      replace dB := dB.ch (Owns.dropCh _ _ 11)
      replace dC := dC.ch (Owns.dropCh _ _ 11)
      replace hB := hB.trans (Owns.dropFr _ _ 11)
      replace hO := hO.drop 11
      dsimp only [eS, eZ] at hB hO aZ aU aK a5 aV aW dz dt du dw dx dy dA dB dC
      refine Go1.ret2 Try.func53 rfl ?_
      exact Or.inr ⟨(⟨(⟨k4_203, b4_204, d_206, d_212, d_218, d_224, d_230, d_236, k4_205⟩ : Enum), m4_260, d_242, d_248, d_254⟩ : run), false, er, ff, fh, fk, gt, eX, eG, eH, iu, eY, eI, eK, iv, e8, eM, eN, iw, e9, eO, eP, iA, fd, eQ, eU, iB, b4, fm, fo, fq, iC, ft, fu, fv, iD, fw, fx, fy, iE, rfl, hB.same, hO, dz, dt, du, dw, dx, dy, dA, dB, dC, H⟩
     replace H := ifp rfl H
     refine GoQ.pure rfl (op_move rfl) rfl rfl ?_
     refine GoQ.pure rfl (op_nilCheck rfl) rfl rfl ?_
     refine GoQ.pure rfl (op_fieldAddr Try.underlying72 rfl ti29 rfl (by decide)) rfl rfl ?_
     refine GoQ.pure rfl (op_fieldAddr Try.underlying29 rfl ti22 rfl (by decide)) rfl rfl ?_
     refine GoQ.stable rfl (oblk (i := 6) 1 hO rfl rfl Try.underlying22 rfl rfl) rfl rfl ?_
     refine GoQ.pure rfl (op_fieldAddr Try.underlying29 rfl ti22 rfl (by decide)) rfl rfl ?_
     refine GoQ.stable rfl (oblk (i := 6) 0 hO rfl rfl Try.underlying22 rfl rfl) rfl rfl ?_
     have hobt := rowlend 6 hO rfl dx
     obtain ⟨Id, Ie⟩ := hobt
     have hOc324 := hO.drop 6
     refine GoQ.call rfl (op_call body69 (show ([.slice eO e9 eP, .slice bt e.Right.length bu, .func (.func 70) #[] #[]] : List Value) = [.slice eO d_230.length eP, .slice bt e.Right.length bu, .func (.func 70) #[] #[]] from by rw [← Ie]) (walk_slices_EqualFunc_int hOc324.lt Id (aV.ch (Owns.dropCh _ _ 6)) H)) (fun v w hr => by obtain ⟨_, _, hs, _⟩ := hr; assumption) rfl rfl ?_
     rintro O6 O7 ⟨r325, rfl, Ig, H⟩
     have mD := Stp.same hO Ig
     replace dz := dz.ch mD.ch
     replace dt := dt.ch mD.ch
     replace du := du.ch mD.ch
     replace dw := dw.ch mD.ch
     replace dx := dx.ch mD.ch
     replace dy := dy.ch mD.ch
     replace dA := dA.ch mD.ch
     replace dB := dB.ch mD.ch
     replace dC := dC.ch mD.ch
     replace hO := mD.own
     replace aZ := aZ.ch mD.ch
     replace aU := aU.ch mD.ch
     replace aK := aK.ch mD.ch
     replace a5 := a5.ch mD.ch
     replace aV := aV.ch mD.ch
     replace aW := aW.ch mD.ch
     replace hB := hB.trans mD.fr
     refine GoQ.pure rfl (op_pickT rfl rfl rfl) rfl rfl ?_
     refine GoQ.pure rfl (op_move rfl) rfl rfl ?_
     cases r325
     ·replace H := ifn Bool.false_ne_true H
      refine GoQ.pass rfl rfl rfl ?_
      refine GoQ.pass rfl rfl rfl ?_
      refine GoQ.pass rfl rfl rfl ?_
      refine GoQ.pass rfl rfl rfl ?_
      refine GoQ.pass rfl rfl rfl ?_
      refine GoQ.pass rfl rfl rfl ?_
      refine GoQ.pass rfl rfl rfl ?_
      refine GoQ.pass rfl rfl rfl ?_
      refine GoQ.pure rfl (op_pickF rfl rfl rfl) rfl rfl ?_
      refine GoQ.pure rfl (op_assign rfl) rfl rfl ?_
      refine GoQ.nil ?_
      refine Go1.ret1V Try.func68 rfl (show _ = .bool false from rfl) ?_
      refine hR283 _ _ ?_
      refine GoR.op ((op_assign rfl) _) rfl rfl ?_
      refine GoR.op ((op_assign rfl) _) rfl rfl ?_
      refine GoR.nil ?_
      replace aZ := aZ.ch (Owns.dropCh _ _ 0)
      replace aU := aU.ch (Owns.dropCh _ _ 0)
      replace aK := aK.ch (Owns.dropCh _ _ 0)
      replace a5 := a5.ch (Owns.dropCh _ _ 0)
      replace aV := aV.ch (Owns.dropCh _ _ 0)
      replace aW := aW.ch (Owns.dropCh _ _ 0)
      replace dz := dz.ch (Owns.dropCh _ _ 0)
      replace dt := dt.ch (Owns.dropCh _ _ 0)
      replace du := du.ch (Owns.dropCh _ _ 0)
      replace dw := dw.ch (Owns.dropCh _ _ 0)
      replace dx := dx.ch (Owns.dropCh _ _ 0)
      replace dy := dy.ch (Owns.dropCh _ _ 0)
      replace dA := dA.ch (Owns.dropCh _ _ 0)
      replace dB := dB.ch (Owns.dropCh _ _ 0)
      replace dC := dC.ch (Owns.dropCh _ _ 0)
      replace hB := hB.trans (Owns.dropFr _ _ 0)
      replace hO := hO.drop 0
      dsimp only [eS, eZ] at hB hO aZ aU aK a5 aV aW dz dt du dw dx dy dA dB dC
      replace aZ := aZ.ch (Owns.dropCh _ _ 11)
      replace aU := aU.ch (Owns.dropCh _ _ 11)
      replace aK := aK.ch (Owns.dropCh _ _ 11)
      replace a5 := a5.ch (Owns.dropCh _ _ 11)
      replace aV := aV.ch (Owns.dropCh _ _ 11)
      replace aW := aW.ch (Owns.dropCh _ _ 11)
      replace dz := dz.ch (Owns.dropCh _ _ 11)
      replace dt := dt.ch (Owns.dropCh _ _ 11)
      replace du := du.ch (Owns.dropCh _ _ 11)
      replace dw := dw.ch (Owns.dropCh _ _ 11)
      replace dx := dx.ch (Owns.dropCh _ _ 11)
      replace dy := dy.ch (Owns.dropCh _ _ 11)
      replace dA := dA.ch (Owns.dropCh _ _ 11)
      replace dB := dB.ch (Owns.dropCh _ _ 11)
      replace dC := dC.ch (Owns.dropCh _ _ 11)
      replace hB := hB.trans (Owns.dropFr _ _ 11)
      replace hO := hO.drop 11
      dsimp only [eS, eZ] at hB hO aZ aU aK a5 aV aW dz dt du dw dx dy dA dB dC
      refine Go1.ret2 Try.func53 rfl ?_
      exact Or.inr ⟨(⟨(⟨k4_203, b4_204, d_206, d_212, d_218, d_224, d_230, d_236, k4_205⟩ : Enum), m4_260, d_242, d_248, d_254⟩ : run), false, er, ff, fh, fk, gt, eX, eG, eH, iu, eY, eI, eK, iv, e8, eM, eN, iw, e9, eO, eP, iA, fd, eQ, eU, iB, b4, fm, fo, fq, iC, ft, fu, fv, iD, fw, fx, fy, iE, rfl, hB.same, hO, dz, dt, du, dw, dx, dy, dA, dB, dC, H⟩
     replace H := ifp rfl H
     refine GoQ.pure rfl (op_move rfl) rfl rfl ?_
     refine GoQ.pure rfl (op_nilCheck rfl) rfl rfl ?_
     refine GoQ.pure rfl (op_fieldAddr Try.underlying72 rfl ti29 rfl (by decide)) rfl rfl ?_
     refine GoQ.pure rfl (op_fieldAddr Try.underlying29 rfl ti27 rfl (by decide)) rfl rfl ?_
     refine GoQ.stable rfl (oblk (i := 7) 1 hO rfl rfl Try.underlying27 rfl rfl) rfl rfl ?_
     refine GoQ.pure rfl (op_fieldAddr Try.underlying29 rfl ti27 rfl (by decide)) rfl rfl ?_
     refine GoQ.stable rfl (oblk (i := 7) 0 hO rfl rfl Try.underlying27 rfl rfl) rfl rfl ?_
     have hobt := rowlend 7 hO rfl dy
     obtain ⟨Ih, Ii⟩ := hobt
     have hOc333 := hO.drop 7
     refine GoQ.call rfl (op_call body71 (show ([.slice eQ fd eU, .slice bv e.Rules.length bw] : List Value) = [.slice eQ d_236.length eU, .slice bv e.Rules.length bw] from by rw [← Ii]) (walk_slices_Equal_api_Rule hOc333.lt Ih (aW.ch (Owns.dropCh _ _ 7)) H)) (fun v w hr => by obtain ⟨_, _, hs, _⟩ := hr; assumption) rfl rfl ?_
     rintro O8 O9 ⟨r334, rfl, Ij, H⟩
     have mE := Stp.same hO Ij
     replace dz := dz.ch mE.ch
     replace dt := dt.ch mE.ch
     replace du := du.ch mE.ch
     replace dw := dw.ch mE.ch
     replace dx := dx.ch mE.ch
     replace dy := dy.ch mE.ch
     replace dA := dA.ch mE.ch
     replace dB := dB.ch mE.ch
     replace dC := dC.ch mE.ch
     replace hO := mE.own
     replace aZ := aZ.ch mE.ch
     replace aU := aU.ch mE.ch
     replace aK := aK.ch mE.ch
     replace a5 := a5.ch mE.ch
     replace aV := aV.ch mE.ch
     replace aW := aW.ch mE.ch
     replace hB := hB.trans mE.fr
     refine GoQ.pure rfl (op_pickT rfl rfl rfl) rfl rfl ?_
     refine GoQ.pure rfl (op_assign rfl) rfl rfl ?_
     refine GoQ.nil ?_
     refine Go1.ret1V Try.func68 rfl (show _ = .bool r334 from rfl) ?_
     refine hR283 _ _ ?_
     refine GoR.op ((op_assign rfl) _) rfl rfl ?_
     refine GoR.op ((op_assign rfl) _) rfl rfl ?_
     refine GoR.nil ?_
     replace aZ := aZ.ch (Owns.dropCh _ _ 0)
     replace aU := aU.ch (Owns.dropCh _ _ 0)
     replace aK := aK.ch (Owns.dropCh _ _ 0)
     replace a5 := a5.ch (Owns.dropCh _ _ 0)
     replace aV := aV.ch (Owns.dropCh _ _ 0)
     replace aW := aW.ch (Owns.dropCh _ _ 0)
     replace dz := dz.ch (Owns.dropCh _ _ 0)
     replace dt := dt.ch (Owns.dropCh _ _ 0)
     replace du := du.ch (Owns.dropCh _ _ 0)
     replace dw := dw.ch (Owns.dropCh _ _ 0)
     replace dx := dx.ch (Owns.dropCh _ _ 0)
     replace dy := dy.ch (Owns.dropCh _ _ 0)
     replace dA := dA.ch (Owns.dropCh _ _ 0)
     replace dB := dB.ch (Owns.dropCh _ _ 0)
     replace dC := dC.ch (Owns.dropCh _ _ 0)
     replace hB := hB.trans (Owns.dropFr _ _ 0)
     replace hO := hO.drop 0
     dsimp only [eS, eZ] at hB hO aZ aU aK a5 aV aW dz dt du dw dx dy dA dB dC
     replace aZ := aZ.ch (Owns.dropCh _ _ 11)
     replace aU := aU.ch (Owns.dropCh _ _ 11)
     replace aK := aK.ch (Owns.dropCh _ _ 11)
     replace a5 := a5.ch (Owns.dropCh _ _ 11)
     replace aV := aV.ch (Owns.dropCh _ _ 11)
     replace aW := aW.ch (Owns.dropCh _ _ 11)
     replace dz := dz.ch (Owns.dropCh _ _ 11)
     replace dt := dt.ch (Owns.dropCh _ _ 11)
     replace du := du.ch (Owns.dropCh _ _ 11)
     replace dw := dw.ch (Owns.dropCh _ _ 11)
     replace dx := dx.ch (Owns.dropCh _ _ 11)
     replace dy := dy.ch (Owns.dropCh _ _ 11)
     replace dA := dA.ch (Owns.dropCh _ _ 11)
     replace dB := dB.ch (Owns.dropCh _ _ 11)
     replace dC := dC.ch (Owns.dropCh _ _ 11)
     replace hB := hB.trans (Owns.dropFr _ _ 11)
     replace hO := hO.drop 11
     dsimp only [eS, eZ] at hB hO aZ aU aK a5 aV aW dz dt du dw dx dy dA dB dC
     refine Go1.ret2 Try.func53 rfl ?_
     exact Or.inr ⟨(⟨(⟨k4_203, b4_204, d_206, d_212, d_218, d_224, d_230, d_236, k4_205⟩ : Enum), m4_260, d_242, d_248, d_254⟩ : run), r334, er, ff, fh, fk, gt, eX, eG, eH, iu, eY, eI, eK, iv, e8, eM, eN, iw, e9, eO, eP, iA, fd, eQ, eU, iB, b4, fm, fo, fq, iC, ft, fu, fv, iD, fw, fx, fy, iE, rfl, hB.same, hO, dz, dt, du, dw, dx, dy, dA, dB, dC, H⟩
    replace H := ifn AG H
    refine GoQ.pure rfl (fun w => opB (op_eql rfl rfl w) (decide_eq_false AG)) rfl rfl ?_
    refine GoQ.pure rfl (op_pickT rfl rfl rfl) rfl rfl ?_
    refine GoQ.pure rfl (op_move rfl) rfl rfl ?_
    refine GoQ.pass rfl rfl rfl ?_
    refine GoQ.pass rfl rfl rfl ?_
    refine GoQ.pass rfl rfl rfl ?_
    refine GoQ.pass rfl rfl rfl ?_
    refine GoQ.pass rfl rfl rfl ?_
    refine GoQ.pass rfl rfl rfl ?_
    refine GoQ.pass rfl rfl rfl ?_
    refine GoQ.pass rfl rfl rfl ?_
    refine GoQ.pure rfl (op_pickF rfl rfl rfl) rfl rfl ?_
    refine GoQ.pure rfl (op_move rfl) rfl rfl ?_
    refine GoQ.pass rfl rfl rfl ?_
    refine GoQ.pass rfl rfl rfl ?_
    refine GoQ.pass rfl rfl rfl ?_
    refine GoQ.pass rfl rfl rfl ?_
    refine GoQ.pass rfl rfl rfl ?_
    refine GoQ.pass rfl rfl rfl ?_
    refine GoQ.pass rfl rfl rfl ?_
    refine GoQ.pass rfl rfl rfl ?_
    refine GoQ.pure rfl (op_pickF rfl rfl rfl) rfl rfl ?_
    refine GoQ.pure rfl (op_move rfl) rfl rfl ?_
    refine GoQ.pass rfl rfl rfl ?_
    refine GoQ.pass rfl rfl rfl ?_
    refine GoQ.pass rfl rfl rfl ?_
    refine GoQ.pass rfl rfl rfl ?_
    refine GoQ.pass rfl rfl rfl ?_
    refine GoQ.pass rfl rfl rfl ?_
    refine GoQ.pass rfl rfl rfl ?_
    refine GoQ.pass rfl rfl rfl ?_
    refine GoQ.pure rfl (op_pickF rfl rfl rfl) rfl rfl ?_
    refine GoQ.pure rfl (op_move rfl) rfl rfl ?_
    refine GoQ.pass rfl rfl rfl ?_
    refine GoQ.pass rfl rfl rfl ?_
    refine GoQ.pass rfl rfl rfl ?_
    refine GoQ.pass rfl rfl rfl ?_
    refine GoQ.pass rfl rfl rfl ?_
    refine GoQ.pass rfl rfl rfl ?_
    refine GoQ.pass rfl rfl rfl ?_
    refine GoQ.pass rfl rfl rfl ?_
    refine GoQ.pure rfl (op_pickF rfl rfl rfl) rfl rfl ?_
    refine GoQ.pure rfl (op_move rfl) rfl rfl ?_
    refine GoQ.pass rfl rfl rfl ?_
    refine GoQ.pass rfl rfl rfl ?_
    refine GoQ.pass rfl rfl rfl ?_
    refine GoQ.pass rfl rfl rfl ?_
    refine GoQ.pass rfl rfl rfl ?_
    refine GoQ.pass rfl rfl rfl ?_
    refine GoQ.pass rfl rfl rfl ?_
    refine GoQ.pass rfl rfl rfl ?_
    refine GoQ.pure rfl (op_pickF rfl rfl rfl) rfl rfl ?_
    refine GoQ.pure rfl (op_assign rfl) rfl rfl ?_
    refine GoQ.nil ?_
    refine Go1.ret1V Try.func68 rfl (show _ = .bool false from rfl) ?_
    refine hR283 _ _ ?_
    refine GoR.op ((op_assign rfl) _) rfl rfl ?_
    refine GoR.op ((op_assign rfl) _) rfl rfl ?_
    refine GoR.nil ?_
    replace aZ := aZ.ch (Owns.dropCh _ _ 0)
    replace aU := aU.ch (Owns.dropCh _ _ 0)
    replace aK := aK.ch (Owns.dropCh _ _ 0)
    replace a5 := a5.ch (Owns.dropCh _ _ 0)
    replace aV := aV.ch (Owns.dropCh _ _ 0)
    replace aW := aW.ch (Owns.dropCh _ _ 0)
    replace dz := dz.ch (Owns.dropCh _ _ 0)
    replace dt := dt.ch (Owns.dropCh _ _ 0)
    replace du := du.ch (Owns.dropCh _ _ 0)
    replace dw := dw.ch (Owns.dropCh _ _ 0)
    replace dx := dx.ch (Owns.dropCh _ _ 0)
    replace dy := dy.ch (Owns.dropCh _ _ 0)
    replace dA := dA.ch (Owns.dropCh _ _ 0)
    replace dB := dB.ch (Owns.dropCh _ _ 0)
    replace dC := dC.ch (Owns.dropCh _ _ 0)
    replace hB := hB.trans (Owns.dropFr _ _ 0)
    replace hO := hO.drop 0
    dsimp only [eS, eZ] at hB hO aZ aU aK a5 aV aW dz dt du dw dx dy dA dB dC
    replace aZ := aZ.ch (Owns.dropCh _ _ 11)
    replace aU := aU.ch (Owns.dropCh _ _ 11)
    replace aK := aK.ch (Owns.dropCh _ _ 11)
    replace a5 := a5.ch (Owns.dropCh _ _ 11)
    replace aV := aV.ch (Owns.dropCh _ _ 11)
    replace aW := aW.ch (Owns.dropCh _ _ 11)
    replace dz := dz.ch (Owns.dropCh _ _ 11)
    replace dt := dt.ch (Owns.dropCh _ _ 11)
    replace du := du.ch (Owns.dropCh _ _ 11)
    replace dw := dw.ch (Owns.dropCh _ _ 11)
    replace dx := dx.ch (Owns.dropCh _ _ 11)
    replace dy := dy.ch (Owns.dropCh _ _ 11)
    replace dA := dA.ch (Owns.dropCh _ _ 11)
    replace dB := dB.ch (Owns.dropCh _ _ 11)
    replace dC := dC.ch (Owns.dropCh _ _ 11)
    replace hB := hB.trans (Owns.dropFr _ _ 11)
    replace hO := hO.drop 11
    dsimp only [eS, eZ] at hB hO aZ aU aK a5 aV aW dz dt du dw dx dy dA dB dC
    refine Go1.ret2 Try.func53 rfl ?_
    exact Or.inr ⟨(⟨(⟨k4_203, b4_204, d_206, d_212, d_218, d_224, d_230, d_236, k4_205⟩ : Enum), m4_260, d_242, d_248, d_254⟩ : run), false, er, ff, fh, fk, gt, eX, eG, eH, iu, eY, eI, eK, iv, e8, eM, eN, iw, e9, eO, eP, iA, fd, eQ, eU, iB, b4, fm, fo, fq, iC, ft, fu, fv, iD, fw, fx, fy, iE, rfl, hB.same, hO, dz, dt, du, dw, dx, dy, dA, dB, dC, H⟩
   replace H := ifn AF H
   refine GoQ.pure rfl (fun w => opB (op_eql rfl rfl w) (decide_eq_false AF)) rfl rfl ?_
   refine GoQ.pure rfl (op_move rfl) rfl rfl ?_
   refine GoQ.pass rfl rfl rfl ?_
   refine GoQ.pass rfl rfl rfl ?_
   refine GoQ.pass rfl rfl rfl ?_
   refine GoQ.pass rfl rfl rfl ?_
   refine GoQ.pass rfl rfl rfl ?_
   refine GoQ.pass rfl rfl rfl ?_
   refine GoQ.pass rfl rfl rfl ?_
   refine GoQ.pass rfl rfl rfl ?_
   refine GoQ.pure rfl (op_pickF rfl rfl rfl) rfl rfl ?_
   refine GoQ.pure rfl (op_move rfl) rfl rfl ?_
   refine GoQ.pass rfl rfl rfl ?_
   refine GoQ.pass rfl rfl rfl ?_
   refine GoQ.pass rfl rfl rfl ?_
   refine GoQ.pass rfl rfl rfl ?_
   refine GoQ.pass rfl rfl rfl ?_
   refine GoQ.pass rfl rfl rfl ?_
   refine GoQ.pass rfl rfl rfl ?_
   refine GoQ.pass rfl rfl rfl ?_
   refine GoQ.pure rfl (op_pickF rfl rfl rfl) rfl rfl ?_
   refine GoQ.pure rfl (op_move rfl) rfl rfl ?_
   refine GoQ.pass rfl rfl rfl ?_
   refine GoQ.pass rfl rfl rfl ?_
   refine GoQ.pass rfl rfl rfl ?_
   refine GoQ.pass rfl rfl rfl ?_
   refine GoQ.pass rfl rfl rfl ?_
   refine GoQ.pass rfl rfl rfl ?_
   refine GoQ.pass rfl rfl rfl ?_
   refine GoQ.pass rfl rfl rfl ?_
   refine GoQ.pure rfl (op_pickF rfl rfl rfl) rfl rfl ?_
   refine GoQ.pure rfl (op_move rfl) rfl rfl ?_
   refine GoQ.pass rfl rfl rfl ?_
   refine GoQ.pass rfl rfl rfl ?_
   refine GoQ.pass rfl rfl rfl ?_
   refine GoQ.pass rfl rfl rfl ?_
   refine GoQ.pass rfl rfl rfl ?_
   refine GoQ.pass rfl rfl rfl ?_
   refine GoQ.pass rfl rfl rfl ?_
   refine GoQ.pass rfl rfl rfl ?_
   refine GoQ.pure rfl (op_pickF rfl rfl rfl) rfl rfl ?_
   refine GoQ.pure rfl (op_move rfl) rfl rfl ?_
   refine GoQ.pass rfl rfl rfl ?_
   refine GoQ.pass rfl rfl rfl ?_
   refine GoQ.pass rfl rfl rfl ?_
   refine GoQ.pass rfl rfl rfl ?_
   refine GoQ.pass rfl rfl rfl ?_
   refine GoQ.pass rfl rfl rfl ?_
   refine GoQ.pass rfl rfl rfl ?_
   refine GoQ.pass rfl rfl rfl ?_
   refine GoQ.pure rfl (op_pickF rfl rfl rfl) rfl rfl ?_
   refine GoQ.pure rfl (op_move rfl) rfl rfl ?_
   refine GoQ.pass rfl rfl rfl ?_
   refine GoQ.pass rfl rfl rfl ?_
   refine GoQ.pass rfl rfl rfl ?_
   refine GoQ.pass rfl rfl rfl ?_
   refine GoQ.pass rfl rfl rfl ?_
   refine GoQ.pass rfl rfl rfl ?_
   refine GoQ.pass rfl rfl rfl ?_
   refine GoQ.pass rfl rfl rfl ?_
   refine GoQ.pure rfl (op_pickF rfl rfl rfl) rfl rfl ?_
   refine GoQ.pure rfl (op_assign rfl) rfl rfl ?_
   refine GoQ.nil ?_
   refine Go1.ret1V Try.func68 rfl (show _ = .bool false from rfl) ?_
   refine hR283 _ _ ?_
   refine GoR.op ((op_assign rfl) _) rfl rfl ?_
   refine GoR.op ((op_assign rfl) _) rfl rfl ?_
   refine GoR.nil ?_
   replace aZ := aZ.ch (Owns.dropCh _ _ 0)
   replace aU := aU.ch (Owns.dropCh _ _ 0)
   replace aK := aK.ch (Owns.dropCh _ _ 0)
   replace a5 := a5.ch (Owns.dropCh _ _ 0)
   replace aV := aV.ch (Owns.dropCh _ _ 0)
   replace aW := aW.ch (Owns.dropCh _ _ 0)
   replace dz := dz.ch (Owns.dropCh _ _ 0)
   replace dt := dt.ch (Owns.dropCh _ _ 0)
   replace du := du.ch (Owns.dropCh _ _ 0)
   replace dw := dw.ch (Owns.dropCh _ _ 0)
   replace dx := dx.ch (Owns.dropCh _ _ 0)
   replace dy := dy.ch (Owns.dropCh _ _ 0)
   replace dA := dA.ch (Owns.dropCh _ _ 0)
   replace dB := dB.ch (Owns.dropCh _ _ 0)
   replace dC := dC.ch (Owns.dropCh _ _ 0)
   replace hB := hB.trans (Owns.dropFr _ _ 0)
   replace hO := hO.drop 0
   dsimp only [eS, eZ] at hB hO aZ aU aK a5 aV aW dz dt du dw dx dy dA dB dC
   replace aZ := aZ.ch (Owns.dropCh _ _ 11)
   replace aU := aU.ch (Owns.dropCh _ _ 11)
   replace aK := aK.ch (Owns.dropCh _ _ 11)
   replace a5 := a5.ch (Owns.dropCh _ _ 11)
   replace aV := aV.ch (Owns.dropCh _ _ 11)
   replace aW := aW.ch (Owns.dropCh _ _ 11)
   replace dz := dz.ch (Owns.dropCh _ _ 11)
   replace dt := dt.ch (Owns.dropCh _ _ 11)
   replace du := du.ch (Owns.dropCh _ _ 11)
   replace dw := dw.ch (Owns.dropCh _ _ 11)
   replace dx := dx.ch (Owns.dropCh _ _ 11)
   replace dy := dy.ch (Owns.dropCh _ _ 11)
   replace dA := dA.ch (Owns.dropCh _ _ 11)
   replace dB := dB.ch (Owns.dropCh _ _ 11)
   replace dC := dC.ch (Owns.dropCh _ _ 11)
   replace hB := hB.trans (Owns.dropFr _ _ 11)
   replace hO := hO.drop 11
   dsimp only [eS, eZ] at hB hO aZ aU aK a5 aV aW dz dt du dw dx dy dA dB dC
   refine Go1.ret2 Try.func53 rfl ?_
   exact Or.inr ⟨(⟨(⟨k4_203, b4_204, d_206, d_212, d_218, d_224, d_230, d_236, k4_205⟩ : Enum), m4_260, d_242, d_248, d_254⟩ : run), false, er, ff, fh, fk, gt, eX, eG, eH, iu, eY, eI, eK, iv, e8, eM, eN, iw, e9, eO, eP, iA, fd, eQ, eU, iB, b4, fm, fo, fq, iC, ft, fu, fv, iD, fw, fx, fy, iE, rfl, hB.same, hO, dz, dt, du, dw, dx, dy, dA, dB, dC, H⟩
  replace H := ifn AA H
  refine GoR.op ((fun w => opB (op_neq rfl rfl w) (ndF AA)) _) rfl rfl ?_
  refine GoR.nil ?_
  refine Go1.condT rfl rfl ?_
  refine Go1.seq ?_
  refine Go1.cut [] trivial ?_
  intro σ _
  refine Go1.region ?_
  refine GoR.op ((op_assign rfl) _) rfl rfl ?_
  refine GoR.op ((op_assign rfl) _) rfl rfl ?_
  refine GoR.nil ?_
  refine Go1.ret2 Try.func53 rfl ?_
  exact Or.inl ⟨false, rfl, hB.same, H⟩
theorem body29 : Body Try.prog 29 := ⟨Try.f29, Try.func29, rfl, by kernel_rfl⟩
theorem walk_enumerate_Word {A : List Nat} {w0 : World} {bY : Option Addr} {bZ : Nat} {bp : Option Addr} {bq : Nat} {bi : Option Addr} {bj : Nat} {bP : Option Addr} {bQ : Nat} {bt : Option Addr} {bu : Nat} {bv : Option Addr} {bw : Nat} {e : Enum} {i : Int} (hA : ∀ b ∈ A, b < w0.heap.size) (aZ : ISl (Rp.sl (Rp.int .i64)) A w0 bY bZ e.Gens) (aU : ISl (Rp.sl (Rp.int .i64)) A w0 bp bq e.Elems) (aK : ISl (Rp.int .i64) A w0 bi bj e.Prefix) (a5 : ISl (Rp.int .i64) A w0 bP bQ e.Last) (aV : ISl (Rp.sl (Rp.int .i64)) A w0 bt bu e.Right) (aW : ISl (rpRule) A w0 bv bw e.Rules) {K : Str → Prop} (H : enumerate_Word e i K) :
    CallsV Try.prog 29 #[.agg #[.int .i64 e.Points, .bool e.Monoid, .slice bY e.Gens.length bZ, .slice bp e.Elems.length bq, .slice bi e.Prefix.length bj, .slice bP e.Last.length bQ, .slice bt e.Right.length bu, .slice bv e.Rules.length bw, .int .i64 e.Done], .int .i64 i] w0 (fun v w' => ∃ (r0 : Str), v = .string (gstr r0) ∧ Same w0 w' ∧ r0.length ≤ mx ∧ K r0) := by
 refine CallsV.of (l := [.agg #[.int .i64 e.Points, .bool e.Monoid, .slice bY e.Gens.length bZ, .slice bp e.Elems.length bq, .slice bi e.Prefix.length bj, .slice bP e.Last.length bQ, .slice bt e.Right.length bu, .slice bv e.Rules.length bw, .int .i64 e.Done], .int .i64 i]) Try.func29 rfl Try.ntmps29 rfl ?_
 have hO := Owns.start hA
 have hB := Fr.refl (bl []) w0
 unfold enumerate_Word at H
 replace aZ := aZ.ch (Ch.start A w0)
 replace aU := aU.ch (Ch.start A w0)
 replace aK := aK.ch (Ch.start A w0)
 replace a5 := a5.ch (Ch.start A w0)
 replace aV := aV.ch (Ch.start A w0)
 replace aW := aW.ch (Ch.start A w0)
 refine Go1.seq ?_
 refine Go1.region ?_
 have hobt := obox (t := 29) (v := .agg #[.int .i64 e.Points, .bool e.Monoid, .slice bY e.Gens.length bZ, .slice bp e.Elems.length bq, .slice bi e.Prefix.length bj, .slice bP e.Last.length bQ, .slice bt e.Right.length bu, .slice bv e.Rules.length bw, .int .i64 e.Done]) (cs := #[.int .i64 e.Points, .bool e.Monoid, .slice bY e.Gens.length bZ, .slice bp e.Elems.length bq, .slice bi e.Prefix.length bj, .slice bP e.Last.length bQ, .slice bt e.Right.length bu, .slice bv e.Rules.length bw, .int .i64 e.Done]) hO rfl
 obtain ⟨w1, B2, gr, hs4, u5⟩ := hobt
 refine GoR.op (u5 rfl) rfl rfl ?_
 replace hO := gr.own
 replace aZ := aZ.ch gr.ch
 replace aU := aU.ch gr.ch
 replace aK := aK.ch gr.ch
 replace a5 := a5.ch gr.ch
 replace aV := aV.ch gr.ch
 replace aW := aW.ch gr.ch
 replace hB := hB.trans gr.fr
 refine GoR.op ((op_assign rfl) _) rfl rfl ?_
 refine GoR.nil ?_
 refine Go1.seq ?_
 refine Go1.region ?_
 refine GoR.op ((oblkAgg (vs := [.int .i64 e.Points, .bool e.Monoid, .slice bY e.Gens.length bZ, .slice bp e.Elems.length bq, .slice bi e.Prefix.length bj, .slice bP e.Last.length bQ, .slice bt e.Right.length bu, .slice bv e.Rules.length bw, .int .i64 e.Done]) (i := 0) 0 hO rfl rfl Try.underlying29 rfl ti29 rfl) _ (Same.refl _)) rfl rfl ?_
 refine GoR.call (op_call body53 rfl (walk_enumerate_replay (e := e) hO.lt aZ aU aK a5 aV aW H)) rfl rfl ?_
 intro v9 w10 hcase13
 refine Or.elim hcase13 ?_ ?_
 ·refine exE fun r8 => andE fun hv14 => andE fun u6 => fun H => ?_
  subst hv14
  clear hcase13
  replace H := oElimN H
  have sq := Stp.same hO u6
  replace hO := sq.own
  replace aZ := aZ.ch sq.ch
  replace aU := aU.ch sq.ch
  replace aK := aK.ch sq.ch
  replace a5 := a5.ch sq.ch
  replace aV := aV.ch sq.ch
  replace aW := aW.ch sq.ch
  replace hB := hB.trans sq.fr
  refine GoR.op ((op_move rfl) _) rfl rfl ?_
  refine GoR.op ((op_extract rfl rfl) _) rfl rfl ?_
  refine GoR.op ((op_extract rfl rfl) _) rfl rfl ?_
  refine GoR.op ((op_assign rfl) _) rfl rfl ?_
  refine GoR.op ((op_assign rfl) _) rfl rfl ?_
  refine GoR.nil ?_
  refine Go1.seq ?_
  refine Go1.seq ?_
  refine Go1.region ?_
  refine GoR.op ((op_move rfl) _) rfl rfl ?_
  cases r8
  ·replace H := ifn Bool.false_ne_true H
   refine GoR.op ((op_not rfl) _) rfl rfl ?_
   refine GoR.op ((op_move rfl) _) rfl rfl ?_
   refine GoR.pass rfl rfl ?_
   refine GoR.pass rfl rfl ?_
   refine GoR.op ((op_pickT rfl rfl rfl) _) rfl rfl ?_
   refine GoR.op ((op_move rfl) _) rfl rfl ?_
   refine GoR.pass rfl rfl ?_
   refine GoR.pass rfl rfl ?_
   refine GoR.pass rfl rfl ?_
   refine GoR.pass rfl rfl ?_
   refine GoR.pass rfl rfl ?_
   refine GoR.pass rfl rfl ?_
   refine GoR.pass rfl rfl ?_
   refine GoR.pass rfl rfl ?_
   refine GoR.op ((op_pickT rfl rfl rfl) _) rfl rfl ?_
   refine GoR.nil ?_
   refine Go1.condT rfl rfl ?_
   refine Go1.seq ?_
   refine Go1.cut [] trivial ?_
   intro σ _
   refine Go1.region ?_
   refine GoR.op ((op_assign rfl) _) rfl rfl ?_
   refine GoR.nil ?_
   refine Go1.ret1 Try.func29 rfl ?_
   exact ⟨([] : Str), rfl, hB.same, (by decide), H⟩
  replace H := ifp rfl H
  refine GoR.op ((op_not rfl) _) rfl rfl ?_
  refine GoR.op ((op_move rfl) _) rfl rfl ?_
  refine GoR.op ((op_move rfl) _) rfl rfl ?_
  by_cases h16 : i < (0 : Int)
  ·replace H := ifp h16 H
   refine GoR.op ((fun w => opB (op_lss rfl rfl w) (decide_eq_true h16)) _) rfl rfl ?_
   refine GoR.op ((op_pickF rfl rfl rfl) _) rfl rfl ?_
   refine GoR.op ((op_move rfl) _) rfl rfl ?_
   refine GoR.pass rfl rfl ?_
   refine GoR.pass rfl rfl ?_
   refine GoR.pass rfl rfl ?_
   refine GoR.pass rfl rfl ?_
   refine GoR.pass rfl rfl ?_
   refine GoR.pass rfl rfl ?_
   refine GoR.pass rfl rfl ?_
   refine GoR.pass rfl rfl ?_
   refine GoR.op ((op_pickT rfl rfl rfl) _) rfl rfl ?_
   refine GoR.nil ?_
   refine Go1.condT rfl rfl ?_
   refine Go1.seq ?_
   refine Go1.region ?_
   refine GoR.op ((op_assign rfl) _) rfl rfl ?_
   refine GoR.nil ?_
   refine Go1.ret1 Try.func29 rfl ?_
   exact ⟨([] : Str), rfl, hB.same, (by decide), H⟩
  replace H := ifn h16 H
  refine GoR.op ((fun w => opB (op_lss rfl rfl w) (decide_eq_false h16)) _) rfl rfl ?_
  refine GoR.op ((op_pickF rfl rfl rfl) _) rfl rfl ?_
  refine GoR.op ((op_move rfl) _) rfl rfl ?_
  refine GoR.op ((op_move rfl) _) rfl rfl ?_
  refine GoR.op ((op_move rfl) _) rfl rfl ?_
  exact H.elim
 ·refine exE fun r7 => exE fun r8 => exE fun lZ => exE fun uX => exE fun uY => exE fun uZ => exE fun ur => exE fun ut => exE fun uu => exE fun uv => exE fun ua => exE fun ub => exE fun uc => exE fun ud => exE fun tL => exE fun u0 => exE fun u3 => exE fun u4 => exE fun uw => exE fun ux => exE fun uy => exE fun uz => exE fun ue => exE fun uA => exE fun uB => exE fun uC => exE fun uf => exE fun cI => exE fun xJ => exE fun xK => exE fun xL => exE fun wA => exE fun wB => exE fun wC => exE fun wD => exE fun vS => exE fun wE => exE fun wF => exE fun wG => exE fun vT => andE fun hv17 => andE fun u6 => andE fun hN12 => andE fun g0 => andE fun fP => andE fun fR => andE fun g5 => andE fun gp => andE fun gq => andE fun g6 => andE fun jm => andE fun jo => fun H => ?_
  subst hv17
  clear hcase13
  replace H := oElimS H
  have rF := Stp.more hO u6 hN12
  dsimp only [List.cons_append, List.nil_append] at rF
  replace hO := rF.own
  replace aZ := aZ.ch rF.ch
  replace aU := aU.ch rF.ch
  replace aK := aK.ch rF.ch
  replace a5 := a5.ch rF.ch
  replace aV := aV.ch rF.ch
  replace aW := aW.ch rF.ch
  replace hB := hB.trans rF.fr
  replace g0 := g0.ch (Ch.assoc _ _ _ _)
  dsimp only [List.cons_append, List.nil_append] at g0
  replace fP := fP.ch (Ch.assoc _ _ _ _)
  dsimp only [List.cons_append, List.nil_append] at fP
  replace fR := fR.ch (Ch.assoc _ _ _ _)
  dsimp only [List.cons_append, List.nil_append] at fR
  replace g5 := g5.ch (Ch.assoc _ _ _ _)
  dsimp only [List.cons_append, List.nil_append] at g5
  replace gp := gp.ch (Ch.assoc _ _ _ _)
  dsimp only [List.cons_append, List.nil_append] at gp
  replace gq := gq.ch (Ch.assoc _ _ _ _)
  dsimp only [List.cons_append, List.nil_append] at gq
  replace g6 := g6.ch (Ch.assoc _ _ _ _)
  dsimp only [List.cons_append, List.nil_append] at g6
  replace jm := jm.ch (Ch.assoc _ _ _ _)
  dsimp only [List.cons_append, List.nil_append] at jm
  replace jo := jo.ch (Ch.assoc _ _ _ _)
  dsimp only [List.cons_append, List.nil_append] at jo
  refine GoR.op ((op_move rfl) _) rfl rfl ?_
  refine GoR.op ((op_extract rfl rfl) _) rfl rfl ?_
  refine GoR.op ((op_extract rfl rfl) _) rfl rfl ?_
  refine GoR.op ((op_assign rfl) _) rfl rfl ?_
  refine GoR.op ((op_assign rfl) _) rfl rfl ?_
  refine GoR.nil ?_
  refine Go1.seq ?_
  refine Go1.seq ?_
  refine Go1.cut [(1, .int .i64 i), (5, .pointer (some ⟨lZ, 0, none⟩)), (6, .bool r8)] ⟨rfl, rfl, rfl, trivial⟩ ?_
  intro σ _
  refine Go1.region ?_
  refine GoR.op ((op_move rfl) _) rfl rfl ?_
  cases r8
  ·replace H := ifn Bool.false_ne_true H
   refine GoR.op ((op_not rfl) _) rfl rfl ?_
   refine GoR.op ((op_move rfl) _) rfl rfl ?_
   refine GoR.pass rfl rfl ?_
   refine GoR.pass rfl rfl ?_
   refine GoR.op ((op_pickT rfl rfl rfl) _) rfl rfl ?_
   refine GoR.op ((op_move rfl) _) rfl rfl ?_
   refine GoR.pass rfl rfl ?_
   refine GoR.pass rfl rfl ?_
   refine GoR.pass rfl rfl ?_
   refine GoR.pass rfl rfl ?_
   refine GoR.pass rfl rfl ?_
   refine GoR.pass rfl rfl ?_
   refine GoR.pass rfl rfl ?_
   refine GoR.pass rfl rfl ?_
   refine GoR.op ((op_pickT rfl rfl rfl) _) rfl rfl ?_
   refine GoR.nil ?_
   refine Go1.condT rfl rfl ?_
   refine Go1.seq ?_
   refine Go1.region ?_
   refine GoR.op ((op_assign rfl) _) rfl rfl ?_
   refine GoR.nil ?_
   refine Go1.ret1 Try.func29 rfl ?_
   exact ⟨([] : Str), rfl, hB.same, (by decide), H⟩
  replace H := ifp rfl H
  refine GoR.op ((op_not rfl) _) rfl rfl ?_
  refine GoR.op ((op_move rfl) _) rfl rfl ?_
  refine GoR.op ((op_move rfl) _) rfl rfl ?_
  by_cases h30 : i < (0 : Int)
  ·replace H := ifp h30 H
   refine GoR.op ((fun w => opB (op_lss rfl rfl w) (decide_eq_true h30)) _) rfl rfl ?_
   refine GoR.op ((op_pickF rfl rfl rfl) _) rfl rfl ?_
   refine GoR.op ((op_move rfl) _) rfl rfl ?_
   refine GoR.pass rfl rfl ?_
   refine GoR.pass rfl rfl ?_
   refine GoR.pass rfl rfl ?_
   refine GoR.pass rfl rfl ?_
   refine GoR.pass rfl rfl ?_
   refine GoR.pass rfl rfl ?_
   refine GoR.pass rfl rfl ?_
   refine GoR.pass rfl rfl ?_
   refine GoR.op ((op_pickT rfl rfl rfl) _) rfl rfl ?_
   refine GoR.nil ?_
   refine Go1.condT rfl rfl ?_
   refine Go1.seq ?_
   refine Go1.cut [] trivial ?_
   intro σ _
   refine Go1.region ?_
   refine GoR.op ((op_assign rfl) _) rfl rfl ?_
   refine GoR.nil ?_
   refine Go1.ret1 Try.func29 rfl ?_
   exact ⟨([] : Str), rfl, hB.same, (by decide), H⟩
  replace H := ifn h30 H
  refine GoR.op ((fun w => opB (op_lss rfl rfl w) (decide_eq_false h30)) _) rfl rfl ?_
  refine GoR.op ((op_pickF rfl rfl rfl) _) rfl rfl ?_
  refine GoR.op ((op_move rfl) _) rfl rfl ?_
  refine GoR.op ((op_move rfl) _) rfl rfl ?_
  refine GoR.op ((op_move rfl) _) rfl rfl ?_
  refine GoR.op ((op_nilCheck rfl) _) rfl rfl ?_
  refine GoR.op ((op_fieldAddr Try.underlying72 rfl ti29 rfl (by decide)) _) rfl rfl ?_
  refine GoR.op ((op_fieldAddr Try.underlying29 rfl ti22 rfl (by decide)) _) rfl rfl ?_
  refine GoR.op ((oblk (i := 3) 0 hO rfl rfl Try.underlying22 rfl rfl) _ (Same.refl _)) rfl rfl ?_
  refine GoR.op ((op_lenN Try.underlying22 rfl (fP.neq hO 2 rfl)) _) rfl rfl ?_
  by_cases h31 : (r7.Enum.Elems.length : Int) ≤ i
  ·replace H := ifp h31 H
   refine GoR.op ((fun w => opB (op_geq rfl rfl w) (decide_eq_true h31)) _) rfl rfl ?_
   refine GoR.op ((op_pickF rfl rfl rfl) _) rfl rfl ?_
   refine GoR.nil ?_
   refine Go1.condT rfl rfl ?_
   refine Go1.seq ?_
   refine Go1.region ?_
   refine GoR.op ((op_assign rfl) _) rfl rfl ?_
   refine GoR.nil ?_
   refine Go1.ret1 Try.func29 rfl ?_
   exact ⟨([] : Str), rfl, hB.same, (by decide), H⟩
  replace H := ifn h31 H
  refine GoR.op ((fun w => opB (op_geq rfl rfl w) (decide_eq_false h31)) _) rfl rfl ?_
  refine GoR.op ((op_pickF rfl rfl rfl) _) rfl rfl ?_
  refine GoR.nil ?_
  refine Go1.condF rfl rfl ?_
  refine Go1.skip ?_
  refine Go1.seq ?_
  refine Go1.region ?_
  refine GoR.op ((op_move rfl) _) rfl rfl ?_
  refine GoR.op ((op_nilCheck rfl) _) rfl rfl ?_
  refine GoR.op ((op_fieldAddr Try.underlying72 rfl ti70 rfl (by decide)) _) rfl rfl ?_
  refine GoR.op ((oblk (i := 10) 0 hO rfl rfl Try.underlying70 rfl rfl) _ (Same.refl _)) rfl rfl ?_
  refine GoR.op ((op_move rfl) _) rfl rfl ?_
  obtain ⟨h32, H⟩ := H
  obtain ⟨h33, H⟩ := H
  refine GoR.op ((op_index Try.underlying70 ti9 rfl rfl h32 (ltn (g6.neq hO 7 rfl) h33) (g6.psome hO 7 rfl h32 h33)) _) rfl rfl ?_
  refine GoR.op ((oldStr 7 hO rfl g6 h32 h33 Try.underlying9 rfl rfl) _ (Same.refl _)) rfl rfl ?_
  have hle34 := Els.str_le g6 h32 h33
  refine GoR.op ((op_assign rfl) _) rfl rfl ?_
  refine GoR.nil ?_
  refine Go1.ret1 Try.func29 rfl ?_
  exact ⟨ix r7.words i, rfl, hB.same, hle34, H⟩
end Sg
