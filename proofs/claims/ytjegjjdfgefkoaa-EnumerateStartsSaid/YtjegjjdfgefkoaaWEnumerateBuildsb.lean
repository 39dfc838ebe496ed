/- The walks: each call keeps to its plain transformer. Printed by walkgen.py. -/
import Derived.Test.YtjegjjdfgefkoaaTi
import Derived.Test.YtjegjjdfgefkoaaWEnumerateBuilds
import Derived.Test.YtjegjjdfgefkoaaAl
namespace Sg
open Go Go.RowKit Go.Proofs
set_option linter.unusedVariables false
set_option linter.unusedSimpArgs false
set_option maxRecDepth 100000
set_option maxHeartbeats 4000000
theorem body66 : Body Try.prog 66 := ⟨Try.f66, Try.func66, rfl, by kernel_rfl⟩
theorem body67 : Body Try.prog 67 := ⟨Try.f67, Try.func67, rfl, by kernel_rfl⟩
theorem body51 : Body Try.prog 51 := ⟨Try.f51, Try.func51, rfl, by kernel_rfl⟩
theorem walk_enumerate_run_process {A : List Nat} {n0 : Nat} {w0 : World} {dU : Nat} {ag : Nat} {ah : Option Addr} {ai : Nat} {ca : List Value} {cr : Nat} {ct : Option Addr} {cu : Nat} {dW : List Value} {cd : Nat} {ce : Option Addr} {cf : Nat} {dS : List Value} {cI : Nat} {cJ : Option Addr} {cK : Nat} {d9 : List Value} {aj : Nat} {ap : Option Addr} {aq : Nat} {b4 : List Value} {cv : Nat} {cw : Option Addr} {cx : Nat} {dX : List Value} {ar : Nat} {dI : Nat} {dJ : Option Addr} {dK : Nat} {fX : List Value} {dD : Nat} {dE : Option Addr} {dF : Nat} {ff : List Value} {aO : Nat} {aP : Option Addr} {aQ : Nat} {cW : List Value} {a0 : run} (hO : Owns n0 w0 [.blk dU (.cells #[.int .i64 a0.Enum.Points, .bool a0.Enum.Monoid, .slice ah ag ai, .slice ct cr cu, .slice ce cd cf, .slice cJ cI cK, .slice ap aj aq, .slice cw cv cx, .int .i64 a0.Enum.Done, .map (some ar), .slice dJ dI dK, .slice dE dD dF, .slice aP aO aQ] 72 (0, 0)), .row 26 1 ah ag ai ca, .row 26 1 ct cr cu dW, .row 3 1 ce cd cf dS, .row 3 1 cJ cI cK d9, .row 26 1 ap aj aq b4, .row 39 2 cw cv cx dX, .row 9 1 dJ dI dK fX, .row 3 1 dE dD dF ff, .row 3 1 aP aO aQ cW, .any (mapE (fun a : List UInt8 => Value.string (gstr a)) (fun a : Int => Value.int .i64 a) ar a0.number)] A) (aa : Els (Rp.sl (Rp.int .i64)) (bl [.blk dU (.cells #[.int .i64 a0.Enum.Points, .bool a0.Enum.Monoid, .slice ah ag ai, .slice ct cr cu, .slice ce cd cf, .slice cJ cI cK, .slice ap aj aq, .slice cw cv cx, .int .i64 a0.Enum.Done, .map (some ar), .slice dJ dI dK, .slice dE dD dF, .slice aP aO aQ] 72 (0, 0)), .row 26 1 ah ag ai ca, .row 26 1 ct cr cu dW, .row 3 1 ce cd cf dS, .row 3 1 cJ cI cK d9, .row 26 1 ap aj aq b4, .row 39 2 cw cv cx dX, .row 9 1 dJ dI dK fX, .row 3 1 dE dD dF ff, .row 3 1 aP aO aQ cW, .any (mapE (fun a : List UInt8 => Value.string (gstr a)) (fun a : Int => Value.int .i64 a) ar a0.number)] ++ A) w0 ca a0.Enum.Gens) (sk : Els (Rp.sl (Rp.int .i64)) (bl [.blk dU (.cells #[.int .i64 a0.Enum.Points, .bool a0.Enum.Monoid, .slice ah ag ai, .slice ct cr cu, .slice ce cd cf, .slice cJ cI cK, .slice ap aj aq, .slice cw cv cx, .int .i64 a0.Enum.Done, .map (some ar), .slice dJ dI dK, .slice dE dD dF, .slice aP aO aQ] 72 (0, 0)), .row 26 1 ah ag ai ca, .row 26 1 ct cr cu dW, .row 3 1 ce cd cf dS, .row 3 1 cJ cI cK d9, .row 26 1 ap aj aq b4, .row 39 2 cw cv cx dX, .row 9 1 dJ dI dK fX, .row 3 1 dE dD dF ff, .row 3 1 aP aO aQ cW, .any (mapE (fun a : List UInt8 => Value.string (gstr a)) (fun a : Int => Value.int .i64 a) ar a0.number)] ++ A) w0 dW a0.Enum.Elems) (rp : Els (Rp.int .i64) (bl [.blk dU (.cells #[.int .i64 a0.Enum.Points, .bool a0.Enum.Monoid, .slice ah ag ai, .slice ct cr cu, .slice ce cd cf, .slice cJ cI cK, .slice ap aj aq, .slice cw cv cx, .int .i64 a0.Enum.Done, .map (some ar), .slice dJ dI dK, .slice dE dD dF, .slice aP aO aQ] 72 (0, 0)), .row 26 1 ah ag ai ca, .row 26 1 ct cr cu dW, .row 3 1 ce cd cf dS, .row 3 1 cJ cI cK d9, .row 26 1 ap aj aq b4, .row 39 2 cw cv cx dX, .row 9 1 dJ dI dK fX, .row 3 1 dE dD dF ff, .row 3 1 aP aO aQ cW, .any (mapE (fun a : List UInt8 => Value.string (gstr a)) (fun a : Int => Value.int .i64 a) ar a0.number)] ++ A) w0 dS a0.Enum.Prefix) (sx : Els (Rp.int .i64) (bl [.blk dU (.cells #[.int .i64 a0.Enum.Points, .bool a0.Enum.Monoid, .slice ah ag ai, .slice ct cr cu, .slice ce cd cf, .slice cJ cI cK, .slice ap aj aq, .slice cw cv cx, .int .i64 a0.Enum.Done, .map (some ar), .slice dJ dI dK, .slice dE dD dF, .slice aP aO aQ] 72 (0, 0)), .row 26 1 ah ag ai ca, .row 26 1 ct cr cu dW, .row 3 1 ce cd cf dS, .row 3 1 cJ cI cK d9, .row 26 1 ap aj aq b4, .row 39 2 cw cv cx dX, .row 9 1 dJ dI dK fX, .row 3 1 dE dD dF ff, .row 3 1 aP aO aQ cW, .any (mapE (fun a : List UInt8 => Value.string (gstr a)) (fun a : Int => Value.int .i64 a) ar a0.number)] ++ A) w0 d9 a0.Enum.Last) (ab : Els (Rp.sl (Rp.int .i64)) (bl [.blk dU (.cells #[.int .i64 a0.Enum.Points, .bool a0.Enum.Monoid, .slice ah ag ai, .slice ct cr cu, .slice ce cd cf, .slice cJ cI cK, .slice ap aj aq, .slice cw cv cx, .int .i64 a0.Enum.Done, .map (some ar), .slice dJ dI dK, .slice dE dD dF, .slice aP aO aQ] 72 (0, 0)), .row 26 1 ah ag ai ca, .row 26 1 ct cr cu dW, .row 3 1 ce cd cf dS, .row 3 1 cJ cI cK d9, .row 26 1 ap aj aq b4, .row 39 2 cw cv cx dX, .row 9 1 dJ dI dK fX, .row 3 1 dE dD dF ff, .row 3 1 aP aO aQ cW, .any (mapE (fun a : List UInt8 => Value.string (gstr a)) (fun a : Int => Value.int .i64 a) ar a0.number)] ++ A) w0 b4 a0.Enum.Right) (sm : Els (rpRule) (bl [.blk dU (.cells #[.int .i64 a0.Enum.Points, .bool a0.Enum.Monoid, .slice ah ag ai, .slice ct cr cu, .slice ce cd cf, .slice cJ cI cK, .slice ap aj aq, .slice cw cv cx, .int .i64 a0.Enum.Done, .map (some ar), .slice dJ dI dK, .slice dE dD dF, .slice aP aO aQ] 72 (0, 0)), .row 26 1 ah ag ai ca, .row 26 1 ct cr cu dW, .row 3 1 ce cd cf dS, .row 3 1 cJ cI cK d9, .row 26 1 ap aj aq b4, .row 39 2 cw cv cx dX, .row 9 1 dJ dI dK fX, .row 3 1 dE dD dF ff, .row 3 1 aP aO aQ cW, .any (mapE (fun a : List UInt8 => Value.string (gstr a)) (fun a : Int => Value.int .i64 a) ar a0.number)] ++ A) w0 dX a0.Enum.Rules) (uI : Els (Rp.str) (bl [.blk dU (.cells #[.int .i64 a0.Enum.Points, .bool a0.Enum.Monoid, .slice ah ag ai, .slice ct cr cu, .slice ce cd cf, .slice cJ cI cK, .slice ap aj aq, .slice cw cv cx, .int .i64 a0.Enum.Done, .map (some ar), .slice dJ dI dK, .slice dE dD dF, .slice aP aO aQ] 72 (0, 0)), .row 26 1 ah ag ai ca, .row 26 1 ct cr cu dW, .row 3 1 ce cd cf dS, .row 3 1 cJ cI cK d9, .row 26 1 ap aj aq b4, .row 39 2 cw cv cx dX, .row 9 1 dJ dI dK fX, .row 3 1 dE dD dF ff, .row 3 1 aP aO aQ cW, .any (mapE (fun a : List UInt8 => Value.string (gstr a)) (fun a : Int => Value.int .i64 a) ar a0.number)] ++ A) w0 fX a0.words) (uf : Els (Rp.int .i64) (bl [.blk dU (.cells #[.int .i64 a0.Enum.Points, .bool a0.Enum.Monoid, .slice ah ag ai, .slice ct cr cu, .slice ce cd cf, .slice cJ cI cK, .slice ap aj aq, .slice cw cv cx, .int .i64 a0.Enum.Done, .map (some ar), .slice dJ dI dK, .slice dE dD dF, .slice aP aO aQ] 72 (0, 0)), .row 26 1 ah ag ai ca, .row 26 1 ct cr cu dW, .row 3 1 ce cd cf dS, .row 3 1 cJ cI cK d9, .row 26 1 ap aj aq b4, .row 39 2 cw cv cx dX, .row 9 1 dJ dI dK fX, .row 3 1 dE dD dF ff, .row 3 1 aP aO aQ cW, .any (mapE (fun a : List UInt8 => Value.string (gstr a)) (fun a : Int => Value.int .i64 a) ar a0.number)] ++ A) w0 ff a0.behind) (ac : Els (Rp.int .i64) (bl [.blk dU (.cells #[.int .i64 a0.Enum.Points, .bool a0.Enum.Monoid, .slice ah ag ai, .slice ct cr cu, .slice ce cd cf, .slice cJ cI cK, .slice ap aj aq, .slice cw cv cx, .int .i64 a0.Enum.Done, .map (some ar), .slice dJ dI dK, .slice dE dD dF, .slice aP aO aQ] 72 (0, 0)), .row 26 1 ah ag ai ca, .row 26 1 ct cr cu dW, .row 3 1 ce cd cf dS, .row 3 1 cJ cI cK d9, .row 26 1 ap aj aq b4, .row 39 2 cw cv cx dX, .row 9 1 dJ dI dK fX, .row 3 1 dE dD dF ff, .row 3 1 aP aO aQ cW, .any (mapE (fun a : List UInt8 => Value.string (gstr a)) (fun a : Int => Value.int .i64 a) ar a0.number)] ++ A) w0 cW a0.single) {K : Int → run → Prop} (H : enumerate_run_process a0 K) :
    CallsV Try.prog 51 #[.pointer (some ⟨dU, 0, none⟩)] w0 (fun v w' => ∃ (r0 : Int), ∃ (q : run), ∃ (aG : Nat), ∃ (aH : Option Addr), ∃ (aI : Nat), ∃ (bK : List Value), ∃ (au : Nat), ∃ (av : Option Addr), ∃ (aw : Nat), ∃ (bA : List Value), ∃ (al : Nat), ∃ (am : Option Addr), ∃ (ao : Nat), ∃ (bn : List Value), ∃ (aJ : Nat), ∃ (aK : Option Addr), ∃ (aL : Nat), ∃ (bM : List Value), ∃ (ax : Nat), ∃ (ay : Option Addr), ∃ (az : Nat), ∃ (bB : List Value), ∃ (aA : Nat), ∃ (aB : Option Addr), ∃ (aC : Nat), ∃ (bC : List Value), ∃ (bp : Nat), ∃ (bq : Option Addr), ∃ (bt : Nat), ∃ (cT : List Value), ∃ (aU : Nat), ∃ (aV : Option Addr), ∃ (aW : Nat), ∃ (cA : List Value), ∃ (aX : Nat), ∃ (aY : Option Addr), ∃ (a7 : Nat), ∃ (cB : List Value), v = .int .i64 r0 ∧ (fun Z0 => Owns n0 w' Z0 A ∧ Els (Rp.sl (Rp.int .i64)) (bl Z0 ++ A) w' bK q.Enum.Gens ∧ Els (Rp.sl (Rp.int .i64)) (bl Z0 ++ A) w' bA q.Enum.Elems ∧ Els (Rp.int .i64) (bl Z0 ++ A) w' bn q.Enum.Prefix ∧ Els (Rp.int .i64) (bl Z0 ++ A) w' bM q.Enum.Last ∧ Els (Rp.sl (Rp.int .i64)) (bl Z0 ++ A) w' bB q.Enum.Right ∧ Els (rpRule) (bl Z0 ++ A) w' bC q.Enum.Rules ∧ Els (Rp.str) (bl Z0 ++ A) w' cT q.words ∧ Els (Rp.int .i64) (bl Z0 ++ A) w' cA q.behind ∧ Els (Rp.int .i64) (bl Z0 ++ A) w' cB q.single ∧ Fr (bl [.blk dU (.cells #[.int .i64 a0.Enum.Points, .bool a0.Enum.Monoid, .slice ah ag ai, .slice ct cr cu, .slice ce cd cf, .slice cJ cI cK, .slice ap aj aq, .slice cw cv cx, .int .i64 a0.Enum.Done, .map (some ar), .slice dJ dI dK, .slice dE dD dF, .slice aP aO aQ] 72 (0, 0)), .row 26 1 ah ag ai ca, .row 26 1 ct cr cu dW, .row 3 1 ce cd cf dS, .row 3 1 cJ cI cK d9, .row 26 1 ap aj aq b4, .row 39 2 cw cv cx dX, .row 9 1 dJ dI dK fX, .row 3 1 dE dD dF ff, .row 3 1 aP aO aQ cW, .any (mapE (fun a : List UInt8 => Value.string (gstr a)) (fun a : Int => Value.int .i64 a) ar a0.number)]) w0 (bl Z0) w' ∧ K r0 q) [.blk dU (.cells #[.int .i64 q.Enum.Points, .bool q.Enum.Monoid, .slice aH aG aI, .slice av au aw, .slice am al ao, .slice aK aJ aL, .slice ay ax az, .slice aB aA aC, .int .i64 q.Enum.Done, .map (some ar), .slice bq bp bt, .slice aV aU aW, .slice aY aX a7] 72 (0, 0)), .row 26 1 aH aG aI bK, .row 26 1 av au aw bA, .row 3 1 am al ao bn, .row 3 1 aK aJ aL bM, .row 26 1 ay ax az bB, .row 39 2 aB aA aC bC, .row 9 1 bq bp bt cT, .row 3 1 aV aU aW cA, .row 3 1 aY aX a7 cB, .any (mapE (fun a : List UInt8 => Value.string (gstr a)) (fun a : Int => Value.int .i64 a) ar q.number)]) := by
 refine CallsV.of (l := [.pointer (some ⟨dU, 0, none⟩)]) Try.func51 rfl Try.ntmps51 rfl ?_
 have hB := Fr.refl (bl [.blk dU (.cells #[.int .i64 a0.Enum.Points, .bool a0.Enum.Monoid, .slice ah ag ai, .slice ct cr cu, .slice ce cd cf, .slice cJ cI cK, .slice ap aj aq, .slice cw cv cx, .int .i64 a0.Enum.Done, .map (some ar), .slice dJ dI dK, .slice dE dD dF, .slice aP aO aQ] 72 (0, 0)), .row 26 1 ah ag ai ca, .row 26 1 ct cr cu dW, .row 3 1 ce cd cf dS, .row 3 1 cJ cI cK d9, .row 26 1 ap aj aq b4, .row 39 2 cw cv cx dX, .row 9 1 dJ dI dK fX, .row 3 1 dE dD dF ff, .row 3 1 aP aO aQ cW, .any (mapE (fun a : List UInt8 => Value.string (gstr a)) (fun a : Int => Value.int .i64 a) ar a0.number)]) w0
 unfold enumerate_run_process at H
 refine zq (zr (za rfl (zn (zq (zr ?_)))))
 refine zm rfl (zo (op_nilCheck rfl) (zo (op_fieldAddr Try.underlying72 rfl ti29 rfl (by decide)) (zo (op_fieldAddr Try.underlying29 rfl ti3 rfl (by decide)) (zs (oblk (i := 8) 0 hO rfl rfl Try.underlying3 rfl rfl) (za rfl ?_)))))
 refine zn (zq (zr (zm rfl (zo (op_nilCheck rfl) (zo (op_fieldAddr Try.underlying72 rfl ti29 rfl (by decide)) ?_)))))
 refine zo (op_fieldAddr Try.underlying29 rfl ti22 rfl (by decide)) (zs (oblk (i := 2) 0 hO rfl rfl Try.underlying22 rfl rfl) (zo (op_lenN Try.underlying22 rfl (aa.neq hO 1 rfl)) ?_))
 obtain ⟨h8, H⟩ := H
 obtain ⟨h9, H⟩ := H
 have hobt := omake (n := (a0.Enum.Gens.length : Int)) (r := Rp.int .i64) (d := (0 : Int)) Try.underlying26 ti3 (fun _ _ => rfl) rfl hO h8 h9 (by decide)
 obtain ⟨w1, p2, vs3, lT, hE5, hs6, vb⟩ := hobt
 refine zg (vb rfl rfl) ?_
 replace hO := lT.own
 refine za rfl (zn (zq (zq (zr (zm rfl ?_)))))
 refine zo (op_nilCheck rfl) (zo (op_fieldAddr Try.underlying72 rfl ti29 rfl (by decide)) (zo (op_fieldAddr Try.underlying29 rfl ti22 rfl (by decide)) (zs (oblk (i := 2) 1 hO rfl rfl Try.underlying22 rfl rfl) ?_)))
 replace aa := aa.ch lT.ch
 refine zo (op_lenN Try.underlying22 rfl (aa.neq hO 2 rfl)) (zm rfl (zn (zb ?_)))
 replace sk := sk.ch lT.ch
 replace rp := rp.ch lT.ch
 replace sx := sx.ch lT.ch
 replace ab := ab.ch lT.ch
 replace sm := sm.ch lT.ch
 replace uI := uI.ch lT.ch
 replace uf := uf.ch lT.ch
 replace ac := ac.ch lT.ch
 replace hB := hB.trans lT.fr
 refine Go1.loopW (S := Nat × List Int × List (List Int) × List Int × List Int × List Rule × List Str × List Int × (List (Str × Int))) (fun s σ w => match s with | (k1_12, d_13, d_16, d_22, d_28, d_34, d_40, d_46, m1_52) => ∃ (kP : List Value), ∃ (n21 : Nat), ∃ (p19 : Option Addr), ∃ (c20 : Nat), ∃ (lU : List Value), ∃ (n27 : Nat), ∃ (p25 : Option Addr), ∃ (c26 : Nat), ∃ (mO : List Value), ∃ (n33 : Nat), ∃ (p31 : Option Addr), ∃ (c32 : Nat), ∃ (mP : List Value), ∃ (n39 : Nat), ∃ (p37 : Option Addr), ∃ (c38 : Nat), ∃ (mQ : List Value), ∃ (n45 : Nat), ∃ (p43 : Option Addr), ∃ (c44 : Nat), ∃ (mS : List Value), ∃ (n51 : Nat), ∃ (p49 : Option Addr), ∃ (c50 : Nat), ∃ (mT : List Value), agrees σ [(0, .pointer (some ⟨dU, 0, none⟩)), (3, .int .i64 a0.Enum.Done), (4, .slice p2 a0.Enum.Gens.length a0.Enum.Gens.length), (27, .slice ah ag ai), (28, .int .i64 (a0.Enum.Gens.length : Int)), (29, .int .i64 (k1_12 : Int))] ∧ (fun Z0 => Owns n0 w Z0 A ∧ Els (Rp.int .i64) (bl Z0 ++ A) w kP d_13 ∧ Els (Rp.sl (Rp.int .i64)) (bl Z0 ++ A) w ca a0.Enum.Gens ∧ Els (Rp.sl (Rp.int .i64)) (bl Z0 ++ A) w lU d_16 ∧ Els (Rp.int .i64) (bl Z0 ++ A) w mO d_22 ∧ Els (Rp.int .i64) (bl Z0 ++ A) w mP d_28 ∧ Els (Rp.sl (Rp.int .i64)) (bl Z0 ++ A) w b4 a0.Enum.Right ∧ Els (rpRule) (bl Z0 ++ A) w mQ d_34 ∧ Els (Rp.str) (bl Z0 ++ A) w mS d_40 ∧ Els (Rp.int .i64) (bl Z0 ++ A) w mT d_46 ∧ Els (Rp.int .i64) (bl Z0 ++ A) w cW a0.single ∧ Fr (bl [.blk dU (.cells #[.int .i64 a0.Enum.Points, .bool a0.Enum.Monoid, .slice ah ag ai, .slice ct cr cu, .slice ce cd cf, .slice cJ cI cK, .slice ap aj aq, .slice cw cv cx, .int .i64 a0.Enum.Done, .map (some ar), .slice dJ dI dK, .slice dE dD dF, .slice aP aO aQ] 72 (0, 0)), .row 26 1 ah ag ai ca, .row 26 1 ct cr cu dW, .row 3 1 ce cd cf dS, .row 3 1 cJ cI cK d9, .row 26 1 ap aj aq b4, .row 39 2 cw cv cx dX, .row 9 1 dJ dI dK fX, .row 3 1 dE dD dF ff, .row 3 1 aP aO aQ cW, .any (mapE (fun a : List UInt8 => Value.string (gstr a)) (fun a : Int => Value.int .i64 a) ar a0.number)]) w0 (bl Z0) w) [.row 3 1 p2 a0.Enum.Gens.length a0.Enum.Gens.length kP, .blk dU (.cells #[.int .i64 a0.Enum.Points, .bool a0.Enum.Monoid, .slice ah ag ai, .slice p19 n21 c20, .slice p25 n27 c26, .slice p31 n33 c32, .slice ap aj aq, .slice p37 n39 c38, .int .i64 a0.Enum.Done, .map (some ar), .slice p43 n45 c44, .slice p49 n51 c50, .slice aP aO aQ] 72 (0, 0)), .row 26 1 ah ag ai ca, .row 26 1 p19 n21 c20 lU, .row 3 1 p25 n27 c26 mO, .row 3 1 p31 n33 c32 mP, .row 26 1 ap aj aq b4, .row 39 2 p37 n39 c38 mQ, .row 9 1 p43 n45 c44 mS, .row 3 1 p49 n51 c50 mT, .row 3 1 aP aO aQ cW, .any (mapE (fun a : List UInt8 => Value.string (gstr a)) (fun a : Int => Value.int .i64 a) ar m1_52)]) H ⟨vs3, cr, ct, cu, dW, cd, ce, cf, dS, cI, cJ, cK, d9, cv, cw, cx, dX, dI, dJ, dK, fX, dD, dE, dF, ff, ⟨rfl, rfl, rfl, rfl, rfl, rfl, trivial⟩, hO, hE5, aa, sk, rp, sx, ab, sm, uI, uf, ac, hB⟩ ?_
 intro X1
 refine prE fun k1_12 => prE fun d_13 => prE fun d_16 => prE fun d_22 => prE fun d_28 => prE fun d_34 => prE fun d_40 => prE fun d_46 => fun m1_52 => ?_
 intro H hX1 σ w11
 refine exE fun kP => exE fun n21 => exE fun p19 => exE fun c20 => exE fun lU => exE fun n27 => exE fun p25 => exE fun c26 => exE fun mO => exE fun n33 => exE fun p31 => exE fun c32 => exE fun mP => exE fun n39 => exE fun p37 => exE fun c38 => exE fun mQ => exE fun n45 => exE fun p43 => exE fun c44 => exE fun mS => exE fun n51 => exE fun p49 => exE fun c50 => exE fun mT => andE fun hag => andE fun hO => andE fun a8 => andE fun aa => andE fun cQ => andE fun b6 => andE fun bO => andE fun ab => andE fun bm => andE fun bj => andE fun bi => andE fun ac => fun hB => ?_
 dsimp only at H
 refine Go1.keep [(0, .pointer (some ⟨dU, 0, none⟩)), (3, .int .i64 a0.Enum.Done), (4, .slice p2 a0.Enum.Gens.length a0.Enum.Gens.length), (27, .slice ah ag ai), (28, .int .i64 (a0.Enum.Gens.length : Int)), (29, .int .i64 (k1_12 : Int))] hag ?_
 refine zq (zr ?_)
 by_cases h53 : (k1_12 : Int) < (a0.Enum.Gens.length : Int)
 ·replace H := ifp h53 H
  refine zo (fun w => opB (op_lss rfl rfl w) (decide_eq_true h53)) (zn (zq (zt rfl rfl (zk (zq ?_)))))
  refine zb (zq (zr (zm rfl ?_)))
  obtain ⟨h54, H⟩ := H
  obtain ⟨h55, H⟩ := H
  refine zo (op_index Try.underlying22 ti26 rfl rfl h54 (ltn (aa.neq hO 2 rfl) h55) (aa.psome hO 2 rfl h54 h55)) ?_
  have hobt := oldSl 2 hO rfl aa h54 h55
  obtain ⟨p56, c57, bu, J9⟩ := hobt
  refine zs (J9 Try.underlying26 rfl rfl) (za rfl (za rfl (zn (zq (zr ?_)))))
  refine zm rfl (zo (op_nilCheck rfl) (zo (op_fieldAddr Try.underlying72 rfl ti29 rfl (by decide)) (zo (op_fieldAddr Try.underlying29 rfl ti22 rfl (by decide)) (zs (oblk (i := 3) 1 hO rfl rfl Try.underlying22 rfl rfl) (zm rfl ?_)))))
  obtain ⟨h60, H⟩ := H
  obtain ⟨h61, H⟩ := H
  refine zo (op_index Try.underlying22 ti26 rfl rfl h60 (ltn (cQ.neq hO 3 rfl) h61) (cQ.psome hO 3 rfl h60 h61)) ?_
  have hobt := oldSl 3 hO rfl cQ h60 h61
  obtain ⟨p62, c63, bv, Ka⟩ := hobt
  refine zs (Ka Try.underlying26 rfl rfl) (zm rfl ?_)
  refine GoR.call (op_call body37 rfl (walk_trans_Compose hO.lt bv bu H)) rfl rfl ?_
  rintro v70 w67 ⟨r66, rc, rf, rfl, Kb, aR, H⟩
  have lN := Stp.same hO Kb
  replace hO := lN.own
  refine za rfl (zn (zq ?_))
  refine Go1.drawS 0 [(0, .pure), (1, .pure), (2, .pure), (3, .stable), (4, .pure), (5, .loud), (6, .stable), (7, .pure), (8, .pure), (9, .pure), (10, .pure), (11, .pure)] mixed (by kernel_rfl) ?_
  intro w72 Kc
  have fm := Stp.same hO Kc
  replace hO := fm.own
  refine GoQ.pure rfl (op_move rfl) rfl rfl ?_
  refine GoQ.pure rfl (op_nilCheck rfl) rfl rfl ?_
  refine GoQ.pure rfl (op_fieldAddr Try.underlying72 rfl ti69 rfl (by decide)) rfl rfl ?_
  refine GoQ.stable rfl (oblk (i := 9) 1 hO rfl rfl Try.underlying69 rfl rfl) rfl rfl ?_
  refine GoQ.pure rfl (op_move rfl) rfl rfl ?_
  replace aR := aR.ch fm.ch
  refine GoQ.call rfl (op_call body61 rfl (walk_enumerate_text hO.lt aR H)) (fun v w hr => by obtain ⟨_, _, hs, _, _⟩ := hr; assumption) rfl rfl ?_
  rintro v79 w76 ⟨r75, rfl, Au, LB, H⟩
  have g8 := Stp.same hO Au
  replace hO := g8.own
  by_cases h81 : mhas m1_52 r75 = true
  ·replace H := ifp h81 H
   refine GoQ.stable rfl (olookT (a := r75) (MK.str Try.underlying9) 11 hO rfl Try.underlying69 rfl rfl h81) rfl rfl ?_
   refine GoQ.pure rfl (op_move rfl) rfl rfl ?_
   refine GoQ.pure rfl (op_extract rfl rfl) rfl rfl ?_
   refine GoQ.pure rfl (op_extract rfl rfl) rfl rfl ?_
   refine GoQ.pure rfl (op_assign rfl) rfl rfl ?_
   refine GoQ.pure rfl (op_assign rfl) rfl rfl ?_
   refine GoQ.nil ?_
   refine zq ?_
   refine Go1.cut [(0, .pointer (some ⟨dU, 0, none⟩)), (3, .int .i64 a0.Enum.Done), (4, .slice p2 a0.Enum.Gens.length a0.Enum.Gens.length), (5, .int .i64 (k1_12 : Int)), (7, .slice rc r66.length rf), (8, .int .i64 (mgt m1_52 r75)), (9, .bool true), (27, .slice ah ag ai), (28, .int .i64 (a0.Enum.Gens.length : Int)), (29, .int .i64 (k1_12 : Int))] ⟨rfl, rfl, rfl, rfl, rfl, rfl, rfl, rfl, rfl, rfl, trivial⟩ ?_
   intro σ _
   refine zr (zm rfl (zo (op_nilCheck rfl) (zo (op_fieldAddr Try.underlying72 rfl ti70 rfl (by decide)) (zs (oblk (i := 10) 1 hO rfl rfl Try.underlying70 rfl rfl) (zm rfl ?_)))))
   obtain ⟨h82, H⟩ := H
   obtain ⟨h83, H⟩ := H
   have Z1 := (lN.ch.trans fm.ch).trans g8.ch
   replace bj := bj.ch Z1
   refine zo (op_index Try.underlying70 ti9 rfl rfl h82 (ltn (bj.neq hO 8 rfl) h83) (bj.psome hO 8 rfl h82 h83)) (zs (oldStr 8 hO rfl bj h82 h83 Try.underlying9 rfl rfl) ?_)
   have hle84 := Els.str_le bj h82 h83
   refine zm rfl ?_
   obtain ⟨h85, H⟩ := H
   refine zo (op_add rfl rfl (wrap_i64 h85)) (zo (op_conv Try.underlying3 Try.underlying21 rfl rfl) ?_)
   obtain ⟨h86, H⟩ := H
   obtain ⟨h87, H⟩ := H
   refine zo (op_convRS Try.underlying21 Try.underlying9 rfl h86 h87) ?_
   obtain ⟨h88, H⟩ := H
   refine zo (op_addS rfl rfl h88) (za rfl (zn (zq (zb (zq ?_)))))
   refine zr (zm rfl (zo (op_not rfl) (zm rfl (zp (zp ?_)))))
   refine zp (zp (zp (zp (zp (zo (op_pickF rfl rfl rfl) ?_)))))
   refine za rfl (zn (zf rfl rfl (zq ?_)))
   refine Go1.cut [(0, .pointer (some ⟨dU, 0, none⟩)), (3, .int .i64 a0.Enum.Done), (4, .slice p2 a0.Enum.Gens.length a0.Enum.Gens.length), (5, .int .i64 (k1_12 : Int)), (7, .slice rc r66.length rf), (8, .int .i64 (mgt m1_52 r75)), (9, .bool true), (10, .string (gstr ((ix d_40 a0.Enum.Done) ++ (chr (IntKind.i32.wrap ((97 : Int) + (k1_12 : Int))))))), (27, .slice ah ag ai), (28, .int .i64 (a0.Enum.Gens.length : Int)), (29, .int .i64 (k1_12 : Int))] ⟨rfl, rfl, rfl, rfl, rfl, rfl, rfl, rfl, rfl, rfl, rfl, trivial⟩ ?_
   intro σ _
   refine zr (zm rfl (zo (op_not rfl) (za rfl (zn (zf rfl rfl ?_)))))
   refine zq (zr (zm rfl (zo (op_nilCheck rfl) (zo (op_fieldAddr Try.underlying72 rfl ti70 rfl (by decide)) (zs (oblk (i := 10) 1 hO rfl rfl Try.underlying70 rfl rfl) ?_)))))
   refine zm rfl ?_
   obtain ⟨h89, H⟩ := H
   obtain ⟨h90, H⟩ := H
   refine zo (op_index Try.underlying70 ti9 rfl rfl h89 (ltn (bj.neq hO 8 rfl) h90) (bj.psome hO 8 rfl h89 h90)) (zs (oldStr 8 hO rfl bj h89 h90 Try.underlying9 rfl rfl) ?_)
   have hle91 := Els.str_le bj h89 h90
   by_cases h92 : (ix d_40 a0.Enum.Done) = (([] : Str))
   ·replace H := ifp h92 H
    refine zo (fun w => opB (op_neqS rfl rfl w) (ndT h92)) (zm rfl (zp (zp (zp (zp ?_)))))
    refine zp (zp (zp (zp (zp (zp ?_)))))
    refine zo (op_pickF rfl rfl rfl) (za rfl (zn (zf rfl rfl (zk ?_))))
    refine Go1.inBlock ?_
    refine Go1.cut [(0, .pointer (some ⟨dU, 0, none⟩)), (3, .int .i64 a0.Enum.Done), (4, .slice p2 a0.Enum.Gens.length a0.Enum.Gens.length), (5, .int .i64 (k1_12 : Int)), (8, .int .i64 (mgt m1_52 r75)), (27, .slice ah ag ai), (28, .int .i64 (a0.Enum.Gens.length : Int)), (29, .int .i64 (k1_12 : Int))] ⟨rfl, rfl, rfl, rfl, rfl, rfl, rfl, rfl, trivial⟩ ?_
    intro σ _
    refine zr (zm rfl (zm rfl (zm rfl ?_)))
    obtain ⟨h93, H⟩ := H
    obtain ⟨h94, H⟩ := H
    replace a8 := a8.ch Z1
    refine zo (op_index Try.underlying26 ti3 rfl rfl h93 (ltn (a8.neq hO 0 rfl) h94) (a8.psome hO 0 rfl h93 h94)) ?_
    have hobt := ost (r := Rp.int .i64) rfl 0 hO rfl a8 h93 h94 (v := .int .i64 (mgt m1_52 r75)) (u := (mgt m1_52 r75)) rfl rfl
    obtain ⟨w95, Kd, pc, Di, Gt⟩ := hobt
    dsimp only [sS, sZ] at pc Di
    refine zg (Gt Try.underlying3 rfl ti3 (by exact rfl) (by exact rfl)) ?_
    replace hO := pc.own
    refine zn ?_
    refine Go1.inBlock ?_
    refine zr ?_
    replace aa := (aa.ch Z1).ch pc.ch
    refine zo (op_add rfl rfl (wrap_i64 (natbd h53 aa.bd))) (zm rfl (zn ?_))
    replace bj := bj.ch pc.ch
    have Z2 := Z1.trans pc.ch
    replace cQ := cQ.ch Z2
    replace b6 := b6.ch Z2
    replace bO := bO.ch Z2
    replace ab := ab.ch Z2
    replace bm := bm.ch Z2
    replace bi := bi.ch Z2
    replace ac := ac.ch Z2
    replace hB := (((hB.trans lN.fr).trans fm.fr).trans g8.fr).trans pc.fr
    exact hX1 _ H _ _ ⟨Kd, n21, p19, c20, lU, n27, p25, c26, mO, n33, p31, c32, mP, n39, p37, c38, mQ, n45, p43, c44, mS, n51, p49, c50, mT, ⟨rfl, rfl, rfl, rfl, rfl, rfl, trivial⟩, hO, Di, aa, cQ, b6, bO, ab, bm, bj, bi, ac, hB⟩
   replace H := ifn h92 H
   refine zo (fun w => opB (op_neqS rfl rfl w) (ndF h92)) (zm rfl (zm rfl (zm rfl (zo (op_nilCheck rfl) (zo (op_fieldAddr Try.underlying72 rfl ti26 rfl (by decide)) ?_)))))
   refine zs (oblk (i := 11) 1 hO rfl rfl Try.underlying26 rfl rfl) (zm rfl ?_)
   obtain ⟨v4, H⟩ := H
   obtain ⟨v5, H⟩ := H
   replace bi := bi.ch Z1
   refine zo (op_index Try.underlying26 ti3 rfl rfl v4 (ltn (bi.neq hO 9 rfl) v5) (bi.psome hO 9 rfl v4 v5)) (zs (oldInt 9 hO rfl bi v4 v5 Try.underlying3 rfl rfl) (zm rfl ?_))
   refine GoR.inl (vs := [.pointer (some ⟨dU, 0, none⟩), .int .i64 (ix d_46 a0.Enum.Done), .int .i64 (k1_12 : Int)]) (caps := []) rfl rfl body67 Try.func67 rfl Try.ntmps67 rfl rfl rfl ?_
   intro RhR102 hR102
   refine zq (zr (za rfl (zn (zq ?_))))
   refine Go1.cut [(0, .pointer (some ⟨dU, 0, none⟩)), (1, .int .i64 (ix d_46 a0.Enum.Done)), (2, .int .i64 (k1_12 : Int))] ⟨rfl, rfl, rfl, trivial⟩ ?_
   intro σ _
   refine zr (zm rfl (zm rfl (zm rfl ?_)))
   refine GoR.inl (vs := [.pointer (some ⟨dU, 0, none⟩), .int .i64 (ix d_46 a0.Enum.Done), .int .i64 (k1_12 : Int)]) (caps := []) rfl rfl body66 Try.func66 rfl Try.ntmps66 rfl rfl rfl ?_
   intro RhR103 hR103
   refine zq (zr (za rfl (zn (zq (zq ?_)))))
   refine zr (zm rfl ?_)
   by_cases vi : (ix d_46 a0.Enum.Done) = (-1 : Int)
   ·replace H := ifp vi H
    refine zo (fun w => opB (op_eql rfl rfl w) (decide_eq_true vi)) (zn (zt rfl rfl (zq (zr (zm rfl ?_)))))
    refine zo (op_nilCheck rfl) (zo (op_fieldAddr Try.underlying72 rfl ti26 rfl (by decide)) (zs (oblk (i := 12) 1 hO rfl rfl Try.underlying26 rfl rfl) (zm rfl ?_)))
    obtain ⟨uJ, H⟩ := H
    obtain ⟨tN, H⟩ := H
    replace ac := ac.ch Z1
    refine zo (op_index Try.underlying26 ti3 rfl rfl uJ (ltn (ac.neq hO 10 rfl) tN) (ac.psome hO 10 rfl uJ tN)) (zs (oldInt 10 hO rfl ac uJ tN Try.underlying3 rfl rfl) (za rfl (zn ?_)))
    refine Go1.ret1V Try.func66 rfl (show _ = .int .i64 (ix a0.single (k1_12 : Int)) from rfl) ?_
    refine hR103 _ _ ?_
    refine za rfl (zn (zq (zr (zm rfl (zo (op_nilCheck rfl) ?_)))))
    refine zo (op_fieldAddr Try.underlying72 rfl ti29 rfl (by decide)) (zo (op_fieldAddr Try.underlying29 rfl ti26 rfl (by decide)) (zs (oblk (i := 4) 1 hO rfl rfl Try.underlying26 rfl rfl) (zm rfl ?_)))
    obtain ⟨wU, H⟩ := H
    obtain ⟨Aw, H⟩ := H
    replace b6 := b6.ch Z1
    refine zo (op_index Try.underlying26 ti3 rfl rfl wU (ltn (b6.neq hO 4 rfl) Aw) (b6.psome hO 4 rfl wU Aw)) (zs (oldInt 4 hO rfl b6 wU Aw Try.underlying3 rfl rfl) (zm rfl ?_))
    by_cases y7 : (ix d_22 (ix a0.single (k1_12 : Int))) = (ix d_46 a0.Enum.Done)
    ·replace H := ifp y7 H
     refine zo (fun w => opB (op_eql rfl rfl w) (decide_eq_true y7)) (zm rfl (zm rfl (zo (op_nilCheck rfl) (zo (op_fieldAddr Try.underlying72 rfl ti29 rfl (by decide)) (zo (op_fieldAddr Try.underlying29 rfl ti26 rfl (by decide)) ?_)))))
     refine zs (oblk (i := 5) 1 hO rfl rfl Try.underlying26 rfl rfl) (zm rfl ?_)
     obtain ⟨Ax, H⟩ := H
     obtain ⟨Ay, H⟩ := H
     replace bO := bO.ch Z1
     refine zo (op_index Try.underlying26 ti3 rfl rfl Ax (ltn (bO.neq hO 5 rfl) Ay) (bO.psome hO 5 rfl Ax Ay)) (zs (oldInt 5 hO rfl bO Ax Ay Try.underlying3 rfl rfl) (zm rfl ?_))
     by_cases y8 : (ix d_28 (ix a0.single (k1_12 : Int))) = (k1_12 : Int)
     ·replace H := ifp y8 H
      refine zo (fun w => opB (op_eql rfl rfl w) (decide_eq_true y8)) (zo (op_pickT rfl rfl rfl) (za rfl (zn ?_)))
      refine Go1.ret1V Try.func67 rfl (show _ = .bool true from rfl) ?_
      refine hR102 _ _ ?_
      refine zo (op_pickT rfl rfl rfl) (za rfl (zn (zt rfl rfl ?_)))
      refine Go1.cut [(0, .pointer (some ⟨dU, 0, none⟩)), (3, .int .i64 a0.Enum.Done), (4, .slice p2 a0.Enum.Gens.length a0.Enum.Gens.length), (5, .int .i64 (k1_12 : Int)), (8, .int .i64 (mgt m1_52 r75)), (10, .string (gstr ((ix d_40 a0.Enum.Done) ++ (chr (IntKind.i32.wrap ((97 : Int) + (k1_12 : Int))))))), (27, .slice ah ag ai), (28, .int .i64 (a0.Enum.Gens.length : Int)), (29, .int .i64 (k1_12 : Int))] ⟨rfl, rfl, rfl, rfl, rfl, rfl, rfl, rfl, rfl, trivial⟩ ?_
      intro σ _
      refine Go1.drawS 5 [(0, .pure), (1, .pure), (2, .pure), (3, .pure), (4, .pure), (5, .stable), (6, .pure), (7, .pure), (8, .pure), (9, .pure), (10, .stable), (11, .pure), (12, .pure), (13, .stable), (14, .pure), (15, .loud), (16, .last), (17, .pure), (18, .pure), (19, .pure), (20, .last)] mixed (by kernel_rfl) ?_
      intro NX Gu
      have mU := Stp.same hO Gu
      replace hO := mU.own
      refine GoQ.pure rfl (op_move rfl) rfl rfl ?_
      refine GoQ.pure rfl (op_move rfl) rfl rfl ?_
      refine GoQ.pure rfl (op_nilCheck rfl) rfl rfl ?_
      refine GoQ.pure rfl (op_fieldAddr Try.underlying72 rfl ti29 rfl (by decide)) rfl rfl ?_
      refine GoQ.pure rfl (op_fieldAddr Try.underlying29 rfl ti27 rfl (by decide)) rfl rfl ?_
      refine GoQ.stable rfl (oblk (i := 7) 1 hO rfl rfl Try.underlying27 rfl rfl) rfl rfl ?_
      refine GoQ.pure rfl (op_move rfl) rfl rfl ?_
      refine GoQ.pure rfl (op_move rfl) rfl rfl ?_
      refine GoQ.pure rfl (op_nilCheck rfl) rfl rfl ?_
      refine GoQ.pure rfl (op_fieldAddr Try.underlying72 rfl ti70 rfl (by decide)) rfl rfl ?_
      refine GoQ.stable rfl (oblk (i := 10) 1 hO rfl rfl Try.underlying70 rfl rfl) rfl rfl ?_
      refine GoQ.pure rfl (op_move rfl) rfl rfl ?_
      obtain ⟨y9, H⟩ := H
      obtain ⟨zc, H⟩ := H
      replace bj := bj.ch mU.ch
      refine GoQ.pure rfl (op_index Try.underlying70 ti9 rfl rfl y9 (ltn (bj.neq hO 8 rfl) zc) (bj.psome hO 8 rfl y9 zc)) rfl rfl ?_
      refine GoQ.stable rfl (oldStr 8 hO rfl bj y9 zc Try.underlying9 rfl rfl) rfl rfl ?_
      have hle118 := Els.str_le bj y9 zc
      refine GoQ.pure rfl (op_build Try.underlying39 ti39 (pl := [(0, 1), (1, 1)]) (vs := [(0, .string (gstr ((ix d_40 a0.Enum.Done) ++ (chr (IntKind.i32.wrap ((97 : Int) + (k1_12 : Int))))))), (1, .string (gstr (ix d_40 (mgt m1_52 r75))))]) (cs := #[.string (gstr ((ix d_40 a0.Enum.Done) ++ (chr (IntKind.i32.wrap ((97 : Int) + (k1_12 : Int)))))), .string (gstr (ix d_40 (mgt m1_52 r75)))]) (by kernel_rfl) rfl (by kernel_rfl)) rfl rfl ?_
      have hobt := obuildN (r := rpRule) (n := 1) (parts := [(0, .agg #[.string (gstr ((ix d_40 a0.Enum.Done) ++ (chr (IntKind.i32.wrap ((97 : Int) + (k1_12 : Int)))))), .string (gstr (ix d_40 (mgt m1_52 r75)))])]) (vs := [.string (gstr ((ix d_40 a0.Enum.Done) ++ (chr (IntKind.i32.wrap ((97 : Int) + (k1_12 : Int)))))), .string (gstr (ix d_40 (mgt m1_52 r75)))]) (xs := [(⟨(ix d_40 a0.Enum.Done) ++ (chr (IntKind.i32.wrap ((97 : Int) + (k1_12 : Int)))), ix d_40 (mgt m1_52 r75)⟩ : Rule)]) Try.underlying27 ti39 hO (by decide) (by decide) (by kernel_rfl) (Els.flat1 (⟨(ix d_40 a0.Enum.Done) ++ (chr (IntKind.i32.wrap ((97 : Int) + (k1_12 : Int)))), ix d_40 (mgt m1_52 r75)⟩ : Rule) ⟨(lenApp h88), hle118⟩) rfl
      obtain ⟨NY, i4, mV, Gv, zd, Dj⟩ := hobt
      refine GoQ.loud rfl (Dj rfl) zd rfl rfl ?_
      replace hO := mV.own
      have hobt := freeze 0 hO rfl Gv
      obtain ⟨hO1, qB, uq, Gw⟩ := hobt
      dsimp only [eS, eZ] at hO1 qB uq
      replace hB := (((((hB.trans lN.fr).trans fm.fr).trans g8.fr).trans mU.fr).trans mV.fr).trans (Owns.dropFr _ _ 0)
      dsimp only [eS, eZ] at hB
      replace hO := hO1; clear hO1
      obtain ⟨Ke, H⟩ := H
      have Z3 := ((Z1.trans mU.ch).trans mV.ch).trans qB
      replace bm := bm.ch Z3
      have hobt := oapp Try.underlying27 ti39 rfl 7 hO rfl bm uq Gw Ke (by decide)
      obtain ⟨N1, Az, AA, Gx, mb, wq, Dk⟩ := hobt
      dsimp only [sS, sZ] at mb wq
      refine GoQ.last rfl (Dk (by exact rfl) (by exact rfl)) rfl rfl ?_
      replace hO := mb.own
      refine GoQ.pure rfl (op_nilCheck rfl) rfl rfl ?_
      refine GoQ.pure rfl (op_fieldAddr Try.underlying72 rfl ti29 rfl (by decide)) rfl rfl ?_
      refine GoQ.pure rfl (op_fieldAddr Try.underlying29 rfl ti27 rfl (by decide)) rfl rfl ?_
      have hobt := oblkSt2 (v := .slice Az (n39 + 1) AA) (i := 7) (cs' := #[.int .i64 a0.Enum.Points, .bool a0.Enum.Monoid, .slice ah ag ai, .slice p19 n21 c20, .slice p25 n27 c26, .slice p31 n33 c32, .slice ap aj aq, .slice Az (n39 + 1) AA, .int .i64 a0.Enum.Done, .map (some ar), .slice p43 n45 c44, .slice p49 n51 c50, .slice aP aO aQ]) 1 hO rfl rfl rfl rfl
      obtain ⟨N2, lh, Dl⟩ := hobt
      dsimp only [sS, sZ] at lh
      refine GoQ.last rfl (Dl Try.underlying27 rfl ti27 (by exact rfl) (by exact rfl)) rfl rfl ?_
      replace hO := lh.own
      refine GoQ.nil ?_
      refine Go1.inBlock ?_
      refine Go1.cut [(0, .pointer (some ⟨dU, 0, none⟩)), (3, .int .i64 a0.Enum.Done), (4, .slice p2 a0.Enum.Gens.length a0.Enum.Gens.length), (5, .int .i64 (k1_12 : Int)), (8, .int .i64 (mgt m1_52 r75)), (27, .slice ah ag ai), (28, .int .i64 (a0.Enum.Gens.length : Int)), (29, .int .i64 (k1_12 : Int))] ⟨rfl, rfl, rfl, rfl, rfl, rfl, rfl, rfl, trivial⟩ ?_
      intro σ _
      refine zr (zm rfl (zm rfl (zm rfl ?_)))
      obtain ⟨AB, H⟩ := H
      obtain ⟨AC, H⟩ := H
      replace a8 := ((a8.ch Z3).ch mb.ch).ch lh.ch
      refine zo (op_index Try.underlying26 ti3 rfl rfl AB (ltn (a8.neq hO 0 rfl) AC) (a8.psome hO 0 rfl AB AC)) ?_
      have hobt := ost (r := Rp.int .i64) rfl 0 hO rfl a8 AB AC (v := .int .i64 (mgt m1_52 r75)) (u := (mgt m1_52 r75)) rfl rfl
      obtain ⟨N3, Gy, eH, By, Dm⟩ := hobt
      dsimp only [sS, sZ] at eH By
      refine zg (Dm Try.underlying3 rfl ti3 (by exact rfl) (by exact rfl)) ?_
      replace hO := eH.own
      refine zn ?_
      refine Go1.inBlock ?_
      refine zr ?_
      have Z4 := ((Z3.trans mb.ch).trans lh.ch).trans eH.ch
      replace aa := aa.ch Z4
      refine zo (op_add rfl rfl (wrap_i64 (natbd h53 aa.bd))) (zm rfl (zn ?_))
      replace wq := (wq.ch lh.ch).ch eH.ch
      replace hB := ((hB.trans mb.fr).trans lh.fr).trans eH.fr
      have Z5 := (((mV.ch.trans qB).trans mb.ch).trans lh.ch).trans eH.ch
      replace bj := bj.ch Z5
      have Z6 := ((((mU.ch.trans mV.ch).trans qB).trans mb.ch).trans lh.ch).trans eH.ch
      replace b6 := b6.ch Z6
      replace bO := bO.ch Z6
      replace bi := bi.ch Z6
      replace ac := ac.ch Z6
      replace cQ := cQ.ch Z4
      replace ab := ab.ch Z4
      exact hX1 _ H _ _ ⟨Gy, n21, p19, c20, lU, n27, p25, c26, mO, n33, p31, c32, mP, n39 + 1, Az, AA, Gx, n45, p43, c44, mS, n51, p49, c50, mT, ⟨rfl, rfl, rfl, rfl, rfl, rfl, trivial⟩, hO, By, aa, cQ, b6, bO, ab, wq, bj, bi, ac, hB⟩
     replace H := ifn y8 H
     refine zo (fun w => opB (op_eql rfl rfl w) (decide_eq_false y8)) (zo (op_pickT rfl rfl rfl) (za rfl (zn ?_)))
     refine Go1.ret1V Try.func67 rfl (show _ = .bool false from rfl) ?_
     refine hR102 _ _ ?_
     refine zo (op_pickT rfl rfl rfl) (za rfl (zn (zf rfl rfl (zk ?_))))
     refine Go1.inBlock ?_
     refine zr (zm rfl (zm rfl (zm rfl ?_)))
     obtain ⟨AD, H⟩ := H
     obtain ⟨AE, H⟩ := H
     replace a8 := a8.ch Z1
     refine zo (op_index Try.underlying26 ti3 rfl rfl AD (ltn (a8.neq hO 0 rfl) AE) (a8.psome hO 0 rfl AD AE)) ?_
     have hobt := ost (r := Rp.int .i64) rfl 0 hO rfl a8 AD AE (v := .int .i64 (mgt m1_52 r75)) (u := (mgt m1_52 r75)) rfl rfl
     obtain ⟨Kf, Gz, mW, Bz, Dn⟩ := hobt
     dsimp only [sS, sZ] at mW Bz
     refine zg (Dn Try.underlying3 rfl ti3 (by exact rfl) (by exact rfl)) ?_
     replace hO := mW.own
     refine zn ?_
     refine Go1.inBlock ?_
     refine zr ?_
     replace aa := (aa.ch Z1).ch mW.ch
     refine zo (op_add rfl rfl (wrap_i64 (natbd h53 aa.bd))) (zm rfl (zn ?_))
     replace b6 := b6.ch mW.ch
     replace bO := bO.ch mW.ch
     replace bj := bj.ch mW.ch
     replace bi := bi.ch mW.ch
     replace ac := ac.ch mW.ch
     have Z7 := Z1.trans mW.ch
     replace cQ := cQ.ch Z7
     replace ab := ab.ch Z7
     replace bm := bm.ch Z7
     replace hB := (((hB.trans lN.fr).trans fm.fr).trans g8.fr).trans mW.fr
     exact hX1 _ H _ _ ⟨Gz, n21, p19, c20, lU, n27, p25, c26, mO, n33, p31, c32, mP, n39, p37, c38, mQ, n45, p43, c44, mS, n51, p49, c50, mT, ⟨rfl, rfl, rfl, rfl, rfl, rfl, trivial⟩, hO, Bz, aa, cQ, b6, bO, ab, bm, bj, bi, ac, hB⟩
    replace H := ifn y7 H
    refine zo (fun w => opB (op_eql rfl rfl w) (decide_eq_false y7)) (zm rfl (zp (zp (zp (zp ?_)))))
    refine zp (zp (zp (zp (zp (zp ?_)))))
    refine zo (op_pickF rfl rfl rfl) (za rfl (zn ?_))
    refine Go1.ret1V Try.func67 rfl (show _ = .bool false from rfl) ?_
    refine hR102 _ _ ?_
    refine zo (op_pickT rfl rfl rfl) (za rfl (zn (zf rfl rfl (zk ?_))))
    refine Go1.inBlock ?_
    refine Go1.cut [(0, .pointer (some ⟨dU, 0, none⟩)), (3, .int .i64 a0.Enum.Done), (4, .slice p2 a0.Enum.Gens.length a0.Enum.Gens.length), (5, .int .i64 (k1_12 : Int)), (8, .int .i64 (mgt m1_52 r75)), (27, .slice ah ag ai), (28, .int .i64 (a0.Enum.Gens.length : Int)), (29, .int .i64 (k1_12 : Int))] ⟨rfl, rfl, rfl, rfl, rfl, rfl, rfl, rfl, trivial⟩ ?_
    intro σ _
    refine zr (zm rfl (zm rfl (zm rfl ?_)))
    obtain ⟨wK, H⟩ := H
    obtain ⟨wL, H⟩ := H
    replace a8 := a8.ch Z1
    refine zo (op_index Try.underlying26 ti3 rfl rfl wK (ltn (a8.neq hO 0 rfl) wL) (a8.psome hO 0 rfl wK wL)) ?_
    have hobt := ost (r := Rp.int .i64) rfl 0 hO rfl a8 wK wL (v := .int .i64 (mgt m1_52 r75)) (u := (mgt m1_52 r75)) rfl rfl
    obtain ⟨N4, GA, mX, BA, Do⟩ := hobt
    dsimp only [sS, sZ] at mX BA
    refine zg (Do Try.underlying3 rfl ti3 (by exact rfl) (by exact rfl)) ?_
    replace hO := mX.own
    refine zn ?_
    refine Go1.inBlock ?_
    refine zr ?_
    replace aa := (aa.ch Z1).ch mX.ch
    refine zo (op_add rfl rfl (wrap_i64 (natbd h53 aa.bd))) (zm rfl (zn ?_))
    replace b6 := b6.ch mX.ch
    replace bj := bj.ch mX.ch
    replace bi := bi.ch mX.ch
    replace ac := ac.ch mX.ch
    have Z8 := Z1.trans mX.ch
    replace cQ := cQ.ch Z8
    replace bO := bO.ch Z8
    replace ab := ab.ch Z8
    replace bm := bm.ch Z8
    replace hB := (((hB.trans lN.fr).trans fm.fr).trans g8.fr).trans mX.fr
    exact hX1 _ H _ _ ⟨GA, n21, p19, c20, lU, n27, p25, c26, mO, n33, p31, c32, mP, n39, p37, c38, mQ, n45, p43, c44, mS, n51, p49, c50, mT, ⟨rfl, rfl, rfl, rfl, rfl, rfl, trivial⟩, hO, BA, aa, cQ, b6, bO, ab, bm, bj, bi, ac, hB⟩
   replace H := ifn vi H
   refine zo (fun w => opB (op_eql rfl rfl w) (decide_eq_false vi)) (zn (zf rfl rfl (zk (zq (zr ?_)))))
   refine zm rfl (zo (op_nilCheck rfl) (zo (op_fieldAddr Try.underlying72 rfl ti29 rfl (by decide)) (zo (op_fieldAddr Try.underlying29 rfl ti22 rfl (by decide)) (zs (oblk (i := 6) 1 hO rfl rfl Try.underlying22 rfl rfl) (zm rfl ?_)))))
   obtain ⟨wM, H⟩ := H
   obtain ⟨yb, H⟩ := H
   replace ab := ab.ch Z1
   refine zo (op_index Try.underlying22 ti26 rfl rfl wM (ltn (ab.neq hO 6 rfl) yb) (ab.psome hO 6 rfl wM yb)) ?_
   have hobt := oldSl 6 hO rfl ab wM yb
   obtain ⟨zh, zi, ne, GB⟩ := hobt
   refine zs (GB Try.underlying26 rfl rfl) (zm rfl ?_)
   obtain ⟨AF, H⟩ := H
   obtain ⟨AG, H⟩ := H
   refine zo (op_index Try.underlying26 ti3 rfl rfl AF AG (ne.some_ AF AG)) (zs (ldInt ne AF AG Try.underlying3 rfl rfl) (za rfl (zn ?_)))
   refine Go1.ret1V Try.func66 rfl (show _ = .int .i64 (ix (ix a0.Enum.Right (ix d_46 a0.Enum.Done)) (k1_12 : Int)) from rfl) ?_
   refine hR103 _ _ ?_
   refine za rfl (zn (zq ?_))
   refine Go1.cut [(0, .pointer (some ⟨dU, 0, none⟩)), (1, .int .i64 (ix d_46 a0.Enum.Done)), (2, .int .i64 (k1_12 : Int)), (7, .int .i64 (ix (ix a0.Enum.Right (ix d_46 a0.Enum.Done)) (k1_12 : Int)))] ⟨rfl, rfl, rfl, rfl, trivial⟩ ?_
   intro σ _
   refine zr (zm rfl (zo (op_nilCheck rfl) (zo (op_fieldAddr Try.underlying72 rfl ti29 rfl (by decide)) (zo (op_fieldAddr Try.underlying29 rfl ti26 rfl (by decide)) (zs (oblk (i := 4) 1 hO rfl rfl Try.underlying26 rfl rfl) ?_)))))
   refine zm rfl ?_
   obtain ⟨AH, H⟩ := H
   obtain ⟨AI, H⟩ := H
   replace b6 := b6.ch Z1
   refine zo (op_index Try.underlying26 ti3 rfl rfl AH (ltn (b6.neq hO 4 rfl) AI) (b6.psome hO 4 rfl AH AI)) (zs (oldInt 4 hO rfl b6 AH AI Try.underlying3 rfl rfl) (zm rfl ?_))
   by_cases zj : (ix d_22 (ix (ix a0.Enum.Right (ix d_46 a0.Enum.Done)) (k1_12 : Int))) = (ix d_46 a0.Enum.Done)
   ·replace H := ifp zj H
    refine zo (fun w => opB (op_eql rfl rfl w) (decide_eq_true zj)) (zm rfl (zm rfl (zo (op_nilCheck rfl) (zo (op_fieldAddr Try.underlying72 rfl ti29 rfl (by decide)) (zo (op_fieldAddr Try.underlying29 rfl ti26 rfl (by decide)) ?_)))))
    refine zs (oblk (i := 5) 1 hO rfl rfl Try.underlying26 rfl rfl) (zm rfl ?_)
    obtain ⟨vO, H⟩ := H
    obtain ⟨AJ, H⟩ := H
    replace bO := bO.ch Z1
    refine zo (op_index Try.underlying26 ti3 rfl rfl vO (ltn (bO.neq hO 5 rfl) AJ) (bO.psome hO 5 rfl vO AJ)) (zs (oldInt 5 hO rfl bO vO AJ Try.underlying3 rfl rfl) (zm rfl ?_))
    by_cases zl : (ix d_28 (ix (ix a0.Enum.Right (ix d_46 a0.Enum.Done)) (k1_12 : Int))) = (k1_12 : Int)
    ·replace H := ifp zl H
     refine zo (fun w => opB (op_eql rfl rfl w) (decide_eq_true zl)) (zo (op_pickT rfl rfl rfl) (za rfl (zn ?_)))
     refine Go1.ret1V Try.func67 rfl (show _ = .bool true from rfl) ?_
     refine hR102 _ _ ?_
     refine zo (op_pickT rfl rfl rfl) (za rfl (zn (zt rfl rfl ?_)))
     refine Go1.cut [(0, .pointer (some ⟨dU, 0, none⟩)), (3, .int .i64 a0.Enum.Done), (4, .slice p2 a0.Enum.Gens.length a0.Enum.Gens.length), (5, .int .i64 (k1_12 : Int)), (8, .int .i64 (mgt m1_52 r75)), (10, .string (gstr ((ix d_40 a0.Enum.Done) ++ (chr (IntKind.i32.wrap ((97 : Int) + (k1_12 : Int))))))), (27, .slice ah ag ai), (28, .int .i64 (a0.Enum.Gens.length : Int)), (29, .int .i64 (k1_12 : Int))] ⟨rfl, rfl, rfl, rfl, rfl, rfl, rfl, rfl, rfl, trivial⟩ ?_
     intro σ _
     refine Go1.drawS 5 [(0, .pure), (1, .pure), (2, .pure), (3, .pure), (4, .pure), (5, .stable), (6, .pure), (7, .pure), (8, .pure), (9, .pure), (10, .stable), (11, .pure), (12, .pure), (13, .stable), (14, .pure), (15, .loud), (16, .last), (17, .pure), (18, .pure), (19, .pure), (20, .last)] mixed (by kernel_rfl) ?_
     intro N5 GC
     have g5 := Stp.same hO GC
     replace hO := g5.own
     refine GoQ.pure rfl (op_move rfl) rfl rfl ?_
     refine GoQ.pure rfl (op_move rfl) rfl rfl ?_
     refine GoQ.pure rfl (op_nilCheck rfl) rfl rfl ?_
     refine GoQ.pure rfl (op_fieldAddr Try.underlying72 rfl ti29 rfl (by decide)) rfl rfl ?_
     refine GoQ.pure rfl (op_fieldAddr Try.underlying29 rfl ti27 rfl (by decide)) rfl rfl ?_
     refine GoQ.stable rfl (oblk (i := 7) 1 hO rfl rfl Try.underlying27 rfl rfl) rfl rfl ?_
     refine GoQ.pure rfl (op_move rfl) rfl rfl ?_
     refine GoQ.pure rfl (op_move rfl) rfl rfl ?_
     refine GoQ.pure rfl (op_nilCheck rfl) rfl rfl ?_
     refine GoQ.pure rfl (op_fieldAddr Try.underlying72 rfl ti70 rfl (by decide)) rfl rfl ?_
     refine GoQ.stable rfl (oblk (i := 10) 1 hO rfl rfl Try.underlying70 rfl rfl) rfl rfl ?_
     refine GoQ.pure rfl (op_move rfl) rfl rfl ?_
     obtain ⟨zu, H⟩ := H
     obtain ⟨zw, H⟩ := H
     replace bj := bj.ch g5.ch
     refine GoQ.pure rfl (op_index Try.underlying70 ti9 rfl rfl zu (ltn (bj.neq hO 8 rfl) zw) (bj.psome hO 8 rfl zu zw)) rfl rfl ?_
     refine GoQ.stable rfl (oldStr 8 hO rfl bj zu zw Try.underlying9 rfl rfl) rfl rfl ?_
     have hle181 := Els.str_le bj zu zw
     refine GoQ.pure rfl (op_build Try.underlying39 ti39 (pl := [(0, 1), (1, 1)]) (vs := [(0, .string (gstr ((ix d_40 a0.Enum.Done) ++ (chr (IntKind.i32.wrap ((97 : Int) + (k1_12 : Int))))))), (1, .string (gstr (ix d_40 (mgt m1_52 r75))))]) (cs := #[.string (gstr ((ix d_40 a0.Enum.Done) ++ (chr (IntKind.i32.wrap ((97 : Int) + (k1_12 : Int)))))), .string (gstr (ix d_40 (mgt m1_52 r75)))]) (by kernel_rfl) rfl (by kernel_rfl)) rfl rfl ?_
     have hobt := obuildN (r := rpRule) (n := 1) (parts := [(0, .agg #[.string (gstr ((ix d_40 a0.Enum.Done) ++ (chr (IntKind.i32.wrap ((97 : Int) + (k1_12 : Int)))))), .string (gstr (ix d_40 (mgt m1_52 r75)))])]) (vs := [.string (gstr ((ix d_40 a0.Enum.Done) ++ (chr (IntKind.i32.wrap ((97 : Int) + (k1_12 : Int)))))), .string (gstr (ix d_40 (mgt m1_52 r75)))]) (xs := [(⟨(ix d_40 a0.Enum.Done) ++ (chr (IntKind.i32.wrap ((97 : Int) + (k1_12 : Int)))), ix d_40 (mgt m1_52 r75)⟩ : Rule)]) Try.underlying27 ti39 hO (by decide) (by decide) (by kernel_rfl) (Els.flat1 (⟨(ix d_40 a0.Enum.Done) ++ (chr (IntKind.i32.wrap ((97 : Int) + (k1_12 : Int)))), ix d_40 (mgt m1_52 r75)⟩ : Rule) ⟨(lenApp h88), hle181⟩) rfl
     obtain ⟨N6, N7, mc, GD, GE, Dp⟩ := hobt
     refine GoQ.loud rfl (Dp rfl) GE rfl rfl ?_
     replace hO := mc.own
     have hobt := freeze 0 hO rfl GD
     obtain ⟨hO1, pe, ur, GF⟩ := hobt
     dsimp only [eS, eZ] at hO1 pe ur
     replace hB := (((((hB.trans lN.fr).trans fm.fr).trans g8.fr).trans g5.fr).trans mc.fr).trans (Owns.dropFr _ _ 0)
     dsimp only [eS, eZ] at hB
     replace hO := hO1; clear hO1
     obtain ⟨Kg, H⟩ := H
     have Z9 := ((Z1.trans g5.ch).trans mc.ch).trans pe
     replace bm := bm.ch Z9
     have hobt := oapp Try.underlying27 ti39 rfl 7 hO rfl bm ur GF Kg (by decide)
     obtain ⟨N8, AK, AM, GG, li, wr, Dq⟩ := hobt
     dsimp only [sS, sZ] at li wr
     refine GoQ.last rfl (Dq (by exact rfl) (by exact rfl)) rfl rfl ?_
     replace hO := li.own
     refine GoQ.pure rfl (op_nilCheck rfl) rfl rfl ?_
     refine GoQ.pure rfl (op_fieldAddr Try.underlying72 rfl ti29 rfl (by decide)) rfl rfl ?_
     refine GoQ.pure rfl (op_fieldAddr Try.underlying29 rfl ti27 rfl (by decide)) rfl rfl ?_
     have hobt := oblkSt2 (v := .slice AK (n39 + 1) AM) (i := 7) (cs' := #[.int .i64 a0.Enum.Points, .bool a0.Enum.Monoid, .slice ah ag ai, .slice p19 n21 c20, .slice p25 n27 c26, .slice p31 n33 c32, .slice ap aj aq, .slice AK (n39 + 1) AM, .int .i64 a0.Enum.Done, .map (some ar), .slice p43 n45 c44, .slice p49 n51 c50, .slice aP aO aQ]) 1 hO rfl rfl rfl rfl
     obtain ⟨N9, kD, Dr⟩ := hobt
     dsimp only [sS, sZ] at kD
     refine GoQ.last rfl (Dr Try.underlying27 rfl ti27 (by exact rfl) (by exact rfl)) rfl rfl ?_
     replace hO := kD.own
     refine GoQ.nil ?_
     refine Go1.inBlock ?_
     refine Go1.cut [(0, .pointer (some ⟨dU, 0, none⟩)), (3, .int .i64 a0.Enum.Done), (4, .slice p2 a0.Enum.Gens.length a0.Enum.Gens.length), (5, .int .i64 (k1_12 : Int)), (8, .int .i64 (mgt m1_52 r75)), (27, .slice ah ag ai), (28, .int .i64 (a0.Enum.Gens.length : Int)), (29, .int .i64 (k1_12 : Int))] ⟨rfl, rfl, rfl, rfl, rfl, rfl, rfl, rfl, trivial⟩ ?_
     intro σ _
     refine zr (zm rfl (zm rfl (zm rfl ?_)))
     obtain ⟨AN, H⟩ := H
     obtain ⟨AO, H⟩ := H
     replace a8 := ((a8.ch Z9).ch li.ch).ch kD.ch
     refine zo (op_index Try.underlying26 ti3 rfl rfl AN (ltn (a8.neq hO 0 rfl) AO) (a8.psome hO 0 rfl AN AO)) ?_
     have hobt := ost (r := Rp.int .i64) rfl 0 hO rfl a8 AN AO (v := .int .i64 (mgt m1_52 r75)) (u := (mgt m1_52 r75)) rfl rfl
     obtain ⟨Oa, GH, lj, BB, Ds⟩ := hobt
     dsimp only [sS, sZ] at lj BB
     refine zg (Ds Try.underlying3 rfl ti3 (by exact rfl) (by exact rfl)) ?_
     replace hO := lj.own
     refine zn ?_
     refine Go1.inBlock ?_
     refine zr ?_
     have Z10 := ((Z9.trans li.ch).trans kD.ch).trans lj.ch
     replace aa := aa.ch Z10
     refine zo (op_add rfl rfl (wrap_i64 (natbd h53 aa.bd))) (zm rfl (zn ?_))
     replace wr := (wr.ch kD.ch).ch lj.ch
     replace hB := ((hB.trans li.fr).trans kD.fr).trans lj.fr
     have Z11 := (((mc.ch.trans pe).trans li.ch).trans kD.ch).trans lj.ch
     replace bj := bj.ch Z11
     have Z12 := ((((g5.ch.trans mc.ch).trans pe).trans li.ch).trans kD.ch).trans lj.ch
     replace b6 := b6.ch Z12
     replace bO := bO.ch Z12
     replace ab := ab.ch Z12
     replace bi := bi.ch Z12
     replace cQ := cQ.ch Z10
     replace ac := ac.ch Z10
     exact hX1 _ H _ _ ⟨GH, n21, p19, c20, lU, n27, p25, c26, mO, n33, p31, c32, mP, n39 + 1, AK, AM, GG, n45, p43, c44, mS, n51, p49, c50, mT, ⟨rfl, rfl, rfl, rfl, rfl, rfl, trivial⟩, hO, BB, aa, cQ, b6, bO, ab, wr, bj, bi, ac, hB⟩
    replace H := ifn zl H
    refine zo (fun w => opB (op_eql rfl rfl w) (decide_eq_false zl)) (zo (op_pickT rfl rfl rfl) (za rfl (zn ?_)))
    refine Go1.ret1V Try.func67 rfl (show _ = .bool false from rfl) ?_
    refine hR102 _ _ ?_
    refine zo (op_pickT rfl rfl rfl) (za rfl (zn (zf rfl rfl (zk ?_))))
    refine Go1.inBlock ?_
    refine zr (zm rfl (zm rfl (zm rfl ?_)))
    obtain ⟨AP, H⟩ := H
    obtain ⟨yd, H⟩ := H
    replace a8 := a8.ch Z1
    refine zo (op_index Try.underlying26 ti3 rfl rfl AP (ltn (a8.neq hO 0 rfl) yd) (a8.psome hO 0 rfl AP yd)) ?_
    have hobt := ost (r := Rp.int .i64) rfl 0 hO rfl a8 AP yd (v := .int .i64 (mgt m1_52 r75)) (u := (mgt m1_52 r75)) rfl rfl
    obtain ⟨Jx, GJ, me, ut, Dt⟩ := hobt
    dsimp only [sS, sZ] at me ut
    refine zg (Dt Try.underlying3 rfl ti3 (by exact rfl) (by exact rfl)) ?_
    replace hO := me.own
    refine zn ?_
    refine Go1.inBlock ?_
    refine zr ?_
    replace aa := (aa.ch Z1).ch me.ch
    refine zo (op_add rfl rfl (wrap_i64 (natbd h53 aa.bd))) (zm rfl (zn ?_))
    replace b6 := b6.ch me.ch
    replace bO := bO.ch me.ch
    replace ab := ab.ch me.ch
    replace bj := bj.ch me.ch
    replace bi := bi.ch me.ch
    have Z13 := Z1.trans me.ch
    replace cQ := cQ.ch Z13
    replace bm := bm.ch Z13
    replace ac := ac.ch Z13
    replace hB := (((hB.trans lN.fr).trans fm.fr).trans g8.fr).trans me.fr
    exact hX1 _ H _ _ ⟨GJ, n21, p19, c20, lU, n27, p25, c26, mO, n33, p31, c32, mP, n39, p37, c38, mQ, n45, p43, c44, mS, n51, p49, c50, mT, ⟨rfl, rfl, rfl, rfl, rfl, rfl, trivial⟩, hO, ut, aa, cQ, b6, bO, ab, bm, bj, bi, ac, hB⟩
   replace H := ifn zj H
   refine zo (fun w => opB (op_eql rfl rfl w) (decide_eq_false zj)) (zm rfl (zp (zp (zp (zp ?_)))))
   refine zp (zp (zp (zp (zp (zp ?_)))))
   refine zo (op_pickF rfl rfl rfl) (za rfl (zn ?_))
   refine Go1.ret1V Try.func67 rfl (show _ = .bool false from rfl) ?_
   refine hR102 _ _ ?_
   refine zo (op_pickT rfl rfl rfl) (za rfl (zn (zf rfl rfl (zk ?_))))
   refine Go1.inBlock ?_
   refine Go1.cut [(0, .pointer (some ⟨dU, 0, none⟩)), (3, .int .i64 a0.Enum.Done), (4, .slice p2 a0.Enum.Gens.length a0.Enum.Gens.length), (5, .int .i64 (k1_12 : Int)), (8, .int .i64 (mgt m1_52 r75)), (27, .slice ah ag ai), (28, .int .i64 (a0.Enum.Gens.length : Int)), (29, .int .i64 (k1_12 : Int))] ⟨rfl, rfl, rfl, rfl, rfl, rfl, rfl, rfl, trivial⟩ ?_
   intro σ _
   refine zr (zm rfl (zm rfl (zm rfl ?_)))
   obtain ⟨AQ, H⟩ := H
   obtain ⟨AR, H⟩ := H
   replace a8 := a8.ch Z1
   refine zo (op_index Try.underlying26 ti3 rfl rfl AQ (ltn (a8.neq hO 0 rfl) AR) (a8.psome hO 0 rfl AQ AR)) ?_
   have hobt := ost (r := Rp.int .i64) rfl 0 hO rfl a8 AQ AR (v := .int .i64 (mgt m1_52 r75)) (u := (mgt m1_52 r75)) rfl rfl
   obtain ⟨Ob, GK, fe, BC, Du⟩ := hobt
   dsimp only [sS, sZ] at fe BC
   refine zg (Du Try.underlying3 rfl ti3 (by exact rfl) (by exact rfl)) ?_
   replace hO := fe.own
   refine zn ?_
   refine Go1.inBlock ?_
   refine zr ?_
   replace aa := (aa.ch Z1).ch fe.ch
   refine zo (op_add rfl rfl (wrap_i64 (natbd h53 aa.bd))) (zm rfl (zn ?_))
   replace b6 := b6.ch fe.ch
   replace ab := ab.ch fe.ch
   replace bj := bj.ch fe.ch
   replace bi := bi.ch fe.ch
   have Z14 := Z1.trans fe.ch
   replace cQ := cQ.ch Z14
   replace bO := bO.ch Z14
   replace bm := bm.ch Z14
   replace ac := ac.ch Z14
   replace hB := (((hB.trans lN.fr).trans fm.fr).trans g8.fr).trans fe.fr
   exact hX1 _ H _ _ ⟨GK, n21, p19, c20, lU, n27, p25, c26, mO, n33, p31, c32, mP, n39, p37, c38, mQ, n45, p43, c44, mS, n51, p49, c50, mT, ⟨rfl, rfl, rfl, rfl, rfl, rfl, trivial⟩, hO, BC, aa, cQ, b6, bO, ab, bm, bj, bi, ac, hB⟩
  replace H := ifn h81 H
  refine GoQ.stable rfl (olookF (a := r75) (MK.str Try.underlying9) 11 hO rfl Try.underlying69 ti3 rfl rfl h81) rfl rfl ?_
  refine GoQ.pure rfl (op_move rfl) rfl rfl ?_
  refine GoQ.pure rfl (op_extract rfl rfl) rfl rfl ?_
  refine GoQ.pure rfl (op_extract rfl rfl) rfl rfl ?_
  refine GoQ.pure rfl (op_assign rfl) rfl rfl ?_
  refine GoQ.pure rfl (op_assign rfl) rfl rfl ?_
  refine GoQ.nil ?_
  refine zq (zr (zm rfl (zo (op_nilCheck rfl) (zo (op_fieldAddr Try.underlying72 rfl ti70 rfl (by decide)) (zs (oblk (i := 10) 1 hO rfl rfl Try.underlying70 rfl rfl) ?_)))))
  refine zm rfl ?_
  obtain ⟨zx, H⟩ := H
  obtain ⟨zy, H⟩ := H
  have Z15 := (lN.ch.trans fm.ch).trans g8.ch
  replace bj := bj.ch Z15
  refine zo (op_index Try.underlying70 ti9 rfl rfl zx (ltn (bj.neq hO 8 rfl) zy) (bj.psome hO 8 rfl zx zy)) (zs (oldStr 8 hO rfl bj zx zy Try.underlying9 rfl rfl) ?_)
  have hle227 := Els.str_le bj zx zy
  refine zm rfl ?_
  obtain ⟨Kh, H⟩ := H
  refine zo (op_add rfl rfl (wrap_i64 Kh)) (zo (op_conv Try.underlying3 Try.underlying21 rfl rfl) ?_)
  obtain ⟨Ki, H⟩ := H
  obtain ⟨Kj, H⟩ := H
  refine zo (op_convRS Try.underlying21 Try.underlying9 rfl Ki Kj) ?_
  obtain ⟨AT, H⟩ := H
  refine zo (op_addS rfl rfl AT) (za rfl (zn (zq (zb (zq ?_)))))
  refine Go1.cut [(0, .pointer (some ⟨dU, 0, none⟩)), (3, .int .i64 a0.Enum.Done), (4, .slice p2 a0.Enum.Gens.length a0.Enum.Gens.length), (5, .int .i64 (k1_12 : Int)), (7, .slice rc r66.length rf), (8, .int .i64 (0 : Int)), (9, .bool false), (10, .string (gstr ((ix d_40 a0.Enum.Done) ++ (chr (IntKind.i32.wrap ((97 : Int) + (k1_12 : Int))))))), (27, .slice ah ag ai), (28, .int .i64 (a0.Enum.Gens.length : Int)), (29, .int .i64 (k1_12 : Int))] ⟨rfl, rfl, rfl, rfl, rfl, rfl, rfl, rfl, rfl, rfl, rfl, trivial⟩ ?_
  intro σ _
  refine zr (zm rfl (zo (op_not rfl) (zm rfl (zm rfl (zo (op_nilCheck rfl) ?_)))))
  refine zo (op_fieldAddr Try.underlying72 rfl ti29 rfl (by decide)) (zo (op_fieldAddr Try.underlying29 rfl ti22 rfl (by decide)) (zs (oblk (i := 3) 1 hO rfl rfl Try.underlying22 rfl rfl) ?_))
  replace cQ := cQ.ch Z15
  refine zo (op_lenN Try.underlying22 rfl (cQ.neq hO 3 rfl)) ?_
  by_cases zA : (d_16.length : Int) = (2000 : Int)
  ·replace H := ifp zA H
   refine zo (fun w => opB (op_eql rfl rfl w) (decide_eq_true zA)) (zo (op_pickT rfl rfl rfl) (za rfl (zn (zt rfl rfl (zq ?_)))))
   refine zr (za rfl (zn ?_))
   replace hO := hO.drop 0
   replace cQ := cQ.ch (Owns.dropCh _ _ 0)
   replace bj := bj.ch (Owns.dropCh _ _ 0)
   replace aR := (aR.ch g8.ch).ch (Owns.dropCh _ _ 0)
   have Z16 := Z15.trans (Owns.dropCh _ _ 0)
   replace aa := aa.ch Z16
   replace b6 := b6.ch Z16
   replace bO := bO.ch Z16
   replace ab := ab.ch Z16
   replace bm := bm.ch Z16
   replace bi := bi.ch Z16
   replace ac := ac.ch Z16
   replace bu := bu.ch Z16
   replace bv := bv.ch Z16
   replace hB := (((hB.trans lN.fr).trans fm.fr).trans g8.fr).trans (Owns.dropFr _ _ 0)
   dsimp only [eS, eZ] at hB hO bu bv aR aa cQ b6 bO ab bm bj bi ac
   refine Go1.ret1 Try.func51 rfl ?_
   exact ⟨((3 : Int)), (⟨(⟨a0.Enum.Points, a0.Enum.Monoid, a0.Enum.Gens, d_16, d_22, d_28, a0.Enum.Right, d_34, a0.Enum.Done⟩ : Enum), m1_52, d_40, d_46, a0.single⟩ : run), ag, ah, ai, ca, n21, p19, c20, lU, n27, p25, c26, mO, n33, p31, c32, mP, aj, ap, aq, b4, n39, p37, c38, mQ, n45, p43, c44, mS, n51, p49, c50, mT, aO, aP, aQ, cW, rfl, hO, aa, cQ, b6, bO, ab, bm, bj, bi, ac, hB, H⟩
  replace H := ifn zA H
  refine zo (fun w => opB (op_eql rfl rfl w) (decide_eq_false zA)) (zo (op_pickT rfl rfl rfl) (za rfl (zn (zf rfl rfl (zq ?_)))))
  refine zr (zm rfl (zo (op_not rfl) (za rfl (zn (zt rfl rfl ?_)))))
  refine zr (zm rfl (zm rfl (zm rfl (zm rfl (zm rfl ?_)))))
  refine zm rfl (zm rfl (zo (op_nilCheck rfl) (zo (op_fieldAddr Try.underlying72 rfl ti26 rfl (by decide)) (zs (oblk (i := 11) 1 hO rfl rfl Try.underlying26 rfl rfl) (zm rfl ?_)))))
  obtain ⟨AU, H⟩ := H
  obtain ⟨AV, H⟩ := H
  replace bi := bi.ch Z15
  refine zo (op_index Try.underlying26 ti3 rfl rfl AU (ltn (bi.neq hO 9 rfl) AV) (bi.psome hO 9 rfl AU AV)) (zs (oldInt 9 hO rfl bi AU AV Try.underlying3 rfl rfl) (zm rfl ?_))
  refine GoR.inl (vs := [.pointer (some ⟨dU, 0, none⟩), .int .i64 (ix d_46 a0.Enum.Done), .int .i64 (k1_12 : Int)]) (caps := []) rfl rfl body66 Try.func66 rfl Try.ntmps66 rfl rfl rfl ?_
  intro RhR235 hR235
  refine zq ?_
  refine Go1.cut [(0, .pointer (some ⟨dU, 0, none⟩)), (1, .int .i64 (ix d_46 a0.Enum.Done)), (2, .int .i64 (k1_12 : Int))] ⟨rfl, rfl, rfl, trivial⟩ ?_
  intro σ _
  refine zr (za rfl (zn (zq (zq (zr ?_)))))
  refine zm rfl ?_
  by_cases zB : (ix d_46 a0.Enum.Done) = (-1 : Int)
  ·replace H := ifp zB H
   refine zo (fun w => opB (op_eql rfl rfl w) (decide_eq_true zB)) (zn (zt rfl rfl (zq (zr (zm rfl ?_)))))
   refine zo (op_nilCheck rfl) (zo (op_fieldAddr Try.underlying72 rfl ti26 rfl (by decide)) (zs (oblk (i := 12) 1 hO rfl rfl Try.underlying26 rfl rfl) (zm rfl ?_)))
   obtain ⟨AW, H⟩ := H
   obtain ⟨AX, H⟩ := H
   replace ac := ac.ch Z15
   refine zo (op_index Try.underlying26 ti3 rfl rfl AW (ltn (ac.neq hO 10 rfl) AX) (ac.psome hO 10 rfl AW AX)) (zs (oldInt 10 hO rfl ac AW AX Try.underlying3 rfl rfl) (za rfl (zn ?_)))
   refine Go1.ret1V Try.func66 rfl (show _ = .int .i64 (ix a0.single (k1_12 : Int)) from rfl) ?_
   refine hR235 _ _ ?_
   refine GoR.inl (vs := [.pointer (some ⟨dU, 0, none⟩), .slice rc r66.length rf, .int .i64 a0.Enum.Done, .int .i64 (k1_12 : Int), .string (gstr ((ix d_40 a0.Enum.Done) ++ (chr (IntKind.i32.wrap ((97 : Int) + (k1_12 : Int)))))), .int .i64 (ix a0.single (k1_12 : Int))]) (caps := []) rfl rfl body65 Try.func65 rfl Try.ntmps65 rfl rfl rfl ?_
   intro RhR239 hR239
   refine zq (zr (za rfl (zn (zq (zr ?_)))))
   refine zm rfl (zo (op_nilCheck rfl) (zo (op_fieldAddr Try.underlying72 rfl ti29 rfl (by decide)) (zo (op_fieldAddr Try.underlying29 rfl ti22 rfl (by decide)) (zs (oblk (i := 3) 1 hO rfl rfl Try.underlying22 rfl rfl) (zo (op_lenN Try.underlying22 rfl (cQ.neq hO 3 rfl)) ?_)))))
   refine za rfl (zn (zq ?_))
   refine Go1.cut [(0, .pointer (some ⟨dU, 0, none⟩)), (1, .slice rc r66.length rf), (2, .int .i64 a0.Enum.Done), (3, .int .i64 (k1_12 : Int)), (4, .string (gstr ((ix d_40 a0.Enum.Done) ++ (chr (IntKind.i32.wrap ((97 : Int) + (k1_12 : Int))))))), (5, .int .i64 (ix a0.single (k1_12 : Int))), (13, .int .i64 (d_16.length : Int))] ⟨rfl, rfl, rfl, rfl, rfl, rfl, rfl, trivial⟩ ?_
   intro σ _
   refine Go1.drawS 1 [(0, .pure), (1, .pure), (2, .pure), (3, .stable), (4, .pure), (6, .pure), (5, .loud), (7, .last)] mixed (by kernel_rfl) ?_
   intro Jy yM
   have mY := Stp.same hO yM
   replace hO := mY.own
   refine GoQ.pure rfl (op_move rfl) rfl rfl ?_
   refine GoQ.pure rfl (op_nilCheck rfl) rfl rfl ?_
   refine GoQ.pure rfl (op_fieldAddr Try.underlying72 rfl ti69 rfl (by decide)) rfl rfl ?_
   refine GoQ.stable rfl (oblk (i := 9) 1 hO rfl rfl Try.underlying69 rfl rfl) rfl rfl ?_
   refine GoQ.pure rfl (op_move rfl) rfl rfl ?_
   refine GoQ.pure rfl (op_move rfl) rfl rfl ?_
   replace aR := (aR.ch g8.ch).ch mY.ch
   refine GoQ.call rfl (op_call body61 rfl (walk_enumerate_text hO.lt aR H)) (fun v w hr => by obtain ⟨_, _, hs, _, _⟩ := hr; assumption) rfl rfl ?_
   rintro Oc Od ⟨r243, rfl, GL, Ly, H⟩
   have m0 := Stp.same hO GL
   replace hO := m0.own
   have hobt := omapUpd (MK.str Try.underlying9) 11 hO rfl Try.underlying69 r243 (d_16.length : Int)
   obtain ⟨Oe, mf, Dv⟩ := hobt
   dsimp only [sS, sZ] at mf
   refine GoQ.last rfl (Dv (by exact rfl) (by exact rfl) (by exact rfl)) rfl rfl ?_
   replace hO := mf.own
   refine GoQ.nil ?_
   refine zq (zr (zm rfl (zm rfl (zo (op_nilCheck rfl) (zo (op_fieldAddr Try.underlying72 rfl ti29 rfl (by decide)) ?_)))))
   refine zo (op_fieldAddr Try.underlying29 rfl ti22 rfl (by decide)) (zs (oblk (i := 3) 1 hO rfl rfl Try.underlying22 rfl rfl) (zm rfl ?_))
   replace aR := (aR.ch m0.ch).ch mf.ch
   have hobt := obuild (r := Rp.sl (Rp.int .i64)) (n := 1) (parts := [(0, .slice rc r66.length rf)]) (vs := [.slice rc r66.length rf]) (xs := [r66]) rfl Try.underlying22 ti26 hO (by decide) (by kernel_rfl) (Els.cons rfl ⟨rc, rf, rfl, aR⟩ (Els.nil _ _ _) (by simp [mx])) rfl
   obtain ⟨Kk, wV, m3, GM, L6, Dw⟩ := hobt
   refine zg (Dw rfl) ?_
   replace hO := m3.own
   have hobt := freeze 0 hO rfl GM
   obtain ⟨hO1, qC, eM, GN⟩ := hobt
   dsimp only [eS, eZ] at hO1 qC eM
   replace hB := (((((((hB.trans lN.fr).trans fm.fr).trans g8.fr).trans mY.fr).trans m0.fr).trans mf.fr).trans m3.fr).trans (Owns.dropFr _ _ 0)
   dsimp only [eS, eZ] at hB
   replace hO := hO1; clear hO1
   obtain ⟨Kl, H⟩ := H
   have Z17 := (((mY.ch.trans m0.ch).trans mf.ch).trans m3.ch).trans qC
   replace cQ := cQ.ch Z17
   have hobt := oapp Try.underlying22 ti26 rfl 3 hO rfl cQ eM GN Kl (by decide)
   obtain ⟨Og, wW, wX, GO, mg, eY, Dx⟩ := hobt
   dsimp only [sS, sZ] at mg eY
   refine zg (Dx (by exact rfl) (by exact rfl)) ?_
   replace hO := mg.own
   refine zo (op_nilCheck rfl) (zo (op_fieldAddr Try.underlying72 rfl ti29 rfl (by decide)) (zo (op_fieldAddr Try.underlying29 rfl ti22 rfl (by decide)) ?_))
   have hobt := oblkSt2 (v := .slice wW (n21 + 1) wX) (i := 3) (cs' := #[.int .i64 a0.Enum.Points, .bool a0.Enum.Monoid, .slice ah ag ai, .slice wW (n21 + 1) wX, .slice p25 n27 c26, .slice p31 n33 c32, .slice ap aj aq, .slice p37 n39 c38, .int .i64 a0.Enum.Done, .map (some ar), .slice p43 n45 c44, .slice p49 n51 c50, .slice aP aO aQ]) 1 hO rfl rfl rfl rfl
   obtain ⟨Oh, lk, Dy⟩ := hobt
   dsimp only [sS, sZ] at lk
   refine zg (Dy Try.underlying22 rfl ti22 (by exact rfl) (by exact rfl)) ?_
   replace hO := lk.own
   refine zn (zq ?_)
   refine Go1.cut [(0, .pointer (some ⟨dU, 0, none⟩)), (2, .int .i64 a0.Enum.Done), (3, .int .i64 (k1_12 : Int)), (4, .string (gstr ((ix d_40 a0.Enum.Done) ++ (chr (IntKind.i32.wrap ((97 : Int) + (k1_12 : Int))))))), (5, .int .i64 (ix a0.single (k1_12 : Int))), (13, .int .i64 (d_16.length : Int))] ⟨rfl, rfl, rfl, rfl, rfl, rfl, trivial⟩ ?_
   intro σ _
   refine zr (zm rfl (zm rfl (zo (op_nilCheck rfl) (zo (op_fieldAddr Try.underlying72 rfl ti29 rfl (by decide)) (zo (op_fieldAddr Try.underlying29 rfl ti26 rfl (by decide)) ?_)))))
   refine zs (oblk (i := 4) 1 hO rfl rfl Try.underlying26 rfl rfl) (zm rfl ?_)
   have hobt := obuild (r := Rp.int .i64) (n := 1) (parts := [(0, .int .i64 a0.Enum.Done)]) (vs := [.int .i64 a0.Enum.Done]) (xs := [a0.Enum.Done]) rfl Try.underlying26 ti3 hO (by decide) (by kernel_rfl) (Els.cons rfl rfl (Els.nil _ _ _) (by simp [mx])) rfl
   obtain ⟨Oi, Oj, mh, GP, L7, Dz⟩ := hobt
   refine zg (Dz rfl) ?_
   replace hO := mh.own
   have hobt := freeze 0 hO rfl GP
   obtain ⟨hO1, pg, gB, GQ⟩ := hobt
   dsimp only [eS, eZ] at hO1 pg gB
   replace hB := (((hB.trans mg.fr).trans lk.fr).trans mh.fr).trans (Owns.dropFr _ _ 0)
   dsimp only [eS, eZ] at hB
   replace hO := hO1; clear hO1
   obtain ⟨Km, H⟩ := H
   have Z18 := ((((((((Z15.trans mY.ch).trans m0.ch).trans mf.ch).trans m3.ch).trans qC).trans mg.ch).trans lk.ch).trans mh.ch).trans pg
   replace b6 := b6.ch Z18
   have hobt := oapp Try.underlying26 ti3 rfl 4 hO rfl b6 gB GQ Km (by decide)
   obtain ⟨Ok, xG, xH, GR, ll, g9, DA⟩ := hobt
   dsimp only [sS, sZ] at ll g9
   refine zg (DA (by exact rfl) (by exact rfl)) ?_
   replace hO := ll.own
   refine zo (op_nilCheck rfl) (zo (op_fieldAddr Try.underlying72 rfl ti29 rfl (by decide)) (zo (op_fieldAddr Try.underlying29 rfl ti26 rfl (by decide)) ?_))
   have hobt := oblkSt2 (v := .slice xG (n27 + 1) xH) (i := 4) (cs' := #[.int .i64 a0.Enum.Points, .bool a0.Enum.Monoid, .slice ah ag ai, .slice wW (n21 + 1) wX, .slice xG (n27 + 1) xH, .slice p31 n33 c32, .slice ap aj aq, .slice p37 n39 c38, .int .i64 a0.Enum.Done, .map (some ar), .slice p43 n45 c44, .slice p49 n51 c50, .slice aP aO aQ]) 1 hO rfl rfl rfl rfl
   obtain ⟨Kn, kE, DB⟩ := hobt
   dsimp only [sS, sZ] at kE
   refine zg (DB Try.underlying26 rfl ti26 (by exact rfl) (by exact rfl)) ?_
   replace hO := kE.own
   refine zn (zq (zr (zm rfl (zm rfl (zo (op_nilCheck rfl) ?_)))))
   refine zo (op_fieldAddr Try.underlying72 rfl ti29 rfl (by decide)) (zo (op_fieldAddr Try.underlying29 rfl ti26 rfl (by decide)) (zs (oblk (i := 5) 1 hO rfl rfl Try.underlying26 rfl rfl) (zm rfl ?_)))
   have hobt := obuild (r := Rp.int .i64) (n := 1) (parts := [(0, .int .i64 (k1_12 : Int))]) (vs := [.int .i64 (k1_12 : Int)]) (xs := [(k1_12 : Int)]) rfl Try.underlying26 ti3 hO (by decide) (by kernel_rfl) (Els.cons rfl rfl (Els.nil _ _ _) (by simp [mx])) rfl
   obtain ⟨Ko, Ol, lm, GT, L8, DD⟩ := hobt
   refine zg (DD rfl) ?_
   replace hO := lm.own
   have hobt := freeze 0 hO rfl GT
   obtain ⟨hO1, n7, jI, GU⟩ := hobt
   dsimp only [eS, eZ] at hO1 n7 jI
   replace hB := (((hB.trans ll.fr).trans kE.fr).trans lm.fr).trans (Owns.dropFr _ _ 0)
   dsimp only [eS, eZ] at hB
   replace hO := hO1; clear hO1
   obtain ⟨Kq, H⟩ := H
   have Z19 := (((Z18.trans ll.ch).trans kE.ch).trans lm.ch).trans n7
   replace bO := bO.ch Z19
   have hobt := oapp Try.underlying26 ti3 rfl 5 hO rfl bO jI GU Kq (by decide)
   obtain ⟨Om, ym, yn, GW, kF, kw, DE⟩ := hobt
   dsimp only [sS, sZ] at kF kw
   refine zg (DE (by exact rfl) (by exact rfl)) ?_
   replace hO := kF.own
   refine zo (op_nilCheck rfl) (zo (op_fieldAddr Try.underlying72 rfl ti29 rfl (by decide)) (zo (op_fieldAddr Try.underlying29 rfl ti26 rfl (by decide)) ?_))
   have hobt := oblkSt2 (v := .slice ym (n33 + 1) yn) (i := 5) (cs' := #[.int .i64 a0.Enum.Points, .bool a0.Enum.Monoid, .slice ah ag ai, .slice wW (n21 + 1) wX, .slice xG (n27 + 1) xH, .slice ym (n33 + 1) yn, .slice ap aj aq, .slice p37 n39 c38, .int .i64 a0.Enum.Done, .map (some ar), .slice p43 n45 c44, .slice p49 n51 c50, .slice aP aO aQ]) 1 hO rfl rfl rfl rfl
   obtain ⟨On, j6, DF⟩ := hobt
   dsimp only [sS, sZ] at j6
   refine zg (DF Try.underlying26 rfl ti26 (by exact rfl) (by exact rfl)) ?_
   replace hO := j6.own
   refine zn (zq ?_)
   refine Go1.cut [(0, .pointer (some ⟨dU, 0, none⟩)), (4, .string (gstr ((ix d_40 a0.Enum.Done) ++ (chr (IntKind.i32.wrap ((97 : Int) + (k1_12 : Int))))))), (5, .int .i64 (ix a0.single (k1_12 : Int))), (13, .int .i64 (d_16.length : Int))] ⟨rfl, rfl, rfl, rfl, trivial⟩ ?_
   intro σ _
   refine zr (zm rfl (zm rfl (zo (op_nilCheck rfl) (zo (op_fieldAddr Try.underlying72 rfl ti70 rfl (by decide)) (zs (oblk (i := 10) 1 hO rfl rfl Try.underlying70 rfl rfl) ?_)))))
   refine zm rfl ?_
   have hobt := obuild (r := Rp.str) (n := 1) (parts := [(0, .string (gstr ((ix d_40 a0.Enum.Done) ++ (chr (IntKind.i32.wrap ((97 : Int) + (k1_12 : Int)))))))]) (vs := [.string (gstr ((ix d_40 a0.Enum.Done) ++ (chr (IntKind.i32.wrap ((97 : Int) + (k1_12 : Int))))))]) (xs := [(ix d_40 a0.Enum.Done) ++ (chr (IntKind.i32.wrap ((97 : Int) + (k1_12 : Int))))]) rfl Try.underlying70 ti9 hO (by decide) (by kernel_rfl) (Els.cons rfl ⟨rfl, (lenApp AT)⟩ (Els.nil _ _ _) (by simp [mx])) rfl
   obtain ⟨Oo, Oq, kG, GX, L9, DG⟩ := hobt
   refine zg (DG rfl) ?_
   replace hO := kG.own
   have hobt := freeze 0 hO rfl GX
   obtain ⟨hO1, nw, n9, GY⟩ := hobt
   dsimp only [eS, eZ] at hO1 nw n9
   replace hB := (((hB.trans kF.fr).trans j6.fr).trans kG.fr).trans (Owns.dropFr _ _ 0)
   dsimp only [eS, eZ] at hB
   replace hO := hO1; clear hO1
   obtain ⟨Kr, H⟩ := H
   have Z20 := (((((((((((Z17.trans mg.ch).trans lk.ch).trans mh.ch).trans pg).trans ll.ch).trans kE.ch).trans lm.ch).trans n7).trans kF.ch).trans j6.ch).trans kG.ch).trans nw
   replace bj := bj.ch Z20
   have hobt := oapp Try.underlying70 ti9 rfl 8 hO rfl bj n9 GY Kr (by decide)
   obtain ⟨Os, zC, zD, G0, j7, qD, DH⟩ := hobt
   dsimp only [sS, sZ] at j7 qD
   refine zg (DH (by exact rfl) (by exact rfl)) ?_
   replace hO := j7.own
   refine zo (op_nilCheck rfl) (zo (op_fieldAddr Try.underlying72 rfl ti70 rfl (by decide)) ?_)
   have hobt := oblkSt2 (v := .slice zC (n45 + 1) zD) (i := 10) (cs' := #[.int .i64 a0.Enum.Points, .bool a0.Enum.Monoid, .slice ah ag ai, .slice wW (n21 + 1) wX, .slice xG (n27 + 1) xH, .slice ym (n33 + 1) yn, .slice ap aj aq, .slice p37 n39 c38, .int .i64 a0.Enum.Done, .map (some ar), .slice zC (n45 + 1) zD, .slice p49 n51 c50, .slice aP aO aQ]) 1 hO rfl rfl rfl rfl
   obtain ⟨Ot, jE, DJ⟩ := hobt
   dsimp only [sS, sZ] at jE
   refine zg (DJ Try.underlying70 rfl ti70 (by exact rfl) (by exact rfl)) ?_
   replace hO := jE.own
   refine zn (zq (zr (zm rfl (zm rfl (zo (op_nilCheck rfl) ?_)))))
   refine zo (op_fieldAddr Try.underlying72 rfl ti26 rfl (by decide)) (zs (oblk (i := 11) 1 hO rfl rfl Try.underlying26 rfl rfl) (zm rfl ?_))
   have hobt := obuild (r := Rp.int .i64) (n := 1) (parts := [(0, .int .i64 (ix a0.single (k1_12 : Int)))]) (vs := [.int .i64 (ix a0.single (k1_12 : Int))]) (xs := [(ix a0.single (k1_12 : Int))]) rfl Try.underlying26 ti3 hO (by decide) (by kernel_rfl) (Els.cons rfl rfl (Els.nil _ _ _) (by simp [mx])) rfl
   obtain ⟨Ks, wY, gH, rg, G1, yo⟩ := hobt
   refine zg (yo rfl) ?_
   replace hO := gH.own
   have hobt := freeze 0 hO rfl rg
   obtain ⟨hO1, nf, uu, G3⟩ := hobt
   dsimp only [eS, eZ] at hO1 nf uu
   replace hB := (((hB.trans j7.fr).trans jE.fr).trans gH.fr).trans (Owns.dropFr _ _ 0)
   dsimp only [eS, eZ] at hB
   replace hO := hO1; clear hO1
   obtain ⟨Kt, H⟩ := H
   have Z21 := (((Z20.trans j7.ch).trans jE.ch).trans gH.ch).trans nf
   replace bi := bi.ch Z21
   have hobt := oapp Try.underlying26 ti3 rfl 9 hO rfl bi uu G3 Kt (by decide)
   obtain ⟨Ou, AY, A4, G4, fu, ws, DK⟩ := hobt
   dsimp only [sS, sZ] at fu ws
   refine zg (DK (by exact rfl) (by exact rfl)) ?_
   replace hO := fu.own
   refine zo (op_nilCheck rfl) (zo (op_fieldAddr Try.underlying72 rfl ti26 rfl (by decide)) ?_)
   have hobt := oblkSt2 (v := .slice AY (n51 + 1) A4) (i := 11) (cs' := #[.int .i64 a0.Enum.Points, .bool a0.Enum.Monoid, .slice ah ag ai, .slice wW (n21 + 1) wX, .slice xG (n27 + 1) xH, .slice ym (n33 + 1) yn, .slice ap aj aq, .slice p37 n39 c38, .int .i64 a0.Enum.Done, .map (some ar), .slice zC (n45 + 1) zD, .slice AY (n51 + 1) A4, .slice aP aO aQ]) 1 hO rfl rfl rfl rfl
   obtain ⟨Ov, i6, DL⟩ := hobt
   dsimp only [sS, sZ] at i6
   refine zg (DL Try.underlying26 rfl ti26 (by exact rfl) (by exact rfl)) ?_
   replace hO := i6.own
   refine zn (zq ?_)
   refine Go1.cut [(13, .int .i64 (d_16.length : Int))] ⟨rfl, trivial⟩ ?_
   intro σ _
   refine zr (zm rfl (za rfl (zn ?_)))
   refine Go1.ret1V Try.func65 rfl (show _ = .int .i64 (d_16.length : Int) from rfl) ?_
   refine hR239 _ _ ?_
   refine za rfl (zn ?_)
   refine Go1.inBlock ?_
   refine zr (zm rfl (zm rfl (zm rfl ?_)))
   obtain ⟨A5, H⟩ := H
   obtain ⟨A6, H⟩ := H
   have Z22 := (((((((((Z19.trans kF.ch).trans j6.ch).trans kG.ch).trans nw).trans j7.ch).trans jE.ch).trans gH.ch).trans nf).trans fu.ch).trans i6.ch
   replace a8 := a8.ch Z22
   refine zo (op_index Try.underlying26 ti3 rfl rfl A5 (ltn (a8.neq hO 0 rfl) A6) (a8.psome hO 0 rfl A5 A6)) ?_
   have hobt := ost (r := Rp.int .i64) rfl 0 hO rfl a8 A5 A6 (v := .int .i64 (d_16.length : Int)) (u := (d_16.length : Int)) rfl rfl
   obtain ⟨Ow, G5, jF, BD, DM⟩ := hobt
   dsimp only [sS, sZ] at jF BD
   refine zg (DM Try.underlying3 rfl ti3 (by exact rfl) (by exact rfl)) ?_
   replace hO := jF.own
   refine zn ?_
   refine Go1.inBlock ?_
   refine zr ?_
   replace aa := (aa.ch Z22).ch jF.ch
   refine zo (op_add rfl rfl (wrap_i64 (natbd h53 aa.bd))) (zm rfl (zn ?_))
   replace ws := (ws.ch i6.ch).ch jF.ch
   replace hB := ((hB.trans fu.fr).trans i6.fr).trans jF.fr
   have Z23 := ((((jE.ch.trans gH.ch).trans nf).trans fu.ch).trans i6.ch).trans jF.ch
   replace qD := qD.ch Z23
   have Z24 := ((((((((j6.ch.trans kG.ch).trans nw).trans j7.ch).trans jE.ch).trans gH.ch).trans nf).trans fu.ch).trans i6.ch).trans jF.ch
   replace kw := kw.ch Z24
   have Z25 := ((((((((((((kE.ch.trans lm.ch).trans n7).trans kF.ch).trans j6.ch).trans kG.ch).trans nw).trans j7.ch).trans jE.ch).trans gH.ch).trans nf).trans fu.ch).trans i6.ch).trans jF.ch
   replace g9 := g9.ch Z25
   have Z26 := ((((((((((((((((lk.ch.trans mh.ch).trans pg).trans ll.ch).trans kE.ch).trans lm.ch).trans n7).trans kF.ch).trans j6.ch).trans kG.ch).trans nw).trans j7.ch).trans jE.ch).trans gH.ch).trans nf).trans fu.ch).trans i6.ch).trans jF.ch
   replace eY := eY.ch Z26
   have Z27 := ((Z21.trans fu.ch).trans i6.ch).trans jF.ch
   replace ac := ac.ch Z27
   have Z28 := Z22.trans jF.ch
   replace ab := ab.ch Z28
   replace bm := bm.ch Z28
   exact hX1 _ H _ _ ⟨G5, n21 + 1, wW, wX, GO, n27 + 1, xG, xH, GR, n33 + 1, ym, yn, GW, n39, p37, c38, mQ, n45 + 1, zC, zD, G0, n51 + 1, AY, A4, G4, ⟨rfl, rfl, rfl, rfl, rfl, rfl, trivial⟩, hO, BD, aa, eY, g9, kw, ab, bm, qD, ws, ac, hB⟩
  replace H := ifn zB H
  refine zo (fun w => opB (op_eql rfl rfl w) (decide_eq_false zB)) (zn (zf rfl rfl (zk (zq (zr ?_)))))
  refine zm rfl (zo (op_nilCheck rfl) (zo (op_fieldAddr Try.underlying72 rfl ti29 rfl (by decide)) (zo (op_fieldAddr Try.underlying29 rfl ti22 rfl (by decide)) (zs (oblk (i := 6) 1 hO rfl rfl Try.underlying22 rfl rfl) (zm rfl ?_)))))
  obtain ⟨A7, H⟩ := H
  obtain ⟨A8, H⟩ := H
  replace ab := ab.ch Z15
  refine zo (op_index Try.underlying22 ti26 rfl rfl A7 (ltn (ab.neq hO 6 rfl) A8) (ab.psome hO 6 rfl A7 A8)) ?_
  have hobt := oldSl 6 hO rfl ab A7 A8
  obtain ⟨fy, fA, d4, G6⟩ := hobt
  refine zs (G6 Try.underlying26 rfl rfl) (zm rfl ?_)
  obtain ⟨A9, H⟩ := H
  obtain ⟨Ba, H⟩ := H
  refine zo (op_index Try.underlying26 ti3 rfl rfl A9 Ba (d4.some_ A9 Ba)) (zs (ldInt d4 A9 Ba Try.underlying3 rfl rfl) (za rfl (zn ?_)))
  refine Go1.ret1V Try.func66 rfl (show _ = .int .i64 (ix (ix a0.Enum.Right (ix d_46 a0.Enum.Done)) (k1_12 : Int)) from rfl) ?_
  refine hR235 _ _ ?_
  refine GoR.inl (vs := [.pointer (some ⟨dU, 0, none⟩), .slice rc r66.length rf, .int .i64 a0.Enum.Done, .int .i64 (k1_12 : Int), .string (gstr ((ix d_40 a0.Enum.Done) ++ (chr (IntKind.i32.wrap ((97 : Int) + (k1_12 : Int)))))), .int .i64 (ix (ix a0.Enum.Right (ix d_46 a0.Enum.Done)) (k1_12 : Int))]) (caps := []) rfl rfl body65 Try.func65 rfl Try.ntmps65 rfl rfl rfl ?_
  intro RhR377 hR377
  refine zq ?_
  refine Go1.cut [(0, .pointer (some ⟨dU, 0, none⟩)), (1, .slice rc r66.length rf), (2, .int .i64 a0.Enum.Done), (3, .int .i64 (k1_12 : Int)), (4, .string (gstr ((ix d_40 a0.Enum.Done) ++ (chr (IntKind.i32.wrap ((97 : Int) + (k1_12 : Int))))))), (5, .int .i64 (ix (ix a0.Enum.Right (ix d_46 a0.Enum.Done)) (k1_12 : Int)))] ⟨rfl, rfl, rfl, rfl, rfl, rfl, trivial⟩ ?_
  intro σ _
  refine zr (za rfl (zn (zq (zr (zm rfl ?_)))))
  refine zo (op_nilCheck rfl) (zo (op_fieldAddr Try.underlying72 rfl ti29 rfl (by decide)) (zo (op_fieldAddr Try.underlying29 rfl ti22 rfl (by decide)) (zs (oblk (i := 3) 1 hO rfl rfl Try.underlying22 rfl rfl) (zo (op_lenN Try.underlying22 rfl (cQ.neq hO 3 rfl)) (za rfl ?_)))))
  refine zn (zq ?_)
  refine Go1.drawS 1 [(0, .pure), (1, .pure), (2, .pure), (3, .stable), (4, .pure), (6, .pure), (5, .loud), (7, .last)] mixed (by kernel_rfl) ?_
  intro Ox G7
  have mj := Stp.same hO G7
  replace hO := mj.own
  refine GoQ.pure rfl (op_move rfl) rfl rfl ?_
  refine GoQ.pure rfl (op_nilCheck rfl) rfl rfl ?_
  refine GoQ.pure rfl (op_fieldAddr Try.underlying72 rfl ti69 rfl (by decide)) rfl rfl ?_
  refine GoQ.stable rfl (oblk (i := 9) 1 hO rfl rfl Try.underlying69 rfl rfl) rfl rfl ?_
  refine GoQ.pure rfl (op_move rfl) rfl rfl ?_
  refine GoQ.pure rfl (op_move rfl) rfl rfl ?_
  replace aR := (aR.ch g8.ch).ch mj.ch
  refine GoQ.call rfl (op_call body61 rfl (walk_enumerate_text hO.lt aR H)) (fun v w hr => by obtain ⟨_, _, hs, _, _⟩ := hr; assumption) rfl rfl ?_
  rintro Oy Oz ⟨r381, rfl, G8, Lz, H⟩
  have fE := Stp.same hO G8
  replace hO := fE.own
  have hobt := omapUpd (MK.str Try.underlying9) 11 hO rfl Try.underlying69 r381 (d_16.length : Int)
  obtain ⟨OA, fq, DN⟩ := hobt
  dsimp only [sS, sZ] at fq
  refine GoQ.last rfl (DN (by exact rfl) (by exact rfl) (by exact rfl)) rfl rfl ?_
  replace hO := fq.own
  refine GoQ.nil ?_
  refine zq (zr (zm rfl (zm rfl (zo (op_nilCheck rfl) (zo (op_fieldAddr Try.underlying72 rfl ti29 rfl (by decide)) ?_)))))
  refine zo (op_fieldAddr Try.underlying29 rfl ti22 rfl (by decide)) (zs (oblk (i := 3) 1 hO rfl rfl Try.underlying22 rfl rfl) (zm rfl ?_))
  replace aR := (aR.ch fE.ch).ch fq.ch
  have hobt := obuild (r := Rp.sl (Rp.int .i64)) (n := 1) (parts := [(0, .slice rc r66.length rf)]) (vs := [.slice rc r66.length rf]) (xs := [r66]) rfl Try.underlying22 ti26 hO (by decide) (by kernel_rfl) (Els.cons rfl ⟨rc, rf, rfl, aR⟩ (Els.nil _ _ _) (by simp [mx])) rfl
  obtain ⟨OB, OC, fF, G9, Ma, DO⟩ := hobt
  refine zg (DO rfl) ?_
  replace hO := fF.own
  have hobt := freeze 0 hO rfl G9
  obtain ⟨hO1, ph, bo, Ha⟩ := hobt
  dsimp only [eS, eZ] at hO1 ph bo
  replace hB := (((((((hB.trans lN.fr).trans fm.fr).trans g8.fr).trans mj.fr).trans fE.fr).trans fq.fr).trans fF.fr).trans (Owns.dropFr _ _ 0)
  dsimp only [eS, eZ] at hB
  replace hO := hO1; clear hO1
  obtain ⟨Ku, H⟩ := H
  have Z29 := (((mj.ch.trans fE.ch).trans fq.ch).trans fF.ch).trans ph
  replace cQ := cQ.ch Z29
  have hobt := oapp Try.underlying22 ti26 rfl 3 hO rfl cQ bo Ha Ku (by decide)
  obtain ⟨OD, w4, xa, Hb, lp, e8, DP⟩ := hobt
  dsimp only [sS, sZ] at lp e8
  refine zg (DP (by exact rfl) (by exact rfl)) ?_
  replace hO := lp.own
  refine zo (op_nilCheck rfl) (zo (op_fieldAddr Try.underlying72 rfl ti29 rfl (by decide)) (zo (op_fieldAddr Try.underlying29 rfl ti22 rfl (by decide)) ?_))
  have hobt := oblkSt2 (v := .slice w4 (n21 + 1) xa) (i := 3) (cs' := #[.int .i64 a0.Enum.Points, .bool a0.Enum.Monoid, .slice ah ag ai, .slice w4 (n21 + 1) xa, .slice p25 n27 c26, .slice p31 n33 c32, .slice ap aj aq, .slice p37 n39 c38, .int .i64 a0.Enum.Done, .map (some ar), .slice p43 n45 c44, .slice p49 n51 c50, .slice aP aO aQ]) 1 hO rfl rfl rfl rfl
  obtain ⟨Kv, kI, DQ⟩ := hobt
  dsimp only [sS, sZ] at kI
  refine zg (DQ Try.underlying22 rfl ti22 (by exact rfl) (by exact rfl)) ?_
  replace hO := kI.own
  refine zn (zq ?_)
  refine Go1.cut [(0, .pointer (some ⟨dU, 0, none⟩)), (2, .int .i64 a0.Enum.Done), (3, .int .i64 (k1_12 : Int)), (4, .string (gstr ((ix d_40 a0.Enum.Done) ++ (chr (IntKind.i32.wrap ((97 : Int) + (k1_12 : Int))))))), (5, .int .i64 (ix (ix a0.Enum.Right (ix d_46 a0.Enum.Done)) (k1_12 : Int))), (13, .int .i64 (d_16.length : Int))] ⟨rfl, rfl, rfl, rfl, rfl, rfl, trivial⟩ ?_
  intro σ _
  refine zr (zm rfl (zm rfl (zo (op_nilCheck rfl) (zo (op_fieldAddr Try.underlying72 rfl ti29 rfl (by decide)) (zo (op_fieldAddr Try.underlying29 rfl ti26 rfl (by decide)) ?_)))))
  refine zs (oblk (i := 4) 1 hO rfl rfl Try.underlying26 rfl rfl) (zm rfl ?_)
  have hobt := obuild (r := Rp.int .i64) (n := 1) (parts := [(0, .int .i64 a0.Enum.Done)]) (vs := [.int .i64 a0.Enum.Done]) (xs := [a0.Enum.Done]) rfl Try.underlying26 ti3 hO (by decide) (by kernel_rfl) (Els.cons rfl rfl (Els.nil _ _ _) (by simp [mx])) rfl
  obtain ⟨OE, OF, iE, Hc, Mb, DR⟩ := hobt
  refine zg (DR rfl) ?_
  replace hO := iE.own
  have hobt := freeze 0 hO rfl Hc
  obtain ⟨hO1, oa, gC, He⟩ := hobt
  dsimp only [eS, eZ] at hO1 oa gC
  replace hB := (((hB.trans lp.fr).trans kI.fr).trans iE.fr).trans (Owns.dropFr _ _ 0)
  dsimp only [eS, eZ] at hB
  replace hO := hO1; clear hO1
  obtain ⟨Kw, H⟩ := H
  have Z30 := ((((((((Z15.trans mj.ch).trans fE.ch).trans fq.ch).trans fF.ch).trans ph).trans lp.ch).trans kI.ch).trans iE.ch).trans oa
  replace b6 := b6.ch Z30
  have hobt := oapp Try.underlying26 ti3 rfl 4 hO rfl b6 gC He Kw (by decide)
  obtain ⟨OG, xI, xJ, Hf, g0, gz, DS⟩ := hobt
  dsimp only [sS, sZ] at g0 gz
  refine zg (DS (by exact rfl) (by exact rfl)) ?_
  replace hO := g0.own
  refine zo (op_nilCheck rfl) (zo (op_fieldAddr Try.underlying72 rfl ti29 rfl (by decide)) (zo (op_fieldAddr Try.underlying29 rfl ti26 rfl (by decide)) ?_))
  have hobt := oblkSt2 (v := .slice xI (n27 + 1) xJ) (i := 4) (cs' := #[.int .i64 a0.Enum.Points, .bool a0.Enum.Monoid, .slice ah ag ai, .slice w4 (n21 + 1) xa, .slice xI (n27 + 1) xJ, .slice p31 n33 c32, .slice ap aj aq, .slice p37 n39 c38, .int .i64 a0.Enum.Done, .map (some ar), .slice p43 n45 c44, .slice p49 n51 c50, .slice aP aO aQ]) 1 hO rfl rfl rfl rfl
  obtain ⟨OH, j8, DT⟩ := hobt
  dsimp only [sS, sZ] at j8
  refine zg (DT Try.underlying26 rfl ti26 (by exact rfl) (by exact rfl)) ?_
  replace hO := j8.own
  refine zn (zq (zr (zm rfl (zm rfl (zo (op_nilCheck rfl) ?_)))))
  refine zo (op_fieldAddr Try.underlying72 rfl ti29 rfl (by decide)) (zo (op_fieldAddr Try.underlying29 rfl ti26 rfl (by decide)) (zs (oblk (i := 5) 1 hO rfl rfl Try.underlying26 rfl rfl) (zm rfl ?_)))
  have hobt := obuild (r := Rp.int .i64) (n := 1) (parts := [(0, .int .i64 (k1_12 : Int))]) (vs := [.int .i64 (k1_12 : Int)]) (xs := [(k1_12 : Int)]) rfl Try.underlying26 ti3 hO (by decide) (by kernel_rfl) (Els.cons rfl rfl (Els.nil _ _ _) (by simp [mx])) rfl
  obtain ⟨Kx, OI, kK, Hg, Mc, DU⟩ := hobt
  refine zg (DU rfl) ?_
  replace hO := kK.own
  have hobt := freeze 0 hO rfl Hg
  obtain ⟨hO1, ny, jJ, Hh⟩ := hobt
  dsimp only [eS, eZ] at hO1 ny jJ
  replace hB := (((hB.trans g0.fr).trans j8.fr).trans kK.fr).trans (Owns.dropFr _ _ 0)
  dsimp only [eS, eZ] at hB
  replace hO := hO1; clear hO1
  obtain ⟨Ky, H⟩ := H
  have Z31 := (((Z30.trans g0.ch).trans j8.ch).trans kK.ch).trans ny
  replace bO := bO.ch Z31
  have hobt := oapp Try.underlying26 ti3 rfl 5 hO rfl bO jJ Hh Ky (by decide)
  obtain ⟨OJ, yp, yq, Hi, j9, kx, DW⟩ := hobt
  dsimp only [sS, sZ] at j9 kx
  refine zg (DW (by exact rfl) (by exact rfl)) ?_
  replace hO := j9.own
  refine zo (op_nilCheck rfl) (zo (op_fieldAddr Try.underlying72 rfl ti29 rfl (by decide)) (zo (op_fieldAddr Try.underlying29 rfl ti26 rfl (by decide)) ?_))
  have hobt := oblkSt2 (v := .slice yp (n33 + 1) yq) (i := 5) (cs' := #[.int .i64 a0.Enum.Points, .bool a0.Enum.Monoid, .slice ah ag ai, .slice w4 (n21 + 1) xa, .slice xI (n27 + 1) xJ, .slice yp (n33 + 1) yq, .slice ap aj aq, .slice p37 n39 c38, .int .i64 a0.Enum.Done, .map (some ar), .slice p43 n45 c44, .slice p49 n51 c50, .slice aP aO aQ]) 1 hO rfl rfl rfl rfl
  obtain ⟨OK, fv, DX⟩ := hobt
  dsimp only [sS, sZ] at fv
  refine zg (DX Try.underlying26 rfl ti26 (by exact rfl) (by exact rfl)) ?_
  replace hO := fv.own
  refine zn (zq ?_)
  refine Go1.cut [(0, .pointer (some ⟨dU, 0, none⟩)), (4, .string (gstr ((ix d_40 a0.Enum.Done) ++ (chr (IntKind.i32.wrap ((97 : Int) + (k1_12 : Int))))))), (5, .int .i64 (ix (ix a0.Enum.Right (ix d_46 a0.Enum.Done)) (k1_12 : Int))), (13, .int .i64 (d_16.length : Int))] ⟨rfl, rfl, rfl, rfl, trivial⟩ ?_
  intro σ _
  refine zr (zm rfl (zm rfl (zo (op_nilCheck rfl) (zo (op_fieldAddr Try.underlying72 rfl ti70 rfl (by decide)) (zs (oblk (i := 10) 1 hO rfl rfl Try.underlying70 rfl rfl) ?_)))))
  refine zm rfl ?_
  have hobt := obuild (r := Rp.str) (n := 1) (parts := [(0, .string (gstr ((ix d_40 a0.Enum.Done) ++ (chr (IntKind.i32.wrap ((97 : Int) + (k1_12 : Int)))))))]) (vs := [.string (gstr ((ix d_40 a0.Enum.Done) ++ (chr (IntKind.i32.wrap ((97 : Int) + (k1_12 : Int))))))]) (xs := [(ix d_40 a0.Enum.Done) ++ (chr (IntKind.i32.wrap ((97 : Int) + (k1_12 : Int))))]) rfl Try.underlying70 ti9 hO (by decide) (by kernel_rfl) (Els.cons rfl ⟨rfl, (lenApp AT)⟩ (Els.nil _ _ _) (by simp [mx])) rfl
  obtain ⟨OL, OM, ka, Hj, Me, yi⟩ := hobt
  refine zg (yi rfl) ?_
  replace hO := ka.own
  have hobt := freeze 0 hO rfl Hj
  obtain ⟨hO1, ng, ob, Hk⟩ := hobt
  dsimp only [eS, eZ] at hO1 ng ob
  replace hB := (((hB.trans j9.fr).trans fv.fr).trans ka.fr).trans (Owns.dropFr _ _ 0)
  dsimp only [eS, eZ] at hB
  replace hO := hO1; clear hO1
  obtain ⟨Kz, H⟩ := H
  have Z32 := (((((((((((Z29.trans lp.ch).trans kI.ch).trans iE.ch).trans oa).trans g0.ch).trans j8.ch).trans kK.ch).trans ny).trans j9.ch).trans fv.ch).trans ka.ch).trans ng
  replace bj := bj.ch Z32
  have hobt := oapp Try.underlying70 ti9 rfl 8 hO rfl bj ob Hk Kz (by decide)
  obtain ⟨Bb, zE, zF, Hl, jG, qE, DY⟩ := hobt
  dsimp only [sS, sZ] at jG qE
  refine zg (DY (by exact rfl) (by exact rfl)) ?_
  replace hO := jG.own
  refine zo (op_nilCheck rfl) (zo (op_fieldAddr Try.underlying72 rfl ti70 rfl (by decide)) ?_)
  have hobt := oblkSt2 (v := .slice zE (n45 + 1) zF) (i := 10) (cs' := #[.int .i64 a0.Enum.Points, .bool a0.Enum.Monoid, .slice ah ag ai, .slice w4 (n21 + 1) xa, .slice xI (n27 + 1) xJ, .slice yp (n33 + 1) yq, .slice ap aj aq, .slice p37 n39 c38, .int .i64 a0.Enum.Done, .map (some ar), .slice zE (n45 + 1) zF, .slice p49 n51 c50, .slice aP aO aQ]) 1 hO rfl rfl rfl rfl
  obtain ⟨ON, i7, D0⟩ := hobt
  dsimp only [sS, sZ] at i7
  refine zg (D0 Try.underlying70 rfl ti70 (by exact rfl) (by exact rfl)) ?_
  replace hO := i7.own
  refine zn (zq (zr (zm rfl (zm rfl (zo (op_nilCheck rfl) ?_)))))
  refine zo (op_fieldAddr Try.underlying72 rfl ti26 rfl (by decide)) (zs (oblk (i := 11) 1 hO rfl rfl Try.underlying26 rfl rfl) (zm rfl ?_))
  have hobt := obuild (r := Rp.int .i64) (n := 1) (parts := [(0, .int .i64 (ix (ix a0.Enum.Right (ix d_46 a0.Enum.Done)) (k1_12 : Int)))]) (vs := [.int .i64 (ix (ix a0.Enum.Right (ix d_46 a0.Enum.Done)) (k1_12 : Int))]) (xs := [(ix (ix a0.Enum.Right (ix d_46 a0.Enum.Done)) (k1_12 : Int))]) rfl Try.underlying26 ti3 hO (by decide) (by kernel_rfl) (Els.cons rfl rfl (Els.nil _ _ _) (by simp [mx])) rfl
  obtain ⟨KA, OO, jH, Hm, Mf, D1⟩ := hobt
  refine zg (D1 rfl) ?_
  replace hO := jH.own
  have hobt := freeze 0 hO rfl Hm
  obtain ⟨hO1, my, uv, Hn⟩ := hobt
  dsimp only [eS, eZ] at hO1 my uv
  replace hB := (((hB.trans jG.fr).trans i7.fr).trans jH.fr).trans (Owns.dropFr _ _ 0)
  dsimp only [eS, eZ] at hB
  replace hO := hO1; clear hO1
  obtain ⟨KB, H⟩ := H
  have Z33 := (((Z32.trans jG.ch).trans i7.ch).trans jH.ch).trans my
  replace bi := bi.ch Z33
  have hobt := oapp Try.underlying26 ti3 rfl 9 hO rfl bi uv Hn KB (by decide)
  obtain ⟨OP, Bc, Bd, Ho, eP, um, D2⟩ := hobt
  dsimp only [sS, sZ] at eP um
  refine zg (D2 (by exact rfl) (by exact rfl)) ?_
  replace hO := eP.own
  refine zo (op_nilCheck rfl) (zo (op_fieldAddr Try.underlying72 rfl ti26 rfl (by decide)) ?_)
  have hobt := oblkSt2 (v := .slice Bc (n51 + 1) Bd) (i := 11) (cs' := #[.int .i64 a0.Enum.Points, .bool a0.Enum.Monoid, .slice ah ag ai, .slice w4 (n21 + 1) xa, .slice xI (n27 + 1) xJ, .slice yp (n33 + 1) yq, .slice ap aj aq, .slice p37 n39 c38, .int .i64 a0.Enum.Done, .map (some ar), .slice zE (n45 + 1) zF, .slice Bc (n51 + 1) Bd, .slice aP aO aQ]) 1 hO rfl rfl rfl rfl
  obtain ⟨OQ, iU, D3⟩ := hobt
  dsimp only [sS, sZ] at iU
  refine zg (D3 Try.underlying26 rfl ti26 (by exact rfl) (by exact rfl)) ?_
  replace hO := iU.own
  refine zn (zq ?_)
  refine Go1.cut [(13, .int .i64 (d_16.length : Int))] ⟨rfl, trivial⟩ ?_
  intro σ _
  refine zr (zm rfl (za rfl (zn ?_)))
  refine Go1.ret1V Try.func65 rfl (show _ = .int .i64 (d_16.length : Int) from rfl) ?_
  refine hR377 _ _ ?_
  refine za rfl (zn ?_)
  refine Go1.inBlock ?_
  refine zr (zm rfl (zm rfl (zm rfl ?_)))
  obtain ⟨Be, H⟩ := H
  obtain ⟨Bf, H⟩ := H
  have Z34 := (((((((((Z31.trans j9.ch).trans fv.ch).trans ka.ch).trans ng).trans jG.ch).trans i7.ch).trans jH.ch).trans my).trans eP.ch).trans iU.ch
  replace a8 := a8.ch Z34
  refine zo (op_index Try.underlying26 ti3 rfl rfl Be (ltn (a8.neq hO 0 rfl) Bf) (a8.psome hO 0 rfl Be Bf)) ?_
  have hobt := ost (r := Rp.int .i64) rfl 0 hO rfl a8 Be Bf (v := .int .i64 (d_16.length : Int)) (u := (d_16.length : Int)) rfl rfl
  obtain ⟨OR, Hp, i8, BE, D4⟩ := hobt
  dsimp only [sS, sZ] at i8 BE
  refine zg (D4 Try.underlying3 rfl ti3 (by exact rfl) (by exact rfl)) ?_
  replace hO := i8.own
  refine zn ?_
  refine Go1.inBlock ?_
  refine zr ?_
  replace aa := (aa.ch Z34).ch i8.ch
  refine zo (op_add rfl rfl (wrap_i64 (natbd h53 aa.bd))) (zm rfl (zn ?_))
  replace um := (um.ch iU.ch).ch i8.ch
  replace hB := ((hB.trans eP.fr).trans iU.fr).trans i8.fr
  have Z35 := ((((i7.ch.trans jH.ch).trans my).trans eP.ch).trans iU.ch).trans i8.ch
  replace qE := qE.ch Z35
  have Z36 := ((((((((fv.ch.trans ka.ch).trans ng).trans jG.ch).trans i7.ch).trans jH.ch).trans my).trans eP.ch).trans iU.ch).trans i8.ch
  replace kx := kx.ch Z36
  have Z37 := ((((((((((((j8.ch.trans kK.ch).trans ny).trans j9.ch).trans fv.ch).trans ka.ch).trans ng).trans jG.ch).trans i7.ch).trans jH.ch).trans my).trans eP.ch).trans iU.ch).trans i8.ch
  replace gz := gz.ch Z37
  have Z38 := ((((((((((((((((kI.ch.trans iE.ch).trans oa).trans g0.ch).trans j8.ch).trans kK.ch).trans ny).trans j9.ch).trans fv.ch).trans ka.ch).trans ng).trans jG.ch).trans i7.ch).trans jH.ch).trans my).trans eP.ch).trans iU.ch).trans i8.ch
  replace e8 := e8.ch Z38
  have Z39 := ((Z33.trans eP.ch).trans iU.ch).trans i8.ch
  replace ab := ab.ch Z39
  have Z40 := Z34.trans i8.ch
  replace bm := bm.ch Z40
  replace ac := ac.ch Z40
  exact hX1 _ H _ _ ⟨Hp, n21 + 1, w4, xa, Hb, n27 + 1, xI, xJ, Hf, n33 + 1, yp, yq, Hi, n39, p37, c38, mQ, n45 + 1, zE, zF, Hl, n51 + 1, Bc, Bd, Ho, ⟨rfl, rfl, rfl, rfl, rfl, rfl, trivial⟩, hO, BE, aa, e8, gz, kx, ab, bm, qE, um, ac, hB⟩
 replace H := ifn h53 H
 refine zo (fun w => opB (op_lss rfl rfl w) (decide_eq_false h53)) (zn (zq (zf rfl rfl ?_)))
 refine Go1.exit rfl ?_
 refine zq (zr (zm rfl (zm rfl (zo (op_nilCheck rfl) (zo (op_fieldAddr Try.underlying72 rfl ti29 rfl (by decide)) ?_)))))
 refine zo (op_fieldAddr Try.underlying29 rfl ti22 rfl (by decide)) (zs (oblk (i := 6) 1 hO rfl rfl Try.underlying22 rfl rfl) (zm rfl ?_))
 have hobt := freeze 0 hO rfl a8
 obtain ⟨hO1, tc, rT, Hq⟩ := hobt
 dsimp only [eS, eZ] at hO1 tc rT
 replace hB := hB.trans (Owns.dropFr _ _ 0)
 dsimp only [eS, eZ] at hB
 replace hO := hO1; clear hO1
 have hobt := obuild (r := Rp.sl (Rp.int .i64)) (n := 1) (parts := [(0, .slice p2 a0.Enum.Gens.length a0.Enum.Gens.length)]) (vs := [.slice p2 a0.Enum.Gens.length a0.Enum.Gens.length]) (xs := [d_13]) rfl Try.underlying22 ti26 hO (by decide) (by kernel_rfl) (Els.cons rfl ⟨p2, a0.Enum.Gens.length, congrArg some (congrArg (fun nn => Value.slice p2 nn a0.Enum.Gens.length) Hq), rT⟩ (Els.nil _ _ _) (by simp [mx])) rfl
 obtain ⟨OS, OT, qf, Hr, Mg, yj⟩ := hobt
 refine zg (yj rfl) ?_
 replace hO := qf.own
 have hobt := freeze 0 hO rfl Hr
 obtain ⟨hO1, sy, uw, Hs⟩ := hobt
 dsimp only [eS, eZ] at hO1 sy uw
 replace hB := (hB.trans qf.fr).trans (Owns.dropFr _ _ 0)
 dsimp only [eS, eZ] at hB
 replace hO := hO1; clear hO1
 obtain ⟨KC, H⟩ := H
 have Z41 := (tc.trans qf.ch).trans sy
 replace ab := ab.ch Z41
 have hobt := oapp Try.underlying22 ti26 rfl 5 hO rfl ab uw Hs KC (by decide)
 obtain ⟨Bg, zG, zH, Ht, oB, wt, D5⟩ := hobt
 dsimp only [sS, sZ] at oB wt
 refine zg (D5 (by exact rfl) (by exact rfl)) ?_
 replace hO := oB.own
 refine zo (op_nilCheck rfl) (zo (op_fieldAddr Try.underlying72 rfl ti29 rfl (by decide)) (zo (op_fieldAddr Try.underlying29 rfl ti22 rfl (by decide)) ?_))
 have hobt := oblkSt2 (v := .slice zG (aj + 1) zH) (i := 6) (cs' := #[.int .i64 a0.Enum.Points, .bool a0.Enum.Monoid, .slice ah ag ai, .slice p19 n21 c20, .slice p25 n27 c26, .slice p31 n33 c32, .slice zG (aj + 1) zH, .slice p37 n39 c38, .int .i64 a0.Enum.Done, .map (some ar), .slice p43 n45 c44, .slice p49 n51 c50, .slice aP aO aQ]) 0 hO rfl rfl rfl rfl
 obtain ⟨OU, nz, D6⟩ := hobt
 dsimp only [sS, sZ] at nz
 refine zg (D6 Try.underlying22 rfl ti22 (by exact rfl) (by exact rfl)) ?_
 replace hO := nz.own
 refine zn (zq ?_)
 refine Go1.cut [(0, .pointer (some ⟨dU, 0, none⟩))] ⟨rfl, trivial⟩ ?_
 intro σ _
 refine zr (zm rfl (zo (op_nilCheck rfl) (zo (op_fieldAddr Try.underlying72 rfl ti29 rfl (by decide)) (zo (op_fieldAddr Try.underlying29 rfl ti3 rfl (by decide)) (zs (oblk (i := 8) 0 hO rfl rfl Try.underlying3 rfl rfl) ?_)))))
 obtain ⟨KD, H⟩ := H
 refine zo (op_add rfl rfl (wrap_i64 KD)) (zo (op_nilCheck rfl) (zo (op_fieldAddr Try.underlying72 rfl ti29 rfl (by decide)) (zo (op_fieldAddr Try.underlying29 rfl ti3 rfl (by decide)) ?_)))
 have hobt := oblkSt2 (v := .int .i64 (a0.Enum.Done + (1 : Int))) (i := 8) (cs' := #[.int .i64 a0.Enum.Points, .bool a0.Enum.Monoid, .slice ah ag ai, .slice p19 n21 c20, .slice p25 n27 c26, .slice p31 n33 c32, .slice zG (aj + 1) zH, .slice p37 n39 c38, .int .i64 (a0.Enum.Done + (1 : Int)), .map (some ar), .slice p43 n45 c44, .slice p49 n51 c50, .slice aP aO aQ]) 0 hO rfl rfl rfl rfl
 obtain ⟨OV, ft, D7⟩ := hobt
 dsimp only [sS, sZ] at ft
 refine zg (D7 Try.underlying3 rfl ti3 (by exact rfl) (by exact rfl)) ?_
 replace hO := ft.own
 refine zn (zq (zr (za rfl (zn ?_))))
 refine Go1.ret1 Try.func51 rfl ?_
 replace wt := (wt.ch nz.ch).ch ft.ch
 replace hB := ((hB.trans oB.fr).trans nz.fr).trans ft.fr
 have Z42 := ((Z41.trans oB.ch).trans nz.ch).trans ft.ch
 replace aa := aa.ch Z42
 replace cQ := cQ.ch Z42
 replace b6 := b6.ch Z42
 replace bO := bO.ch Z42
 replace bm := bm.ch Z42
 replace bj := bj.ch Z42
 replace bi := bi.ch Z42
 replace ac := ac.ch Z42
 exact ⟨((0 : Int)), (⟨(⟨a0.Enum.Points, a0.Enum.Monoid, a0.Enum.Gens, d_16, d_22, d_28, a0.Enum.Right ++ ([d_13]), d_34, (a0.Enum.Done + (1 : Int))⟩ : Enum), m1_52, d_40, d_46, a0.single⟩ : run), ag, ah, ai, ca, n21, p19, c20, lU, n27, p25, c26, mO, n33, p31, c32, mP, (aj + 1), zG, zH, Ht, n39, p37, c38, mQ, n45, p43, c44, mS, n51, p49, c50, mT, aO, aP, aQ, cW, rfl, hO, aa, cQ, b6, bO, wt, bm, bj, bi, ac, hB, H⟩
theorem body50 : Body Try.prog 50 := ⟨Try.f50, Try.func50, rfl, by kernel_rfl⟩
theorem body17 : Body Try.prog 17 := ⟨Try.f17, Try.func17, rfl, by kernel_rfl⟩
theorem walk_enumerate_Build {A : List Nat} {w0 : World} {iQ : Option Addr} {iR : Nat} {gens : List (List Int)} {monoid : Bool} (hA : ∀ b ∈ A, b < w0.heap.size) (b5 : ISl (Rp.sl (Rp.int .i64)) A w0 iQ iR gens) {K : Enum → Int → Prop} (H : enumerate_Build gens monoid K) :
    CallsV Try.prog 17 #[.slice iQ gens.length iR, .bool monoid] w0 (fun v w' => ∃ (r0 : Enum), ∃ (r1 : Int), ∃ (oN : Option Addr), ∃ (oO : Nat), ∃ (nA : Option Addr), ∃ (nB : Nat), ∃ (mC : Option Addr), ∃ (mD : Nat), ∃ (oP : Option Addr), ∃ (oQ : Nat), ∃ (nC : Option Addr), ∃ (nD : Nat), ∃ (nE : Option Addr), ∃ (nF : Nat), v = .tuple #[.agg #[.int .i64 r0.Points, .bool r0.Monoid, .slice oN r0.Gens.length oO, .slice nA r0.Elems.length nB, .slice mC r0.Prefix.length mD, .slice oP r0.Last.length oQ, .slice nC r0.Right.length nD, .slice nE r0.Rules.length nF, .int .i64 r0.Done], .int .i64 r1] ∧ Same w0 w' ∧ ISl (Rp.sl (Rp.int .i64)) A w' oN oO r0.Gens ∧ ISl (Rp.sl (Rp.int .i64)) A w' nA nB r0.Elems ∧ ISl (Rp.int .i64) A w' mC mD r0.Prefix ∧ ISl (Rp.int .i64) A w' oP oQ r0.Last ∧ ISl (Rp.sl (Rp.int .i64)) A w' nC nD r0.Right ∧ ISl (rpRule) A w' nE nF r0.Rules ∧ K r0 r1) := by
 refine CallsV.of (l := [.slice iQ gens.length iR, .bool monoid]) Try.func17 rfl Try.ntmps17 rfl ?_
 have hO := Owns.start hA
 have hB := Fr.refl (bl []) w0
 unfold enumerate_Build at H
 refine zq (zr ?_)
 have hobt := oalloc (t := 29) (cs := #[.int .i64 (0 : Int), .bool false, .slice none 0 0, .slice none 0 0, .slice none 0 0, .slice none 0 0, .slice none 0 0, .slice none 0 0, .int .i64 (0 : Int)]) ti29 hO rfl
 obtain ⟨w1, B2, et, hs4, sQ⟩ := hobt
 refine GoR.op sQ rfl rfl ?_
 replace hO := et.own
 refine za rfl (zn (zq (zr (zm rfl (zm rfl ?_)))))
 replace b5 := (b5.ch (Ch.start A w0)).ch et.ch
 refine GoR.call (op_call body49 rfl (walk_enumerate_begin hO.lt b5 H)) rfl rfl ?_
 intro v9 w10 hcase13
 refine Or.elim hcase13 ?_ ?_
 ·refine exE fun r8 => andE fun hv14 => andE fun rq => fun H => ?_
  subst hv14
  clear hcase13
  replace H := oElimN H
  have eI := Stp.same hO rq
  replace hO := eI.own
  refine zm rfl (zo (op_extract rfl rfl) (zo (op_extract rfl rfl) (za rfl (za rfl (zn ?_)))))
  refine zq (zq (zr (zm rfl ?_)))
  by_cases h16 : r8 = (0 : Int)
  ·replace H := ifp h16 H
   refine zo (fun w => opB (op_neq rfl rfl w) (ndT h16)) (zn (zf rfl rfl (zk (zq (zb ?_)))))
   replace hB := (hB.trans et.fr).trans eI.fr
   refine Go1.loopW (S := Unit) (fun s σ w => agrees σ [(4, .pointer (some ⟨B2, 0, none⟩)), (6, .pointer none)] ∧ Owns w0.heap.size w [.blk B2 (.cells #[.int .i64 (0 : Int), .bool false, .slice none 0 0, .slice none 0 0, .slice none 0 0, .slice none 0 0, .slice none 0 0, .slice none 0 0, .int .i64 (0 : Int)] 29 (0, 0))] A ∧ Fr (bl []) w0 (bl [.blk B2 (.cells #[.int .i64 (0 : Int), .bool false, .slice none 0 0, .slice none 0 0, .slice none 0 0, .slice none 0 0, .slice none 0 0, .slice none 0 0, .int .i64 (0 : Int)] 29 (0, 0))]) w) H ⟨⟨rfl, rfl, trivial⟩, hO, hB⟩ ?_
   intro X1 _
   intro H hX1 σ w17
   refine andE fun hag => andE fun hO => fun hB => ?_
   refine Go1.keep [(4, .pointer (some ⟨B2, 0, none⟩)), (6, .pointer none)] hag ?_
   refine zq (zq (zr (zm rfl ?_)))
   refine GoR.inl (vs := [.pointer none]) (caps := []) rfl rfl body50 Try.func50 rfl Try.ntmps50 rfl rfl rfl ?_
   intro RhR18 hR18
   refine zq (zr (za rfl (zn (zq ?_))))
   refine Go1.drawS 0 [(0, .pure), (1, .pure), (2, .pure), (3, .pure), (4, .stable), (5, .pure), (6, .pure), (7, .pure), (8, .pure), (9, .stable), (10, .pure), (11, .pure), (12, .pure)] mixed (by kernel_rfl) ?_
   intro w19 Bh
   have mz := Stp.same hO Bh
   replace hO := mz.own
   refine GoQ.pure rfl (op_move rfl) rfl rfl ?_
   exact H.elim
  replace H := ifn h16 H
  refine zo (fun w => opB (op_neq rfl rfl w) (ndF h16)) (zn (zt rfl rfl (zq (zr (zo (op_build Try.underlying29 ti29 (pl := [(0, 1), (1, 1), (2, 1), (3, 1), (4, 1), (5, 1), (6, 1), (7, 1), (8, 1)]) (vs := []) (cs := #[.int .i64 (0 : Int), .bool false, .slice none 0 0, .slice none 0 0, .slice none 0 0, .slice none 0 0, .slice none 0 0, .slice none 0 0, .int .i64 (0 : Int)]) (by kernel_rfl) rfl (by kernel_rfl)) ?_)))))
  refine zm rfl ?_
  have hobt := oblkStAgg (us := [.int .i64 (0 : Int), .bool false, .slice none 0 0, .slice none 0 0, .slice none 0 0, .slice none 0 0, .slice none 0 0, .slice none 0 0, .int .i64 (0 : Int)]) (o := 0) (cs' := #[.int .i64 (0 : Int), .bool false, .slice none 0 0, .slice none 0 0, .slice none 0 0, .slice none 0 0, .slice none 0 0, .slice none 0 0, .int .i64 (0 : Int)]) 0 hO rfl rfl (Nat.le_of_ble_eq_true rfl) rfl
  obtain ⟨w22, i9, Hu⟩ := hobt
  refine zg (Hu ti29 (by exact rfl) (by exact rfl) rfl) ?_
  replace hO := i9.own
  refine za rfl (zn ?_)
  refine Go1.retC2 Try.func17 rfl rfl (run_loadBlk (vs := [.int .i64 (0 : Int), .bool false, .slice none 0 0, .slice none 0 0, .slice none 0 0, .slice none 0 0, .slice none 0 0, .slice none 0 0, .int .i64 (0 : Int)]) 0 hO rfl rfl Try.underlying29 rfl ti29) ?_
  replace hB := ((hB.trans et.fr).trans eI.fr).trans i9.fr
  exact ⟨(⟨(0 : Int), false, ([] : List (List Int)), ([] : List (List Int)), ([] : List Int), ([] : List Int), ([] : List (List Int)), ([] : List Rule), (0 : Int)⟩ : Enum), r8, none, 0, none, 0, none, 0, none, 0, none, 0, none, 0, rfl, hB.same, (ISl.null _ _ _), (ISl.null _ _ _), (ISl.null _ _ _), (ISl.null _ _ _), (ISl.null _ _ _), (ISl.null _ _ _), H⟩
 ·refine exE fun r7 => exE fun r8 => exE fun dT => exE fun iN => exE fun gs => exE fun gt => exE fun nG => exE fun ib => exE fun fG => exE fun fH => exE fun m5 => exE fun gJ => exE fun fh => exE fun fk => exE fun ml => exE fun iO => exE fun gu => exE fun gv => exE fun nH => exE fun ic => exE fun fI => exE fun fJ => exE fun m6 => exE fun ie => exE fun fK => exE fun fL => exE fun m7 => exE fun af => exE fun sA => exE fun sB => exE fun sC => exE fun rE => exE fun rF => exE fun rG => exE fun rH => exE fun qT => exE fun rI => exE fun rJ => exE fun rK => exE fun qU => andE fun hv25 => andE fun rq => andE fun hN12 => andE fun cS => andE fun cg => andE fun bT => andE fun bY => andE fun bG => andE fun bw => andE fun ci => andE fun cj => andE fun ck => fun H => ?_
  subst hv25
  clear hcase13
  replace H := oElimS H
  have lO := Stp.more hO rq hN12
  dsimp only [List.cons_append, List.nil_append] at lO
  replace hO := lO.own
  replace cS := cS.ch (Ch.assoc _ _ _ _)
  dsimp only [List.cons_append, List.nil_append] at cS
  replace cg := cg.ch (Ch.assoc _ _ _ _)
  dsimp only [List.cons_append, List.nil_append] at cg
  replace bT := bT.ch (Ch.assoc _ _ _ _)
  dsimp only [List.cons_append, List.nil_append] at bT
  replace bY := bY.ch (Ch.assoc _ _ _ _)
  dsimp only [List.cons_append, List.nil_append] at bY
  replace bG := bG.ch (Ch.assoc _ _ _ _)
  dsimp only [List.cons_append, List.nil_append] at bG
  replace bw := bw.ch (Ch.assoc _ _ _ _)
  dsimp only [List.cons_append, List.nil_append] at bw
  replace ci := ci.ch (Ch.assoc _ _ _ _)
  dsimp only [List.cons_append, List.nil_append] at ci
  replace cj := cj.ch (Ch.assoc _ _ _ _)
  dsimp only [List.cons_append, List.nil_append] at cj
  replace ck := ck.ch (Ch.assoc _ _ _ _)
  dsimp only [List.cons_append, List.nil_append] at ck
  refine zm rfl (zo (op_extract rfl rfl) (zo (op_extract rfl rfl) (za rfl (za rfl (zn ?_)))))
  refine zq (zq (zr (zm rfl ?_)))
  by_cases h38 : r8 = (0 : Int)
  ·replace H := ifp h38 H
   refine zo (fun w => opB (op_neq rfl rfl w) (ndT h38)) (zn (zf rfl rfl (zk (zq (zb ?_)))))
   replace hB := (hB.trans et.fr).trans lO.fr
   refine Go1.loopW (S := Int × Bool × Int × List (List Int) × List (List Int) × List Int × List Int × List (List Int) × List Rule × List Str × List Int × List Int × (List (Str × Int))) (fun s σ w => match s with | (k2_40, b2_41, k2_42, d_43, d_49, d_55, d_61, d_67, d_73, d_79, d_85, d_91, m2_97) => ∃ (n48 : Nat), ∃ (p46 : Option Addr), ∃ (c47 : Nat), ∃ (qk : List Value), ∃ (n54 : Nat), ∃ (p52 : Option Addr), ∃ (c53 : Nat), ∃ (ql : List Value), ∃ (n60 : Nat), ∃ (p58 : Option Addr), ∃ (c59 : Nat), ∃ (qm : List Value), ∃ (n66 : Nat), ∃ (p64 : Option Addr), ∃ (c65 : Nat), ∃ (qn : List Value), ∃ (n72 : Nat), ∃ (p70 : Option Addr), ∃ (c71 : Nat), ∃ (qo : List Value), ∃ (n78 : Nat), ∃ (p76 : Option Addr), ∃ (c77 : Nat), ∃ (qp : List Value), ∃ (n84 : Nat), ∃ (p82 : Option Addr), ∃ (c83 : Nat), ∃ (od : List Value), ∃ (n90 : Nat), ∃ (p88 : Option Addr), ∃ (c89 : Nat), ∃ (qq : List Value), ∃ (n96 : Nat), ∃ (p94 : Option Addr), ∃ (c95 : Nat), ∃ (qr : List Value), agrees σ [(4, .pointer (some ⟨B2, 0, none⟩)), (6, .pointer (some ⟨dT, 0, none⟩))] ∧ (fun Z0 => Owns w0.heap.size w Z0 A ∧ Els (Rp.sl (Rp.int .i64)) (bl Z0 ++ A) w qk d_43 ∧ Els (Rp.sl (Rp.int .i64)) (bl Z0 ++ A) w ql d_49 ∧ Els (Rp.int .i64) (bl Z0 ++ A) w qm d_55 ∧ Els (Rp.int .i64) (bl Z0 ++ A) w qn d_61 ∧ Els (Rp.sl (Rp.int .i64)) (bl Z0 ++ A) w qo d_67 ∧ Els (rpRule) (bl Z0 ++ A) w qp d_73 ∧ Els (Rp.str) (bl Z0 ++ A) w od d_79 ∧ Els (Rp.int .i64) (bl Z0 ++ A) w qq d_85 ∧ Els (Rp.int .i64) (bl Z0 ++ A) w qr d_91 ∧ Fr (bl []) w0 (bl Z0) w) [.blk dT (.cells #[.int .i64 k2_40, .bool b2_41, .slice p46 n48 c47, .slice p52 n54 c53, .slice p58 n60 c59, .slice p64 n66 c65, .slice p70 n72 c71, .slice p76 n78 c77, .int .i64 k2_42, .map (some af), .slice p82 n84 c83, .slice p88 n90 c89, .slice p94 n96 c95] 72 (0, 0)), .row 26 1 p46 n48 c47 qk, .row 26 1 p52 n54 c53 ql, .row 3 1 p58 n60 c59 qm, .row 3 1 p64 n66 c65 qn, .row 26 1 p70 n72 c71 qo, .row 39 2 p76 n78 c77 qp, .row 9 1 p82 n84 c83 od, .row 3 1 p88 n90 c89 qq, .row 3 1 p94 n96 c95 qr, .any (mapE (fun a : List UInt8 => Value.string (gstr a)) (fun a : Int => Value.int .i64 a) af m2_97), .blk B2 (.cells #[.int .i64 (0 : Int), .bool false, .slice none 0 0, .slice none 0 0, .slice none 0 0, .slice none 0 0, .slice none 0 0, .slice none 0 0, .int .i64 (0 : Int)] 29 (0, 0))]) H ⟨iN, gs, gt, nG, ib, fG, fH, m5, gJ, fh, fk, ml, iO, gu, gv, nH, ic, fI, fJ, m6, ie, fK, fL, m7, sA, sB, sC, rE, rF, rG, rH, qT, rI, rJ, rK, qU, ⟨rfl, rfl, trivial⟩, hO, cS, cg, bT, bY, bG, bw, ci, cj, ck, hB⟩ ?_
   intro X2
   refine prE fun k2_40 => prE fun b2_41 => prE fun k2_42 => prE fun d_43 => prE fun d_49 => prE fun d_55 => prE fun d_61 => prE fun d_67 => prE fun d_73 => prE fun d_79 => prE fun d_85 => prE fun d_91 => fun m2_97 => ?_
   intro H hX2 σ w39
   refine exE fun n48 => exE fun p46 => exE fun c47 => exE fun qk => exE fun n54 => exE fun p52 => exE fun c53 => exE fun ql => exE fun n60 => exE fun p58 => exE fun c59 => exE fun qm => exE fun n66 => exE fun p64 => exE fun c65 => exE fun qn => exE fun n72 => exE fun p70 => exE fun c71 => exE fun qo => exE fun n78 => exE fun p76 => exE fun c77 => exE fun qp => exE fun n84 => exE fun p82 => exE fun c83 => exE fun od => exE fun n90 => exE fun p88 => exE fun c89 => exE fun qq => exE fun n96 => exE fun p94 => exE fun c95 => exE fun qr => andE fun hag => andE fun hO => andE fun xK => andE fun vj => andE fun uK => andE fun tO => andE fun mw => andE fun oC => andE fun qV => andE fun qW => andE fun jT => fun hB => ?_
   dsimp only at H
   refine Go1.keep [(4, .pointer (some ⟨B2, 0, none⟩)), (6, .pointer (some ⟨dT, 0, none⟩))] hag ?_
   refine zq (zq (zr (zm rfl ?_)))
   refine GoR.inl (vs := [.pointer (some ⟨dT, 0, none⟩)]) (caps := []) rfl rfl body50 Try.func50 rfl Try.ntmps50 rfl rfl rfl ?_
   intro RhR98 hR98
   refine zq (zr (za rfl (zn (zq ?_))))
   refine Go1.drawS 0 [(0, .pure), (1, .pure), (2, .pure), (3, .pure), (4, .stable), (5, .pure), (6, .pure), (7, .pure), (8, .pure), (9, .stable), (10, .pure), (11, .pure), (12, .pure)] mixed (by kernel_rfl) ?_
   intro w99 zI
   have en := Stp.same hO zI
   replace hO := en.own
   refine GoQ.pure rfl (op_move rfl) rfl rfl ?_
   refine GoQ.pure rfl (op_nilCheck rfl) rfl rfl ?_
   refine GoQ.pure rfl (op_fieldAddr Try.underlying72 rfl ti29 rfl (by decide)) rfl rfl ?_
   refine GoQ.pure rfl (op_fieldAddr Try.underlying29 rfl ti3 rfl (by decide)) rfl rfl ?_
   refine GoQ.stable rfl (oblk (i := 8) 0 hO rfl rfl Try.underlying3 rfl rfl) rfl rfl ?_
   refine GoQ.pure rfl (op_move rfl) rfl rfl ?_
   refine GoQ.pure rfl (op_nilCheck rfl) rfl rfl ?_
   refine GoQ.pure rfl (op_fieldAddr Try.underlying72 rfl ti29 rfl (by decide)) rfl rfl ?_
   refine GoQ.pure rfl (op_fieldAddr Try.underlying29 rfl ti22 rfl (by decide)) rfl rfl ?_
   refine GoQ.stable rfl (oblk (i := 3) 0 hO rfl rfl Try.underlying22 rfl rfl) rfl rfl ?_
   replace vj := vj.ch en.ch
   refine GoQ.pure rfl (op_lenN Try.underlying22 rfl (vj.neq hO 2 rfl)) rfl rfl ?_
   by_cases vk : k2_42 = (d_49.length : Int)
   ·replace H := ifp vk H
    refine GoQ.pure rfl (fun w => opB (op_eql rfl rfl w) (decide_eq_true vk)) rfl rfl ?_
    refine GoQ.pure rfl (op_assign rfl) rfl rfl ?_
    refine GoQ.nil ?_
    refine Go1.ret1V Try.func50 rfl (show _ = .bool true from rfl) ?_
    refine hR98 _ _ ?_
    refine zo (op_not rfl) (zn (zf rfl rfl ?_))
    refine Go1.exit rfl ?_
    refine zq (zr (zm rfl (zo (op_nilCheck rfl) (zo (op_fieldAddr Try.underlying72 rfl ti29 rfl (by decide)) (zs (oblkAgg (vs := [.int .i64 k2_40, .bool b2_41, .slice p46 n48 c47, .slice p52 n54 c53, .slice p58 n60 c59, .slice p64 n66 c65, .slice p70 n72 c71, .slice p76 n78 c77, .int .i64 k2_42]) (i := 0) 0 hO rfl rfl Try.underlying29 rfl ti29 rfl) ?_)))))
    have hobt := oblkStAgg (us := [.int .i64 k2_40, .bool b2_41, .slice p46 n48 c47, .slice p52 n54 c53, .slice p58 n60 c59, .slice p64 n66 c65, .slice p70 n72 c71, .slice p76 n78 c77, .int .i64 k2_42]) (o := 0) (cs' := #[.int .i64 k2_40, .bool b2_41, .slice p46 n48 c47, .slice p52 n54 c53, .slice p58 n60 c59, .slice p64 n66 c65, .slice p70 n72 c71, .slice p76 n78 c77, .int .i64 k2_42]) 11 hO rfl rfl (Nat.le_of_ble_eq_true rfl) rfl
    obtain ⟨OW, iT, D8⟩ := hobt
    dsimp only [sS, sZ] at iT
    refine zg (D8 ti29 (by exact rfl) (by exact rfl) rfl) ?_
    replace hO := iT.own
    refine za rfl (zn ?_)
    replace xK := (xK.ch en.ch).ch iT.ch
    have hobt := freeze 1 hO rfl xK
    obtain ⟨hO1, tT, rU, Hv⟩ := hobt
    dsimp only [eS, eZ] at hO1 tT rU
    replace hB := ((hB.trans en.fr).trans iT.fr).trans (Owns.dropFr _ _ 1)
    dsimp only [eS, eZ] at hB
    replace hO := hO1; clear hO1
    replace vj := (vj.ch iT.ch).ch tT
    have hobt := freeze 1 hO rfl vj
    obtain ⟨hO1, tU, te, Hw⟩ := hobt
    dsimp only [eS, eZ] at hO1 tU te
    replace hB := hB.trans (Owns.dropFr _ _ 1)
    dsimp only [eS, eZ] at hB
    replace hO := hO1; clear hO1
    have Z1 := ((en.ch.trans iT.ch).trans tT).trans tU
    replace uK := uK.ch Z1
    have hobt := freeze 1 hO rfl uK
    obtain ⟨hO1, tV, ux, zJ⟩ := hobt
    dsimp only [eS, eZ] at hO1 tV ux
    replace hB := hB.trans (Owns.dropFr _ _ 1)
    dsimp only [eS, eZ] at hB
    replace hO := hO1; clear hO1
    replace tO := (tO.ch Z1).ch tV
    have hobt := freeze 1 hO rfl tO
    obtain ⟨hO1, tW, wu, Hx⟩ := hobt
    dsimp only [eS, eZ] at hO1 tW wu
    replace hB := hB.trans (Owns.dropFr _ _ 1)
    dsimp only [eS, eZ] at hB
    replace hO := hO1; clear hO1
    replace mw := ((mw.ch Z1).ch tV).ch tW
    have hobt := freeze 1 hO rfl mw
    obtain ⟨hO1, tX, xY, Hy⟩ := hobt
    dsimp only [eS, eZ] at hO1 tX xY
    replace hB := hB.trans (Owns.dropFr _ _ 1)
    dsimp only [eS, eZ] at hB
    replace hO := hO1; clear hO1
    have Z2 := ((Z1.trans tV).trans tW).trans tX
    replace oC := oC.ch Z2
    have hobt := freeze 1 hO rfl oC
    obtain ⟨hO1, tY, BG, Hz⟩ := hobt
    dsimp only [eS, eZ] at hO1 tY BG
    replace hB := hB.trans (Owns.dropFr _ _ 1)
    dsimp only [eS, eZ] at hB
    replace hO := hO1; clear hO1
    refine Go1.retC2 Try.func17 rfl rfl (run_loadBlk (vs := [.int .i64 k2_40, .bool b2_41, .slice p46 n48 c47, .slice p52 n54 c53, .slice p58 n60 c59, .slice p64 n66 c65, .slice p70 n72 c71, .slice p76 n78 c77, .int .i64 k2_42]) 5 hO rfl rfl Try.underlying29 rfl ti29) ?_
    replace xY := xY.ch tY
    replace wu := (wu.ch tX).ch tY
    have Z3 := (tW.trans tX).trans tY
    replace ux := ux.ch Z3
    have Z4 := ((tV.trans tW).trans tX).trans tY
    replace te := te.ch Z4
    have Z5 := (((tU.trans tV).trans tW).trans tX).trans tY
    replace rU := rU.ch Z5
    exact ⟨(⟨k2_40, b2_41, d_43, d_49, d_55, d_61, d_67, d_73, k2_42⟩ : Enum), (0 : Int), p46, c47, p52, c53, p58, c59, p64, c65, p70, c71, p76, c77, (congrArg (fun l => Value.tuple (List.toArray l)) (cons_eq (congrArg (fun l => Value.agg (List.toArray l)) (cons_eq rfl (cons_eq rfl (cons_eq (congrArg (fun nn => Value.slice p46 nn c47) Hv) (cons_eq (congrArg (fun nn => Value.slice p52 nn c53) Hw) (cons_eq (congrArg (fun nn => Value.slice p58 nn c59) zJ) (cons_eq (congrArg (fun nn => Value.slice p64 nn c65) Hx) (cons_eq (congrArg (fun nn => Value.slice p70 nn c71) Hy) (cons_eq (congrArg (fun nn => Value.slice p76 nn c77) Hz) (cons_eq rfl rfl)))))))))) (cons_eq rfl rfl))), hB.same, (rU.ch (Ch.weak _ _ _)), (te.ch (Ch.weak _ _ _)), (ux.ch (Ch.weak _ _ _)), (wu.ch (Ch.weak _ _ _)), (xY.ch (Ch.weak _ _ _)), (BG.ch (Ch.weak _ _ _)), H⟩
   replace H := ifn vk H
   refine GoQ.pure rfl (fun w => opB (op_eql rfl rfl w) (decide_eq_false vk)) rfl rfl ?_
   refine GoQ.pure rfl (op_assign rfl) rfl rfl ?_
   refine GoQ.nil ?_
   refine Go1.ret1V Try.func50 rfl (show _ = .bool false from rfl) ?_
   refine hR98 _ _ ?_
   refine zo (op_not rfl) (zn (zt rfl rfl (zk (zb (zq ?_)))))
   refine Go1.cut [(4, .pointer (some ⟨B2, 0, none⟩)), (6, .pointer (some ⟨dT, 0, none⟩))] ⟨rfl, rfl, trivial⟩ ?_
   intro σ _
   refine zr (zm rfl ?_)
   have BH : Owns w0.heap.size w99 ([.blk dT (.cells #[.int .i64 k2_40, .bool b2_41, .slice p46 n48 c47, .slice p52 n54 c53, .slice p58 n60 c59, .slice p64 n66 c65, .slice p70 n72 c71, .slice p76 n78 c77, .int .i64 k2_42, .map (some af), .slice p82 n84 c83, .slice p88 n90 c89, .slice p94 n96 c95] 72 (0, 0)), .row 26 1 p46 n48 c47 qk, .row 26 1 p52 n54 c53 ql, .row 3 1 p58 n60 c59 qm, .row 3 1 p64 n66 c65 qn, .row 26 1 p70 n72 c71 qo, .row 39 2 p76 n78 c77 qp, .row 9 1 p82 n84 c83 od, .row 3 1 p88 n90 c89 qq, .row 3 1 p94 n96 c95 qr, .any (mapE (fun a : List UInt8 => Value.string (gstr a)) (fun a : Int => Value.int .i64 a) af m2_97)] ++ [.blk B2 (.cells #[.int .i64 (0 : Int), .bool false, .slice none 0 0, .slice none 0 0, .slice none 0 0, .slice none 0 0, .slice none 0 0, .slice none 0 0, .int .i64 (0 : Int)] 29 (0, 0))]) A := hO
   have HA := Owns.split BH
   have hca126 : Ch (bl [.blk dT (.cells #[.int .i64 k2_40, .bool b2_41, .slice p46 n48 c47, .slice p52 n54 c53, .slice p58 n60 c59, .slice p64 n66 c65, .slice p70 n72 c71, .slice p76 n78 c77, .int .i64 k2_42, .map (some af), .slice p82 n84 c83, .slice p88 n90 c89, .slice p94 n96 c95] 72 (0, 0)), .row 26 1 p46 n48 c47 qk, .row 26 1 p52 n54 c53 ql, .row 3 1 p58 n60 c59 qm, .row 3 1 p64 n66 c65 qn, .row 26 1 p70 n72 c71 qo, .row 39 2 p76 n78 c77 qp, .row 9 1 p82 n84 c83 od, .row 3 1 p88 n90 c89 qq, .row 3 1 p94 n96 c95 qr, .any (mapE (fun a : List UInt8 => Value.string (gstr a)) (fun a : Int => Value.int .i64 a) af m2_97), .blk B2 (.cells #[.int .i64 (0 : Int), .bool false, .slice none 0 0, .slice none 0 0, .slice none 0 0, .slice none 0 0, .slice none 0 0, .slice none 0 0, .int .i64 (0 : Int)] 29 (0, 0))] ++ A) w99 (bl [.blk dT (.cells #[.int .i64 k2_40, .bool b2_41, .slice p46 n48 c47, .slice p52 n54 c53, .slice p58 n60 c59, .slice p64 n66 c65, .slice p70 n72 c71, .slice p76 n78 c77, .int .i64 k2_42, .map (some af), .slice p82 n84 c83, .slice p88 n90 c89, .slice p94 n96 c95] 72 (0, 0)), .row 26 1 p46 n48 c47 qk, .row 26 1 p52 n54 c53 ql, .row 3 1 p58 n60 c59 qm, .row 3 1 p64 n66 c65 qn, .row 26 1 p70 n72 c71 qo, .row 39 2 p76 n78 c77 qp, .row 9 1 p82 n84 c83 od, .row 3 1 p88 n90 c89 qq, .row 3 1 p94 n96 c95 qr, .any (mapE (fun a : List UInt8 => Value.string (gstr a)) (fun a : Int => Value.int .i64 a) af m2_97)] ++ (bl [.blk B2 (.cells #[.int .i64 (0 : Int), .bool false, .slice none 0 0, .slice none 0 0, .slice none 0 0, .slice none 0 0, .slice none 0 0, .slice none 0 0, .int .i64 (0 : Int)] 29 (0, 0))] ++ A)) w99 := Ch.assoc' [.blk dT (.cells #[.int .i64 k2_40, .bool b2_41, .slice p46 n48 c47, .slice p52 n54 c53, .slice p58 n60 c59, .slice p64 n66 c65, .slice p70 n72 c71, .slice p76 n78 c77, .int .i64 k2_42, .map (some af), .slice p82 n84 c83, .slice p88 n90 c89, .slice p94 n96 c95] 72 (0, 0)), .row 26 1 p46 n48 c47 qk, .row 26 1 p52 n54 c53 ql, .row 3 1 p58 n60 c59 qm, .row 3 1 p64 n66 c65 qn, .row 26 1 p70 n72 c71 qo, .row 39 2 p76 n78 c77 qp, .row 9 1 p82 n84 c83 od, .row 3 1 p88 n90 c89 qq, .row 3 1 p94 n96 c95 qr, .any (mapE (fun a : List UInt8 => Value.string (gstr a)) (fun a : Int => Value.int .i64 a) af m2_97)] [.blk B2 (.cells #[.int .i64 (0 : Int), .bool false, .slice none 0 0, .slice none 0 0, .slice none 0 0, .slice none 0 0, .slice none 0 0, .slice none 0 0, .int .i64 (0 : Int)] 29 (0, 0))] A w99
   replace xK := xK.ch en.ch
   replace uK := uK.ch en.ch
   replace tO := tO.ch en.ch
   replace mw := mw.ch en.ch
   replace oC := oC.ch en.ch
   replace qV := qV.ch en.ch
   replace qW := qW.ch en.ch
   replace jT := jT.ch en.ch
   refine GoR.call (op_call body51 rfl (walk_enumerate_run_process (a0 := (⟨(⟨k2_40, b2_41, d_43, d_49, d_55, d_61, d_67, d_73, k2_42⟩ : Enum), m2_97, d_79, d_85, d_91⟩ : run)) HA (xK.ch hca126) (vj.ch hca126) (uK.ch hca126) (tO.ch hca126) (mw.ch hca126) (oC.ch hca126) (qV.ch hca126) (qW.ch hca126) (jT.ch hca126) H)) rfl rfl ?_
   intro OX zK
   refine exE fun r127 => exE fun q128 => exE fun gK => exE fun gL => exE fun gM => exE fun mm => exE fun f0 => exE fun f5 => exE fun f6 => exE fun lr => exE fun fM => exE fun fN => exE fun fO => exE fun kM => exE fun gN => exE fun gO => exE fun gP => exE fun mo => exE fun f7 => exE fun f8 => exE fun f9 => exE fun lv => exE fun gc => exE fun gf => exE fun gh => exE fun lx => exE fun kc => exE fun kd => exE fun ke => exE fun qg => exE fun jb => exE fun jc => exE fun jd => exE fun oD => exE fun je => exE fun jf => exE fun jg => exE fun oE => andE fun hv134 => andE fun hN131 => andE fun mp => andE fun ly => andE fun kN => andE fun mq => andE fun lz => andE fun lA => andE fun qh => andE fun oF => andE fun oG => andE fun hF132 => fun H => ?_
   subst hv134
   have z8 : Stp w0.heap.size A w99 [.blk dT (.cells #[.int .i64 k2_40, .bool b2_41, .slice p46 n48 c47, .slice p52 n54 c53, .slice p58 n60 c59, .slice p64 n66 c65, .slice p70 n72 c71, .slice p76 n78 c77, .int .i64 k2_42, .map (some af), .slice p82 n84 c83, .slice p88 n90 c89, .slice p94 n96 c95] 72 (0, 0)), .row 26 1 p46 n48 c47 qk, .row 26 1 p52 n54 c53 ql, .row 3 1 p58 n60 c59 qm, .row 3 1 p64 n66 c65 qn, .row 26 1 p70 n72 c71 qo, .row 39 2 p76 n78 c77 qp, .row 9 1 p82 n84 c83 od, .row 3 1 p88 n90 c89 qq, .row 3 1 p94 n96 c95 qr, .any (mapE (fun a : List UInt8 => Value.string (gstr a)) (fun a : Int => Value.int .i64 a) af m2_97), .blk B2 (.cells #[.int .i64 (0 : Int), .bool false, .slice none 0 0, .slice none 0 0, .slice none 0 0, .slice none 0 0, .slice none 0 0, .slice none 0 0, .int .i64 (0 : Int)] 29 (0, 0))] zK [.blk dT (.cells #[.int .i64 q128.Enum.Points, .bool q128.Enum.Monoid, .slice gL gK gM, .slice f5 f0 f6, .slice fN fM fO, .slice gO gN gP, .slice f8 f7 f9, .slice gf gc gh, .int .i64 q128.Enum.Done, .map (some af), .slice kd kc ke, .slice jc jb jd, .slice jf je jg] 72 (0, 0)), .row 26 1 gL gK gM mm, .row 26 1 f5 f0 f6 lr, .row 3 1 fN fM fO kM, .row 3 1 gO gN gP mo, .row 26 1 f8 f7 f9 lv, .row 39 2 gf gc gh lx, .row 9 1 kd kc ke qg, .row 3 1 jc jb jd oD, .row 3 1 jf je jg oE, .any (mapE (fun a : List UInt8 => Value.string (gstr a)) (fun a : Int => Value.int .i64 a) af q128.number), .blk B2 (.cells #[.int .i64 (0 : Int), .bool false, .slice none 0 0, .slice none 0 0, .slice none 0 0, .slice none 0 0, .slice none 0 0, .slice none 0 0, .int .i64 (0 : Int)] 29 (0, 0))] := Stp.join BH hN131 hF132
   replace hO := z8.own
   have hca135 : Ch (bl [.blk dT (.cells #[.int .i64 q128.Enum.Points, .bool q128.Enum.Monoid, .slice gL gK gM, .slice f5 f0 f6, .slice fN fM fO, .slice gO gN gP, .slice f8 f7 f9, .slice gf gc gh, .int .i64 q128.Enum.Done, .map (some af), .slice kd kc ke, .slice jc jb jd, .slice jf je jg] 72 (0, 0)), .row 26 1 gL gK gM mm, .row 26 1 f5 f0 f6 lr, .row 3 1 fN fM fO kM, .row 3 1 gO gN gP mo, .row 26 1 f8 f7 f9 lv, .row 39 2 gf gc gh lx, .row 9 1 kd kc ke qg, .row 3 1 jc jb jd oD, .row 3 1 jf je jg oE, .any (mapE (fun a : List UInt8 => Value.string (gstr a)) (fun a : Int => Value.int .i64 a) af q128.number)] ++ (bl [.blk B2 (.cells #[.int .i64 (0 : Int), .bool false, .slice none 0 0, .slice none 0 0, .slice none 0 0, .slice none 0 0, .slice none 0 0, .slice none 0 0, .int .i64 (0 : Int)] 29 (0, 0))] ++ A)) zK (bl [.blk dT (.cells #[.int .i64 q128.Enum.Points, .bool q128.Enum.Monoid, .slice gL gK gM, .slice f5 f0 f6, .slice fN fM fO, .slice gO gN gP, .slice f8 f7 f9, .slice gf gc gh, .int .i64 q128.Enum.Done, .map (some af), .slice kd kc ke, .slice jc jb jd, .slice jf je jg] 72 (0, 0)), .row 26 1 gL gK gM mm, .row 26 1 f5 f0 f6 lr, .row 3 1 fN fM fO kM, .row 3 1 gO gN gP mo, .row 26 1 f8 f7 f9 lv, .row 39 2 gf gc gh lx, .row 9 1 kd kc ke qg, .row 3 1 jc jb jd oD, .row 3 1 jf je jg oE, .any (mapE (fun a : List UInt8 => Value.string (gstr a)) (fun a : Int => Value.int .i64 a) af q128.number), .blk B2 (.cells #[.int .i64 (0 : Int), .bool false, .slice none 0 0, .slice none 0 0, .slice none 0 0, .slice none 0 0, .slice none 0 0, .slice none 0 0, .int .i64 (0 : Int)] 29 (0, 0))] ++ A) zK := Ch.assoc [.blk dT (.cells #[.int .i64 q128.Enum.Points, .bool q128.Enum.Monoid, .slice gL gK gM, .slice f5 f0 f6, .slice fN fM fO, .slice gO gN gP, .slice f8 f7 f9, .slice gf gc gh, .int .i64 q128.Enum.Done, .map (some af), .slice kd kc ke, .slice jc jb jd, .slice jf je jg] 72 (0, 0)), .row 26 1 gL gK gM mm, .row 26 1 f5 f0 f6 lr, .row 3 1 fN fM fO kM, .row 3 1 gO gN gP mo, .row 26 1 f8 f7 f9 lv, .row 39 2 gf gc gh lx, .row 9 1 kd kc ke qg, .row 3 1 jc jb jd oD, .row 3 1 jf je jg oE, .any (mapE (fun a : List UInt8 => Value.string (gstr a)) (fun a : Int => Value.int .i64 a) af q128.number)] [.blk B2 (.cells #[.int .i64 (0 : Int), .bool false, .slice none 0 0, .slice none 0 0, .slice none 0 0, .slice none 0 0, .slice none 0 0, .slice none 0 0, .int .i64 (0 : Int)] 29 (0, 0))] A zK
   refine za rfl (zn (zq (zr (zm rfl ?_))))
   by_cases zL : r127 = (0 : Int)
   ·replace H := ifp zL H
    refine zo (fun w => opB (op_neq rfl rfl w) (ndT zL)) (zn (zf rfl rfl (zk ?_)))
    refine Go1.inBlock ?_
    replace mp := mp.ch hca135
    replace ly := ly.ch hca135
    replace kN := kN.ch hca135
    replace mq := mq.ch hca135
    replace lz := lz.ch hca135
    replace lA := lA.ch hca135
    replace qh := qh.ch hca135
    replace oF := oF.ch hca135
    replace oG := oG.ch hca135
    replace hB := (hB.trans en.fr).trans z8.fr
    exact hX2 _ H _ _ ⟨gK, gL, gM, mm, f0, f5, f6, lr, fM, fN, fO, kM, gN, gO, gP, mo, f7, f8, f9, lv, gc, gf, gh, lx, kc, kd, ke, qg, jb, jc, jd, oD, je, jf, jg, oE, ⟨rfl, rfl, trivial⟩, hO, mp, ly, kN, mq, lz, lA, qh, oF, oG, hB⟩
   replace H := ifn zL H
   refine zo (fun w => opB (op_neq rfl rfl w) (ndF zL)) (zn (zt rfl rfl (zq (zr (zo (op_build Try.underlying29 ti29 (pl := [(0, 1), (1, 1), (2, 1), (3, 1), (4, 1), (5, 1), (6, 1), (7, 1), (8, 1)]) (vs := []) (cs := #[.int .i64 (0 : Int), .bool false, .slice none 0 0, .slice none 0 0, .slice none 0 0, .slice none 0 0, .slice none 0 0, .slice none 0 0, .int .i64 (0 : Int)]) (by kernel_rfl) rfl (by kernel_rfl)) ?_)))))
   refine zm rfl ?_
   have hobt := oblkStAgg (us := [.int .i64 (0 : Int), .bool false, .slice none 0 0, .slice none 0 0, .slice none 0 0, .slice none 0 0, .slice none 0 0, .slice none 0 0, .int .i64 (0 : Int)]) (o := 0) (cs' := #[.int .i64 (0 : Int), .bool false, .slice none 0 0, .slice none 0 0, .slice none 0 0, .slice none 0 0, .slice none 0 0, .slice none 0 0, .int .i64 (0 : Int)]) 11 hO rfl rfl (Nat.le_of_ble_eq_true rfl) rfl
   obtain ⟨OY, qi, D9⟩ := hobt
   dsimp only [sS, sZ] at qi
   refine zg (D9 ti29 (by exact rfl) (by exact rfl) rfl) ?_
   replace hO := qi.own
   refine za rfl (zn ?_)
   refine Go1.retC2 Try.func17 rfl rfl (run_loadBlk (vs := [.int .i64 (0 : Int), .bool false, .slice none 0 0, .slice none 0 0, .slice none 0 0, .slice none 0 0, .slice none 0 0, .slice none 0 0, .int .i64 (0 : Int)]) 11 hO rfl rfl Try.underlying29 rfl ti29) ?_
   replace hB := ((hB.trans en.fr).trans z8.fr).trans qi.fr
   exact ⟨(⟨(0 : Int), false, ([] : List (List Int)), ([] : List (List Int)), ([] : List Int), ([] : List Int), ([] : List (List Int)), ([] : List Rule), (0 : Int)⟩ : Enum), r127, none, 0, none, 0, none, 0, none, 0, none, 0, none, 0, rfl, hB.same, (ISl.null _ _ _), (ISl.null _ _ _), (ISl.null _ _ _), (ISl.null _ _ _), (ISl.null _ _ _), (ISl.null _ _ _), H⟩
  replace H := ifn h38 H
  refine zo (fun w => opB (op_neq rfl rfl w) (ndF h38)) (zn (zt rfl rfl (zq (zr (zo (op_build Try.underlying29 ti29 (pl := [(0, 1), (1, 1), (2, 1), (3, 1), (4, 1), (5, 1), (6, 1), (7, 1), (8, 1)]) (vs := []) (cs := #[.int .i64 (0 : Int), .bool false, .slice none 0 0, .slice none 0 0, .slice none 0 0, .slice none 0 0, .slice none 0 0, .slice none 0 0, .int .i64 (0 : Int)]) (by kernel_rfl) rfl (by kernel_rfl)) ?_)))))
  refine zm rfl ?_
  have hobt := oblkStAgg (us := [.int .i64 (0 : Int), .bool false, .slice none 0 0, .slice none 0 0, .slice none 0 0, .slice none 0 0, .slice none 0 0, .slice none 0 0, .int .i64 (0 : Int)]) (o := 0) (cs' := #[.int .i64 (0 : Int), .bool false, .slice none 0 0, .slice none 0 0, .slice none 0 0, .slice none 0 0, .slice none 0 0, .slice none 0 0, .int .i64 (0 : Int)]) 11 hO rfl rfl (Nat.le_of_ble_eq_true rfl) rfl
  obtain ⟨O0, oH, Ea⟩ := hobt
  dsimp only [sS, sZ] at oH
  refine zg (Ea ti29 (by exact rfl) (by exact rfl) rfl) ?_
  replace hO := oH.own
  refine za rfl (zn ?_)
  refine Go1.retC2 Try.func17 rfl rfl (run_loadBlk (vs := [.int .i64 (0 : Int), .bool false, .slice none 0 0, .slice none 0 0, .slice none 0 0, .slice none 0 0, .slice none 0 0, .slice none 0 0, .int .i64 (0 : Int)]) 11 hO rfl rfl Try.underlying29 rfl ti29) ?_
  replace hB := ((hB.trans et.fr).trans lO.fr).trans oH.fr
  exact ⟨(⟨(0 : Int), false, ([] : List (List Int)), ([] : List (List Int)), ([] : List Int), ([] : List Int), ([] : List (List Int)), ([] : List Rule), (0 : Int)⟩ : Enum), r8, none, 0, none, 0, none, 0, none, 0, none, 0, none, 0, rfl, hB.same, (ISl.null _ _ _), (ISl.null _ _ _), (ISl.null _ _ _), (ISl.null _ _ _), (ISl.null _ _ _), (ISl.null _ _ _), H⟩
theorem body70 : Body Try.prog 70 := ⟨Try.f70, Try.func70, rfl, by kernel_rfl⟩
theorem walk_slices_Equal_int {A : List Nat} {w0 : World} {nS : Option Addr} {nT : Nat} {nU : Option Addr} {nV : Nat} {s1 : List Int} {s2 : List Int} (hA : ∀ b ∈ A, b < w0.heap.size) (ik : ISl (Rp.int .i64) A w0 nS nT s1) (iV : ISl (Rp.int .i64) A w0 nU nV s2) {K : Bool → Prop} (H : slices_Equal_int s1 s2 K) :
    CallsV Try.prog 70 #[.slice nS s1.length nT, .slice nU s2.length nV] w0 (fun v w' => ∃ (r0 : Bool), v = .bool r0 ∧ Same w0 w' ∧ K r0) := by
 refine CallsV.of (l := [.slice nS s1.length nT, .slice nU s2.length nV]) Try.func70 rfl Try.ntmps70 rfl ?_
 have hO := Owns.start hA
 have hB := Fr.refl (bl []) w0
 unfold slices_Equal_int at H
 refine zq (zr (za rfl (zn (zq (zq ?_)))))
 refine zr (zm rfl (zo (op_len Try.underlying26 rfl) ?_))
 replace ik := ik.ch (Ch.start A w0)
 replace H := H ik.bd
 refine zm rfl (zo (op_len Try.underlying26 rfl) ?_)
 replace iV := iV.ch (Ch.start A w0)
 replace H := H iV.bd
 by_cases h1 : (s1.length : Int) = (s2.length : Int)
 ·replace H := ifp h1 H
  refine zo (fun w => opB (op_neq rfl rfl w) (ndT h1)) (zn (zf rfl rfl (zk (zq (zq ?_)))))
  refine zr (zm rfl (zo (op_len Try.underlying26 rfl) (zm rfl (zn (zb ?_)))))
  refine Go1.loopW (S := Nat) (fun s σ w => agrees σ [(0, .slice nS s1.length nT), (1, .slice nU s2.length nV), (12, .int .i64 (s1.length : Int)), (13, .int .i64 (s : Int))] ∧ Owns w0.heap.size w [] A ∧ ISl (Rp.int .i64) (bl [] ++ A) w nS nT s1 ∧ ISl (Rp.int .i64) (bl [] ++ A) w nU nV s2 ∧ Fr (bl []) w0 (bl []) w) H ⟨⟨rfl, rfl, rfl, rfl, trivial⟩, hO, ik, iV, hB⟩ ?_
  intro X1 k1_3
  intro H hX1 σ w2
  refine andE fun hag => andE fun hO => andE fun ik => andE fun iV => fun hB => ?_
  refine Go1.keep [(0, .slice nS s1.length nT), (1, .slice nU s2.length nV), (12, .int .i64 (s1.length : Int)), (13, .int .i64 (k1_3 : Int))] hag ?_
  refine zq (zr ?_)
  by_cases h4 : (k1_3 : Int) < (s1.length : Int)
  ·replace H := ifp h4 H
   refine zo (fun w => opB (op_lss rfl rfl w) (decide_eq_true h4)) (zn (zq (zt rfl rfl (zk (zq ?_)))))
   refine zb (zq (zr (zm rfl (za rfl (zn ?_)))))
   refine zq ?_
   refine Go1.drawS 0 [(0, .pure), (1, .pure), (2, .pure), (3, .stable), (4, .pure), (5, .pure), (6, .pure), (7, .stable), (8, .pure)] mixed (by kernel_rfl) ?_
   intro w5 hs6
   have kr := Stp.same hO hs6
   replace hO := kr.own
   refine GoQ.pure rfl (op_move rfl) rfl rfl ?_
   refine GoQ.pure rfl (op_move rfl) rfl rfl ?_
   obtain ⟨h8, H⟩ := H
   obtain ⟨h9, H⟩ := H
   replace ik := ik.ch kr.ch
   refine GoQ.pure rfl (op_index Try.underlying26 ti3 rfl rfl h8 h9 (ik.some_ h8 h9)) rfl rfl ?_
   refine GoQ.stable rfl (ldInt ik h8 h9 Try.underlying3 rfl rfl) rfl rfl ?_
   refine GoQ.pure rfl (op_move rfl) rfl rfl ?_
   refine GoQ.pure rfl (op_move rfl) rfl rfl ?_
   obtain ⟨h10, H⟩ := H
   obtain ⟨h11, H⟩ := H
   replace iV := iV.ch kr.ch
   refine GoQ.pure rfl (op_index Try.underlying26 ti3 rfl rfl h10 h11 (iV.some_ h10 h11)) rfl rfl ?_
   refine GoQ.stable rfl (ldInt iV h10 h11 Try.underlying3 rfl rfl) rfl rfl ?_
   by_cases h12 : (ix s1 (k1_3 : Int)) = (ix s2 (k1_3 : Int))
   ·replace H := ifp h12 H
    refine GoQ.pure rfl (fun w => opB (op_neq rfl rfl w) (ndT h12)) rfl rfl ?_
    refine GoQ.nil ?_
    refine zf rfl rfl (zk ?_)
    refine Go1.inBlock ?_
    refine zr (zo (op_add rfl rfl (wrap_i64 (natbd h4 ik.bd))) (zm rfl (zn ?_)))
    replace hB := hB.trans kr.fr
    exact hX1 _ H _ _ ⟨⟨rfl, rfl, rfl, rfl, trivial⟩, hO, ik, iV, hB⟩
   replace H := ifn h12 H
   refine GoQ.pure rfl (fun w => opB (op_neq rfl rfl w) (ndF h12)) rfl rfl ?_
   refine GoQ.nil ?_
   refine zt rfl rfl (zq (zr (za rfl (zn ?_))))
   refine Go1.ret1 Try.func70 rfl ?_
   replace hB := hB.trans kr.fr
   exact ⟨false, rfl, hB.same, H⟩
  replace H := ifn h4 H
  refine zo (fun w => opB (op_lss rfl rfl w) (decide_eq_false h4)) (zn (zq (zf rfl rfl ?_)))
  refine Go1.exit rfl ?_
  refine zq (zr (za rfl (zn ?_)))
  refine Go1.ret1 Try.func70 rfl ?_
  exact ⟨true, rfl, hB.same, H⟩
 replace H := ifn h1 H
 refine zo (fun w => opB (op_neq rfl rfl w) (ndF h1)) (zn (zt rfl rfl (zq (zr (za rfl ?_)))))
 refine zn ?_
 refine Go1.ret1 Try.func70 rfl ?_
 exact ⟨false, rfl, hB.same, H⟩
theorem body69 : Body Try.prog 69 := ⟨Try.f69, Try.func69, rfl, by kernel_rfl⟩
theorem walk_slices_EqualFunc_int {A : List Nat} {w0 : World} {nS : Option Addr} {nT : Nat} {nU : Option Addr} {nV : Nat} {s1 : List (List Int)} {s2 : List (List Int)} (hA : ∀ b ∈ A, b < w0.heap.size) (ik : ISl (Rp.sl (Rp.int .i64)) A w0 nS nT s1) (iV : ISl (Rp.sl (Rp.int .i64)) A w0 nU nV s2) {K : Bool → Prop} (H : slices_EqualFunc_int s1 s2 K) :
    CallsV Try.prog 69 #[.slice nS s1.length nT, .slice nU s2.length nV, .func (.func 70) #[] #[]] w0 (fun v w' => ∃ (r0 : Bool), v = .bool r0 ∧ Same w0 w' ∧ K r0) := by
 refine CallsV.of (l := [.slice nS s1.length nT, .slice nU s2.length nV, .func (.func 70) #[] #[]]) Try.func69 rfl Try.ntmps69 rfl ?_
 have hO := Owns.start hA
 have hB := Fr.refl (bl []) w0
 unfold slices_EqualFunc_int at H
 refine zq (zr (za rfl (zn (zq (zq ?_)))))
 refine zr (zm rfl (zo (op_len Try.underlying22 rfl) ?_))
 replace ik := ik.ch (Ch.start A w0)
 replace H := H ik.bd
 refine zm rfl (zo (op_len Try.underlying22 rfl) ?_)
 replace iV := iV.ch (Ch.start A w0)
 replace H := H iV.bd
 by_cases h1 : (s1.length : Int) = (s2.length : Int)
 ·replace H := ifp h1 H
  refine zo (fun w => opB (op_neq rfl rfl w) (ndT h1)) (zn (zf rfl rfl (zk (zq (zq ?_)))))
  refine zr (zm rfl (zo (op_len Try.underlying22 rfl) (zm rfl (zn (zb ?_)))))
  refine Go1.loopW (S := Nat) (fun s σ w => agrees σ [(1, .slice nU s2.length nV), (2, .func (.func 70) #[] #[]), (15, .slice nS s1.length nT), (16, .int .i64 (s1.length : Int)), (17, .int .i64 (s : Int))] ∧ Owns w0.heap.size w [] A ∧ ISl (Rp.sl (Rp.int .i64)) (bl [] ++ A) w nS nT s1 ∧ ISl (Rp.sl (Rp.int .i64)) (bl [] ++ A) w nU nV s2 ∧ Fr (bl []) w0 (bl []) w) H ⟨⟨rfl, rfl, rfl, rfl, rfl, trivial⟩, hO, ik, iV, hB⟩ ?_
  intro X1 k1_3
  intro H hX1 σ w2
  refine andE fun hag => andE fun hO => andE fun ik => andE fun iV => fun hB => ?_
  refine Go1.keep [(1, .slice nU s2.length nV), (2, .func (.func 70) #[] #[]), (15, .slice nS s1.length nT), (16, .int .i64 (s1.length : Int)), (17, .int .i64 (k1_3 : Int))] hag ?_
  refine zq (zr ?_)
  by_cases h4 : (k1_3 : Int) < (s1.length : Int)
  ·replace H := ifp h4 H
   refine zo (fun w => opB (op_lss rfl rfl w) (decide_eq_true h4)) (zn (zq (zt rfl rfl (zk (zq ?_)))))
   refine zb (zq (zr (zm rfl ?_)))
   obtain ⟨h5, H⟩ := H
   obtain ⟨h6, H⟩ := H
   refine zo (op_index Try.underlying22 ti26 rfl rfl h5 h6 (ik.some_ h5 h6)) ?_
   have hobt := ldSl ik h5 h6
   obtain ⟨p7, c8, hi9, KE⟩ := hobt
   refine zs (KE Try.underlying26 rfl rfl) (za rfl (za rfl (zn (zq (zr ?_)))))
   refine zm rfl (zm rfl ?_)
   obtain ⟨h11, H⟩ := H
   obtain ⟨h12, H⟩ := H
   refine zo (op_index Try.underlying22 ti26 rfl rfl h11 h12 (iV.some_ h11 h12)) ?_
   have hobt := ldSl iV h11 h12
   obtain ⟨p13, c14, iW, Bi⟩ := hobt
   refine zs (Bi Try.underlying26 rfl rfl) (za rfl (zn (zq (zr (zm rfl ?_)))))
   refine zm rfl (zm rfl ?_)
   refine GoR.call (op_callV (caps := []) body70 rfl rfl (walk_slices_Equal_int hO.lt hi9 iW H)) rfl rfl ?_
   rintro v21 w18 ⟨r17, rfl, xF, H⟩
   have eK := Stp.same hO xF
   replace hO := eK.own
   cases r17
   ·replace H := ifn Bool.false_ne_true H
    refine zo (op_not rfl) (zn (zt rfl rfl (zq (zr (za rfl ?_)))))
    refine zn ?_
    refine Go1.ret1 Try.func69 rfl ?_
    replace hB := hB.trans eK.fr
    exact ⟨false, rfl, hB.same, H⟩
   replace H := ifp rfl H
   refine zo (op_not rfl) (zn (zf rfl rfl (zk ?_)))
   refine Go1.inBlock ?_
   refine Go1.cut [(1, .slice nU s2.length nV), (2, .func (.func 70) #[] #[]), (15, .slice nS s1.length nT), (16, .int .i64 (s1.length : Int)), (17, .int .i64 (k1_3 : Int))] ⟨rfl, rfl, rfl, rfl, rfl, trivial⟩ ?_
   intro σ _
   refine zr ?_
   replace ik := ik.ch eK.ch
   refine zo (op_add rfl rfl (wrap_i64 (natbd h4 ik.bd))) (zm rfl (zn ?_))
   replace iV := iV.ch eK.ch
   replace hB := hB.trans eK.fr
   exact hX1 _ H _ _ ⟨⟨rfl, rfl, rfl, rfl, rfl, trivial⟩, hO, ik, iV, hB⟩
  replace H := ifn h4 H
  refine zo (fun w => opB (op_lss rfl rfl w) (decide_eq_false h4)) (zn (zq (zf rfl rfl ?_)))
  refine Go1.exit rfl ?_
  refine zq (zr (za rfl (zn ?_)))
  refine Go1.ret1 Try.func69 rfl ?_
  exact ⟨true, rfl, hB.same, H⟩
 replace H := ifn h1 H
 refine zo (fun w => opB (op_neq rfl rfl w) (ndF h1)) (zn (zt rfl rfl (zq (zr (za rfl ?_)))))
 refine zn ?_
 refine Go1.ret1 Try.func69 rfl ?_
 exact ⟨false, rfl, hB.same, H⟩
theorem body71 : Body Try.prog 71 := ⟨Try.f71, Try.func71, rfl, by kernel_rfl⟩
theorem walk_slices_Equal_api_Rule {A : List Nat} {w0 : World} {nS : Option Addr} {nT : Nat} {nU : Option Addr} {nV : Nat} {s1 : List Rule} {s2 : List Rule} (hA : ∀ b ∈ A, b < w0.heap.size) (ik : ISl (rpRule) A w0 nS nT s1) (iV : ISl (rpRule) A w0 nU nV s2) {K : Bool → Prop} (H : slices_Equal_api_Rule s1 s2 K) :
    CallsV Try.prog 71 #[.slice nS s1.length nT, .slice nU s2.length nV] w0 (fun v w' => ∃ (r0 : Bool), v = .bool r0 ∧ Same w0 w' ∧ K r0) := by
 refine CallsV.of (l := [.slice nS s1.length nT, .slice nU s2.length nV]) Try.func71 rfl Try.ntmps71 rfl ?_
 have hO := Owns.start hA
 have hB := Fr.refl (bl []) w0
 unfold slices_Equal_api_Rule at H
 refine zq (zr (za rfl (zn (zq (zq ?_)))))
 refine zr (zm rfl (zo (op_len Try.underlying27 rfl) ?_))
 replace ik := ik.ch (Ch.start A w0)
 replace H := H ik.bd
 refine zm rfl (zo (op_len Try.underlying27 rfl) ?_)
 replace iV := iV.ch (Ch.start A w0)
 replace H := H iV.bd
 by_cases h1 : (s1.length : Int) = (s2.length : Int)
 ·replace H := ifp h1 H
  refine zo (fun w => opB (op_neq rfl rfl w) (ndT h1)) (zn (zf rfl rfl (zk (zq (zq ?_)))))
  refine zr (zm rfl (zo (op_len Try.underlying27 rfl) (zm rfl (zn (zb ?_)))))
  refine Go1.loopW (S := Nat) (fun s σ w => agrees σ [(0, .slice nS s1.length nT), (1, .slice nU s2.length nV), (12, .int .i64 (s1.length : Int)), (13, .int .i64 (s : Int))] ∧ Owns w0.heap.size w [] A ∧ ISl (rpRule) (bl [] ++ A) w nS nT s1 ∧ ISl (rpRule) (bl [] ++ A) w nU nV s2 ∧ Fr (bl []) w0 (bl []) w) H ⟨⟨rfl, rfl, rfl, rfl, trivial⟩, hO, ik, iV, hB⟩ ?_
  intro X1 k1_3
  intro H hX1 σ w2
  refine andE fun hag => andE fun hO => andE fun ik => andE fun iV => fun hB => ?_
  refine Go1.keep [(0, .slice nS s1.length nT), (1, .slice nU s2.length nV), (12, .int .i64 (s1.length : Int)), (13, .int .i64 (k1_3 : Int))] hag ?_
  refine zq (zr ?_)
  by_cases h4 : (k1_3 : Int) < (s1.length : Int)
  ·replace H := ifp h4 H
   refine zo (fun w => opB (op_lss rfl rfl w) (decide_eq_true h4)) (zn (zq (zt rfl rfl (zk (zq ?_)))))
   refine zb (zq (zr (zm rfl (za rfl (zn ?_)))))
   refine zq ?_
   refine Go1.drawS 0 [(0, .pure), (1, .pure), (2, .pure), (3, .stable), (4, .pure), (5, .pure), (6, .pure), (7, .stable), (8, .pure)] mixed (by kernel_rfl) ?_
   intro w5 hs6
   have kr := Stp.same hO hs6
   replace hO := kr.own
   refine GoQ.pure rfl (op_move rfl) rfl rfl ?_
   refine GoQ.pure rfl (op_move rfl) rfl rfl ?_
   obtain ⟨h8, H⟩ := H
   obtain ⟨h9, H⟩ := H
   replace ik := ik.ch kr.ch
   refine GoQ.pure rfl (op_index Try.underlying27 ti39 rfl rfl h8 h9 (ik.some_ h8 h9)) rfl rfl ?_
   have hok10 := ldFlatOk ik h8 h9
   refine GoQ.stable rfl (ldFlat ik h8 h9 Try.underlying39 rfl ti39 rfl) rfl rfl ?_
   refine GoQ.pure rfl (op_move rfl) rfl rfl ?_
   refine GoQ.pure rfl (op_move rfl) rfl rfl ?_
   obtain ⟨h11, H⟩ := H
   obtain ⟨h12, H⟩ := H
   replace iV := iV.ch kr.ch
   refine GoQ.pure rfl (op_index Try.underlying27 ti39 rfl rfl h11 h12 (iV.some_ h11 h12)) rfl rfl ?_
   have hok13 := ldFlatOk iV h11 h12
   refine GoQ.stable rfl (ldFlat iV h11 h12 Try.underlying39 rfl ti39 rfl) rfl rfl ?_
   by_cases h14 : (((ix s1 (k1_3 : Int)).Left) = ((ix s2 (k1_3 : Int)).Left) ∧ ((ix s1 (k1_3 : Int)).Right) = ((ix s2 (k1_3 : Int)).Right))
   ·replace H := ifp h14 H
    refine GoQ.pure rfl (fun w => opB (op_neqSS Try.underlying39 eqh39 eqg39 (by decide) (by decide) rfl rfl Try.underlying9 Try.underlying9 rfl rfl w) (ndT h14)) rfl rfl ?_
    refine GoQ.nil ?_
    refine zf rfl rfl (zk ?_)
    refine Go1.inBlock ?_
    refine zr (zo (op_add rfl rfl (wrap_i64 (natbd h4 ik.bd))) (zm rfl (zn ?_)))
    replace hB := hB.trans kr.fr
    exact hX1 _ H _ _ ⟨⟨rfl, rfl, rfl, rfl, trivial⟩, hO, ik, iV, hB⟩
   replace H := ifn h14 H
   refine GoQ.pure rfl (fun w => opB (op_neqSS Try.underlying39 eqh39 eqg39 (by decide) (by decide) rfl rfl Try.underlying9 Try.underlying9 rfl rfl w) (ndF h14)) rfl rfl ?_
   refine GoQ.nil ?_
   refine zt rfl rfl (zq (zr (za rfl (zn ?_))))
   refine Go1.ret1 Try.func71 rfl ?_
   replace hB := hB.trans kr.fr
   exact ⟨false, rfl, hB.same, H⟩
  replace H := ifn h4 H
  refine zo (fun w => opB (op_lss rfl rfl w) (decide_eq_false h4)) (zn (zq (zf rfl rfl ?_)))
  refine Go1.exit rfl ?_
  refine zq (zr (za rfl (zn ?_)))
  refine Go1.ret1 Try.func71 rfl ?_
  exact ⟨true, rfl, hB.same, H⟩
 replace H := ifn h1 H
 refine zo (fun w => opB (op_neq rfl rfl w) (ndF h1)) (zn (zt rfl rfl (zq (zr (za rfl ?_)))))
 refine zn ?_
 refine Go1.ret1 Try.func71 rfl ?_
 exact ⟨false, rfl, hB.same, H⟩
end Sg
