/- The walks: each call keeps to its plain transformer. Printed by walkgen.py. -/
import Derived.Test.YtjegjjdfgefkoaaTi
import Derived.Test.YtjegjjdfgefkoaaWEnumerateBuilds
import Derived.Test.YtjegjjdfgefkoaaAl
namespace Sg
open Go Go.RowKit Go.Proofs
set_option linter.unusedVariables false
set_option linter.unusedSimpArgs false
set_option maxRecDepth 100000
set_option maxHeartbeats 4000000
theorem body66 : Body Try.prog 66 := ⟨Try.f66, Try.func66, rfl, by kernel_rfl⟩
theorem body67 : Body Try.prog 67 := ⟨Try.f67, Try.func67, rfl, by kernel_rfl⟩
theorem body51 : Body Try.prog 51 := ⟨Try.f51, Try.func51, rfl, by kernel_rfl⟩
theorem walk_enumerate_run_process {A : List Nat} {n0 : Nat} {w0 : World} {gs : Nat} {bD : Nat} {bE : Option Addr} {bF : Nat} {dR : List Value} {d6 : Nat} {d7 : Option Addr} {d8 : Nat} {gz : List Value} {dT : Nat} {dU : Option Addr} {dV : Nat} {gn : List Value} {eN : Nat} {eO : Option Addr} {eP : Nat} {gK : List Value} {bV : Nat} {b9 : Option Addr} {ca : Nat} {dK : List Value} {d9 : Nat} {eg : Option Addr} {eh : Nat} {gA : List Value} {cb : Nat} {fY : Nat} {f0 : Option Addr} {f5 : Nat} {jr : List Value} {fL : Nat} {fM : Option Addr} {fN : Nat} {iE : List Value} {cA : Nat} {cB : Option Addr} {cC : Nat} {fh : List Value} {a0 : run} (hO : Owns n0 w0 [.blk gs (.cells #[.int .i64 a0.Enum.Points, .bool a0.Enum.Monoid, .slice bE bD bF, .slice d7 d6 d8, .slice dU dT dV, .slice eO eN eP, .slice b9 bV ca, .slice eg d9 eh, .int .i64 a0.Enum.Done, .map (some cb), .slice f0 fY f5, .slice fM fL fN, .slice cB cA cC] 72 (0, 0)), .row 26 1 bE bD bF dR, .row 26 1 d7 d6 d8 gz, .row 3 1 dU dT dV gn, .row 3 1 eO eN eP gK, .row 26 1 b9 bV ca dK, .row 39 2 eg d9 eh gA, .row 9 1 f0 fY f5 jr, .row 3 1 fM fL fN iE, .row 3 1 cB cA cC fh, .any (mapE (fun a : List UInt8 => Value.string (gstr a)) (fun a : Int => Value.int .i64 a) cb a0.number)] A) (aD : Els (Rp.sl (Rp.int .i64)) (bl [.blk gs (.cells #[.int .i64 a0.Enum.Points, .bool a0.Enum.Monoid, .slice bE bD bF, .slice d7 d6 d8, .slice dU dT dV, .slice eO eN eP, .slice b9 bV ca, .slice eg d9 eh, .int .i64 a0.Enum.Done, .map (some cb), .slice f0 fY f5, .slice fM fL fN, .slice cB cA cC] 72 (0, 0)), .row 26 1 bE bD bF dR, .row 26 1 d7 d6 d8 gz, .row 3 1 dU dT dV gn, .row 3 1 eO eN eP gK, .row 26 1 b9 bV ca dK, .row 39 2 eg d9 eh gA, .row 9 1 f0 fY f5 jr, .row 3 1 fM fL fN iE, .row 3 1 cB cA cC fh, .any (mapE (fun a : List UInt8 => Value.string (gstr a)) (fun a : Int => Value.int .i64 a) cb a0.number)] ++ A) w0 dR a0.Enum.Gens) (xE : Els (Rp.sl (Rp.int .i64)) (bl [.blk gs (.cells #[.int .i64 a0.Enum.Points, .bool a0.Enum.Monoid, .slice bE bD bF, .slice d7 d6 d8, .slice dU dT dV, .slice eO eN eP, .slice b9 bV ca, .slice eg d9 eh, .int .i64 a0.Enum.Done, .map (some cb), .slice f0 fY f5, .slice fM fL fN, .slice cB cA cC] 72 (0, 0)), .row 26 1 bE bD bF dR, .row 26 1 d7 d6 d8 gz, .row 3 1 dU dT dV gn, .row 3 1 eO eN eP gK, .row 26 1 b9 bV ca dK, .row 39 2 eg d9 eh gA, .row 9 1 f0 fY f5 jr, .row 3 1 fM fL fN iE, .row 3 1 cB cA cC fh, .any (mapE (fun a : List UInt8 => Value.string (gstr a)) (fun a : Int => Value.int .i64 a) cb a0.number)] ++ A) w0 gz a0.Enum.Elems) (wy : Els (Rp.int .i64) (bl [.blk gs (.cells #[.int .i64 a0.Enum.Points, .bool a0.Enum.Monoid, .slice bE bD bF, .slice d7 d6 d8, .slice dU dT dV, .slice eO eN eP, .slice b9 bV ca, .slice eg d9 eh, .int .i64 a0.Enum.Done, .map (some cb), .slice f0 fY f5, .slice fM fL fN, .slice cB cA cC] 72 (0, 0)), .row 26 1 bE bD bF dR, .row 26 1 d7 d6 d8 gz, .row 3 1 dU dT dV gn, .row 3 1 eO eN eP gK, .row 26 1 b9 bV ca dK, .row 39 2 eg d9 eh gA, .row 9 1 f0 fY f5 jr, .row 3 1 fM fL fN iE, .row 3 1 cB cA cC fh, .any (mapE (fun a : List UInt8 => Value.string (gstr a)) (fun a : Int => Value.int .i64 a) cb a0.number)] ++ A) w0 gn a0.Enum.Prefix) (xQ : Els (Rp.int .i64) (bl [.blk gs (.cells #[.int .i64 a0.Enum.Points, .bool a0.Enum.Monoid, .slice bE bD bF, .slice d7 d6 d8, .slice dU dT dV, .slice eO eN eP, .slice b9 bV ca, .slice eg d9 eh, .int .i64 a0.Enum.Done, .map (some cb), .slice f0 fY f5, .slice fM fL fN, .slice cB cA cC] 72 (0, 0)), .row 26 1 bE bD bF dR, .row 26 1 d7 d6 d8 gz, .row 3 1 dU dT dV gn, .row 3 1 eO eN eP gK, .row 26 1 b9 bV ca dK, .row 39 2 eg d9 eh gA, .row 9 1 f0 fY f5 jr, .row 3 1 fM fL fN iE, .row 3 1 cB cA cC fh, .any (mapE (fun a : List UInt8 => Value.string (gstr a)) (fun a : Int => Value.int .i64 a) cb a0.number)] ++ A) w0 gK a0.Enum.Last) (aH : Els (Rp.sl (Rp.int .i64)) (bl [.blk gs (.cells #[.int .i64 a0.Enum.Points, .bool a0.Enum.Monoid, .slice bE bD bF, .slice d7 d6 d8, .slice dU dT dV, .slice eO eN eP, .slice b9 bV ca, .slice eg d9 eh, .int .i64 a0.Enum.Done, .map (some cb), .slice f0 fY f5, .slice fM fL fN, .slice cB cA cC] 72 (0, 0)), .row 26 1 bE bD bF dR, .row 26 1 d7 d6 d8 gz, .row 3 1 dU dT dV gn, .row 3 1 eO eN eP gK, .row 26 1 b9 bV ca dK, .row 39 2 eg d9 eh gA, .row 9 1 f0 fY f5 jr, .row 3 1 fM fL fN iE, .row 3 1 cB cA cC fh, .any (mapE (fun a : List UInt8 => Value.string (gstr a)) (fun a : Int => Value.int .i64 a) cb a0.number)] ++ A) w0 dK a0.Enum.Right) (xF : Els (rpRule) (bl [.blk gs (.cells #[.int .i64 a0.Enum.Points, .bool a0.Enum.Monoid, .slice bE bD bF, .slice d7 d6 d8, .slice dU dT dV, .slice eO eN eP, .slice b9 bV ca, .slice eg d9 eh, .int .i64 a0.Enum.Done, .map (some cb), .slice f0 fY f5, .slice fM fL fN, .slice cB cA cC] 72 (0, 0)), .row 26 1 bE bD bF dR, .row 26 1 d7 d6 d8 gz, .row 3 1 dU dT dV gn, .row 3 1 eO eN eP gK, .row 26 1 b9 bV ca dK, .row 39 2 eg d9 eh gA, .row 9 1 f0 fY f5 jr, .row 3 1 fM fL fN iE, .row 3 1 cB cA cC fh, .any (mapE (fun a : List UInt8 => Value.string (gstr a)) (fun a : Int => Value.int .i64 a) cb a0.number)] ++ A) w0 gA a0.Enum.Rules) (A7 : Els (Rp.str) (bl [.blk gs (.cells #[.int .i64 a0.Enum.Points, .bool a0.Enum.Monoid, .slice bE bD bF, .slice d7 d6 d8, .slice dU dT dV, .slice eO eN eP, .slice b9 bV ca, .slice eg d9 eh, .int .i64 a0.Enum.Done, .map (some cb), .slice f0 fY f5, .slice fM fL fN, .slice cB cA cC] 72 (0, 0)), .row 26 1 bE bD bF dR, .row 26 1 d7 d6 d8 gz, .row 3 1 dU dT dV gn, .row 3 1 eO eN eP gK, .row 26 1 b9 bV ca dK, .row 39 2 eg d9 eh gA, .row 9 1 f0 fY f5 jr, .row 3 1 fM fL fN iE, .row 3 1 cB cA cC fh, .any (mapE (fun a : List UInt8 => Value.string (gstr a)) (fun a : Int => Value.int .i64 a) cb a0.number)] ++ A) w0 jr a0.words) (Ae : Els (Rp.int .i64) (bl [.blk gs (.cells #[.int .i64 a0.Enum.Points, .bool a0.Enum.Monoid, .slice bE bD bF, .slice d7 d6 d8, .slice dU dT dV, .slice eO eN eP, .slice b9 bV ca, .slice eg d9 eh, .int .i64 a0.Enum.Done, .map (some cb), .slice f0 fY f5, .slice fM fL fN, .slice cB cA cC] 72 (0, 0)), .row 26 1 bE bD bF dR, .row 26 1 d7 d6 d8 gz, .row 3 1 dU dT dV gn, .row 3 1 eO eN eP gK, .row 26 1 b9 bV ca dK, .row 39 2 eg d9 eh gA, .row 9 1 f0 fY f5 jr, .row 3 1 fM fL fN iE, .row 3 1 cB cA cC fh, .any (mapE (fun a : List UInt8 => Value.string (gstr a)) (fun a : Int => Value.int .i64 a) cb a0.number)] ++ A) w0 iE a0.behind) (aY : Els (Rp.int .i64) (bl [.blk gs (.cells #[.int .i64 a0.Enum.Points, .bool a0.Enum.Monoid, .slice bE bD bF, .slice d7 d6 d8, .slice dU dT dV, .slice eO eN eP, .slice b9 bV ca, .slice eg d9 eh, .int .i64 a0.Enum.Done, .map (some cb), .slice f0 fY f5, .slice fM fL fN, .slice cB cA cC] 72 (0, 0)), .row 26 1 bE bD bF dR, .row 26 1 d7 d6 d8 gz, .row 3 1 dU dT dV gn, .row 3 1 eO eN eP gK, .row 26 1 b9 bV ca dK, .row 39 2 eg d9 eh gA, .row 9 1 f0 fY f5 jr, .row 3 1 fM fL fN iE, .row 3 1 cB cA cC fh, .any (mapE (fun a : List UInt8 => Value.string (gstr a)) (fun a : Int => Value.int .i64 a) cb a0.number)] ++ A) w0 fh a0.single) {K : Int → run → Prop} (H : enumerate_run_process a0 K) :
    CallsV Try.prog 51 #[.pointer (some ⟨gs, 0, none⟩)] w0 (fun v w' => ∃ (r0 : Int), ∃ (q : run), ∃ (ct : Nat), ∃ (cu : Option Addr), ∃ (cv : Nat), ∃ (dw : List Value), ∃ (cf : Nat), ∃ (cg : Option Addr), ∃ (ci : Nat), ∃ (de : List Value), ∃ (bX : Nat), ∃ (bY : Option Addr), ∃ (b5 : Nat), ∃ (cV : List Value), ∃ (cw : Nat), ∃ (cx : Option Addr), ∃ (cy : Nat), ∃ (dx : List Value), ∃ (cj : Nat), ∃ (ck : Option Addr), ∃ (co : Nat), ∃ (dg : List Value), ∃ (cp : Nat), ∃ (cq : Option Addr), ∃ (cr : Nat), ∃ (dh : List Value), ∃ (cX : Nat), ∃ (cY : Option Addr), ∃ (c5 : Nat), ∃ (fd : List Value), ∃ (cH : Nat), ∃ (cI : Option Addr), ∃ (cJ : Nat), ∃ (eB : List Value), ∃ (cK : Nat), ∃ (cL : Option Addr), ∃ (cM : Nat), ∃ (eC : List Value), v = .int .i64 r0 ∧ (fun Z0 => Owns n0 w' Z0 A ∧ Els (Rp.sl (Rp.int .i64)) (bl Z0 ++ A) w' dw q.Enum.Gens ∧ Els (Rp.sl (Rp.int .i64)) (bl Z0 ++ A) w' de q.Enum.Elems ∧ Els (Rp.int .i64) (bl Z0 ++ A) w' cV q.Enum.Prefix ∧ Els (Rp.int .i64) (bl Z0 ++ A) w' dx q.Enum.Last ∧ Els (Rp.sl (Rp.int .i64)) (bl Z0 ++ A) w' dg q.Enum.Right ∧ Els (rpRule) (bl Z0 ++ A) w' dh q.Enum.Rules ∧ Els (Rp.str) (bl Z0 ++ A) w' fd q.words ∧ Els (Rp.int .i64) (bl Z0 ++ A) w' eB q.behind ∧ Els (Rp.int .i64) (bl Z0 ++ A) w' eC q.single ∧ Fr (bl [.blk gs (.cells #[.int .i64 a0.Enum.Points, .bool a0.Enum.Monoid, .slice bE bD bF, .slice d7 d6 d8, .slice dU dT dV, .slice eO eN eP, .slice b9 bV ca, .slice eg d9 eh, .int .i64 a0.Enum.Done, .map (some cb), .slice f0 fY f5, .slice fM fL fN, .slice cB cA cC] 72 (0, 0)), .row 26 1 bE bD bF dR, .row 26 1 d7 d6 d8 gz, .row 3 1 dU dT dV gn, .row 3 1 eO eN eP gK, .row 26 1 b9 bV ca dK, .row 39 2 eg d9 eh gA, .row 9 1 f0 fY f5 jr, .row 3 1 fM fL fN iE, .row 3 1 cB cA cC fh, .any (mapE (fun a : List UInt8 => Value.string (gstr a)) (fun a : Int => Value.int .i64 a) cb a0.number)]) w0 (bl Z0) w' ∧ K r0 q) [.blk gs (.cells #[.int .i64 q.Enum.Points, .bool q.Enum.Monoid, .slice cu ct cv, .slice cg cf ci, .slice bY bX b5, .slice cx cw cy, .slice ck cj co, .slice cq cp cr, .int .i64 q.Enum.Done, .map (some cb), .slice cY cX c5, .slice cI cH cJ, .slice cL cK cM] 72 (0, 0)), .row 26 1 cu ct cv dw, .row 26 1 cg cf ci de, .row 3 1 bY bX b5 cV, .row 3 1 cx cw cy dx, .row 26 1 ck cj co dg, .row 39 2 cq cp cr dh, .row 9 1 cY cX c5 fd, .row 3 1 cI cH cJ eB, .row 3 1 cL cK cM eC, .any (mapE (fun a : List UInt8 => Value.string (gstr a)) (fun a : Int => Value.int .i64 a) cb q.number)]) := by
 refine CallsV.of (l := [.pointer (some ⟨gs, 0, none⟩)]) Try.func51 rfl Try.ntmps51 rfl ?_
 have hB := Fr.refl (bl [.blk gs (.cells #[.int .i64 a0.Enum.Points, .bool a0.Enum.Monoid, .slice bE bD bF, .slice d7 d6 d8, .slice dU dT dV, .slice eO eN eP, .slice b9 bV ca, .slice eg d9 eh, .int .i64 a0.Enum.Done, .map (some cb), .slice f0 fY f5, .slice fM fL fN, .slice cB cA cC] 72 (0, 0)), .row 26 1 bE bD bF dR, .row 26 1 d7 d6 d8 gz, .row 3 1 dU dT dV gn, .row 3 1 eO eN eP gK, .row 26 1 b9 bV ca dK, .row 39 2 eg d9 eh gA, .row 9 1 f0 fY f5 jr, .row 3 1 fM fL fN iE, .row 3 1 cB cA cC fh, .any (mapE (fun a : List UInt8 => Value.string (gstr a)) (fun a : Int => Value.int .i64 a) cb a0.number)]) w0
 unfold enumerate_run_process at H
 refine zq (zr (za rfl (zn (zq (zr ?_)))))
 refine zm rfl (zo (op_nilCheck rfl) (zo (op_fieldAddr Try.underlying72 rfl ti29 rfl (by decide)) (zo (op_fieldAddr Try.underlying29 rfl ti3 rfl (by decide)) (zs (oblk (i := 8) 0 hO rfl rfl Try.underlying3 rfl rfl) (za rfl ?_)))))
 refine zn (zq (zr (zm rfl (zo (op_nilCheck rfl) (zo (op_fieldAddr Try.underlying72 rfl ti29 rfl (by decide)) ?_)))))
 refine zo (op_fieldAddr Try.underlying29 rfl ti22 rfl (by decide)) (zs (oblk (i := 2) 0 hO rfl rfl Try.underlying22 rfl rfl) (zo (op_lenN Try.underlying22 rfl (aD.neq hO 1 rfl)) ?_))
 obtain ⟨h8, H⟩ := H
 obtain ⟨h9, H⟩ := H
 have hobt := omake (n := (a0.Enum.Gens.length : Int)) (r := Rp.int .i64) (d := (0 : Int)) Try.underlying26 ti3 (fun _ _ => rfl) rfl hO h8 h9 (by decide)
 obtain ⟨w1, p2, vs3, m8, hE5, hs6, Ab⟩ := hobt
 refine zg (Ab rfl rfl) ?_
 replace hO := m8.own
 refine za rfl (zn (zq (zq (zr (zm rfl ?_)))))
 refine zo (op_nilCheck rfl) (zo (op_fieldAddr Try.underlying72 rfl ti29 rfl (by decide)) (zo (op_fieldAddr Try.underlying29 rfl ti22 rfl (by decide)) (zs (oblk (i := 2) 1 hO rfl rfl Try.underlying22 rfl rfl) ?_)))
 replace aD := aD.ch m8.ch
 refine zo (op_lenN Try.underlying22 rfl (aD.neq hO 2 rfl)) (zm rfl (zn (zb ?_)))
 replace xE := xE.ch m8.ch
 replace wy := wy.ch m8.ch
 replace xQ := xQ.ch m8.ch
 replace aH := aH.ch m8.ch
 replace xF := xF.ch m8.ch
 replace A7 := A7.ch m8.ch
 replace Ae := Ae.ch m8.ch
 replace aY := aY.ch m8.ch
 replace hB := hB.trans m8.fr
 refine Go1.loopW (S := Nat × List Int × List (List Int) × List Int × List Int × List Rule × List Str × List Int × (List (Str × Int))) (fun s σ w => match s with | (k1_12, d_13, d_16, d_22, d_28, d_34, d_40, d_46, m1_52) => ∃ (lb : List Value), ∃ (n21 : Nat), ∃ (p19 : Option Addr), ∃ (c20 : Nat), ∃ (qc : List Value), ∃ (n27 : Nat), ∃ (p25 : Option Addr), ∃ (c26 : Nat), ∃ (rc : List Value), ∃ (n33 : Nat), ∃ (p31 : Option Addr), ∃ (c32 : Nat), ∃ (rf : List Value), ∃ (n39 : Nat), ∃ (p37 : Option Addr), ∃ (c38 : Nat), ∃ (rh : List Value), ∃ (n45 : Nat), ∃ (p43 : Option Addr), ∃ (c44 : Nat), ∃ (ri : List Value), ∃ (n51 : Nat), ∃ (p49 : Option Addr), ∃ (c50 : Nat), ∃ (rk : List Value), agrees σ [(0, .pointer (some ⟨gs, 0, none⟩)), (3, .int .i64 a0.Enum.Done), (4, .slice p2 a0.Enum.Gens.length a0.Enum.Gens.length), (27, .slice bE bD bF), (28, .int .i64 (a0.Enum.Gens.length : Int)), (29, .int .i64 (k1_12 : Int))] ∧ (fun Z0 => Owns n0 w Z0 A ∧ Els (Rp.int .i64) (bl Z0 ++ A) w lb d_13 ∧ Els (Rp.sl (Rp.int .i64)) (bl Z0 ++ A) w dR a0.Enum.Gens ∧ Els (Rp.sl (Rp.int .i64)) (bl Z0 ++ A) w qc d_16 ∧ Els (Rp.int .i64) (bl Z0 ++ A) w rc d_22 ∧ Els (Rp.int .i64) (bl Z0 ++ A) w rf d_28 ∧ Els (Rp.sl (Rp.int .i64)) (bl Z0 ++ A) w dK a0.Enum.Right ∧ Els (rpRule) (bl Z0 ++ A) w rh d_34 ∧ Els (Rp.str) (bl Z0 ++ A) w ri d_40 ∧ Els (Rp.int .i64) (bl Z0 ++ A) w rk d_46 ∧ Els (Rp.int .i64) (bl Z0 ++ A) w fh a0.single ∧ Fr (bl [.blk gs (.cells #[.int .i64 a0.Enum.Points, .bool a0.Enum.Monoid, .slice bE bD bF, .slice d7 d6 d8, .slice dU dT dV, .slice eO eN eP, .slice b9 bV ca, .slice eg d9 eh, .int .i64 a0.Enum.Done, .map (some cb), .slice f0 fY f5, .slice fM fL fN, .slice cB cA cC] 72 (0, 0)), .row 26 1 bE bD bF dR, .row 26 1 d7 d6 d8 gz, .row 3 1 dU dT dV gn, .row 3 1 eO eN eP gK, .row 26 1 b9 bV ca dK, .row 39 2 eg d9 eh gA, .row 9 1 f0 fY f5 jr, .row 3 1 fM fL fN iE, .row 3 1 cB cA cC fh, .any (mapE (fun a : List UInt8 => Value.string (gstr a)) (fun a : Int => Value.int .i64 a) cb a0.number)]) w0 (bl Z0) w) [.row 3 1 p2 a0.Enum.Gens.length a0.Enum.Gens.length lb, .blk gs (.cells #[.int .i64 a0.Enum.Points, .bool a0.Enum.Monoid, .slice bE bD bF, .slice p19 n21 c20, .slice p25 n27 c26, .slice p31 n33 c32, .slice b9 bV ca, .slice p37 n39 c38, .int .i64 a0.Enum.Done, .map (some cb), .slice p43 n45 c44, .slice p49 n51 c50, .slice cB cA cC] 72 (0, 0)), .row 26 1 bE bD bF dR, .row 26 1 p19 n21 c20 qc, .row 3 1 p25 n27 c26 rc, .row 3 1 p31 n33 c32 rf, .row 26 1 b9 bV ca dK, .row 39 2 p37 n39 c38 rh, .row 9 1 p43 n45 c44 ri, .row 3 1 p49 n51 c50 rk, .row 3 1 cB cA cC fh, .any (mapE (fun a : List UInt8 => Value.string (gstr a)) (fun a : Int => Value.int .i64 a) cb m1_52)]) H ⟨vs3, d6, d7, d8, gz, dT, dU, dV, gn, eN, eO, eP, gK, d9, eg, eh, gA, fY, f0, f5, jr, fL, fM, fN, iE, ⟨rfl, rfl, rfl, rfl, rfl, rfl, trivial⟩, hO, hE5, aD, xE, wy, xQ, aH, xF, A7, Ae, aY, hB⟩ ?_
 intro X1
 refine prE fun k1_12 => prE fun d_13 => prE fun d_16 => prE fun d_22 => prE fun d_28 => prE fun d_34 => prE fun d_40 => prE fun d_46 => fun m1_52 => ?_
 intro H hX1 σ w11
 refine exE fun lb => exE fun n21 => exE fun p19 => exE fun c20 => exE fun qc => exE fun n27 => exE fun p25 => exE fun c26 => exE fun rc => exE fun n33 => exE fun p31 => exE fun c32 => exE fun rf => exE fun n39 => exE fun p37 => exE fun c38 => exE fun rh => exE fun n45 => exE fun p43 => exE fun c44 => exE fun ri => exE fun n51 => exE fun p49 => exE fun c50 => exE fun rk => andE fun hag => andE fun hO => andE fun cG => andE fun aD => andE fun e8 => andE fun dM => andE fun dz => andE fun aH => andE fun cS => andE fun cO => andE fun cN => andE fun aY => fun hB => ?_
 dsimp only at H
 refine Go1.keep [(0, .pointer (some ⟨gs, 0, none⟩)), (3, .int .i64 a0.Enum.Done), (4, .slice p2 a0.Enum.Gens.length a0.Enum.Gens.length), (27, .slice bE bD bF), (28, .int .i64 (a0.Enum.Gens.length : Int)), (29, .int .i64 (k1_12 : Int))] hag ?_
 refine zq (zr ?_)
 by_cases h53 : (k1_12 : Int) < (a0.Enum.Gens.length : Int)
 ·replace H := ifp h53 H
  refine zo (fun w => opB (op_lss rfl rfl w) (decide_eq_true h53)) (zn (zq (zt rfl rfl (zk (zq ?_)))))
  refine zb (zq (zr (zm rfl ?_)))
  obtain ⟨h54, H⟩ := H
  obtain ⟨h55, H⟩ := H
  refine zo (op_index Try.underlying22 ti26 rfl rfl h54 (ltn (aD.neq hO 2 rfl) h55) (aD.psome hO 2 rfl h54 h55)) ?_
  have hobt := oldSl 2 hO rfl aD h54 h55
  obtain ⟨p56, c57, c6, US⟩ := hobt
  refine zs (US Try.underlying26 rfl rfl) (za rfl (za rfl (zn (zq (zr ?_)))))
  refine zm rfl (zo (op_nilCheck rfl) (zo (op_fieldAddr Try.underlying72 rfl ti29 rfl (by decide)) (zo (op_fieldAddr Try.underlying29 rfl ti22 rfl (by decide)) (zs (oblk (i := 3) 1 hO rfl rfl Try.underlying22 rfl rfl) (zm rfl ?_)))))
  obtain ⟨h60, H⟩ := H
  obtain ⟨h61, H⟩ := H
  refine zo (op_index Try.underlying22 ti26 rfl rfl h60 (ltn (e8.neq hO 3 rfl) h61) (e8.psome hO 3 rfl h60 h61)) ?_
  have hobt := oldSl 3 hO rfl e8 h60 h61
  obtain ⟨p62, c63, db, UT⟩ := hobt
  refine zs (UT Try.underlying26 rfl rfl) (zm rfl ?_)
  refine GoR.call (op_call body37 rfl (walk_trans_Compose hO.lt db c6 H)) rfl rfl ?_
  rintro v70 w67 ⟨r66, wb, wc, rfl, UU, cE, H⟩
  have p5 := Stp.same hO UU
  replace hO := p5.own
  refine za rfl (zn (zq ?_))
  refine Go1.drawS 0 [(0, .pure), (1, .pure), (2, .pure), (3, .stable), (4, .pure), (5, .loud), (6, .stable), (7, .pure), (8, .pure), (9, .pure), (10, .pure), (11, .pure)] mixed (by kernel_rfl) ?_
  intro w72 IV
  have iI := Stp.same hO IV
  replace hO := iI.own
  refine GoQ.pure rfl (op_move rfl) rfl rfl ?_
  refine GoQ.pure rfl (op_nilCheck rfl) rfl rfl ?_
  refine GoQ.pure rfl (op_fieldAddr Try.underlying72 rfl ti69 rfl (by decide)) rfl rfl ?_
  refine GoQ.stable rfl (oblk (i := 9) 1 hO rfl rfl Try.underlying69 rfl rfl) rfl rfl ?_
  refine GoQ.pure rfl (op_move rfl) rfl rfl ?_
  replace cE := cE.ch iI.ch
  refine GoQ.call rfl (op_call body61 rfl (walk_enumerate_text hO.lt cE H)) (fun v w hr => by obtain ⟨_, _, hs, _, _⟩ := hr; assumption) rfl rfl ?_
  rintro v79 w76 ⟨r75, rfl, IW, W7, H⟩
  have kI := Stp.same hO IW
  replace hO := kI.own
  by_cases h81 : mhas m1_52 r75 = true
  ·replace H := ifp h81 H
   refine GoQ.stable rfl (olookT (a := r75) (MK.str Try.underlying9) 11 hO rfl Try.underlying69 rfl rfl h81) rfl rfl ?_
   refine GoQ.pure rfl (op_move rfl) rfl rfl ?_
   refine GoQ.pure rfl (op_extract rfl rfl) rfl rfl ?_
   refine GoQ.pure rfl (op_extract rfl rfl) rfl rfl ?_
   refine GoQ.pure rfl (op_assign rfl) rfl rfl ?_
   refine GoQ.pure rfl (op_assign rfl) rfl rfl ?_
   refine GoQ.nil ?_
   refine zq ?_
   refine Go1.cut [(0, .pointer (some ⟨gs, 0, none⟩)), (3, .int .i64 a0.Enum.Done), (4, .slice p2 a0.Enum.Gens.length a0.Enum.Gens.length), (5, .int .i64 (k1_12 : Int)), (7, .slice wb r66.length wc), (8, .int .i64 (mgt m1_52 r75)), (9, .bool true), (27, .slice bE bD bF), (28, .int .i64 (a0.Enum.Gens.length : Int)), (29, .int .i64 (k1_12 : Int))] ⟨rfl, rfl, rfl, rfl, rfl, rfl, rfl, rfl, rfl, rfl, trivial⟩ ?_
   intro σ _
   refine zr (zm rfl (zo (op_nilCheck rfl) (zo (op_fieldAddr Try.underlying72 rfl ti70 rfl (by decide)) (zs (oblk (i := 10) 1 hO rfl rfl Try.underlying70 rfl rfl) (zm rfl ?_)))))
   obtain ⟨h82, H⟩ := H
   obtain ⟨h83, H⟩ := H
   have Z1 := (p5.ch.trans iI.ch).trans kI.ch
   replace cO := cO.ch Z1
   refine zo (op_index Try.underlying70 ti9 rfl rfl h82 (ltn (cO.neq hO 8 rfl) h83) (cO.psome hO 8 rfl h82 h83)) (zs (oldStr 8 hO rfl cO h82 h83 Try.underlying9 rfl rfl) ?_)
   have hle84 := Els.str_le cO h82 h83
   refine zm rfl ?_
   obtain ⟨h85, H⟩ := H
   refine zo (op_add rfl rfl (wrap_i64 h85)) (zo (op_conv Try.underlying3 Try.underlying21 rfl rfl) ?_)
   obtain ⟨h86, H⟩ := H
   obtain ⟨h87, H⟩ := H
   refine zo (op_convRS Try.underlying21 Try.underlying9 rfl h86 h87) ?_
   obtain ⟨h88, H⟩ := H
   refine zo (op_addS rfl rfl h88) (za rfl (zn (zq (zb (zq ?_)))))
   refine zr (zm rfl (zo (op_not rfl) (zm rfl (zp (zp ?_)))))
   refine zp (zp (zp (zp (zp (zo (op_pickF rfl rfl rfl) ?_)))))
   refine za rfl (zn (zf rfl rfl (zq ?_)))
   refine Go1.cut [(0, .pointer (some ⟨gs, 0, none⟩)), (3, .int .i64 a0.Enum.Done), (4, .slice p2 a0.Enum.Gens.length a0.Enum.Gens.length), (5, .int .i64 (k1_12 : Int)), (7, .slice wb r66.length wc), (8, .int .i64 (mgt m1_52 r75)), (9, .bool true), (10, .string (gstr ((ix d_40 a0.Enum.Done) ++ (chr (IntKind.i32.wrap ((97 : Int) + (k1_12 : Int))))))), (27, .slice bE bD bF), (28, .int .i64 (a0.Enum.Gens.length : Int)), (29, .int .i64 (k1_12 : Int))] ⟨rfl, rfl, rfl, rfl, rfl, rfl, rfl, rfl, rfl, rfl, rfl, trivial⟩ ?_
   intro σ _
   refine zr (zm rfl (zo (op_not rfl) (za rfl (zn (zf rfl rfl ?_)))))
   refine zq (zr (zm rfl (zo (op_nilCheck rfl) (zo (op_fieldAddr Try.underlying72 rfl ti70 rfl (by decide)) (zs (oblk (i := 10) 1 hO rfl rfl Try.underlying70 rfl rfl) ?_)))))
   refine zm rfl ?_
   obtain ⟨h89, H⟩ := H
   obtain ⟨h90, H⟩ := H
   refine zo (op_index Try.underlying70 ti9 rfl rfl h89 (ltn (cO.neq hO 8 rfl) h90) (cO.psome hO 8 rfl h89 h90)) (zs (oldStr 8 hO rfl cO h89 h90 Try.underlying9 rfl rfl) ?_)
   have hle91 := Els.str_le cO h89 h90
   by_cases h92 : (ix d_40 a0.Enum.Done) = (([] : Str))
   ·replace H := ifp h92 H
    refine zo (fun w => opB (op_neqS rfl rfl w) (ndT h92)) (zm rfl (zp (zp (zp (zp ?_)))))
    refine zp (zp (zp (zp (zp (zp ?_)))))
    refine zo (op_pickF rfl rfl rfl) (za rfl (zn (zf rfl rfl (zk ?_))))
    refine Go1.inBlock ?_
    refine Go1.cut [(0, .pointer (some ⟨gs, 0, none⟩)), (3, .int .i64 a0.Enum.Done), (4, .slice p2 a0.Enum.Gens.length a0.Enum.Gens.length), (5, .int .i64 (k1_12 : Int)), (8, .int .i64 (mgt m1_52 r75)), (27, .slice bE bD bF), (28, .int .i64 (a0.Enum.Gens.length : Int)), (29, .int .i64 (k1_12 : Int))] ⟨rfl, rfl, rfl, rfl, rfl, rfl, rfl, rfl, trivial⟩ ?_
    intro σ _
    refine zr (zm rfl (zm rfl (zm rfl ?_)))
    obtain ⟨h93, H⟩ := H
    obtain ⟨h94, H⟩ := H
    replace cG := cG.ch Z1
    refine zo (op_index Try.underlying26 ti3 rfl rfl h93 (ltn (cG.neq hO 0 rfl) h94) (cG.psome hO 0 rfl h93 h94)) ?_
    have hobt := ost (r := Rp.int .i64) rfl 0 hO rfl cG h93 h94 (v := .int .i64 (mgt m1_52 r75)) (u := (mgt m1_52 r75)) rfl rfl
    obtain ⟨w95, UV, ul, LT, Px⟩ := hobt
    dsimp only [sS, sZ] at ul LT
    refine zg (Px Try.underlying3 rfl ti3 (by exact rfl) (by exact rfl)) ?_
    replace hO := ul.own
    refine zn ?_
    refine Go1.inBlock ?_
    refine zr ?_
    replace aD := (aD.ch Z1).ch ul.ch
    refine zo (op_add rfl rfl (wrap_i64 (natbd h53 aD.bd))) (zm rfl (zn ?_))
    replace cO := cO.ch ul.ch
    have Z2 := Z1.trans ul.ch
    replace e8 := e8.ch Z2
    replace dM := dM.ch Z2
    replace dz := dz.ch Z2
    replace aH := aH.ch Z2
    replace cS := cS.ch Z2
    replace cN := cN.ch Z2
    replace aY := aY.ch Z2
    replace hB := (((hB.trans p5.fr).trans iI.fr).trans kI.fr).trans ul.fr
    exact hX1 _ H _ _ ⟨UV, n21, p19, c20, qc, n27, p25, c26, rc, n33, p31, c32, rf, n39, p37, c38, rh, n45, p43, c44, ri, n51, p49, c50, rk, ⟨rfl, rfl, rfl, rfl, rfl, rfl, trivial⟩, hO, LT, aD, e8, dM, dz, aH, cS, cO, cN, aY, hB⟩
   replace H := ifn h92 H
   refine zo (fun w => opB (op_neqS rfl rfl w) (ndF h92)) (zm rfl (zm rfl (zm rfl (zo (op_nilCheck rfl) (zo (op_fieldAddr Try.underlying72 rfl ti26 rfl (by decide)) ?_)))))
   refine zs (oblk (i := 11) 1 hO rfl rfl Try.underlying26 rfl rfl) (zm rfl ?_)
   obtain ⟨yv, H⟩ := H
   obtain ⟨t0, H⟩ := H
   replace cN := cN.ch Z1
   refine zo (op_index Try.underlying26 ti3 rfl rfl yv (ltn (cN.neq hO 9 rfl) t0) (cN.psome hO 9 rfl yv t0)) (zs (oldInt 9 hO rfl cN yv t0 Try.underlying3 rfl rfl) (zm rfl ?_))
   refine GoR.inl (vs := [.pointer (some ⟨gs, 0, none⟩), .int .i64 (ix d_46 a0.Enum.Done), .int .i64 (k1_12 : Int)]) (caps := []) rfl rfl body67 Try.func67 rfl Try.ntmps67 rfl rfl rfl ?_
   intro RhR102 hR102
   refine zq (zr (za rfl (zn (zq ?_))))
   refine Go1.cut [(0, .pointer (some ⟨gs, 0, none⟩)), (1, .int .i64 (ix d_46 a0.Enum.Done)), (2, .int .i64 (k1_12 : Int))] ⟨rfl, rfl, rfl, trivial⟩ ?_
   intro σ _
   refine zr (zm rfl (zm rfl (zm rfl ?_)))
   refine GoR.inl (vs := [.pointer (some ⟨gs, 0, none⟩), .int .i64 (ix d_46 a0.Enum.Done), .int .i64 (k1_12 : Int)]) (caps := []) rfl rfl body66 Try.func66 rfl Try.ntmps66 rfl rfl rfl ?_
   intro RhR103 hR103
   refine zq (zr (za rfl (zn (zq (zq ?_)))))
   refine zr (zm rfl ?_)
   by_cases yw : (ix d_46 a0.Enum.Done) = (-1 : Int)
   ·replace H := ifp yw H
    refine zo (fun w => opB (op_eql rfl rfl w) (decide_eq_true yw)) (zn (zt rfl rfl (zq (zr (zm rfl ?_)))))
    refine zo (op_nilCheck rfl) (zo (op_fieldAddr Try.underlying72 rfl ti26 rfl (by decide)) (zs (oblk (i := 12) 1 hO rfl rfl Try.underlying26 rfl rfl) (zm rfl ?_)))
    obtain ⟨vM, H⟩ := H
    obtain ⟨wv, H⟩ := H
    replace aY := aY.ch Z1
    refine zo (op_index Try.underlying26 ti3 rfl rfl vM (ltn (aY.neq hO 10 rfl) wv) (aY.psome hO 10 rfl vM wv)) (zs (oldInt 10 hO rfl aY vM wv Try.underlying3 rfl rfl) (za rfl (zn ?_)))
    refine Go1.ret1V Try.func66 rfl (show _ = .int .i64 (ix a0.single (k1_12 : Int)) from rfl) ?_
    refine hR103 _ _ ?_
    refine za rfl (zn (zq (zr (zm rfl (zo (op_nilCheck rfl) ?_)))))
    refine zo (op_fieldAddr Try.underlying72 rfl ti29 rfl (by decide)) (zo (op_fieldAddr Try.underlying29 rfl ti26 rfl (by decide)) (zs (oblk (i := 4) 1 hO rfl rfl Try.underlying26 rfl rfl) (zm rfl ?_)))
    obtain ⟨z9, H⟩ := H
    obtain ⟨DL, H⟩ := H
    replace dM := dM.ch Z1
    refine zo (op_index Try.underlying26 ti3 rfl rfl z9 (ltn (dM.neq hO 4 rfl) DL) (dM.psome hO 4 rfl z9 DL)) (zs (oldInt 4 hO rfl dM z9 DL Try.underlying3 rfl rfl) (zm rfl ?_))
    by_cases zG : (ix d_22 (ix a0.single (k1_12 : Int))) = (ix d_46 a0.Enum.Done)
    ·replace H := ifp zG H
     refine zo (fun w => opB (op_eql rfl rfl w) (decide_eq_true zG)) (zm rfl (zm rfl (zo (op_nilCheck rfl) (zo (op_fieldAddr Try.underlying72 rfl ti29 rfl (by decide)) (zo (op_fieldAddr Try.underlying29 rfl ti26 rfl (by decide)) ?_)))))
     refine zs (oblk (i := 5) 1 hO rfl rfl Try.underlying26 rfl rfl) (zm rfl ?_)
     obtain ⟨D4, H⟩ := H
     obtain ⟨IX, H⟩ := H
     replace dz := dz.ch Z1
     refine zo (op_index Try.underlying26 ti3 rfl rfl D4 (ltn (dz.neq hO 5 rfl) IX) (dz.psome hO 5 rfl D4 IX)) (zs (oldInt 5 hO rfl dz D4 IX Try.underlying3 rfl rfl) (zm rfl ?_))
     by_cases G1 : (ix d_28 (ix a0.single (k1_12 : Int))) = (k1_12 : Int)
     ·replace H := ifp G1 H
      refine zo (fun w => opB (op_eql rfl rfl w) (decide_eq_true G1)) (zo (op_pickT rfl rfl rfl) (za rfl (zn ?_)))
      refine Go1.ret1V Try.func67 rfl (show _ = .bool true from rfl) ?_
      refine hR102 _ _ ?_
      refine zo (op_pickT rfl rfl rfl) (za rfl (zn (zt rfl rfl ?_)))
      refine Go1.cut [(0, .pointer (some ⟨gs, 0, none⟩)), (3, .int .i64 a0.Enum.Done), (4, .slice p2 a0.Enum.Gens.length a0.Enum.Gens.length), (5, .int .i64 (k1_12 : Int)), (8, .int .i64 (mgt m1_52 r75)), (10, .string (gstr ((ix d_40 a0.Enum.Done) ++ (chr (IntKind.i32.wrap ((97 : Int) + (k1_12 : Int))))))), (27, .slice bE bD bF), (28, .int .i64 (a0.Enum.Gens.length : Int)), (29, .int .i64 (k1_12 : Int))] ⟨rfl, rfl, rfl, rfl, rfl, rfl, rfl, rfl, rfl, trivial⟩ ?_
      intro σ _
      refine Go1.drawS 5 [(0, .pure), (1, .pure), (2, .pure), (3, .pure), (4, .pure), (5, .stable), (6, .pure), (7, .pure), (8, .pure), (9, .pure), (10, .stable), (11, .pure), (12, .pure), (13, .stable), (14, .pure), (15, .loud), (16, .last), (17, .pure), (18, .pure), (19, .pure), (20, .last)] mixed (by kernel_rfl) ?_
      intro aaA Py
      have rm := Stp.same hO Py
      replace hO := rm.own
      refine GoQ.pure rfl (op_move rfl) rfl rfl ?_
      refine GoQ.pure rfl (op_move rfl) rfl rfl ?_
      refine GoQ.pure rfl (op_nilCheck rfl) rfl rfl ?_
      refine GoQ.pure rfl (op_fieldAddr Try.underlying72 rfl ti29 rfl (by decide)) rfl rfl ?_
      refine GoQ.pure rfl (op_fieldAddr Try.underlying29 rfl ti27 rfl (by decide)) rfl rfl ?_
      refine GoQ.stable rfl (oblk (i := 7) 1 hO rfl rfl Try.underlying27 rfl rfl) rfl rfl ?_
      refine GoQ.pure rfl (op_move rfl) rfl rfl ?_
      refine GoQ.pure rfl (op_move rfl) rfl rfl ?_
      refine GoQ.pure rfl (op_nilCheck rfl) rfl rfl ?_
      refine GoQ.pure rfl (op_fieldAddr Try.underlying72 rfl ti70 rfl (by decide)) rfl rfl ?_
      refine GoQ.stable rfl (oblk (i := 10) 1 hO rfl rfl Try.underlying70 rfl rfl) rfl rfl ?_
      refine GoQ.pure rfl (op_move rfl) rfl rfl ?_
      obtain ⟨G3, H⟩ := H
      obtain ⟨G4, H⟩ := H
      replace cO := cO.ch rm.ch
      refine GoQ.pure rfl (op_index Try.underlying70 ti9 rfl rfl G3 (ltn (cO.neq hO 8 rfl) G4) (cO.psome hO 8 rfl G3 G4)) rfl rfl ?_
      refine GoQ.stable rfl (oldStr 8 hO rfl cO G3 G4 Try.underlying9 rfl rfl) rfl rfl ?_
      have hle118 := Els.str_le cO G3 G4
      refine GoQ.pure rfl (op_build Try.underlying39 ti39 (pl := [(0, 1), (1, 1)]) (vs := [(0, .string (gstr ((ix d_40 a0.Enum.Done) ++ (chr (IntKind.i32.wrap ((97 : Int) + (k1_12 : Int))))))), (1, .string (gstr (ix d_40 (mgt m1_52 r75))))]) (cs := #[.string (gstr ((ix d_40 a0.Enum.Done) ++ (chr (IntKind.i32.wrap ((97 : Int) + (k1_12 : Int)))))), .string (gstr (ix d_40 (mgt m1_52 r75)))]) (by kernel_rfl) rfl (by kernel_rfl)) rfl rfl ?_
      have hobt := obuildN (r := rpRule) (n := 1) (parts := [(0, .agg #[.string (gstr ((ix d_40 a0.Enum.Done) ++ (chr (IntKind.i32.wrap ((97 : Int) + (k1_12 : Int)))))), .string (gstr (ix d_40 (mgt m1_52 r75)))])]) (vs := [.string (gstr ((ix d_40 a0.Enum.Done) ++ (chr (IntKind.i32.wrap ((97 : Int) + (k1_12 : Int)))))), .string (gstr (ix d_40 (mgt m1_52 r75)))]) (xs := [(⟨(ix d_40 a0.Enum.Done) ++ (chr (IntKind.i32.wrap ((97 : Int) + (k1_12 : Int)))), ix d_40 (mgt m1_52 r75)⟩ : Rule)]) Try.underlying27 ti39 hO (by decide) (by decide) (by kernel_rfl) (Els.flat1 (⟨(ix d_40 a0.Enum.Done) ++ (chr (IntKind.i32.wrap ((97 : Int) + (k1_12 : Int)))), ix d_40 (mgt m1_52 r75)⟩ : Rule) ⟨(lenApp h88), hle118⟩) rfl
      obtain ⟨aaB, lV, ir, Pz, G5, LU⟩ := hobt
      refine GoQ.loud rfl (LU rfl) G5 rfl rfl ?_
      replace hO := ir.own
      have hobt := freeze 0 hO rfl Pz
      obtain ⟨hO1, vu, Az, PA⟩ := hobt
      dsimp only [eS, eZ] at hO1 vu Az
      replace hB := (((((hB.trans p5.fr).trans iI.fr).trans kI.fr).trans rm.fr).trans ir.fr).trans (Owns.dropFr _ _ 0)
      dsimp only [eS, eZ] at hB
      replace hO := hO1; clear hO1
      obtain ⟨IY, H⟩ := H
      have Z3 := ((Z1.trans rm.ch).trans ir.ch).trans vu
      replace cS := cS.ch Z3
      have hobt := oapp Try.underlying27 ti39 rfl 7 hO rfl cS Az PA IY (by decide)
      obtain ⟨UW, lP, lQ, um, gF, g7, FV⟩ := hobt
      dsimp only [sS, sZ] at gF g7
      refine GoQ.last rfl (FV (by exact rfl) (by exact rfl)) rfl rfl ?_
      replace hO := gF.own
      refine GoQ.pure rfl (op_nilCheck rfl) rfl rfl ?_
      refine GoQ.pure rfl (op_fieldAddr Try.underlying72 rfl ti29 rfl (by decide)) rfl rfl ?_
      refine GoQ.pure rfl (op_fieldAddr Try.underlying29 rfl ti27 rfl (by decide)) rfl rfl ?_
      have hobt := oblkSt2 (v := .slice lP (n39 + 1) lQ) (i := 7) (cs' := #[.int .i64 a0.Enum.Points, .bool a0.Enum.Monoid, .slice bE bD bF, .slice p19 n21 c20, .slice p25 n27 c26, .slice p31 n33 c32, .slice b9 bV ca, .slice lP (n39 + 1) lQ, .int .i64 a0.Enum.Done, .map (some cb), .slice p43 n45 c44, .slice p49 n51 c50, .slice cB cA cC]) 1 hO rfl rfl rfl rfl
      obtain ⟨aaC, pi, LV⟩ := hobt
      dsimp only [sS, sZ] at pi
      refine GoQ.last rfl (LV Try.underlying27 rfl ti27 (by exact rfl) (by exact rfl)) rfl rfl ?_
      replace hO := pi.own
      refine GoQ.nil ?_
      refine Go1.inBlock ?_
      refine Go1.cut [(0, .pointer (some ⟨gs, 0, none⟩)), (3, .int .i64 a0.Enum.Done), (4, .slice p2 a0.Enum.Gens.length a0.Enum.Gens.length), (5, .int .i64 (k1_12 : Int)), (8, .int .i64 (mgt m1_52 r75)), (27, .slice bE bD bF), (28, .int .i64 (a0.Enum.Gens.length : Int)), (29, .int .i64 (k1_12 : Int))] ⟨rfl, rfl, rfl, rfl, rfl, rfl, rfl, rfl, trivial⟩ ?_
      intro σ _
      refine zr (zm rfl (zm rfl (zm rfl ?_)))
      obtain ⟨CR, H⟩ := H
      obtain ⟨CT, H⟩ := H
      replace cG := ((cG.ch Z3).ch gF.ch).ch pi.ch
      refine zo (op_index Try.underlying26 ti3 rfl rfl CR (ltn (cG.neq hO 0 rfl) CT) (cG.psome hO 0 rfl CR CT)) ?_
      have hobt := ost (r := Rp.int .i64) rfl 0 hO rfl cG CR CT (v := .int .i64 (mgt m1_52 r75)) (u := (mgt m1_52 r75)) rfl rfl
      obtain ⟨TH, PB, hV, J6, LX⟩ := hobt
      dsimp only [sS, sZ] at hV J6
      refine zg (LX Try.underlying3 rfl ti3 (by exact rfl) (by exact rfl)) ?_
      replace hO := hV.own
      refine zn ?_
      refine Go1.inBlock ?_
      refine zr ?_
      have Z4 := ((Z3.trans gF.ch).trans pi.ch).trans hV.ch
      replace aD := aD.ch Z4
      refine zo (op_add rfl rfl (wrap_i64 (natbd h53 aD.bd))) (zm rfl (zn ?_))
      replace g7 := (g7.ch pi.ch).ch hV.ch
      replace hB := ((hB.trans gF.fr).trans pi.fr).trans hV.fr
      have Z5 := (((ir.ch.trans vu).trans gF.ch).trans pi.ch).trans hV.ch
      replace cO := cO.ch Z5
      have Z6 := ((((rm.ch.trans ir.ch).trans vu).trans gF.ch).trans pi.ch).trans hV.ch
      replace dM := dM.ch Z6
      replace dz := dz.ch Z6
      replace cN := cN.ch Z6
      replace aY := aY.ch Z6
      replace e8 := e8.ch Z4
      replace aH := aH.ch Z4
      exact hX1 _ H _ _ ⟨PB, n21, p19, c20, qc, n27, p25, c26, rc, n33, p31, c32, rf, n39 + 1, lP, lQ, um, n45, p43, c44, ri, n51, p49, c50, rk, ⟨rfl, rfl, rfl, rfl, rfl, rfl, trivial⟩, hO, J6, aD, e8, dM, dz, aH, g7, cO, cN, aY, hB⟩
     replace H := ifn G1 H
     refine zo (fun w => opB (op_eql rfl rfl w) (decide_eq_false G1)) (zo (op_pickT rfl rfl rfl) (za rfl (zn ?_)))
     refine Go1.ret1V Try.func67 rfl (show _ = .bool false from rfl) ?_
     refine hR102 _ _ ?_
     refine zo (op_pickT rfl rfl rfl) (za rfl (zn (zf rfl rfl (zk ?_))))
     refine Go1.inBlock ?_
     refine zr (zm rfl (zm rfl (zm rfl ?_)))
     obtain ⟨FA, H⟩ := H
     obtain ⟨I0, H⟩ := H
     replace cG := cG.ch Z1
     refine zo (op_index Try.underlying26 ti3 rfl rfl FA (ltn (cG.neq hO 0 rfl) I0) (cG.psome hO 0 rfl FA I0)) ?_
     have hobt := ost (r := Rp.int .i64) rfl 0 hO rfl cG FA I0 (v := .int .i64 (mgt m1_52 r75)) (u := (mgt m1_52 r75)) rfl rfl
     obtain ⟨UX, PC, ro, J7, FW⟩ := hobt
     dsimp only [sS, sZ] at ro J7
     refine zg (FW Try.underlying3 rfl ti3 (by exact rfl) (by exact rfl)) ?_
     replace hO := ro.own
     refine zn ?_
     refine Go1.inBlock ?_
     refine zr ?_
     replace aD := (aD.ch Z1).ch ro.ch
     refine zo (op_add rfl rfl (wrap_i64 (natbd h53 aD.bd))) (zm rfl (zn ?_))
     replace dM := dM.ch ro.ch
     replace dz := dz.ch ro.ch
     replace cO := cO.ch ro.ch
     replace cN := cN.ch ro.ch
     replace aY := aY.ch ro.ch
     have Z7 := Z1.trans ro.ch
     replace e8 := e8.ch Z7
     replace aH := aH.ch Z7
     replace cS := cS.ch Z7
     replace hB := (((hB.trans p5.fr).trans iI.fr).trans kI.fr).trans ro.fr
     exact hX1 _ H _ _ ⟨PC, n21, p19, c20, qc, n27, p25, c26, rc, n33, p31, c32, rf, n39, p37, c38, rh, n45, p43, c44, ri, n51, p49, c50, rk, ⟨rfl, rfl, rfl, rfl, rfl, rfl, trivial⟩, hO, J7, aD, e8, dM, dz, aH, cS, cO, cN, aY, hB⟩
    replace H := ifn zG H
    refine zo (fun w => opB (op_eql rfl rfl w) (decide_eq_false zG)) (zm rfl (zp (zp (zp (zp ?_)))))
    refine zp (zp (zp (zp (zp (zp ?_)))))
    refine zo (op_pickF rfl rfl rfl) (za rfl (zn ?_))
    refine Go1.ret1V Try.func67 rfl (show _ = .bool false from rfl) ?_
    refine hR102 _ _ ?_
    refine zo (op_pickT rfl rfl rfl) (za rfl (zn (zf rfl rfl (zk ?_))))
    refine Go1.inBlock ?_
    refine Go1.cut [(0, .pointer (some ⟨gs, 0, none⟩)), (3, .int .i64 a0.Enum.Done), (4, .slice p2 a0.Enum.Gens.length a0.Enum.Gens.length), (5, .int .i64 (k1_12 : Int)), (8, .int .i64 (mgt m1_52 r75)), (27, .slice bE bD bF), (28, .int .i64 (a0.Enum.Gens.length : Int)), (29, .int .i64 (k1_12 : Int))] ⟨rfl, rfl, rfl, rfl, rfl, rfl, rfl, rfl, trivial⟩ ?_
    intro σ _
    refine zr (zm rfl (zm rfl (zm rfl ?_)))
    obtain ⟨DT, H⟩ := H
    obtain ⟨DU, H⟩ := H
    replace cG := cG.ch Z1
    refine zo (op_index Try.underlying26 ti3 rfl rfl DT (ltn (cG.neq hO 0 rfl) DU) (cG.psome hO 0 rfl DT DU)) ?_
    have hobt := ost (r := Rp.int .i64) rfl 0 hO rfl cG DT DU (v := .int .i64 (mgt m1_52 r75)) (u := (mgt m1_52 r75)) rfl rfl
    obtain ⟨UY, PD, rp, J8, LY⟩ := hobt
    dsimp only [sS, sZ] at rp J8
    refine zg (LY Try.underlying3 rfl ti3 (by exact rfl) (by exact rfl)) ?_
    replace hO := rp.own
    refine zn ?_
    refine Go1.inBlock ?_
    refine zr ?_
    replace aD := (aD.ch Z1).ch rp.ch
    refine zo (op_add rfl rfl (wrap_i64 (natbd h53 aD.bd))) (zm rfl (zn ?_))
    replace dM := dM.ch rp.ch
    replace cO := cO.ch rp.ch
    replace cN := cN.ch rp.ch
    replace aY := aY.ch rp.ch
    have Z8 := Z1.trans rp.ch
    replace e8 := e8.ch Z8
    replace dz := dz.ch Z8
    replace aH := aH.ch Z8
    replace cS := cS.ch Z8
    replace hB := (((hB.trans p5.fr).trans iI.fr).trans kI.fr).trans rp.fr
    exact hX1 _ H _ _ ⟨PD, n21, p19, c20, qc, n27, p25, c26, rc, n33, p31, c32, rf, n39, p37, c38, rh, n45, p43, c44, ri, n51, p49, c50, rk, ⟨rfl, rfl, rfl, rfl, rfl, rfl, trivial⟩, hO, J8, aD, e8, dM, dz, aH, cS, cO, cN, aY, hB⟩
   replace H := ifn yw H
   refine zo (fun w => opB (op_eql rfl rfl w) (decide_eq_false yw)) (zn (zf rfl rfl (zk (zq (zr ?_)))))
   refine zm rfl (zo (op_nilCheck rfl) (zo (op_fieldAddr Try.underlying72 rfl ti29 rfl (by decide)) (zo (op_fieldAddr Try.underlying29 rfl ti22 rfl (by decide)) (zs (oblk (i := 6) 1 hO rfl rfl Try.underlying22 rfl rfl) (zm rfl ?_)))))
   obtain ⟨zI, H⟩ := H
   obtain ⟨FF, H⟩ := H
   replace aH := aH.ch Z1
   refine zo (op_index Try.underlying22 ti26 rfl rfl zI (ltn (aH.neq hO 6 rfl) FF) (aH.psome hO 6 rfl zI FF)) ?_
   have hobt := oldSl 6 hO rfl aH zI FF
   obtain ⟨G6, G7, rN, PE⟩ := hobt
   refine zs (PE Try.underlying26 rfl rfl) (zm rfl ?_)
   obtain ⟨CU, H⟩ := H
   obtain ⟨zH, H⟩ := H
   refine zo (op_index Try.underlying26 ti3 rfl rfl CU zH (rN.some_ CU zH)) (zs (ldInt rN CU zH Try.underlying3 rfl rfl) (za rfl (zn ?_)))
   refine Go1.ret1V Try.func66 rfl (show _ = .int .i64 (ix (ix a0.Enum.Right (ix d_46 a0.Enum.Done)) (k1_12 : Int)) from rfl) ?_
   refine hR103 _ _ ?_
   refine za rfl (zn (zq ?_))
   refine Go1.cut [(0, .pointer (some ⟨gs, 0, none⟩)), (1, .int .i64 (ix d_46 a0.Enum.Done)), (2, .int .i64 (k1_12 : Int)), (7, .int .i64 (ix (ix a0.Enum.Right (ix d_46 a0.Enum.Done)) (k1_12 : Int)))] ⟨rfl, rfl, rfl, rfl, trivial⟩ ?_
   intro σ _
   refine zr (zm rfl (zo (op_nilCheck rfl) (zo (op_fieldAddr Try.underlying72 rfl ti29 rfl (by decide)) (zo (op_fieldAddr Try.underlying29 rfl ti26 rfl (by decide)) (zs (oblk (i := 4) 1 hO rfl rfl Try.underlying26 rfl rfl) ?_)))))
   refine zm rfl ?_
   obtain ⟨DO, H⟩ := H
   obtain ⟨DP, H⟩ := H
   replace dM := dM.ch Z1
   refine zo (op_index Try.underlying26 ti3 rfl rfl DO (ltn (dM.neq hO 4 rfl) DP) (dM.psome hO 4 rfl DO DP)) (zs (oldInt 4 hO rfl dM DO DP Try.underlying3 rfl rfl) (zm rfl ?_))
   by_cases CV : (ix d_22 (ix (ix a0.Enum.Right (ix d_46 a0.Enum.Done)) (k1_12 : Int))) = (ix d_46 a0.Enum.Done)
   ·replace H := ifp CV H
    refine zo (fun w => opB (op_eql rfl rfl w) (decide_eq_true CV)) (zm rfl (zm rfl (zo (op_nilCheck rfl) (zo (op_fieldAddr Try.underlying72 rfl ti29 rfl (by decide)) (zo (op_fieldAddr Try.underlying29 rfl ti26 rfl (by decide)) ?_)))))
    refine zs (oblk (i := 5) 1 hO rfl rfl Try.underlying26 rfl rfl) (zm rfl ?_)
    obtain ⟨C0, H⟩ := H
    obtain ⟨I1, H⟩ := H
    replace dz := dz.ch Z1
    refine zo (op_index Try.underlying26 ti3 rfl rfl C0 (ltn (dz.neq hO 5 rfl) I1) (dz.psome hO 5 rfl C0 I1)) (zs (oldInt 5 hO rfl dz C0 I1 Try.underlying3 rfl rfl) (zm rfl ?_))
    by_cases G8 : (ix d_28 (ix (ix a0.Enum.Right (ix d_46 a0.Enum.Done)) (k1_12 : Int))) = (k1_12 : Int)
    ·replace H := ifp G8 H
     refine zo (fun w => opB (op_eql rfl rfl w) (decide_eq_true G8)) (zo (op_pickT rfl rfl rfl) (za rfl (zn ?_)))
     refine Go1.ret1V Try.func67 rfl (show _ = .bool true from rfl) ?_
     refine hR102 _ _ ?_
     refine zo (op_pickT rfl rfl rfl) (za rfl (zn (zt rfl rfl ?_)))
     refine Go1.cut [(0, .pointer (some ⟨gs, 0, none⟩)), (3, .int .i64 a0.Enum.Done), (4, .slice p2 a0.Enum.Gens.length a0.Enum.Gens.length), (5, .int .i64 (k1_12 : Int)), (8, .int .i64 (mgt m1_52 r75)), (10, .string (gstr ((ix d_40 a0.Enum.Done) ++ (chr (IntKind.i32.wrap ((97 : Int) + (k1_12 : Int))))))), (27, .slice bE bD bF), (28, .int .i64 (a0.Enum.Gens.length : Int)), (29, .int .i64 (k1_12 : Int))] ⟨rfl, rfl, rfl, rfl, rfl, rfl, rfl, rfl, rfl, trivial⟩ ?_
     intro σ _
     refine Go1.drawS 5 [(0, .pure), (1, .pure), (2, .pure), (3, .pure), (4, .pure), (5, .stable), (6, .pure), (7, .pure), (8, .pure), (9, .pure), (10, .stable), (11, .pure), (12, .pure), (13, .stable), (14, .pure), (15, .loud), (16, .last), (17, .pure), (18, .pure), (19, .pure), (20, .last)] mixed (by kernel_rfl) ?_
     intro aaD PF
     have kE := Stp.same hO PF
     replace hO := kE.own
     refine GoQ.pure rfl (op_move rfl) rfl rfl ?_
     refine GoQ.pure rfl (op_move rfl) rfl rfl ?_
     refine GoQ.pure rfl (op_nilCheck rfl) rfl rfl ?_
     refine GoQ.pure rfl (op_fieldAddr Try.underlying72 rfl ti29 rfl (by decide)) rfl rfl ?_
     refine GoQ.pure rfl (op_fieldAddr Try.underlying29 rfl ti27 rfl (by decide)) rfl rfl ?_
     refine GoQ.stable rfl (oblk (i := 7) 1 hO rfl rfl Try.underlying27 rfl rfl) rfl rfl ?_
     refine GoQ.pure rfl (op_move rfl) rfl rfl ?_
     refine GoQ.pure rfl (op_move rfl) rfl rfl ?_
     refine GoQ.pure rfl (op_nilCheck rfl) rfl rfl ?_
     refine GoQ.pure rfl (op_fieldAddr Try.underlying72 rfl ti70 rfl (by decide)) rfl rfl ?_
     refine GoQ.stable rfl (oblk (i := 10) 1 hO rfl rfl Try.underlying70 rfl rfl) rfl rfl ?_
     refine GoQ.pure rfl (op_move rfl) rfl rfl ?_
     obtain ⟨BE, H⟩ := H
     obtain ⟨BG, H⟩ := H
     replace cO := cO.ch kE.ch
     refine GoQ.pure rfl (op_index Try.underlying70 ti9 rfl rfl BE (ltn (cO.neq hO 8 rfl) BG) (cO.psome hO 8 rfl BE BG)) rfl rfl ?_
     refine GoQ.stable rfl (oldStr 8 hO rfl cO BE BG Try.underlying9 rfl rfl) rfl rfl ?_
     have hle181 := Els.str_le cO BE BG
     refine GoQ.pure rfl (op_build Try.underlying39 ti39 (pl := [(0, 1), (1, 1)]) (vs := [(0, .string (gstr ((ix d_40 a0.Enum.Done) ++ (chr (IntKind.i32.wrap ((97 : Int) + (k1_12 : Int))))))), (1, .string (gstr (ix d_40 (mgt m1_52 r75))))]) (cs := #[.string (gstr ((ix d_40 a0.Enum.Done) ++ (chr (IntKind.i32.wrap ((97 : Int) + (k1_12 : Int)))))), .string (gstr (ix d_40 (mgt m1_52 r75)))]) (by kernel_rfl) rfl (by kernel_rfl)) rfl rfl ?_
     have hobt := obuildN (r := rpRule) (n := 1) (parts := [(0, .agg #[.string (gstr ((ix d_40 a0.Enum.Done) ++ (chr (IntKind.i32.wrap ((97 : Int) + (k1_12 : Int)))))), .string (gstr (ix d_40 (mgt m1_52 r75)))])]) (vs := [.string (gstr ((ix d_40 a0.Enum.Done) ++ (chr (IntKind.i32.wrap ((97 : Int) + (k1_12 : Int)))))), .string (gstr (ix d_40 (mgt m1_52 r75)))]) (xs := [(⟨(ix d_40 a0.Enum.Done) ++ (chr (IntKind.i32.wrap ((97 : Int) + (k1_12 : Int)))), ix d_40 (mgt m1_52 r75)⟩ : Rule)]) Try.underlying27 ti39 hO (by decide) (by decide) (by kernel_rfl) (Els.flat1 (⟨(ix d_40 a0.Enum.Done) ++ (chr (IntKind.i32.wrap ((97 : Int) + (k1_12 : Int)))), ix d_40 (mgt m1_52 r75)⟩ : Rule) ⟨(lenApp h88), hle181⟩) rfl
     obtain ⟨aaE, aaF, qj, PG, PH, L1⟩ := hobt
     refine GoQ.loud rfl (L1 rfl) PH rfl rfl ?_
     replace hO := qj.own
     have hobt := freeze 0 hO rfl PG
     obtain ⟨hO1, un, AA, PI⟩ := hobt
     dsimp only [eS, eZ] at hO1 un AA
     replace hB := (((((hB.trans p5.fr).trans iI.fr).trans kI.fr).trans kE.fr).trans qj.fr).trans (Owns.dropFr _ _ 0)
     dsimp only [eS, eZ] at hB
     replace hO := hO1; clear hO1
     obtain ⟨U0, H⟩ := H
     have Z9 := ((Z1.trans kE.ch).trans qj.ch).trans un
     replace cS := cS.ch Z9
     have hobt := oapp Try.underlying27 ti39 rfl 7 hO rfl cS AA PI U0 (by decide)
     obtain ⟨aaG, I2, I3, PJ, pk, Dq, L5⟩ := hobt
     dsimp only [sS, sZ] at pk Dq
     refine GoQ.last rfl (L5 (by exact rfl) (by exact rfl)) rfl rfl ?_
     replace hO := pk.own
     refine GoQ.pure rfl (op_nilCheck rfl) rfl rfl ?_
     refine GoQ.pure rfl (op_fieldAddr Try.underlying72 rfl ti29 rfl (by decide)) rfl rfl ?_
     refine GoQ.pure rfl (op_fieldAddr Try.underlying29 rfl ti27 rfl (by decide)) rfl rfl ?_
     have hobt := oblkSt2 (v := .slice I2 (n39 + 1) I3) (i := 7) (cs' := #[.int .i64 a0.Enum.Points, .bool a0.Enum.Monoid, .slice bE bD bF, .slice p19 n21 c20, .slice p25 n27 c26, .slice p31 n33 c32, .slice b9 bV ca, .slice I2 (n39 + 1) I3, .int .i64 a0.Enum.Done, .map (some cb), .slice p43 n45 c44, .slice p49 n51 c50, .slice cB cA cC]) 1 hO rfl rfl rfl rfl
     obtain ⟨aaH, oJ, L6⟩ := hobt
     dsimp only [sS, sZ] at oJ
     refine GoQ.last rfl (L6 Try.underlying27 rfl ti27 (by exact rfl) (by exact rfl)) rfl rfl ?_
     replace hO := oJ.own
     refine GoQ.nil ?_
     refine Go1.inBlock ?_
     refine Go1.cut [(0, .pointer (some ⟨gs, 0, none⟩)), (3, .int .i64 a0.Enum.Done), (4, .slice p2 a0.Enum.Gens.length a0.Enum.Gens.length), (5, .int .i64 (k1_12 : Int)), (8, .int .i64 (mgt m1_52 r75)), (27, .slice bE bD bF), (28, .int .i64 (a0.Enum.Gens.length : Int)), (29, .int .i64 (k1_12 : Int))] ⟨rfl, rfl, rfl, rfl, rfl, rfl, rfl, rfl, trivial⟩ ?_
     intro σ _
     refine zr (zm rfl (zm rfl (zm rfl ?_)))
     obtain ⟨I4, H⟩ := H
     obtain ⟨I5, H⟩ := H
     replace cG := ((cG.ch Z9).ch pk.ch).ch oJ.ch
     refine zo (op_index Try.underlying26 ti3 rfl rfl I4 (ltn (cG.neq hO 0 rfl) I5) (cG.psome hO 0 rfl I4 I5)) ?_
     have hobt := ost (r := Rp.int .i64) rfl 0 hO rfl cG I4 I5 (v := .int .i64 (mgt m1_52 r75)) (u := (mgt m1_52 r75)) rfl rfl
     obtain ⟨U1, PK, pm, J9, L7⟩ := hobt
     dsimp only [sS, sZ] at pm J9
     refine zg (L7 Try.underlying3 rfl ti3 (by exact rfl) (by exact rfl)) ?_
     replace hO := pm.own
     refine zn ?_
     refine Go1.inBlock ?_
     refine zr ?_
     have Z10 := ((Z9.trans pk.ch).trans oJ.ch).trans pm.ch
     replace aD := aD.ch Z10
     refine zo (op_add rfl rfl (wrap_i64 (natbd h53 aD.bd))) (zm rfl (zn ?_))
     replace Dq := (Dq.ch oJ.ch).ch pm.ch
     replace hB := ((hB.trans pk.fr).trans oJ.fr).trans pm.fr
     have Z11 := (((qj.ch.trans un).trans pk.ch).trans oJ.ch).trans pm.ch
     replace cO := cO.ch Z11
     have Z12 := ((((kE.ch.trans qj.ch).trans un).trans pk.ch).trans oJ.ch).trans pm.ch
     replace dM := dM.ch Z12
     replace dz := dz.ch Z12
     replace aH := aH.ch Z12
     replace cN := cN.ch Z12
     replace e8 := e8.ch Z10
     replace aY := aY.ch Z10
     exact hX1 _ H _ _ ⟨PK, n21, p19, c20, qc, n27, p25, c26, rc, n33, p31, c32, rf, n39 + 1, I2, I3, PJ, n45, p43, c44, ri, n51, p49, c50, rk, ⟨rfl, rfl, rfl, rfl, rfl, rfl, trivial⟩, hO, J9, aD, e8, dM, dz, aH, Dq, cO, cN, aY, hB⟩
    replace H := ifn G8 H
    refine zo (fun w => opB (op_eql rfl rfl w) (decide_eq_false G8)) (zo (op_pickT rfl rfl rfl) (za rfl (zn ?_)))
    refine Go1.ret1V Try.func67 rfl (show _ = .bool false from rfl) ?_
    refine hR102 _ _ ?_
    refine zo (op_pickT rfl rfl rfl) (za rfl (zn (zf rfl rfl (zk ?_))))
    refine Go1.inBlock ?_
    refine zr (zm rfl (zm rfl (zm rfl ?_)))
    obtain ⟨yq, H⟩ := H
    obtain ⟨BH, H⟩ := H
    replace cG := cG.ch Z1
    refine zo (op_index Try.underlying26 ti3 rfl rfl yq (ltn (cG.neq hO 0 rfl) BH) (cG.psome hO 0 rfl yq BH)) ?_
    have hobt := ost (r := Rp.int .i64) rfl 0 hO rfl cG yq BH (v := .int .i64 (mgt m1_52 r75)) (u := (mgt m1_52 r75)) rfl rfl
    obtain ⟨KR, PM, qk, AB, L8⟩ := hobt
    dsimp only [sS, sZ] at qk AB
    refine zg (L8 Try.underlying3 rfl ti3 (by exact rfl) (by exact rfl)) ?_
    replace hO := qk.own
    refine zn ?_
    refine Go1.inBlock ?_
    refine zr ?_
    replace aD := (aD.ch Z1).ch qk.ch
    refine zo (op_add rfl rfl (wrap_i64 (natbd h53 aD.bd))) (zm rfl (zn ?_))
    replace dM := dM.ch qk.ch
    replace dz := dz.ch qk.ch
    replace aH := aH.ch qk.ch
    replace cO := cO.ch qk.ch
    replace cN := cN.ch qk.ch
    have Z13 := Z1.trans qk.ch
    replace e8 := e8.ch Z13
    replace cS := cS.ch Z13
    replace aY := aY.ch Z13
    replace hB := (((hB.trans p5.fr).trans iI.fr).trans kI.fr).trans qk.fr
    exact hX1 _ H _ _ ⟨PM, n21, p19, c20, qc, n27, p25, c26, rc, n33, p31, c32, rf, n39, p37, c38, rh, n45, p43, c44, ri, n51, p49, c50, rk, ⟨rfl, rfl, rfl, rfl, rfl, rfl, trivial⟩, hO, AB, aD, e8, dM, dz, aH, cS, cO, cN, aY, hB⟩
   replace H := ifn CV H
   refine zo (fun w => opB (op_eql rfl rfl w) (decide_eq_false CV)) (zm rfl (zp (zp (zp (zp ?_)))))
   refine zp (zp (zp (zp (zp (zp ?_)))))
   refine zo (op_pickF rfl rfl rfl) (za rfl (zn ?_))
   refine Go1.ret1V Try.func67 rfl (show _ = .bool false from rfl) ?_
   refine hR102 _ _ ?_
   refine zo (op_pickT rfl rfl rfl) (za rfl (zn (zf rfl rfl (zk ?_))))
   refine Go1.inBlock ?_
   refine Go1.cut [(0, .pointer (some ⟨gs, 0, none⟩)), (3, .int .i64 a0.Enum.Done), (4, .slice p2 a0.Enum.Gens.length a0.Enum.Gens.length), (5, .int .i64 (k1_12 : Int)), (8, .int .i64 (mgt m1_52 r75)), (27, .slice bE bD bF), (28, .int .i64 (a0.Enum.Gens.length : Int)), (29, .int .i64 (k1_12 : Int))] ⟨rfl, rfl, rfl, rfl, rfl, rfl, rfl, rfl, trivial⟩ ?_
   intro σ _
   refine zr (zm rfl (zm rfl (zm rfl ?_)))
   obtain ⟨Dd, H⟩ := H
   obtain ⟨De, H⟩ := H
   replace cG := cG.ch Z1
   refine zo (op_index Try.underlying26 ti3 rfl rfl Dd (ltn (cG.neq hO 0 rfl) De) (cG.psome hO 0 rfl Dd De)) ?_
   have hobt := ost (r := Rp.int .i64) rfl 0 hO rfl cG Dd De (v := .int .i64 (mgt m1_52 r75)) (u := (mgt m1_52 r75)) rfl rfl
   obtain ⟨aaI, PN, gr, Ka, L9⟩ := hobt
   dsimp only [sS, sZ] at gr Ka
   refine zg (L9 Try.underlying3 rfl ti3 (by exact rfl) (by exact rfl)) ?_
   replace hO := gr.own
   refine zn ?_
   refine Go1.inBlock ?_
   refine zr ?_
   replace aD := (aD.ch Z1).ch gr.ch
   refine zo (op_add rfl rfl (wrap_i64 (natbd h53 aD.bd))) (zm rfl (zn ?_))
   replace dM := dM.ch gr.ch
   replace aH := aH.ch gr.ch
   replace cO := cO.ch gr.ch
   replace cN := cN.ch gr.ch
   have Z14 := Z1.trans gr.ch
   replace e8 := e8.ch Z14
   replace dz := dz.ch Z14
   replace cS := cS.ch Z14
   replace aY := aY.ch Z14
   replace hB := (((hB.trans p5.fr).trans iI.fr).trans kI.fr).trans gr.fr
   exact hX1 _ H _ _ ⟨PN, n21, p19, c20, qc, n27, p25, c26, rc, n33, p31, c32, rf, n39, p37, c38, rh, n45, p43, c44, ri, n51, p49, c50, rk, ⟨rfl, rfl, rfl, rfl, rfl, rfl, trivial⟩, hO, Ka, aD, e8, dM, dz, aH, cS, cO, cN, aY, hB⟩
  replace H := ifn h81 H
  refine GoQ.stable rfl (olookF (a := r75) (MK.str Try.underlying9) 11 hO rfl Try.underlying69 ti3 rfl rfl h81) rfl rfl ?_
  refine GoQ.pure rfl (op_move rfl) rfl rfl ?_
  refine GoQ.pure rfl (op_extract rfl rfl) rfl rfl ?_
  refine GoQ.pure rfl (op_extract rfl rfl) rfl rfl ?_
  refine GoQ.pure rfl (op_assign rfl) rfl rfl ?_
  refine GoQ.pure rfl (op_assign rfl) rfl rfl ?_
  refine GoQ.nil ?_
  refine zq (zr (zm rfl (zo (op_nilCheck rfl) (zo (op_fieldAddr Try.underlying72 rfl ti70 rfl (by decide)) (zs (oblk (i := 10) 1 hO rfl rfl Try.underlying70 rfl rfl) ?_)))))
  refine zm rfl ?_
  obtain ⟨BR, H⟩ := H
  obtain ⟨G9, H⟩ := H
  have Z15 := (p5.ch.trans iI.ch).trans kI.ch
  replace cO := cO.ch Z15
  refine zo (op_index Try.underlying70 ti9 rfl rfl BR (ltn (cO.neq hO 8 rfl) G9) (cO.psome hO 8 rfl BR G9)) (zs (oldStr 8 hO rfl cO BR G9 Try.underlying9 rfl rfl) ?_)
  have hle227 := Els.str_le cO BR G9
  refine zm rfl ?_
  obtain ⟨U2, H⟩ := H
  refine zo (op_add rfl rfl (wrap_i64 U2)) (zo (op_conv Try.underlying3 Try.underlying21 rfl rfl) ?_)
  obtain ⟨U3, H⟩ := H
  obtain ⟨U4, H⟩ := H
  refine zo (op_convRS Try.underlying21 Try.underlying9 rfl U3 U4) ?_
  obtain ⟨I6, H⟩ := H
  refine zo (op_addS rfl rfl I6) (za rfl (zn (zq (zb (zq ?_)))))
  refine Go1.cut [(0, .pointer (some ⟨gs, 0, none⟩)), (3, .int .i64 a0.Enum.Done), (4, .slice p2 a0.Enum.Gens.length a0.Enum.Gens.length), (5, .int .i64 (k1_12 : Int)), (7, .slice wb r66.length wc), (8, .int .i64 (0 : Int)), (9, .bool false), (10, .string (gstr ((ix d_40 a0.Enum.Done) ++ (chr (IntKind.i32.wrap ((97 : Int) + (k1_12 : Int))))))), (27, .slice bE bD bF), (28, .int .i64 (a0.Enum.Gens.length : Int)), (29, .int .i64 (k1_12 : Int))] ⟨rfl, rfl, rfl, rfl, rfl, rfl, rfl, rfl, rfl, rfl, rfl, trivial⟩ ?_
  intro σ _
  refine zr (zm rfl (zo (op_not rfl) (zm rfl (zm rfl (zo (op_nilCheck rfl) ?_)))))
  refine zo (op_fieldAddr Try.underlying72 rfl ti29 rfl (by decide)) (zo (op_fieldAddr Try.underlying29 rfl ti22 rfl (by decide)) (zs (oblk (i := 3) 1 hO rfl rfl Try.underlying22 rfl rfl) ?_))
  replace e8 := e8.ch Z15
  refine zo (op_lenN Try.underlying22 rfl (e8.neq hO 3 rfl)) ?_
  by_cases Ha : (d_16.length : Int) = (2000 : Int)
  ·replace H := ifp Ha H
   refine zo (fun w => opB (op_eql rfl rfl w) (decide_eq_true Ha)) (zo (op_pickT rfl rfl rfl) (za rfl (zn (zt rfl rfl (zq ?_)))))
   refine zr (za rfl (zn ?_))
   replace hO := hO.drop 0
   replace e8 := e8.ch (Owns.dropCh _ _ 0)
   replace cO := cO.ch (Owns.dropCh _ _ 0)
   replace cE := (cE.ch kI.ch).ch (Owns.dropCh _ _ 0)
   have Z16 := Z15.trans (Owns.dropCh _ _ 0)
   replace aD := aD.ch Z16
   replace dM := dM.ch Z16
   replace dz := dz.ch Z16
   replace aH := aH.ch Z16
   replace cS := cS.ch Z16
   replace cN := cN.ch Z16
   replace aY := aY.ch Z16
   replace c6 := c6.ch Z16
   replace db := db.ch Z16
   replace hB := (((hB.trans p5.fr).trans iI.fr).trans kI.fr).trans (Owns.dropFr _ _ 0)
   dsimp only [eS, eZ] at hB hO c6 db cE aD e8 dM dz aH cS cO cN aY
   refine Go1.ret1 Try.func51 rfl ?_
   exact ⟨((3 : Int)), (⟨(⟨a0.Enum.Points, a0.Enum.Monoid, a0.Enum.Gens, d_16, d_22, d_28, a0.Enum.Right, d_34, a0.Enum.Done⟩ : Enum), m1_52, d_40, d_46, a0.single⟩ : run), bD, bE, bF, dR, n21, p19, c20, qc, n27, p25, c26, rc, n33, p31, c32, rf, bV, b9, ca, dK, n39, p37, c38, rh, n45, p43, c44, ri, n51, p49, c50, rk, cA, cB, cC, fh, rfl, hO, aD, e8, dM, dz, aH, cS, cO, cN, aY, hB, H⟩
  replace H := ifn Ha H
  refine zo (fun w => opB (op_eql rfl rfl w) (decide_eq_false Ha)) (zo (op_pickT rfl rfl rfl) (za rfl (zn (zf rfl rfl (zq ?_)))))
  refine zr (zm rfl (zo (op_not rfl) (za rfl (zn (zt rfl rfl ?_)))))
  refine zr (zm rfl (zm rfl (zm rfl (zm rfl (zm rfl ?_)))))
  refine zm rfl (zm rfl (zo (op_nilCheck rfl) (zo (op_fieldAddr Try.underlying72 rfl ti26 rfl (by decide)) (zs (oblk (i := 11) 1 hO rfl rfl Try.underlying26 rfl rfl) (zm rfl ?_)))))
  obtain ⟨I7, H⟩ := H
  obtain ⟨I8, H⟩ := H
  replace cN := cN.ch Z15
  refine zo (op_index Try.underlying26 ti3 rfl rfl I7 (ltn (cN.neq hO 9 rfl) I8) (cN.psome hO 9 rfl I7 I8)) (zs (oldInt 9 hO rfl cN I7 I8 Try.underlying3 rfl rfl) (zm rfl ?_))
  refine GoR.inl (vs := [.pointer (some ⟨gs, 0, none⟩), .int .i64 (ix d_46 a0.Enum.Done), .int .i64 (k1_12 : Int)]) (caps := []) rfl rfl body66 Try.func66 rfl Try.ntmps66 rfl rfl rfl ?_
  intro RhR235 hR235
  refine zq ?_
  refine Go1.cut [(0, .pointer (some ⟨gs, 0, none⟩)), (1, .int .i64 (ix d_46 a0.Enum.Done)), (2, .int .i64 (k1_12 : Int))] ⟨rfl, rfl, rfl, trivial⟩ ?_
  intro σ _
  refine zr (za rfl (zn (zq (zq (zr ?_)))))
  refine zm rfl ?_
  by_cases Hb : (ix d_46 a0.Enum.Done) = (-1 : Int)
  ·replace H := ifp Hb H
   refine zo (fun w => opB (op_eql rfl rfl w) (decide_eq_true Hb)) (zn (zt rfl rfl (zq (zr (zm rfl ?_)))))
   refine zo (op_nilCheck rfl) (zo (op_fieldAddr Try.underlying72 rfl ti26 rfl (by decide)) (zs (oblk (i := 12) 1 hO rfl rfl Try.underlying26 rfl rfl) (zm rfl ?_)))
   obtain ⟨I9, H⟩ := H
   obtain ⟨Ja, H⟩ := H
   replace aY := aY.ch Z15
   refine zo (op_index Try.underlying26 ti3 rfl rfl I9 (ltn (aY.neq hO 10 rfl) Ja) (aY.psome hO 10 rfl I9 Ja)) (zs (oldInt 10 hO rfl aY I9 Ja Try.underlying3 rfl rfl) (za rfl (zn ?_)))
   refine Go1.ret1V Try.func66 rfl (show _ = .int .i64 (ix a0.single (k1_12 : Int)) from rfl) ?_
   refine hR235 _ _ ?_
   refine GoR.inl (vs := [.pointer (some ⟨gs, 0, none⟩), .slice wb r66.length wc, .int .i64 a0.Enum.Done, .int .i64 (k1_12 : Int), .string (gstr ((ix d_40 a0.Enum.Done) ++ (chr (IntKind.i32.wrap ((97 : Int) + (k1_12 : Int)))))), .int .i64 (ix a0.single (k1_12 : Int))]) (caps := []) rfl rfl body65 Try.func65 rfl Try.ntmps65 rfl rfl rfl ?_
   intro RhR239 hR239
   refine zq (zr (za rfl (zn (zq (zr ?_)))))
   refine zm rfl (zo (op_nilCheck rfl) (zo (op_fieldAddr Try.underlying72 rfl ti29 rfl (by decide)) (zo (op_fieldAddr Try.underlying29 rfl ti22 rfl (by decide)) (zs (oblk (i := 3) 1 hO rfl rfl Try.underlying22 rfl rfl) (zo (op_lenN Try.underlying22 rfl (e8.neq hO 3 rfl)) ?_)))))
   refine za rfl (zn (zq ?_))
   refine Go1.cut [(0, .pointer (some ⟨gs, 0, none⟩)), (1, .slice wb r66.length wc), (2, .int .i64 a0.Enum.Done), (3, .int .i64 (k1_12 : Int)), (4, .string (gstr ((ix d_40 a0.Enum.Done) ++ (chr (IntKind.i32.wrap ((97 : Int) + (k1_12 : Int))))))), (5, .int .i64 (ix a0.single (k1_12 : Int))), (13, .int .i64 (d_16.length : Int))] ⟨rfl, rfl, rfl, rfl, rfl, rfl, rfl, trivial⟩ ?_
   intro σ _
   refine Go1.drawS 1 [(0, .pure), (1, .pure), (2, .pure), (3, .stable), (4, .pure), (6, .pure), (5, .loud), (7, .last)] mixed (by kernel_rfl) ?_
   intro Ue GG
   have rq := Stp.same hO GG
   replace hO := rq.own
   refine GoQ.pure rfl (op_move rfl) rfl rfl ?_
   refine GoQ.pure rfl (op_nilCheck rfl) rfl rfl ?_
   refine GoQ.pure rfl (op_fieldAddr Try.underlying72 rfl ti69 rfl (by decide)) rfl rfl ?_
   refine GoQ.stable rfl (oblk (i := 9) 1 hO rfl rfl Try.underlying69 rfl rfl) rfl rfl ?_
   refine GoQ.pure rfl (op_move rfl) rfl rfl ?_
   refine GoQ.pure rfl (op_move rfl) rfl rfl ?_
   replace cE := (cE.ch kI.ch).ch rq.ch
   refine GoQ.call rfl (op_call body61 rfl (walk_enumerate_text hO.lt cE H)) (fun v w hr => by obtain ⟨_, _, hs, _, _⟩ := hr; assumption) rfl rfl ?_
   rintro aaJ aaK ⟨r243, rfl, PO, W1, H⟩
   have rs := Stp.same hO PO
   replace hO := rs.own
   have hobt := omapUpd (MK.str Try.underlying9) 11 hO rfl Try.underlying69 r243 (d_16.length : Int)
   obtain ⟨aaL, ig, Ma⟩ := hobt
   dsimp only [sS, sZ] at ig
   refine GoQ.last rfl (Ma (by exact rfl) (by exact rfl) (by exact rfl)) rfl rfl ?_
   replace hO := ig.own
   refine GoQ.nil ?_
   refine zq (zr (zm rfl (zm rfl (zo (op_nilCheck rfl) (zo (op_fieldAddr Try.underlying72 rfl ti29 rfl (by decide)) ?_)))))
   refine zo (op_fieldAddr Try.underlying29 rfl ti22 rfl (by decide)) (zs (oblk (i := 3) 1 hO rfl rfl Try.underlying22 rfl rfl) (zm rfl ?_))
   replace cE := (cE.ch rs.ch).ch ig.ch
   have hobt := obuild (r := Rp.sl (Rp.int .i64)) (n := 1) (parts := [(0, .slice wb r66.length wc)]) (vs := [.slice wb r66.length wc]) (xs := [r66]) rfl Try.underlying22 ti26 hO (by decide) (by kernel_rfl) (Els.cons rfl ⟨wb, wc, rfl, cE⟩ (Els.nil _ _ _) (by simp [mx])) rfl
   obtain ⟨U5, D5, ru, PP, Xx, Mb⟩ := hobt
   refine zg (Mb rfl) ?_
   replace hO := ru.own
   have hobt := freeze 0 hO rfl PP
   obtain ⟨hO1, vw, ia, PQ⟩ := hobt
   dsimp only [eS, eZ] at hO1 vw ia
   replace hB := (((((((hB.trans p5.fr).trans iI.fr).trans kI.fr).trans rq.fr).trans rs.fr).trans ig.fr).trans ru.fr).trans (Owns.dropFr _ _ 0)
   dsimp only [eS, eZ] at hB
   replace hO := hO1; clear hO1
   obtain ⟨U6, H⟩ := H
   have Z17 := (((rq.ch.trans rs.ch).trans ig.ch).trans ru.ch).trans vw
   replace e8 := e8.ch Z17
   have hobt := oapp Try.underlying22 ti26 rfl 3 hO rfl e8 ia PQ U6 (by decide)
   obtain ⟨aaM, D6, D7, PR, ql, iA, Mc⟩ := hobt
   dsimp only [sS, sZ] at ql iA
   refine zg (Mc (by exact rfl) (by exact rfl)) ?_
   replace hO := ql.own
   refine zo (op_nilCheck rfl) (zo (op_fieldAddr Try.underlying72 rfl ti29 rfl (by decide)) (zo (op_fieldAddr Try.underlying29 rfl ti22 rfl (by decide)) ?_))
   have hobt := oblkSt2 (v := .slice D6 (n21 + 1) D7) (i := 3) (cs' := #[.int .i64 a0.Enum.Points, .bool a0.Enum.Monoid, .slice bE bD bF, .slice D6 (n21 + 1) D7, .slice p25 n27 c26, .slice p31 n33 c32, .slice b9 bV ca, .slice p37 n39 c38, .int .i64 a0.Enum.Done, .map (some cb), .slice p43 n45 c44, .slice p49 n51 c50, .slice cB cA cC]) 1 hO rfl rfl rfl rfl
   obtain ⟨aaN, po, Me⟩ := hobt
   dsimp only [sS, sZ] at po
   refine zg (Me Try.underlying22 rfl ti22 (by exact rfl) (by exact rfl)) ?_
   replace hO := po.own
   refine zn (zq ?_)
   refine Go1.cut [(0, .pointer (some ⟨gs, 0, none⟩)), (2, .int .i64 a0.Enum.Done), (3, .int .i64 (k1_12 : Int)), (4, .string (gstr ((ix d_40 a0.Enum.Done) ++ (chr (IntKind.i32.wrap ((97 : Int) + (k1_12 : Int))))))), (5, .int .i64 (ix a0.single (k1_12 : Int))), (13, .int .i64 (d_16.length : Int))] ⟨rfl, rfl, rfl, rfl, rfl, rfl, trivial⟩ ?_
   intro σ _
   refine zr (zm rfl (zm rfl (zo (op_nilCheck rfl) (zo (op_fieldAddr Try.underlying72 rfl ti29 rfl (by decide)) (zo (op_fieldAddr Try.underlying29 rfl ti26 rfl (by decide)) ?_)))))
   refine zs (oblk (i := 4) 1 hO rfl rfl Try.underlying26 rfl rfl) (zm rfl ?_)
   have hobt := obuild (r := Rp.int .i64) (n := 1) (parts := [(0, .int .i64 a0.Enum.Done)]) (vs := [.int .i64 a0.Enum.Done]) (xs := [a0.Enum.Done]) rfl Try.underlying26 ti3 hO (by decide) (by kernel_rfl) (Els.cons rfl rfl (Els.nil _ _ _) (by simp [mx])) rfl
   obtain ⟨aaO, aaP, ii, PS, Xy, Mf⟩ := hobt
   refine zg (Mf rfl) ?_
   replace hO := ii.own
   have hobt := freeze 0 hO rfl PS
   obtain ⟨hO1, uo, j4, PT⟩ := hobt
   dsimp only [eS, eZ] at hO1 uo j4
   replace hB := (((hB.trans ql.fr).trans po.fr).trans ii.fr).trans (Owns.dropFr _ _ 0)
   dsimp only [eS, eZ] at hB
   replace hO := hO1; clear hO1
   obtain ⟨U7, H⟩ := H
   have Z18 := ((((((((Z15.trans rq.ch).trans rs.ch).trans ig.ch).trans ru.ch).trans vw).trans ql.ch).trans po.ch).trans ii.ch).trans uo
   replace dM := dM.ch Z18
   have hobt := oapp Try.underlying26 ti3 rfl 4 hO rfl dM j4 PT U7 (by decide)
   obtain ⟨aaQ, ER, ES, me, pp, kK, Mg⟩ := hobt
   dsimp only [sS, sZ] at pp kK
   refine zg (Mg (by exact rfl) (by exact rfl)) ?_
   replace hO := pp.own
   refine zo (op_nilCheck rfl) (zo (op_fieldAddr Try.underlying72 rfl ti29 rfl (by decide)) (zo (op_fieldAddr Try.underlying29 rfl ti26 rfl (by decide)) ?_))
   have hobt := oblkSt2 (v := .slice ER (n27 + 1) ES) (i := 4) (cs' := #[.int .i64 a0.Enum.Points, .bool a0.Enum.Monoid, .slice bE bD bF, .slice D6 (n21 + 1) D7, .slice ER (n27 + 1) ES, .slice p31 n33 c32, .slice b9 bV ca, .slice p37 n39 c38, .int .i64 a0.Enum.Done, .map (some cb), .slice p43 n45 c44, .slice p49 n51 c50, .slice cB cA cC]) 1 hO rfl rfl rfl rfl
   obtain ⟨U8, oK, Mh⟩ := hobt
   dsimp only [sS, sZ] at oK
   refine zg (Mh Try.underlying26 rfl ti26 (by exact rfl) (by exact rfl)) ?_
   replace hO := oK.own
   refine zn (zq (zr (zm rfl (zm rfl (zo (op_nilCheck rfl) ?_)))))
   refine zo (op_fieldAddr Try.underlying72 rfl ti29 rfl (by decide)) (zo (op_fieldAddr Try.underlying29 rfl ti26 rfl (by decide)) (zs (oblk (i := 5) 1 hO rfl rfl Try.underlying26 rfl rfl) (zm rfl ?_)))
   have hobt := obuild (r := Rp.int .i64) (n := 1) (parts := [(0, .int .i64 (k1_12 : Int))]) (vs := [.int .i64 (k1_12 : Int)]) (xs := [(k1_12 : Int)]) rfl Try.underlying26 ti3 hO (by decide) (by kernel_rfl) (Els.cons rfl rfl (Els.nil _ _ _) (by simp [mx])) rfl
   obtain ⟨U9, aaR, pq, PU, Xz, Mi⟩ := hobt
   refine zg (Mi rfl) ?_
   replace hO := pq.own
   have hobt := freeze 0 hO rfl PU
   obtain ⟨hO1, sV, mY, PV⟩ := hobt
   dsimp only [eS, eZ] at hO1 sV mY
   replace hB := (((hB.trans pp.fr).trans oK.fr).trans pq.fr).trans (Owns.dropFr _ _ 0)
   dsimp only [eS, eZ] at hB
   replace hO := hO1; clear hO1
   obtain ⟨Va, H⟩ := H
   have Z19 := (((Z18.trans pp.ch).trans oK.ch).trans pq.ch).trans sV
   replace dz := dz.ch Z19
   have hobt := oapp Try.underlying26 ti3 rfl 5 hO rfl dz mY PV Va (by decide)
   obtain ⟨aaS, iY, i4, PW, oL, oC, Mj⟩ := hobt
   dsimp only [sS, sZ] at oL oC
   refine zg (Mj (by exact rfl) (by exact rfl)) ?_
   replace hO := oL.own
   refine zo (op_nilCheck rfl) (zo (op_fieldAddr Try.underlying72 rfl ti29 rfl (by decide)) (zo (op_fieldAddr Try.underlying29 rfl ti26 rfl (by decide)) ?_))
   have hobt := oblkSt2 (v := .slice iY (n33 + 1) i4) (i := 5) (cs' := #[.int .i64 a0.Enum.Points, .bool a0.Enum.Monoid, .slice bE bD bF, .slice D6 (n21 + 1) D7, .slice ER (n27 + 1) ES, .slice iY (n33 + 1) i4, .slice b9 bV ca, .slice p37 n39 c38, .int .i64 a0.Enum.Done, .map (some cb), .slice p43 n45 c44, .slice p49 n51 c50, .slice cB cA cC]) 1 hO rfl rfl rfl rfl
   obtain ⟨aaT, gL, Mk⟩ := hobt
   dsimp only [sS, sZ] at gL
   refine zg (Mk Try.underlying26 rfl ti26 (by exact rfl) (by exact rfl)) ?_
   replace hO := gL.own
   refine zn (zq ?_)
   refine Go1.cut [(0, .pointer (some ⟨gs, 0, none⟩)), (4, .string (gstr ((ix d_40 a0.Enum.Done) ++ (chr (IntKind.i32.wrap ((97 : Int) + (k1_12 : Int))))))), (5, .int .i64 (ix a0.single (k1_12 : Int))), (13, .int .i64 (d_16.length : Int))] ⟨rfl, rfl, rfl, rfl, trivial⟩ ?_
   intro σ _
   refine zr (zm rfl (zm rfl (zo (op_nilCheck rfl) (zo (op_fieldAddr Try.underlying72 rfl ti70 rfl (by decide)) (zs (oblk (i := 10) 1 hO rfl rfl Try.underlying70 rfl rfl) ?_)))))
   refine zm rfl ?_
   have hobt := obuild (r := Rp.str) (n := 1) (parts := [(0, .string (gstr ((ix d_40 a0.Enum.Done) ++ (chr (IntKind.i32.wrap ((97 : Int) + (k1_12 : Int)))))))]) (vs := [.string (gstr ((ix d_40 a0.Enum.Done) ++ (chr (IntKind.i32.wrap ((97 : Int) + (k1_12 : Int))))))]) (xs := [(ix d_40 a0.Enum.Done) ++ (chr (IntKind.i32.wrap ((97 : Int) + (k1_12 : Int))))]) rfl Try.underlying70 ti9 hO (by decide) (by kernel_rfl) (Els.cons rfl ⟨rfl, (lenApp I6)⟩ (Els.nil _ _ _) (by simp [mx])) rfl
   obtain ⟨aaU, aaV, oM, PX, XA, Ml⟩ := hobt
   refine zg (Ml rfl) ?_
   replace hO := oM.own
   have hobt := freeze 0 hO rfl PX
   obtain ⟨hO1, sd, cQ, PY⟩ := hobt
   dsimp only [eS, eZ] at hO1 sd cQ
   replace hB := (((hB.trans oL.fr).trans gL.fr).trans oM.fr).trans (Owns.dropFr _ _ 0)
   dsimp only [eS, eZ] at hB
   replace hO := hO1; clear hO1
   obtain ⟨Vb, H⟩ := H
   have Z20 := (((((((((((Z17.trans ql.ch).trans po.ch).trans ii.ch).trans uo).trans pp.ch).trans oK.ch).trans pq.ch).trans sV).trans oL.ch).trans gL.ch).trans oM.ch).trans sd
   replace cO := cO.ch Z20
   have hobt := oapp Try.underlying70 ti9 rfl 8 hO rfl cO cQ PY Vb (by decide)
   obtain ⟨aaW, Hc, He, P0, nG, vy, Mm⟩ := hobt
   dsimp only [sS, sZ] at nG vy
   refine zg (Mm (by exact rfl) (by exact rfl)) ?_
   replace hO := nG.own
   refine zo (op_nilCheck rfl) (zo (op_fieldAddr Try.underlying72 rfl ti70 rfl (by decide)) ?_)
   have hobt := oblkSt2 (v := .slice Hc (n45 + 1) He) (i := 10) (cs' := #[.int .i64 a0.Enum.Points, .bool a0.Enum.Monoid, .slice bE bD bF, .slice D6 (n21 + 1) D7, .slice ER (n27 + 1) ES, .slice iY (n33 + 1) i4, .slice b9 bV ca, .slice p37 n39 c38, .int .i64 a0.Enum.Done, .map (some cb), .slice Hc (n45 + 1) He, .slice p49 n51 c50, .slice cB cA cC]) 1 hO rfl rfl rfl rfl
   obtain ⟨Vc, mS, Mn⟩ := hobt
   dsimp only [sS, sZ] at mS
   refine zg (Mn Try.underlying70 rfl ti70 (by exact rfl) (by exact rfl)) ?_
   replace hO := mS.own
   refine zn (zq (zr (zm rfl (zm rfl (zo (op_nilCheck rfl) ?_)))))
   refine zo (op_fieldAddr Try.underlying72 rfl ti26 rfl (by decide)) (zs (oblk (i := 11) 1 hO rfl rfl Try.underlying26 rfl rfl) (zm rfl ?_))
   have hobt := obuild (r := Rp.int .i64) (n := 1) (parts := [(0, .int .i64 (ix a0.single (k1_12 : Int)))]) (vs := [.int .i64 (ix a0.single (k1_12 : Int))]) (xs := [(ix a0.single (k1_12 : Int))]) rfl Try.underlying26 ti3 hO (by decide) (by kernel_rfl) (Els.cons rfl rfl (Els.nil _ _ _) (by simp [mx])) rfl
   obtain ⟨Vd, D8, ke, we, Hf, FX⟩ := hobt
   refine zg (FX rfl) ?_
   replace hO := ke.own
   have hobt := freeze 0 hO rfl we
   obtain ⟨hO1, rO, AC, P1⟩ := hobt
   dsimp only [eS, eZ] at hO1 rO AC
   replace hB := (((hB.trans nG.fr).trans mS.fr).trans ke.fr).trans (Owns.dropFr _ _ 0)
   dsimp only [eS, eZ] at hB
   replace hO := hO1; clear hO1
   obtain ⟨ET, H⟩ := H
   have Z21 := (((Z20.trans nG.ch).trans mS.ch).trans ke.ch).trans rO
   replace cN := cN.ch Z21
   have hobt := oapp Try.underlying26 ti3 rfl 9 hO rfl cN AC P1 ET (by decide)
   obtain ⟨Ve, Jb, Jc, P2, iU, Dr, Mo⟩ := hobt
   dsimp only [sS, sZ] at iU Dr
   refine zg (Mo (by exact rfl) (by exact rfl)) ?_
   replace hO := iU.own
   refine zo (op_nilCheck rfl) (zo (op_fieldAddr Try.underlying72 rfl ti26 rfl (by decide)) ?_)
   have hobt := oblkSt2 (v := .slice Jb (n51 + 1) Jc) (i := 11) (cs' := #[.int .i64 a0.Enum.Points, .bool a0.Enum.Monoid, .slice bE bD bF, .slice D6 (n21 + 1) D7, .slice ER (n27 + 1) ES, .slice iY (n33 + 1) i4, .slice b9 bV ca, .slice p37 n39 c38, .int .i64 a0.Enum.Done, .map (some cb), .slice Hc (n45 + 1) He, .slice Jb (n51 + 1) Jc, .slice cB cA cC]) 1 hO rfl rfl rfl rfl
   obtain ⟨aaX, lW, Mp⟩ := hobt
   dsimp only [sS, sZ] at lW
   refine zg (Mp Try.underlying26 rfl ti26 (by exact rfl) (by exact rfl)) ?_
   replace hO := lW.own
   refine zn (zq ?_)
   refine Go1.cut [(13, .int .i64 (d_16.length : Int))] ⟨rfl, trivial⟩ ?_
   intro σ _
   refine zr (zm rfl (za rfl (zn ?_)))
   refine Go1.ret1V Try.func65 rfl (show _ = .int .i64 (d_16.length : Int) from rfl) ?_
   refine hR239 _ _ ?_
   refine za rfl (zn ?_)
   refine Go1.inBlock ?_
   refine zr (zm rfl (zm rfl (zm rfl ?_)))
   obtain ⟨Jd, H⟩ := H
   obtain ⟨Je, H⟩ := H
   have Z22 := (((((((((Z19.trans oL.ch).trans gL.ch).trans oM.ch).trans sd).trans nG.ch).trans mS.ch).trans ke.ch).trans rO).trans iU.ch).trans lW.ch
   replace cG := cG.ch Z22
   refine zo (op_index Try.underlying26 ti3 rfl rfl Jd (ltn (cG.neq hO 0 rfl) Je) (cG.psome hO 0 rfl Jd Je)) ?_
   have hobt := ost (r := Rp.int .i64) rfl 0 hO rfl cG Jd Je (v := .int .i64 (d_16.length : Int)) (u := (d_16.length : Int)) rfl rfl
   obtain ⟨aaY, P3, mT, Kb, Mq⟩ := hobt
   dsimp only [sS, sZ] at mT Kb
   refine zg (Mq Try.underlying3 rfl ti3 (by exact rfl) (by exact rfl)) ?_
   replace hO := mT.own
   refine zn ?_
   refine Go1.inBlock ?_
   refine zr ?_
   replace aD := (aD.ch Z22).ch mT.ch
   refine zo (op_add rfl rfl (wrap_i64 (natbd h53 aD.bd))) (zm rfl (zn ?_))
   replace Dr := (Dr.ch lW.ch).ch mT.ch
   replace hB := ((hB.trans iU.fr).trans lW.fr).trans mT.fr
   have Z23 := ((((mS.ch.trans ke.ch).trans rO).trans iU.ch).trans lW.ch).trans mT.ch
   replace vy := vy.ch Z23
   have Z24 := ((((((((gL.ch.trans oM.ch).trans sd).trans nG.ch).trans mS.ch).trans ke.ch).trans rO).trans iU.ch).trans lW.ch).trans mT.ch
   replace oC := oC.ch Z24
   have Z25 := ((((((((((((oK.ch.trans pq.ch).trans sV).trans oL.ch).trans gL.ch).trans oM.ch).trans sd).trans nG.ch).trans mS.ch).trans ke.ch).trans rO).trans iU.ch).trans lW.ch).trans mT.ch
   replace kK := kK.ch Z25
   have Z26 := ((((((((((((((((po.ch.trans ii.ch).trans uo).trans pp.ch).trans oK.ch).trans pq.ch).trans sV).trans oL.ch).trans gL.ch).trans oM.ch).trans sd).trans nG.ch).trans mS.ch).trans ke.ch).trans rO).trans iU.ch).trans lW.ch).trans mT.ch
   replace iA := iA.ch Z26
   have Z27 := ((Z21.trans iU.ch).trans lW.ch).trans mT.ch
   replace aY := aY.ch Z27
   have Z28 := Z22.trans mT.ch
   replace aH := aH.ch Z28
   replace cS := cS.ch Z28
   exact hX1 _ H _ _ ⟨P3, n21 + 1, D6, D7, PR, n27 + 1, ER, ES, me, n33 + 1, iY, i4, PW, n39, p37, c38, rh, n45 + 1, Hc, He, P0, n51 + 1, Jb, Jc, P2, ⟨rfl, rfl, rfl, rfl, rfl, rfl, trivial⟩, hO, Kb, aD, iA, kK, oC, aH, cS, vy, Dr, aY, hB⟩
  replace H := ifn Hb H
  refine zo (fun w => opB (op_eql rfl rfl w) (decide_eq_false Hb)) (zn (zf rfl rfl (zk (zq (zr ?_)))))
  refine zm rfl (zo (op_nilCheck rfl) (zo (op_fieldAddr Try.underlying72 rfl ti29 rfl (by decide)) (zo (op_fieldAddr Try.underlying29 rfl ti22 rfl (by decide)) (zs (oblk (i := 6) 1 hO rfl rfl Try.underlying22 rfl rfl) (zm rfl ?_)))))
  obtain ⟨Jf, H⟩ := H
  obtain ⟨Jg, H⟩ := H
  replace aH := aH.ch Z15
  refine zo (op_index Try.underlying22 ti26 rfl rfl Jf (ltn (aH.neq hO 6 rfl) Jg) (aH.psome hO 6 rfl Jf Jg)) ?_
  have hobt := oldSl 6 hO rfl aH Jf Jg
  obtain ⟨i5, i6, gC, P4⟩ := hobt
  refine zs (P4 Try.underlying26 rfl rfl) (zm rfl ?_)
  obtain ⟨Jh, H⟩ := H
  obtain ⟨Ji, H⟩ := H
  refine zo (op_index Try.underlying26 ti3 rfl rfl Jh Ji (gC.some_ Jh Ji)) (zs (ldInt gC Jh Ji Try.underlying3 rfl rfl) (za rfl (zn ?_)))
  refine Go1.ret1V Try.func66 rfl (show _ = .int .i64 (ix (ix a0.Enum.Right (ix d_46 a0.Enum.Done)) (k1_12 : Int)) from rfl) ?_
  refine hR235 _ _ ?_
  refine GoR.inl (vs := [.pointer (some ⟨gs, 0, none⟩), .slice wb r66.length wc, .int .i64 a0.Enum.Done, .int .i64 (k1_12 : Int), .string (gstr ((ix d_40 a0.Enum.Done) ++ (chr (IntKind.i32.wrap ((97 : Int) + (k1_12 : Int)))))), .int .i64 (ix (ix a0.Enum.Right (ix d_46 a0.Enum.Done)) (k1_12 : Int))]) (caps := []) rfl rfl body65 Try.func65 rfl Try.ntmps65 rfl rfl rfl ?_
  intro RhR377 hR377
  refine zq ?_
  refine Go1.cut [(0, .pointer (some ⟨gs, 0, none⟩)), (1, .slice wb r66.length wc), (2, .int .i64 a0.Enum.Done), (3, .int .i64 (k1_12 : Int)), (4, .string (gstr ((ix d_40 a0.Enum.Done) ++ (chr (IntKind.i32.wrap ((97 : Int) + (k1_12 : Int))))))), (5, .int .i64 (ix (ix a0.Enum.Right (ix d_46 a0.Enum.Done)) (k1_12 : Int)))] ⟨rfl, rfl, rfl, rfl, rfl, rfl, trivial⟩ ?_
  intro σ _
  refine zr (za rfl (zn (zq (zr (zm rfl ?_)))))
  refine zo (op_nilCheck rfl) (zo (op_fieldAddr Try.underlying72 rfl ti29 rfl (by decide)) (zo (op_fieldAddr Try.underlying29 rfl ti22 rfl (by decide)) (zs (oblk (i := 3) 1 hO rfl rfl Try.underlying22 rfl rfl) (zo (op_lenN Try.underlying22 rfl (e8.neq hO 3 rfl)) (za rfl ?_)))))
  refine zn (zq ?_)
  refine Go1.drawS 1 [(0, .pure), (1, .pure), (2, .pure), (3, .stable), (4, .pure), (6, .pure), (5, .loud), (7, .last)] mixed (by kernel_rfl) ?_
  intro Vf P5
  have qm := Stp.same hO P5
  replace hO := qm.own
  refine GoQ.pure rfl (op_move rfl) rfl rfl ?_
  refine GoQ.pure rfl (op_nilCheck rfl) rfl rfl ?_
  refine GoQ.pure rfl (op_fieldAddr Try.underlying72 rfl ti69 rfl (by decide)) rfl rfl ?_
  refine GoQ.stable rfl (oblk (i := 9) 1 hO rfl rfl Try.underlying69 rfl rfl) rfl rfl ?_
  refine GoQ.pure rfl (op_move rfl) rfl rfl ?_
  refine GoQ.pure rfl (op_move rfl) rfl rfl ?_
  replace cE := (cE.ch kI.ch).ch qm.ch
  refine GoQ.call rfl (op_call body61 rfl (walk_enumerate_text hO.lt cE H)) (fun v w hr => by obtain ⟨_, _, hs, _, _⟩ := hr; assumption) rfl rfl ?_
  rintro aa0 aa1 ⟨r381, rfl, P6, W2, H⟩
  have jd := Stp.same hO P6
  replace hO := jd.own
  have hobt := omapUpd (MK.str Try.underlying9) 11 hO rfl Try.underlying69 r381 (d_16.length : Int)
  obtain ⟨Jj, iQ, Mr⟩ := hobt
  dsimp only [sS, sZ] at iQ
  refine GoQ.last rfl (Mr (by exact rfl) (by exact rfl) (by exact rfl)) rfl rfl ?_
  replace hO := iQ.own
  refine GoQ.nil ?_
  refine zq (zr (zm rfl (zm rfl (zo (op_nilCheck rfl) (zo (op_fieldAddr Try.underlying72 rfl ti29 rfl (by decide)) ?_)))))
  refine zo (op_fieldAddr Try.underlying29 rfl ti22 rfl (by decide)) (zs (oblk (i := 3) 1 hO rfl rfl Try.underlying22 rfl rfl) (zm rfl ?_))
  replace cE := (cE.ch jd.ch).ch iQ.ch
  have hobt := obuild (r := Rp.sl (Rp.int .i64)) (n := 1) (parts := [(0, .slice wb r66.length wc)]) (vs := [.slice wb r66.length wc]) (xs := [r66]) rfl Try.underlying22 ti26 hO (by decide) (by kernel_rfl) (Els.cons rfl ⟨wb, wc, rfl, cE⟩ (Els.nil _ _ _) (by simp [mx])) rfl
  obtain ⟨aa2, aa3, je, P7, XB, Ms⟩ := hobt
  refine zg (Ms rfl) ?_
  replace hO := je.own
  have hobt := freeze 0 hO rfl P7
  obtain ⟨hO1, uq, cW, P8⟩ := hobt
  dsimp only [eS, eZ] at hO1 uq cW
  replace hB := (((((((hB.trans p5.fr).trans iI.fr).trans kI.fr).trans qm.fr).trans jd.fr).trans iQ.fr).trans je.fr).trans (Owns.dropFr _ _ 0)
  dsimp only [eS, eZ] at hB
  replace hO := hO1; clear hO1
  obtain ⟨Vg, H⟩ := H
  have Z29 := (((qm.ch.trans jd.ch).trans iQ.ch).trans je.ch).trans uq
  replace e8 := e8.ch Z29
  have hobt := oapp Try.underlying22 ti26 rfl 3 hO rfl e8 cW P8 Vg (by decide)
  obtain ⟨aa4, D9, Ea, P9, pr, iB, Mt⟩ := hobt
  dsimp only [sS, sZ] at pr iB
  refine zg (Mt (by exact rfl) (by exact rfl)) ?_
  replace hO := pr.own
  refine zo (op_nilCheck rfl) (zo (op_fieldAddr Try.underlying72 rfl ti29 rfl (by decide)) (zo (op_fieldAddr Try.underlying29 rfl ti22 rfl (by decide)) ?_))
  have hobt := oblkSt2 (v := .slice D9 (n21 + 1) Ea) (i := 3) (cs' := #[.int .i64 a0.Enum.Points, .bool a0.Enum.Monoid, .slice bE bD bF, .slice D9 (n21 + 1) Ea, .slice p25 n27 c26, .slice p31 n33 c32, .slice b9 bV ca, .slice p37 n39 c38, .int .i64 a0.Enum.Done, .map (some cb), .slice p43 n45 c44, .slice p49 n51 c50, .slice cB cA cC]) 1 hO rfl rfl rfl rfl
  obtain ⟨Vh, oN, FY⟩ := hobt
  dsimp only [sS, sZ] at oN
  refine zg (FY Try.underlying22 rfl ti22 (by exact rfl) (by exact rfl)) ?_
  replace hO := oN.own
  refine zn (zq ?_)
  refine Go1.cut [(0, .pointer (some ⟨gs, 0, none⟩)), (2, .int .i64 a0.Enum.Done), (3, .int .i64 (k1_12 : Int)), (4, .string (gstr ((ix d_40 a0.Enum.Done) ++ (chr (IntKind.i32.wrap ((97 : Int) + (k1_12 : Int))))))), (5, .int .i64 (ix (ix a0.Enum.Right (ix d_46 a0.Enum.Done)) (k1_12 : Int))), (13, .int .i64 (d_16.length : Int))] ⟨rfl, rfl, rfl, rfl, rfl, rfl, trivial⟩ ?_
  intro σ _
  refine zr (zm rfl (zm rfl (zo (op_nilCheck rfl) (zo (op_fieldAddr Try.underlying72 rfl ti29 rfl (by decide)) (zo (op_fieldAddr Try.underlying29 rfl ti26 rfl (by decide)) ?_)))))
  refine zs (oblk (i := 4) 1 hO rfl rfl Try.underlying26 rfl rfl) (zm rfl ?_)
  have hobt := obuild (r := Rp.int .i64) (n := 1) (parts := [(0, .int .i64 a0.Enum.Done)]) (vs := [.int .i64 a0.Enum.Done]) (xs := [a0.Enum.Done]) rfl Try.underlying26 ti3 hO (by decide) (by kernel_rfl) (Els.cons rfl rfl (Els.nil _ _ _) (by simp [mx])) rfl
  obtain ⟨aa5, aa6, ll, Qa, XC, Mu⟩ := hobt
  refine zg (Mu rfl) ?_
  replace hO := ll.own
  have hobt := freeze 0 hO rfl Qa
  obtain ⟨hO1, sW, j5, Qb⟩ := hobt
  dsimp only [eS, eZ] at hO1 sW j5
  replace hB := (((hB.trans pr.fr).trans oN.fr).trans ll.fr).trans (Owns.dropFr _ _ 0)
  dsimp only [eS, eZ] at hB
  replace hO := hO1; clear hO1
  obtain ⟨Vi, H⟩ := H
  have Z30 := ((((((((Z15.trans qm.ch).trans jd.ch).trans iQ.ch).trans je.ch).trans uq).trans pr.ch).trans oN.ch).trans ll.ch).trans sW
  replace dM := dM.ch Z30
  have hobt := oapp Try.underlying26 ti3 rfl 4 hO rfl dM j5 Qb Vi (by decide)
  obtain ⟨aa7, EU, EV, Qc, kC, jY, Mv⟩ := hobt
  dsimp only [sS, sZ] at kC jY
  refine zg (Mv (by exact rfl) (by exact rfl)) ?_
  replace hO := kC.own
  refine zo (op_nilCheck rfl) (zo (op_fieldAddr Try.underlying72 rfl ti29 rfl (by decide)) (zo (op_fieldAddr Try.underlying29 rfl ti26 rfl (by decide)) ?_))
  have hobt := oblkSt2 (v := .slice EU (n27 + 1) EV) (i := 4) (cs' := #[.int .i64 a0.Enum.Points, .bool a0.Enum.Monoid, .slice bE bD bF, .slice D9 (n21 + 1) Ea, .slice EU (n27 + 1) EV, .slice p31 n33 c32, .slice b9 bV ca, .slice p37 n39 c38, .int .i64 a0.Enum.Done, .map (some cb), .slice p43 n45 c44, .slice p49 n51 c50, .slice cB cA cC]) 1 hO rfl rfl rfl rfl
  obtain ⟨aa8, nH, Mw⟩ := hobt
  dsimp only [sS, sZ] at nH
  refine zg (Mw Try.underlying26 rfl ti26 (by exact rfl) (by exact rfl)) ?_
  replace hO := nH.own
  refine zn (zq (zr (zm rfl (zm rfl (zo (op_nilCheck rfl) ?_)))))
  refine zo (op_fieldAddr Try.underlying72 rfl ti29 rfl (by decide)) (zo (op_fieldAddr Try.underlying29 rfl ti26 rfl (by decide)) (zs (oblk (i := 5) 1 hO rfl rfl Try.underlying26 rfl rfl) (zm rfl ?_)))
  have hobt := obuild (r := Rp.int .i64) (n := 1) (parts := [(0, .int .i64 (k1_12 : Int))]) (vs := [.int .i64 (k1_12 : Int)]) (xs := [(k1_12 : Int)]) rfl Try.underlying26 ti3 hO (by decide) (by kernel_rfl) (Els.cons rfl rfl (Els.nil _ _ _) (by simp [mx])) rfl
  obtain ⟨Vj, aa9, gG, jw, XD, Mx⟩ := hobt
  refine zg (Mx rfl) ?_
  replace hO := gG.own
  have hobt := freeze 0 hO rfl jw
  obtain ⟨hO1, se, m0, Qd⟩ := hobt
  dsimp only [eS, eZ] at hO1 se m0
  replace hB := (((hB.trans kC.fr).trans nH.fr).trans gG.fr).trans (Owns.dropFr _ _ 0)
  dsimp only [eS, eZ] at hB
  replace hO := hO1; clear hO1
  obtain ⟨Vk, H⟩ := H
  have Z31 := (((Z30.trans kC.ch).trans nH.ch).trans gG.ch).trans se
  replace dz := dz.ch Z31
  have hobt := oapp Try.underlying26 ti3 rfl 5 hO rfl dz m0 Qd Vk (by decide)
  obtain ⟨aba, F0, F1, Qe, nI, oD, F2⟩ := hobt
  dsimp only [sS, sZ] at nI oD
  refine zg (F2 (by exact rfl) (by exact rfl)) ?_
  replace hO := nI.own
  refine zo (op_nilCheck rfl) (zo (op_fieldAddr Try.underlying72 rfl ti29 rfl (by decide)) (zo (op_fieldAddr Try.underlying29 rfl ti26 rfl (by decide)) ?_))
  have hobt := oblkSt2 (v := .slice F0 (n33 + 1) F1) (i := 5) (cs' := #[.int .i64 a0.Enum.Points, .bool a0.Enum.Monoid, .slice bE bD bF, .slice D9 (n21 + 1) Ea, .slice EU (n27 + 1) EV, .slice F0 (n33 + 1) F1, .slice b9 bV ca, .slice p37 n39 c38, .int .i64 a0.Enum.Done, .map (some cb), .slice p43 n45 c44, .slice p49 n51 c50, .slice cB cA cC]) 1 hO rfl rfl rfl rfl
  obtain ⟨abb, iV, My⟩ := hobt
  dsimp only [sS, sZ] at iV
  refine zg (My Try.underlying26 rfl ti26 (by exact rfl) (by exact rfl)) ?_
  replace hO := iV.own
  refine zn (zq ?_)
  refine Go1.cut [(0, .pointer (some ⟨gs, 0, none⟩)), (4, .string (gstr ((ix d_40 a0.Enum.Done) ++ (chr (IntKind.i32.wrap ((97 : Int) + (k1_12 : Int))))))), (5, .int .i64 (ix (ix a0.Enum.Right (ix d_46 a0.Enum.Done)) (k1_12 : Int))), (13, .int .i64 (d_16.length : Int))] ⟨rfl, rfl, rfl, rfl, trivial⟩ ?_
  intro σ _
  refine zr (zm rfl (zm rfl (zo (op_nilCheck rfl) (zo (op_fieldAddr Try.underlying72 rfl ti70 rfl (by decide)) (zs (oblk (i := 10) 1 hO rfl rfl Try.underlying70 rfl rfl) ?_)))))
  refine zm rfl ?_
  have hobt := obuild (r := Rp.str) (n := 1) (parts := [(0, .string (gstr ((ix d_40 a0.Enum.Done) ++ (chr (IntKind.i32.wrap ((97 : Int) + (k1_12 : Int)))))))]) (vs := [.string (gstr ((ix d_40 a0.Enum.Done) ++ (chr (IntKind.i32.wrap ((97 : Int) + (k1_12 : Int))))))]) (xs := [(ix d_40 a0.Enum.Done) ++ (chr (IntKind.i32.wrap ((97 : Int) + (k1_12 : Int))))]) rfl Try.underlying70 ti9 hO (by decide) (by kernel_rfl) (Els.cons rfl ⟨rfl, (lenApp I6)⟩ (Els.nil _ _ _) (by simp [mx])) rfl
  obtain ⟨abc, abd, nJ, Qf, XE, FM⟩ := hobt
  refine zg (FM rfl) ?_
  replace hO := nJ.own
  have hobt := freeze 0 hO rfl Qf
  obtain ⟨hO1, rP, sX, Qg⟩ := hobt
  dsimp only [eS, eZ] at hO1 rP sX
  replace hB := (((hB.trans nI.fr).trans iV.fr).trans nJ.fr).trans (Owns.dropFr _ _ 0)
  dsimp only [eS, eZ] at hB
  replace hO := hO1; clear hO1
  obtain ⟨Vl, H⟩ := H
  have Z32 := (((((((((((Z29.trans pr.ch).trans oN.ch).trans ll.ch).trans sW).trans kC.ch).trans nH.ch).trans gG.ch).trans se).trans nI.ch).trans iV.ch).trans nJ.ch).trans rP
  replace cO := cO.ch Z32
  have hobt := oapp Try.underlying70 ti9 rfl 8 hO rfl cO sX Qg Vl (by decide)
  obtain ⟨Jk, Hg, Hh, Qh, mU, vz, Mz⟩ := hobt
  dsimp only [sS, sZ] at mU vz
  refine zg (Mz (by exact rfl) (by exact rfl)) ?_
  replace hO := mU.own
  refine zo (op_nilCheck rfl) (zo (op_fieldAddr Try.underlying72 rfl ti70 rfl (by decide)) ?_)
  have hobt := oblkSt2 (v := .slice Hg (n45 + 1) Hh) (i := 10) (cs' := #[.int .i64 a0.Enum.Points, .bool a0.Enum.Monoid, .slice bE bD bF, .slice D9 (n21 + 1) Ea, .slice EU (n27 + 1) EV, .slice F0 (n33 + 1) F1, .slice b9 bV ca, .slice p37 n39 c38, .int .i64 a0.Enum.Done, .map (some cb), .slice Hg (n45 + 1) Hh, .slice p49 n51 c50, .slice cB cA cC]) 1 hO rfl rfl rfl rfl
  obtain ⟨abe, lX, MA⟩ := hobt
  dsimp only [sS, sZ] at lX
  refine zg (MA Try.underlying70 rfl ti70 (by exact rfl) (by exact rfl)) ?_
  replace hO := lX.own
  refine zn (zq (zr (zm rfl (zm rfl (zo (op_nilCheck rfl) ?_)))))
  refine zo (op_fieldAddr Try.underlying72 rfl ti26 rfl (by decide)) (zs (oblk (i := 11) 1 hO rfl rfl Try.underlying26 rfl rfl) (zm rfl ?_))
  have hobt := obuild (r := Rp.int .i64) (n := 1) (parts := [(0, .int .i64 (ix (ix a0.Enum.Right (ix d_46 a0.Enum.Done)) (k1_12 : Int)))]) (vs := [.int .i64 (ix (ix a0.Enum.Right (ix d_46 a0.Enum.Done)) (k1_12 : Int))]) (xs := [(ix (ix a0.Enum.Right (ix d_46 a0.Enum.Done)) (k1_12 : Int))]) rfl Try.underlying26 ti3 hO (by decide) (by kernel_rfl) (Els.cons rfl rfl (Els.nil _ _ _) (by simp [mx])) rfl
  obtain ⟨Vm, abf, mV, Qi, XF, F3⟩ := hobt
  refine zg (F3 rfl) ?_
  replace hO := mV.own
  have hobt := freeze 0 hO rfl Qi
  obtain ⟨hO1, qR, AD, Qj⟩ := hobt
  dsimp only [eS, eZ] at hO1 qR AD
  replace hB := (((hB.trans mU.fr).trans lX.fr).trans mV.fr).trans (Owns.dropFr _ _ 0)
  dsimp only [eS, eZ] at hB
  replace hO := hO1; clear hO1
  obtain ⟨Vn, H⟩ := H
  have Z33 := (((Z32.trans mU.ch).trans lX.ch).trans mV.ch).trans qR
  replace cN := cN.ch Z33
  have hobt := oapp Try.underlying26 ti3 rfl 9 hO rfl cN AD Qj Vn (by decide)
  obtain ⟨abg, Jl, Jm, Qk, ie, Aw, MB⟩ := hobt
  dsimp only [sS, sZ] at ie Aw
  refine zg (MB (by exact rfl) (by exact rfl)) ?_
  replace hO := ie.own
  refine zo (op_nilCheck rfl) (zo (op_fieldAddr Try.underlying72 rfl ti26 rfl (by decide)) ?_)
  have hobt := oblkSt2 (v := .slice Jl (n51 + 1) Jm) (i := 11) (cs' := #[.int .i64 a0.Enum.Points, .bool a0.Enum.Monoid, .slice bE bD bF, .slice D9 (n21 + 1) Ea, .slice EU (n27 + 1) EV, .slice F0 (n33 + 1) F1, .slice b9 bV ca, .slice p37 n39 c38, .int .i64 a0.Enum.Done, .map (some cb), .slice Hg (n45 + 1) Hh, .slice Jl (n51 + 1) Jm, .slice cB cA cC]) 1 hO rfl rfl rfl rfl
  obtain ⟨abh, lN, MC⟩ := hobt
  dsimp only [sS, sZ] at lN
  refine zg (MC Try.underlying26 rfl ti26 (by exact rfl) (by exact rfl)) ?_
  replace hO := lN.own
  refine zn (zq ?_)
  refine Go1.cut [(13, .int .i64 (d_16.length : Int))] ⟨rfl, trivial⟩ ?_
  intro σ _
  refine zr (zm rfl (za rfl (zn ?_)))
  refine Go1.ret1V Try.func65 rfl (show _ = .int .i64 (d_16.length : Int) from rfl) ?_
  refine hR377 _ _ ?_
  refine za rfl (zn ?_)
  refine Go1.inBlock ?_
  refine zr (zm rfl (zm rfl (zm rfl ?_)))
  obtain ⟨Jo, H⟩ := H
  obtain ⟨Jp, H⟩ := H
  have Z34 := (((((((((Z31.trans nI.ch).trans iV.ch).trans nJ.ch).trans rP).trans mU.ch).trans lX.ch).trans mV.ch).trans qR).trans ie.ch).trans lN.ch
  replace cG := cG.ch Z34
  refine zo (op_index Try.underlying26 ti3 rfl rfl Jo (ltn (cG.neq hO 0 rfl) Jp) (cG.psome hO 0 rfl Jo Jp)) ?_
  have hobt := ost (r := Rp.int .i64) rfl 0 hO rfl cG Jo Jp (v := .int .i64 (d_16.length : Int)) (u := (d_16.length : Int)) rfl rfl
  obtain ⟨abi, Ql, lY, Kc, MD⟩ := hobt
  dsimp only [sS, sZ] at lY Kc
  refine zg (MD Try.underlying3 rfl ti3 (by exact rfl) (by exact rfl)) ?_
  replace hO := lY.own
  refine zn ?_
  refine Go1.inBlock ?_
  refine zr ?_
  replace aD := (aD.ch Z34).ch lY.ch
  refine zo (op_add rfl rfl (wrap_i64 (natbd h53 aD.bd))) (zm rfl (zn ?_))
  replace Aw := (Aw.ch lN.ch).ch lY.ch
  replace hB := ((hB.trans ie.fr).trans lN.fr).trans lY.fr
  have Z35 := ((((lX.ch.trans mV.ch).trans qR).trans ie.ch).trans lN.ch).trans lY.ch
  replace vz := vz.ch Z35
  have Z36 := ((((((((iV.ch.trans nJ.ch).trans rP).trans mU.ch).trans lX.ch).trans mV.ch).trans qR).trans ie.ch).trans lN.ch).trans lY.ch
  replace oD := oD.ch Z36
  have Z37 := ((((((((((((nH.ch.trans gG.ch).trans se).trans nI.ch).trans iV.ch).trans nJ.ch).trans rP).trans mU.ch).trans lX.ch).trans mV.ch).trans qR).trans ie.ch).trans lN.ch).trans lY.ch
  replace jY := jY.ch Z37
  have Z38 := ((((((((((((((((oN.ch.trans ll.ch).trans sW).trans kC.ch).trans nH.ch).trans gG.ch).trans se).trans nI.ch).trans iV.ch).trans nJ.ch).trans rP).trans mU.ch).trans lX.ch).trans mV.ch).trans qR).trans ie.ch).trans lN.ch).trans lY.ch
  replace iB := iB.ch Z38
  have Z39 := ((Z33.trans ie.ch).trans lN.ch).trans lY.ch
  replace aH := aH.ch Z39
  have Z40 := Z34.trans lY.ch
  replace cS := cS.ch Z40
  replace aY := aY.ch Z40
  exact hX1 _ H _ _ ⟨Ql, n21 + 1, D9, Ea, P9, n27 + 1, EU, EV, Qc, n33 + 1, F0, F1, Qe, n39, p37, c38, rh, n45 + 1, Hg, Hh, Qh, n51 + 1, Jl, Jm, Qk, ⟨rfl, rfl, rfl, rfl, rfl, rfl, trivial⟩, hO, Kc, aD, iB, jY, oD, aH, cS, vz, Aw, aY, hB⟩
 replace H := ifn h53 H
 refine zo (fun w => opB (op_lss rfl rfl w) (decide_eq_false h53)) (zn (zq (zf rfl rfl ?_)))
 refine Go1.exit rfl ?_
 refine zq (zr (zm rfl (zm rfl (zo (op_nilCheck rfl) (zo (op_fieldAddr Try.underlying72 rfl ti29 rfl (by decide)) ?_)))))
 refine zo (op_fieldAddr Try.underlying29 rfl ti22 rfl (by decide)) (zs (oblk (i := 6) 1 hO rfl rfl Try.underlying22 rfl rfl) (zm rfl ?_))
 have hobt := freeze 0 hO rfl cG
 obtain ⟨hO1, yF, xc, Qm⟩ := hobt
 dsimp only [eS, eZ] at hO1 yF xc
 replace hB := hB.trans (Owns.dropFr _ _ 0)
 dsimp only [eS, eZ] at hB
 replace hO := hO1; clear hO1
 have hobt := obuild (r := Rp.sl (Rp.int .i64)) (n := 1) (parts := [(0, .slice p2 a0.Enum.Gens.length a0.Enum.Gens.length)]) (vs := [.slice p2 a0.Enum.Gens.length a0.Enum.Gens.length]) (xs := [d_13]) rfl Try.underlying22 ti26 hO (by decide) (by kernel_rfl) (Els.cons rfl ⟨p2, a0.Enum.Gens.length, congrArg some (congrArg (fun nn => Value.slice p2 nn a0.Enum.Gens.length) Qm), xc⟩ (Els.nil _ _ _) (by simp [mx])) rfl
 obtain ⟨abj, abk, u6, Qn, XG, FN⟩ := hobt
 refine zg (FN rfl) ?_
 replace hO := u6.own
 have hobt := freeze 0 hO rfl Qn
 obtain ⟨hO1, xR, AE, Qo⟩ := hobt
 dsimp only [eS, eZ] at hO1 xR AE
 replace hB := (hB.trans u6.fr).trans (Owns.dropFr _ _ 0)
 dsimp only [eS, eZ] at hB
 replace hO := hO1; clear hO1
 obtain ⟨Vo, H⟩ := H
 have Z41 := (yF.trans u6.ch).trans xR
 replace aH := aH.ch Z41
 have hobt := oapp Try.underlying22 ti26 rfl 5 hO rfl aH AE Qo Vo (by decide)
 obtain ⟨Jq, Hi, Hj, Qp, tC, Ds, ME⟩ := hobt
 dsimp only [sS, sZ] at tC Ds
 refine zg (ME (by exact rfl) (by exact rfl)) ?_
 replace hO := tC.own
 refine zo (op_nilCheck rfl) (zo (op_fieldAddr Try.underlying72 rfl ti29 rfl (by decide)) (zo (op_fieldAddr Try.underlying29 rfl ti22 rfl (by decide)) ?_))
 have hobt := oblkSt2 (v := .slice Hi (bV + 1) Hj) (i := 6) (cs' := #[.int .i64 a0.Enum.Points, .bool a0.Enum.Monoid, .slice bE bD bF, .slice p19 n21 c20, .slice p25 n27 c26, .slice p31 n33 c32, .slice Hi (bV + 1) Hj, .slice p37 n39 c38, .int .i64 a0.Enum.Done, .map (some cb), .slice p43 n45 c44, .slice p49 n51 c50, .slice cB cA cC]) 0 hO rfl rfl rfl rfl
 obtain ⟨abl, sf, MF⟩ := hobt
 dsimp only [sS, sZ] at sf
 refine zg (MF Try.underlying22 rfl ti22 (by exact rfl) (by exact rfl)) ?_
 replace hO := sf.own
 refine zn (zq ?_)
 refine Go1.cut [(0, .pointer (some ⟨gs, 0, none⟩))] ⟨rfl, trivial⟩ ?_
 intro σ _
 refine zr (zm rfl (zo (op_nilCheck rfl) (zo (op_fieldAddr Try.underlying72 rfl ti29 rfl (by decide)) (zo (op_fieldAddr Try.underlying29 rfl ti3 rfl (by decide)) (zs (oblk (i := 8) 0 hO rfl rfl Try.underlying3 rfl rfl) ?_)))))
 obtain ⟨Vp, H⟩ := H
 refine zo (op_add rfl rfl (wrap_i64 Vp)) (zo (op_nilCheck rfl) (zo (op_fieldAddr Try.underlying72 rfl ti29 rfl (by decide)) (zo (op_fieldAddr Try.underlying29 rfl ti3 rfl (by decide)) ?_)))
 have hobt := oblkSt2 (v := .int .i64 (a0.Enum.Done + (1 : Int))) (i := 8) (cs' := #[.int .i64 a0.Enum.Points, .bool a0.Enum.Monoid, .slice bE bD bF, .slice p19 n21 c20, .slice p25 n27 c26, .slice p31 n33 c32, .slice Hi (bV + 1) Hj, .slice p37 n39 c38, .int .i64 (a0.Enum.Done + (1 : Int)), .map (some cb), .slice p43 n45 c44, .slice p49 n51 c50, .slice cB cA cC]) 0 hO rfl rfl rfl rfl
 obtain ⟨abm, iR, MG⟩ := hobt
 dsimp only [sS, sZ] at iR
 refine zg (MG Try.underlying3 rfl ti3 (by exact rfl) (by exact rfl)) ?_
 replace hO := iR.own
 refine zn (zq (zr (za rfl (zn ?_))))
 refine Go1.ret1 Try.func51 rfl ?_
 replace Ds := (Ds.ch sf.ch).ch iR.ch
 replace hB := ((hB.trans tC.fr).trans sf.fr).trans iR.fr
 have Z42 := ((Z41.trans tC.ch).trans sf.ch).trans iR.ch
 replace aD := aD.ch Z42
 replace e8 := e8.ch Z42
 replace dM := dM.ch Z42
 replace dz := dz.ch Z42
 replace cS := cS.ch Z42
 replace cO := cO.ch Z42
 replace cN := cN.ch Z42
 replace aY := aY.ch Z42
 exact ⟨((0 : Int)), (⟨(⟨a0.Enum.Points, a0.Enum.Monoid, a0.Enum.Gens, d_16, d_22, d_28, a0.Enum.Right ++ ([d_13]), d_34, (a0.Enum.Done + (1 : Int))⟩ : Enum), m1_52, d_40, d_46, a0.single⟩ : run), bD, bE, bF, dR, n21, p19, c20, qc, n27, p25, c26, rc, n33, p31, c32, rf, (bV + 1), Hi, Hj, Qp, n39, p37, c38, rh, n45, p43, c44, ri, n51, p49, c50, rk, cA, cB, cC, fh, rfl, hO, aD, e8, dM, dz, Ds, cS, cO, cN, aY, hB, H⟩
theorem body50 : Body Try.prog 50 := ⟨Try.f50, Try.func50, rfl, by kernel_rfl⟩
theorem body17 : Body Try.prog 17 := ⟨Try.f17, Try.func17, rfl, by kernel_rfl⟩
theorem walk_enumerate_Build {A : List Nat} {w0 : World} {kz : Option Addr} {kA : Nat} {gens : List (List Int)} {monoid : Bool} (hA : ∀ b ∈ A, b < w0.heap.size) (fC : ISl (Rp.sl (Rp.int .i64)) A w0 kz kA gens) {K : Enum → Int → Prop} (H : enumerate_Build gens monoid K) :
    CallsV Try.prog 17 #[.slice kz gens.length kA, .bool monoid] w0 (fun v w' => ∃ (r0 : Enum), ∃ (r1 : Int), ∃ (pt : Option Addr), ∃ (pv : Nat), ∃ (nK : Option Addr), ∃ (nM : Nat), ∃ (l5 : Option Addr), ∃ (l7 : Nat), ∃ (px : Option Addr), ∃ (pz : Nat), ∃ (nN : Option Addr), ∃ (nO : Nat), ∃ (nP : Option Addr), ∃ (nQ : Nat), v = .tuple #[.agg #[.int .i64 r0.Points, .bool r0.Monoid, .slice pt r0.Gens.length pv, .slice nK r0.Elems.length nM, .slice l5 r0.Prefix.length l7, .slice px r0.Last.length pz, .slice nN r0.Right.length nO, .slice nP r0.Rules.length nQ, .int .i64 r0.Done], .int .i64 r1] ∧ Same w0 w' ∧ ISl (Rp.sl (Rp.int .i64)) A w' pt pv r0.Gens ∧ ISl (Rp.sl (Rp.int .i64)) A w' nK nM r0.Elems ∧ ISl (Rp.int .i64) A w' l5 l7 r0.Prefix ∧ ISl (Rp.int .i64) A w' px pz r0.Last ∧ ISl (Rp.sl (Rp.int .i64)) A w' nN nO r0.Right ∧ ISl (rpRule) A w' nP nQ r0.Rules ∧ K r0 r1) := by
 refine CallsV.of (l := [.slice kz gens.length kA, .bool monoid]) Try.func17 rfl Try.ntmps17 rfl ?_
 have hO := Owns.start hA
 have hB := Fr.refl (bl []) w0
 unfold enumerate_Build at H
 refine zq (zr ?_)
 have hobt := oalloc (t := 29) (cs := #[.int .i64 (0 : Int), .bool false, .slice none 0 0, .slice none 0 0, .slice none 0 0, .slice none 0 0, .slice none 0 0, .slice none 0 0, .int .i64 (0 : Int)]) ti29 hO rfl
 obtain ⟨w1, B2, dI, hs4, qb⟩ := hobt
 refine GoR.op qb rfl rfl ?_
 replace hO := dI.own
 refine za rfl (zn (zq (zr (zm rfl (zm rfl ?_)))))
 replace fC := (fC.ch (Ch.start A w0)).ch dI.ch
 refine GoR.call (op_call body49 rfl (walk_enumerate_begin hO.lt fC H)) rfl rfl ?_
 intro v9 w10 hcase13
 refine Or.elim hcase13 ?_ ?_
 ·refine exE fun r8 => andE fun hv14 => andE fun vL => fun H => ?_
  subst hv14
  clear hcase13
  replace H := oElimN H
  have iJ := Stp.same hO vL
  replace hO := iJ.own
  refine zm rfl (zo (op_extract rfl rfl) (zo (op_extract rfl rfl) (za rfl (za rfl (zn ?_)))))
  refine zq (zq (zr (zm rfl ?_)))
  by_cases h16 : r8 = (0 : Int)
  ·replace H := ifp h16 H
   refine zo (fun w => opB (op_neq rfl rfl w) (ndT h16)) (zn (zf rfl rfl (zk (zq (zb ?_)))))
   replace hB := (hB.trans dI.fr).trans iJ.fr
   refine Go1.loopW (S := Unit) (fun s σ w => agrees σ [(4, .pointer (some ⟨B2, 0, none⟩)), (6, .pointer none)] ∧ Owns w0.heap.size w [.blk B2 (.cells #[.int .i64 (0 : Int), .bool false, .slice none 0 0, .slice none 0 0, .slice none 0 0, .slice none 0 0, .slice none 0 0, .slice none 0 0, .int .i64 (0 : Int)] 29 (0, 0))] A ∧ Fr (bl []) w0 (bl [.blk B2 (.cells #[.int .i64 (0 : Int), .bool false, .slice none 0 0, .slice none 0 0, .slice none 0 0, .slice none 0 0, .slice none 0 0, .slice none 0 0, .int .i64 (0 : Int)] 29 (0, 0))]) w) H ⟨⟨rfl, rfl, trivial⟩, hO, hB⟩ ?_
   intro X1 _
   intro H hX1 σ w17
   refine andE fun hag => andE fun hO => fun hB => ?_
   refine Go1.keep [(4, .pointer (some ⟨B2, 0, none⟩)), (6, .pointer none)] hag ?_
   refine zq (zq (zr (zm rfl ?_)))
   refine GoR.inl (vs := [.pointer none]) (caps := []) rfl rfl body50 Try.func50 rfl Try.ntmps50 rfl rfl rfl ?_
   intro RhR18 hR18
   refine zq (zr (za rfl (zn (zq ?_))))
   refine Go1.drawS 0 [(0, .pure), (1, .pure), (2, .pure), (3, .pure), (4, .stable), (5, .pure), (6, .pure), (7, .pure), (8, .pure), (9, .stable), (10, .pure), (11, .pure), (12, .pure)] mixed (by kernel_rfl) ?_
   intro w19 Hk
   have m3 := Stp.same hO Hk
   replace hO := m3.own
   refine GoQ.pure rfl (op_move rfl) rfl rfl ?_
   exact H.elim
  replace H := ifn h16 H
  refine zo (fun w => opB (op_neq rfl rfl w) (ndF h16)) (zn (zt rfl rfl (zq (zr (zo (op_build Try.underlying29 ti29 (pl := [(0, 1), (1, 1), (2, 1), (3, 1), (4, 1), (5, 1), (6, 1), (7, 1), (8, 1)]) (vs := []) (cs := #[.int .i64 (0 : Int), .bool false, .slice none 0 0, .slice none 0 0, .slice none 0 0, .slice none 0 0, .slice none 0 0, .slice none 0 0, .int .i64 (0 : Int)]) (by kernel_rfl) rfl (by kernel_rfl)) ?_)))))
  refine zm rfl ?_
  have hobt := oblkStAgg (us := [.int .i64 (0 : Int), .bool false, .slice none 0 0, .slice none 0 0, .slice none 0 0, .slice none 0 0, .slice none 0 0, .slice none 0 0, .int .i64 (0 : Int)]) (o := 0) (cs' := #[.int .i64 (0 : Int), .bool false, .slice none 0 0, .slice none 0 0, .slice none 0 0, .slice none 0 0, .slice none 0 0, .slice none 0 0, .int .i64 (0 : Int)]) 0 hO rfl rfl (Nat.le_of_ble_eq_true rfl) rfl
  obtain ⟨w22, mX, Hl⟩ := hobt
  refine zg (Hl ti29 (by exact rfl) (by exact rfl) rfl) ?_
  replace hO := mX.own
  refine za rfl (zn ?_)
  refine Go1.retC2 Try.func17 rfl rfl (run_loadBlk (vs := [.int .i64 (0 : Int), .bool false, .slice none 0 0, .slice none 0 0, .slice none 0 0, .slice none 0 0, .slice none 0 0, .slice none 0 0, .int .i64 (0 : Int)]) 0 hO rfl rfl Try.underlying29 rfl ti29) ?_
  replace hB := ((hB.trans dI.fr).trans iJ.fr).trans mX.fr
  exact ⟨(⟨(0 : Int), false, ([] : List (List Int)), ([] : List (List Int)), ([] : List Int), ([] : List Int), ([] : List (List Int)), ([] : List Rule), (0 : Int)⟩ : Enum), r8, none, 0, none, 0, none, 0, none, 0, none, 0, none, 0, rfl, hB.same, (ISl.null _ _ _), (ISl.null _ _ _), (ISl.null _ _ _), (ISl.null _ _ _), (ISl.null _ _ _), (ISl.null _ _ _), H⟩
 ·refine exE fun r7 => exE fun r8 => exE fun gt => exE fun tD => exE fun tE => exE fun tF => exE fun sg => exE fun si => exE fun sj => exE fun sk => exE fun rv => exE fun ry => exE fun rz => exE fun rB => exE fun qn => exE fun tG => exE fun tH => exE fun tI => exE fun sm => exE fun sn => exE fun sq => exE fun sr => exE fun rC => exE fun ss => exE fun su => exE fun sv => exE fun rD => exE fun bC => exE fun xS => exE fun xT => exE fun xU => exE fun wF => exE fun wG => exE fun wH => exE fun wI => exE fun vT => exE fun wJ => exE fun wK => exE fun wL => exE fun vU => andE fun hv25 => andE fun vL => andE fun hN12 => andE fun eQ => andE fun dX => andE fun dW => andE fun eU => andE fun en => andE fun eo => andE fun fy => andE fun fH => andE fun fI => fun H => ?_
  subst hv25
  clear hcase13
  replace H := oElimS H
  have jA := Stp.more hO vL hN12
  dsimp only [List.cons_append, List.nil_append] at jA
  replace hO := jA.own
  replace eQ := eQ.ch (Ch.assoc _ _ _ _)
  dsimp only [List.cons_append, List.nil_append] at eQ
  replace dX := dX.ch (Ch.assoc _ _ _ _)
  dsimp only [List.cons_append, List.nil_append] at dX
  replace dW := dW.ch (Ch.assoc _ _ _ _)
  dsimp only [List.cons_append, List.nil_append] at dW
  replace eU := eU.ch (Ch.assoc _ _ _ _)
  dsimp only [List.cons_append, List.nil_append] at eU
  replace en := en.ch (Ch.assoc _ _ _ _)
  dsimp only [List.cons_append, List.nil_append] at en
  replace eo := eo.ch (Ch.assoc _ _ _ _)
  dsimp only [List.cons_append, List.nil_append] at eo
  replace fy := fy.ch (Ch.assoc _ _ _ _)
  dsimp only [List.cons_append, List.nil_append] at fy
  replace fH := fH.ch (Ch.assoc _ _ _ _)
  dsimp only [List.cons_append, List.nil_append] at fH
  replace fI := fI.ch (Ch.assoc _ _ _ _)
  dsimp only [List.cons_append, List.nil_append] at fI
  refine zm rfl (zo (op_extract rfl rfl) (zo (op_extract rfl rfl) (za rfl (za rfl (zn ?_)))))
  refine zq (zq (zr (zm rfl ?_)))
  by_cases h38 : r8 = (0 : Int)
  ·replace H := ifp h38 H
   refine zo (fun w => opB (op_neq rfl rfl w) (ndT h38)) (zn (zf rfl rfl (zk (zq (zb ?_)))))
   replace hB := (hB.trans dI.fr).trans jA.fr
   refine Go1.loopW (S := Int × Bool × Int × List (List Int) × List (List Int) × List Int × List Int × List (List Int) × List Rule × List Str × List Int × List Int × (List (Str × Int))) (fun s σ w => match s with | (k2_40, b2_41, k2_42, d_43, d_49, d_55, d_61, d_67, d_73, d_79, d_85, d_91, m2_97) => ∃ (n48 : Nat), ∃ (p46 : Option Addr), ∃ (c47 : Nat), ∃ (vd : List Value), ∃ (n54 : Nat), ∃ (p52 : Option Addr), ∃ (c53 : Nat), ∃ (ve : List Value), ∃ (n60 : Nat), ∃ (p58 : Option Addr), ∃ (c59 : Nat), ∃ (vg : List Value), ∃ (n66 : Nat), ∃ (p64 : Option Addr), ∃ (c65 : Nat), ∃ (vh : List Value), ∃ (n72 : Nat), ∃ (p70 : Option Addr), ∃ (c71 : Nat), ∃ (vi : List Value), ∃ (n78 : Nat), ∃ (p76 : Option Addr), ∃ (c77 : Nat), ∃ (vj : List Value), ∃ (n84 : Nat), ∃ (p82 : Option Addr), ∃ (c83 : Nat), ∃ (tn : List Value), ∃ (n90 : Nat), ∃ (p88 : Option Addr), ∃ (c89 : Nat), ∃ (vk : List Value), ∃ (n96 : Nat), ∃ (p94 : Option Addr), ∃ (c95 : Nat), ∃ (vl : List Value), agrees σ [(4, .pointer (some ⟨B2, 0, none⟩)), (6, .pointer (some ⟨gt, 0, none⟩))] ∧ (fun Z0 => Owns w0.heap.size w Z0 A ∧ Els (Rp.sl (Rp.int .i64)) (bl Z0 ++ A) w vd d_43 ∧ Els (Rp.sl (Rp.int .i64)) (bl Z0 ++ A) w ve d_49 ∧ Els (Rp.int .i64) (bl Z0 ++ A) w vg d_55 ∧ Els (Rp.int .i64) (bl Z0 ++ A) w vh d_61 ∧ Els (Rp.sl (Rp.int .i64)) (bl Z0 ++ A) w vi d_67 ∧ Els (rpRule) (bl Z0 ++ A) w vj d_73 ∧ Els (Rp.str) (bl Z0 ++ A) w tn d_79 ∧ Els (Rp.int .i64) (bl Z0 ++ A) w vk d_85 ∧ Els (Rp.int .i64) (bl Z0 ++ A) w vl d_91 ∧ Fr (bl []) w0 (bl Z0) w) [.blk gt (.cells #[.int .i64 k2_40, .bool b2_41, .slice p46 n48 c47, .slice p52 n54 c53, .slice p58 n60 c59, .slice p64 n66 c65, .slice p70 n72 c71, .slice p76 n78 c77, .int .i64 k2_42, .map (some bC), .slice p82 n84 c83, .slice p88 n90 c89, .slice p94 n96 c95] 72 (0, 0)), .row 26 1 p46 n48 c47 vd, .row 26 1 p52 n54 c53 ve, .row 3 1 p58 n60 c59 vg, .row 3 1 p64 n66 c65 vh, .row 26 1 p70 n72 c71 vi, .row 39 2 p76 n78 c77 vj, .row 9 1 p82 n84 c83 tn, .row 3 1 p88 n90 c89 vk, .row 3 1 p94 n96 c95 vl, .any (mapE (fun a : List UInt8 => Value.string (gstr a)) (fun a : Int => Value.int .i64 a) bC m2_97), .blk B2 (.cells #[.int .i64 (0 : Int), .bool false, .slice none 0 0, .slice none 0 0, .slice none 0 0, .slice none 0 0, .slice none 0 0, .slice none 0 0, .int .i64 (0 : Int)] 29 (0, 0))]) H ⟨tD, tE, tF, sg, si, sj, sk, rv, ry, rz, rB, qn, tG, tH, tI, sm, sn, sq, sr, rC, ss, su, sv, rD, xS, xT, xU, wF, wG, wH, wI, vT, wJ, wK, wL, vU, ⟨rfl, rfl, trivial⟩, hO, eQ, dX, dW, eU, en, eo, fy, fH, fI, hB⟩ ?_
   intro X2
   refine prE fun k2_40 => prE fun b2_41 => prE fun k2_42 => prE fun d_43 => prE fun d_49 => prE fun d_55 => prE fun d_61 => prE fun d_67 => prE fun d_73 => prE fun d_79 => prE fun d_85 => prE fun d_91 => fun m2_97 => ?_
   intro H hX2 σ w39
   refine exE fun n48 => exE fun p46 => exE fun c47 => exE fun vd => exE fun n54 => exE fun p52 => exE fun c53 => exE fun ve => exE fun n60 => exE fun p58 => exE fun c59 => exE fun vg => exE fun n66 => exE fun p64 => exE fun c65 => exE fun vh => exE fun n72 => exE fun p70 => exE fun c71 => exE fun vi => exE fun n78 => exE fun p76 => exE fun c77 => exE fun vj => exE fun n84 => exE fun p82 => exE fun c83 => exE fun tn => exE fun n90 => exE fun p88 => exE fun c89 => exE fun vk => exE fun n96 => exE fun p94 => exE fun c95 => exE fun vl => andE fun hag => andE fun hO => andE fun EW => andE fun BS => andE fun A8 => andE fun fO => andE fun qO => andE fun tJ => andE fun vV => andE fun f6 => andE fun nt => fun hB => ?_
   dsimp only at H
   refine Go1.keep [(4, .pointer (some ⟨B2, 0, none⟩)), (6, .pointer (some ⟨gt, 0, none⟩))] hag ?_
   refine zq (zq (zr (zm rfl ?_)))
   refine GoR.inl (vs := [.pointer (some ⟨gt, 0, none⟩)]) (caps := []) rfl rfl body50 Try.func50 rfl Try.ntmps50 rfl rfl rfl ?_
   intro RhR98 hR98
   refine zq (zr (za rfl (zn (zq ?_))))
   refine Go1.drawS 0 [(0, .pure), (1, .pure), (2, .pure), (3, .pure), (4, .stable), (5, .pure), (6, .pure), (7, .pure), (8, .pure), (9, .stable), (10, .pure), (11, .pure), (12, .pure)] mixed (by kernel_rfl) ?_
   intro w99 Hm
   have gO := Stp.same hO Hm
   replace hO := gO.own
   refine GoQ.pure rfl (op_move rfl) rfl rfl ?_
   refine GoQ.pure rfl (op_nilCheck rfl) rfl rfl ?_
   refine GoQ.pure rfl (op_fieldAddr Try.underlying72 rfl ti29 rfl (by decide)) rfl rfl ?_
   refine GoQ.pure rfl (op_fieldAddr Try.underlying29 rfl ti3 rfl (by decide)) rfl rfl ?_
   refine GoQ.stable rfl (oblk (i := 8) 0 hO rfl rfl Try.underlying3 rfl rfl) rfl rfl ?_
   refine GoQ.pure rfl (op_move rfl) rfl rfl ?_
   refine GoQ.pure rfl (op_nilCheck rfl) rfl rfl ?_
   refine GoQ.pure rfl (op_fieldAddr Try.underlying72 rfl ti29 rfl (by decide)) rfl rfl ?_
   refine GoQ.pure rfl (op_fieldAddr Try.underlying29 rfl ti22 rfl (by decide)) rfl rfl ?_
   refine GoQ.stable rfl (oblk (i := 3) 0 hO rfl rfl Try.underlying22 rfl rfl) rfl rfl ?_
   replace BS := BS.ch gO.ch
   refine GoQ.pure rfl (op_lenN Try.underlying22 rfl (BS.neq hO 2 rfl)) rfl rfl ?_
   by_cases xD : k2_42 = (d_49.length : Int)
   ·replace H := ifp xD H
    refine GoQ.pure rfl (fun w => opB (op_eql rfl rfl w) (decide_eq_true xD)) rfl rfl ?_
    refine GoQ.pure rfl (op_assign rfl) rfl rfl ?_
    refine GoQ.nil ?_
    refine Go1.ret1V Try.func50 rfl (show _ = .bool true from rfl) ?_
    refine hR98 _ _ ?_
    refine zo (op_not rfl) (zn (zf rfl rfl ?_))
    refine Go1.exit rfl ?_
    refine zq (zr (zm rfl (zo (op_nilCheck rfl) (zo (op_fieldAddr Try.underlying72 rfl ti29 rfl (by decide)) (zs (oblkAgg (vs := [.int .i64 k2_40, .bool b2_41, .slice p46 n48 c47, .slice p52 n54 c53, .slice p58 n60 c59, .slice p64 n66 c65, .slice p70 n72 c71, .slice p76 n78 c77, .int .i64 k2_42]) (i := 0) 0 hO rfl rfl Try.underlying29 rfl ti29 rfl) ?_)))))
    have hobt := oblkStAgg (us := [.int .i64 k2_40, .bool b2_41, .slice p46 n48 c47, .slice p52 n54 c53, .slice p58 n60 c59, .slice p64 n66 c65, .slice p70 n72 c71, .slice p76 n78 c77, .int .i64 k2_42]) (o := 0) (cs' := #[.int .i64 k2_40, .bool b2_41, .slice p46 n48 c47, .slice p52 n54 c53, .slice p58 n60 c59, .slice p64 n66 c65, .slice p70 n72 c71, .slice p76 n78 c77, .int .i64 k2_42]) 11 hO rfl rfl (Nat.le_of_ble_eq_true rfl) rfl
    obtain ⟨abn, lL, MH⟩ := hobt
    dsimp only [sS, sZ] at lL
    refine zg (MH ti29 (by exact rfl) (by exact rfl) rfl) ?_
    replace hO := lL.own
    refine za rfl (zn ?_)
    replace EW := (EW.ch gO.ch).ch lL.ch
    have hobt := freeze 1 hO rfl EW
    obtain ⟨hO1, zK, xd, Qq⟩ := hobt
    dsimp only [eS, eZ] at hO1 zK xd
    replace hB := ((hB.trans gO.fr).trans lL.fr).trans (Owns.dropFr _ _ 1)
    dsimp only [eS, eZ] at hB
    replace hO := hO1; clear hO1
    replace BS := (BS.ch lL.ch).ch zK
    have hobt := freeze 1 hO rfl BS
    obtain ⟨hO1, zL, yG, Qr⟩ := hobt
    dsimp only [eS, eZ] at hO1 zL yG
    replace hB := hB.trans (Owns.dropFr _ _ 1)
    dsimp only [eS, eZ] at hB
    replace hO := hO1; clear hO1
    have Z1 := ((gO.ch.trans lL.ch).trans zK).trans zL
    replace A8 := A8.ch Z1
    have hobt := freeze 1 hO rfl A8
    obtain ⟨hO1, zM, xG, Hn⟩ := hobt
    dsimp only [eS, eZ] at hO1 zM xG
    replace hB := hB.trans (Owns.dropFr _ _ 1)
    dsimp only [eS, eZ] at hB
    replace hO := hO1; clear hO1
    replace fO := (fO.ch Z1).ch zM
    have hobt := freeze 1 hO rfl fO
    obtain ⟨hO1, zN, Dt, Qs⟩ := hobt
    dsimp only [eS, eZ] at hO1 zN Dt
    replace hB := hB.trans (Owns.dropFr _ _ 1)
    dsimp only [eS, eZ] at hB
    replace hO := hO1; clear hO1
    replace qO := ((qO.ch Z1).ch zM).ch zN
    have hobt := freeze 1 hO rfl qO
    obtain ⟨hO1, zO, Fh, Qt⟩ := hobt
    dsimp only [eS, eZ] at hO1 zO Fh
    replace hB := hB.trans (Owns.dropFr _ _ 1)
    dsimp only [eS, eZ] at hB
    replace hO := hO1; clear hO1
    have Z2 := ((Z1.trans zM).trans zN).trans zO
    replace tJ := tJ.ch Z2
    have hobt := freeze 1 hO rfl tJ
    obtain ⟨hO1, zP, Kd, Qu⟩ := hobt
    dsimp only [eS, eZ] at hO1 zP Kd
    replace hB := hB.trans (Owns.dropFr _ _ 1)
    dsimp only [eS, eZ] at hB
    replace hO := hO1; clear hO1
    refine Go1.retC2 Try.func17 rfl rfl (run_loadBlk (vs := [.int .i64 k2_40, .bool b2_41, .slice p46 n48 c47, .slice p52 n54 c53, .slice p58 n60 c59, .slice p64 n66 c65, .slice p70 n72 c71, .slice p76 n78 c77, .int .i64 k2_42]) 5 hO rfl rfl Try.underlying29 rfl ti29) ?_
    replace Fh := Fh.ch zP
    replace Dt := (Dt.ch zO).ch zP
    have Z3 := (zN.trans zO).trans zP
    replace xG := xG.ch Z3
    have Z4 := ((zM.trans zN).trans zO).trans zP
    replace yG := yG.ch Z4
    have Z5 := (((zL.trans zM).trans zN).trans zO).trans zP
    replace xd := xd.ch Z5
    exact ⟨(⟨k2_40, b2_41, d_43, d_49, d_55, d_61, d_67, d_73, k2_42⟩ : Enum), (0 : Int), p46, c47, p52, c53, p58, c59, p64, c65, p70, c71, p76, c77, (congrArg (fun l => Value.tuple (List.toArray l)) (cons_eq (congrArg (fun l => Value.agg (List.toArray l)) (cons_eq rfl (cons_eq rfl (cons_eq (congrArg (fun nn => Value.slice p46 nn c47) Qq) (cons_eq (congrArg (fun nn => Value.slice p52 nn c53) Qr) (cons_eq (congrArg (fun nn => Value.slice p58 nn c59) Hn) (cons_eq (congrArg (fun nn => Value.slice p64 nn c65) Qs) (cons_eq (congrArg (fun nn => Value.slice p70 nn c71) Qt) (cons_eq (congrArg (fun nn => Value.slice p76 nn c77) Qu) (cons_eq rfl rfl)))))))))) (cons_eq rfl rfl))), hB.same, (xd.ch (Ch.weak _ _ _)), (yG.ch (Ch.weak _ _ _)), (xG.ch (Ch.weak _ _ _)), (Dt.ch (Ch.weak _ _ _)), (Fh.ch (Ch.weak _ _ _)), (Kd.ch (Ch.weak _ _ _)), H⟩
   replace H := ifn xD H
   refine GoQ.pure rfl (fun w => opB (op_eql rfl rfl w) (decide_eq_false xD)) rfl rfl ?_
   refine GoQ.pure rfl (op_assign rfl) rfl rfl ?_
   refine GoQ.nil ?_
   refine Go1.ret1V Try.func50 rfl (show _ = .bool false from rfl) ?_
   refine hR98 _ _ ?_
   refine zo (op_not rfl) (zn (zt rfl rfl (zk (zb (zq ?_)))))
   refine Go1.cut [(4, .pointer (some ⟨B2, 0, none⟩)), (6, .pointer (some ⟨gt, 0, none⟩))] ⟨rfl, rfl, trivial⟩ ?_
   intro σ _
   refine zr (zm rfl ?_)
   have Ke : Owns w0.heap.size w99 ([.blk gt (.cells #[.int .i64 k2_40, .bool b2_41, .slice p46 n48 c47, .slice p52 n54 c53, .slice p58 n60 c59, .slice p64 n66 c65, .slice p70 n72 c71, .slice p76 n78 c77, .int .i64 k2_42, .map (some bC), .slice p82 n84 c83, .slice p88 n90 c89, .slice p94 n96 c95] 72 (0, 0)), .row 26 1 p46 n48 c47 vd, .row 26 1 p52 n54 c53 ve, .row 3 1 p58 n60 c59 vg, .row 3 1 p64 n66 c65 vh, .row 26 1 p70 n72 c71 vi, .row 39 2 p76 n78 c77 vj, .row 9 1 p82 n84 c83 tn, .row 3 1 p88 n90 c89 vk, .row 3 1 p94 n96 c95 vl, .any (mapE (fun a : List UInt8 => Value.string (gstr a)) (fun a : Int => Value.int .i64 a) bC m2_97)] ++ [.blk B2 (.cells #[.int .i64 (0 : Int), .bool false, .slice none 0 0, .slice none 0 0, .slice none 0 0, .slice none 0 0, .slice none 0 0, .slice none 0 0, .int .i64 (0 : Int)] 29 (0, 0))]) A := hO
   have Qv := Owns.split Ke
   have hca126 : Ch (bl [.blk gt (.cells #[.int .i64 k2_40, .bool b2_41, .slice p46 n48 c47, .slice p52 n54 c53, .slice p58 n60 c59, .slice p64 n66 c65, .slice p70 n72 c71, .slice p76 n78 c77, .int .i64 k2_42, .map (some bC), .slice p82 n84 c83, .slice p88 n90 c89, .slice p94 n96 c95] 72 (0, 0)), .row 26 1 p46 n48 c47 vd, .row 26 1 p52 n54 c53 ve, .row 3 1 p58 n60 c59 vg, .row 3 1 p64 n66 c65 vh, .row 26 1 p70 n72 c71 vi, .row 39 2 p76 n78 c77 vj, .row 9 1 p82 n84 c83 tn, .row 3 1 p88 n90 c89 vk, .row 3 1 p94 n96 c95 vl, .any (mapE (fun a : List UInt8 => Value.string (gstr a)) (fun a : Int => Value.int .i64 a) bC m2_97), .blk B2 (.cells #[.int .i64 (0 : Int), .bool false, .slice none 0 0, .slice none 0 0, .slice none 0 0, .slice none 0 0, .slice none 0 0, .slice none 0 0, .int .i64 (0 : Int)] 29 (0, 0))] ++ A) w99 (bl [.blk gt (.cells #[.int .i64 k2_40, .bool b2_41, .slice p46 n48 c47, .slice p52 n54 c53, .slice p58 n60 c59, .slice p64 n66 c65, .slice p70 n72 c71, .slice p76 n78 c77, .int .i64 k2_42, .map (some bC), .slice p82 n84 c83, .slice p88 n90 c89, .slice p94 n96 c95] 72 (0, 0)), .row 26 1 p46 n48 c47 vd, .row 26 1 p52 n54 c53 ve, .row 3 1 p58 n60 c59 vg, .row 3 1 p64 n66 c65 vh, .row 26 1 p70 n72 c71 vi, .row 39 2 p76 n78 c77 vj, .row 9 1 p82 n84 c83 tn, .row 3 1 p88 n90 c89 vk, .row 3 1 p94 n96 c95 vl, .any (mapE (fun a : List UInt8 => Value.string (gstr a)) (fun a : Int => Value.int .i64 a) bC m2_97)] ++ (bl [.blk B2 (.cells #[.int .i64 (0 : Int), .bool false, .slice none 0 0, .slice none 0 0, .slice none 0 0, .slice none 0 0, .slice none 0 0, .slice none 0 0, .int .i64 (0 : Int)] 29 (0, 0))] ++ A)) w99 := Ch.assoc' [.blk gt (.cells #[.int .i64 k2_40, .bool b2_41, .slice p46 n48 c47, .slice p52 n54 c53, .slice p58 n60 c59, .slice p64 n66 c65, .slice p70 n72 c71, .slice p76 n78 c77, .int .i64 k2_42, .map (some bC), .slice p82 n84 c83, .slice p88 n90 c89, .slice p94 n96 c95] 72 (0, 0)), .row 26 1 p46 n48 c47 vd, .row 26 1 p52 n54 c53 ve, .row 3 1 p58 n60 c59 vg, .row 3 1 p64 n66 c65 vh, .row 26 1 p70 n72 c71 vi, .row 39 2 p76 n78 c77 vj, .row 9 1 p82 n84 c83 tn, .row 3 1 p88 n90 c89 vk, .row 3 1 p94 n96 c95 vl, .any (mapE (fun a : List UInt8 => Value.string (gstr a)) (fun a : Int => Value.int .i64 a) bC m2_97)] [.blk B2 (.cells #[.int .i64 (0 : Int), .bool false, .slice none 0 0, .slice none 0 0, .slice none 0 0, .slice none 0 0, .slice none 0 0, .slice none 0 0, .int .i64 (0 : Int)] 29 (0, 0))] A w99
   replace EW := EW.ch gO.ch
   replace A8 := A8.ch gO.ch
   replace fO := fO.ch gO.ch
   replace qO := qO.ch gO.ch
   replace tJ := tJ.ch gO.ch
   replace vV := vV.ch gO.ch
   replace f6 := f6.ch gO.ch
   replace nt := nt.ch gO.ch
   refine GoR.call (op_call body51 rfl (walk_enumerate_run_process (a0 := (⟨(⟨k2_40, b2_41, d_43, d_49, d_55, d_61, d_67, d_73, k2_42⟩ : Enum), m2_97, d_79, d_85, d_91⟩ : run)) Qv (EW.ch hca126) (BS.ch hca126) (A8.ch hca126) (fO.ch hca126) (qO.ch hca126) (tJ.ch hca126) (vV.ch hca126) (f6.ch hca126) (nt.ch hca126) H)) rfl rfl ?_
   intro abo F4
   refine exE fun r127 => exE fun q128 => exE fun ki => exE fun kj => exE fun kl => exE fun qo => exE fun jB => exE fun jC => exE fun jD => exE fun pC => exE fun jf => exE fun jg => exE fun jh => exE fun oO => exE fun km => exE fun kn => exE fun ko => exE fun qp => exE fun jE => exE fun jF => exE fun jG => exE fun pD => exE fun jH => exE fun jI => exE fun jJ => exE fun pE => exE fun nS => exE fun nT => exE fun nU => exE fun u7 => exE fun mf => exE fun mg => exE fun mh => exE fun tK => exE fun mj => exE fun ml => exE fun mm => exE fun tL => andE fun hv134 => andE fun hN131 => andE fun qq => andE fun pF => andE fun oP => andE fun qr => andE fun pG => andE fun pI => andE fun u9 => andE fun tM => andE fun tN => andE fun hF132 => fun H => ?_
   subst hv134
   have H4 : Stp w0.heap.size A w99 [.blk gt (.cells #[.int .i64 k2_40, .bool b2_41, .slice p46 n48 c47, .slice p52 n54 c53, .slice p58 n60 c59, .slice p64 n66 c65, .slice p70 n72 c71, .slice p76 n78 c77, .int .i64 k2_42, .map (some bC), .slice p82 n84 c83, .slice p88 n90 c89, .slice p94 n96 c95] 72 (0, 0)), .row 26 1 p46 n48 c47 vd, .row 26 1 p52 n54 c53 ve, .row 3 1 p58 n60 c59 vg, .row 3 1 p64 n66 c65 vh, .row 26 1 p70 n72 c71 vi, .row 39 2 p76 n78 c77 vj, .row 9 1 p82 n84 c83 tn, .row 3 1 p88 n90 c89 vk, .row 3 1 p94 n96 c95 vl, .any (mapE (fun a : List UInt8 => Value.string (gstr a)) (fun a : Int => Value.int .i64 a) bC m2_97), .blk B2 (.cells #[.int .i64 (0 : Int), .bool false, .slice none 0 0, .slice none 0 0, .slice none 0 0, .slice none 0 0, .slice none 0 0, .slice none 0 0, .int .i64 (0 : Int)] 29 (0, 0))] F4 [.blk gt (.cells #[.int .i64 q128.Enum.Points, .bool q128.Enum.Monoid, .slice kj ki kl, .slice jC jB jD, .slice jg jf jh, .slice kn km ko, .slice jF jE jG, .slice jI jH jJ, .int .i64 q128.Enum.Done, .map (some bC), .slice nT nS nU, .slice mg mf mh, .slice ml mj mm] 72 (0, 0)), .row 26 1 kj ki kl qo, .row 26 1 jC jB jD pC, .row 3 1 jg jf jh oO, .row 3 1 kn km ko qp, .row 26 1 jF jE jG pD, .row 39 2 jI jH jJ pE, .row 9 1 nT nS nU u7, .row 3 1 mg mf mh tK, .row 3 1 ml mj mm tL, .any (mapE (fun a : List UInt8 => Value.string (gstr a)) (fun a : Int => Value.int .i64 a) bC q128.number), .blk B2 (.cells #[.int .i64 (0 : Int), .bool false, .slice none 0 0, .slice none 0 0, .slice none 0 0, .slice none 0 0, .slice none 0 0, .slice none 0 0, .int .i64 (0 : Int)] 29 (0, 0))] := Stp.join Ke hN131 hF132
   replace hO := H4.own
   have hca135 : Ch (bl [.blk gt (.cells #[.int .i64 q128.Enum.Points, .bool q128.Enum.Monoid, .slice kj ki kl, .slice jC jB jD, .slice jg jf jh, .slice kn km ko, .slice jF jE jG, .slice jI jH jJ, .int .i64 q128.Enum.Done, .map (some bC), .slice nT nS nU, .slice mg mf mh, .slice ml mj mm] 72 (0, 0)), .row 26 1 kj ki kl qo, .row 26 1 jC jB jD pC, .row 3 1 jg jf jh oO, .row 3 1 kn km ko qp, .row 26 1 jF jE jG pD, .row 39 2 jI jH jJ pE, .row 9 1 nT nS nU u7, .row 3 1 mg mf mh tK, .row 3 1 ml mj mm tL, .any (mapE (fun a : List UInt8 => Value.string (gstr a)) (fun a : Int => Value.int .i64 a) bC q128.number)] ++ (bl [.blk B2 (.cells #[.int .i64 (0 : Int), .bool false, .slice none 0 0, .slice none 0 0, .slice none 0 0, .slice none 0 0, .slice none 0 0, .slice none 0 0, .int .i64 (0 : Int)] 29 (0, 0))] ++ A)) F4 (bl [.blk gt (.cells #[.int .i64 q128.Enum.Points, .bool q128.Enum.Monoid, .slice kj ki kl, .slice jC jB jD, .slice jg jf jh, .slice kn km ko, .slice jF jE jG, .slice jI jH jJ, .int .i64 q128.Enum.Done, .map (some bC), .slice nT nS nU, .slice mg mf mh, .slice ml mj mm] 72 (0, 0)), .row 26 1 kj ki kl qo, .row 26 1 jC jB jD pC, .row 3 1 jg jf jh oO, .row 3 1 kn km ko qp, .row 26 1 jF jE jG pD, .row 39 2 jI jH jJ pE, .row 9 1 nT nS nU u7, .row 3 1 mg mf mh tK, .row 3 1 ml mj mm tL, .any (mapE (fun a : List UInt8 => Value.string (gstr a)) (fun a : Int => Value.int .i64 a) bC q128.number), .blk B2 (.cells #[.int .i64 (0 : Int), .bool false, .slice none 0 0, .slice none 0 0, .slice none 0 0, .slice none 0 0, .slice none 0 0, .slice none 0 0, .int .i64 (0 : Int)] 29 (0, 0))] ++ A) F4 := Ch.assoc [.blk gt (.cells #[.int .i64 q128.Enum.Points, .bool q128.Enum.Monoid, .slice kj ki kl, .slice jC jB jD, .slice jg jf jh, .slice kn km ko, .slice jF jE jG, .slice jI jH jJ, .int .i64 q128.Enum.Done, .map (some bC), .slice nT nS nU, .slice mg mf mh, .slice ml mj mm] 72 (0, 0)), .row 26 1 kj ki kl qo, .row 26 1 jC jB jD pC, .row 3 1 jg jf jh oO, .row 3 1 kn km ko qp, .row 26 1 jF jE jG pD, .row 39 2 jI jH jJ pE, .row 9 1 nT nS nU u7, .row 3 1 mg mf mh tK, .row 3 1 ml mj mm tL, .any (mapE (fun a : List UInt8 => Value.string (gstr a)) (fun a : Int => Value.int .i64 a) bC q128.number)] [.blk B2 (.cells #[.int .i64 (0 : Int), .bool false, .slice none 0 0, .slice none 0 0, .slice none 0 0, .slice none 0 0, .slice none 0 0, .slice none 0 0, .int .i64 (0 : Int)] 29 (0, 0))] A F4
   refine za rfl (zn (zq (zr (zm rfl ?_))))
   by_cases BD : r127 = (0 : Int)
   ·replace H := ifp BD H
    refine zo (fun w => opB (op_neq rfl rfl w) (ndT BD)) (zn (zf rfl rfl (zk ?_)))
    refine Go1.inBlock ?_
    replace qq := qq.ch hca135
    replace pF := pF.ch hca135
    replace oP := oP.ch hca135
    replace qr := qr.ch hca135
    replace pG := pG.ch hca135
    replace pI := pI.ch hca135
    replace u9 := u9.ch hca135
    replace tM := tM.ch hca135
    replace tN := tN.ch hca135
    replace hB := (hB.trans gO.fr).trans H4.fr
    exact hX2 _ H _ _ ⟨ki, kj, kl, qo, jB, jC, jD, pC, jf, jg, jh, oO, km, kn, ko, qp, jE, jF, jG, pD, jH, jI, jJ, pE, nS, nT, nU, u7, mf, mg, mh, tK, mj, ml, mm, tL, ⟨rfl, rfl, trivial⟩, hO, qq, pF, oP, qr, pG, pI, u9, tM, tN, hB⟩
   replace H := ifn BD H
   refine zo (fun w => opB (op_neq rfl rfl w) (ndF BD)) (zn (zt rfl rfl (zq (zr (zo (op_build Try.underlying29 ti29 (pl := [(0, 1), (1, 1), (2, 1), (3, 1), (4, 1), (5, 1), (6, 1), (7, 1), (8, 1)]) (vs := []) (cs := #[.int .i64 (0 : Int), .bool false, .slice none 0 0, .slice none 0 0, .slice none 0 0, .slice none 0 0, .slice none 0 0, .slice none 0 0, .int .i64 (0 : Int)]) (by kernel_rfl) rfl (by kernel_rfl)) ?_)))))
   refine zm rfl ?_
   have hobt := oblkStAgg (us := [.int .i64 (0 : Int), .bool false, .slice none 0 0, .slice none 0 0, .slice none 0 0, .slice none 0 0, .slice none 0 0, .slice none 0 0, .int .i64 (0 : Int)]) (o := 0) (cs' := #[.int .i64 (0 : Int), .bool false, .slice none 0 0, .slice none 0 0, .slice none 0 0, .slice none 0 0, .slice none 0 0, .slice none 0 0, .int .i64 (0 : Int)]) 11 hO rfl rfl (Nat.le_of_ble_eq_true rfl) rfl
   obtain ⟨abp, va, MJ⟩ := hobt
   dsimp only [sS, sZ] at va
   refine zg (MJ ti29 (by exact rfl) (by exact rfl) rfl) ?_
   replace hO := va.own
   refine za rfl (zn ?_)
   refine Go1.retC2 Try.func17 rfl rfl (run_loadBlk (vs := [.int .i64 (0 : Int), .bool false, .slice none 0 0, .slice none 0 0, .slice none 0 0, .slice none 0 0, .slice none 0 0, .slice none 0 0, .int .i64 (0 : Int)]) 11 hO rfl rfl Try.underlying29 rfl ti29) ?_
   replace hB := ((hB.trans gO.fr).trans H4.fr).trans va.fr
   exact ⟨(⟨(0 : Int), false, ([] : List (List Int)), ([] : List (List Int)), ([] : List Int), ([] : List Int), ([] : List (List Int)), ([] : List Rule), (0 : Int)⟩ : Enum), r127, none, 0, none, 0, none, 0, none, 0, none, 0, none, 0, rfl, hB.same, (ISl.null _ _ _), (ISl.null _ _ _), (ISl.null _ _ _), (ISl.null _ _ _), (ISl.null _ _ _), (ISl.null _ _ _), H⟩
  replace H := ifn h38 H
  refine zo (fun w => opB (op_neq rfl rfl w) (ndF h38)) (zn (zt rfl rfl (zq (zr (zo (op_build Try.underlying29 ti29 (pl := [(0, 1), (1, 1), (2, 1), (3, 1), (4, 1), (5, 1), (6, 1), (7, 1), (8, 1)]) (vs := []) (cs := #[.int .i64 (0 : Int), .bool false, .slice none 0 0, .slice none 0 0, .slice none 0 0, .slice none 0 0, .slice none 0 0, .slice none 0 0, .int .i64 (0 : Int)]) (by kernel_rfl) rfl (by kernel_rfl)) ?_)))))
  refine zm rfl ?_
  have hobt := oblkStAgg (us := [.int .i64 (0 : Int), .bool false, .slice none 0 0, .slice none 0 0, .slice none 0 0, .slice none 0 0, .slice none 0 0, .slice none 0 0, .int .i64 (0 : Int)]) (o := 0) (cs' := #[.int .i64 (0 : Int), .bool false, .slice none 0 0, .slice none 0 0, .slice none 0 0, .slice none 0 0, .slice none 0 0, .slice none 0 0, .int .i64 (0 : Int)]) 11 hO rfl rfl (Nat.le_of_ble_eq_true rfl) rfl
  obtain ⟨abq, tO, ML⟩ := hobt
  dsimp only [sS, sZ] at tO
  refine zg (ML ti29 (by exact rfl) (by exact rfl) rfl) ?_
  replace hO := tO.own
  refine za rfl (zn ?_)
  refine Go1.retC2 Try.func17 rfl rfl (run_loadBlk (vs := [.int .i64 (0 : Int), .bool false, .slice none 0 0, .slice none 0 0, .slice none 0 0, .slice none 0 0, .slice none 0 0, .slice none 0 0, .int .i64 (0 : Int)]) 11 hO rfl rfl Try.underlying29 rfl ti29) ?_
  replace hB := ((hB.trans dI.fr).trans jA.fr).trans tO.fr
  exact ⟨(⟨(0 : Int), false, ([] : List (List Int)), ([] : List (List Int)), ([] : List Int), ([] : List Int), ([] : List (List Int)), ([] : List Rule), (0 : Int)⟩ : Enum), r8, none, 0, none, 0, none, 0, none, 0, none, 0, none, 0, rfl, hB.same, (ISl.null _ _ _), (ISl.null _ _ _), (ISl.null _ _ _), (ISl.null _ _ _), (ISl.null _ _ _), (ISl.null _ _ _), H⟩
theorem body70 : Body Try.prog 70 := ⟨Try.f70, Try.func70, rfl, by kernel_rfl⟩
theorem walk_slices_Equal_int {A : List Nat} {w0 : World} {sN : Option Addr} {sO : Nat} {sP : Option Addr} {sQ : Nat} {s1 : List Int} {s2 : List Int} (hA : ∀ b ∈ A, b < w0.heap.size) (kU : ISl (Rp.int .i64) A w0 sN sO s1) (lR : ISl (Rp.int .i64) A w0 sP sQ s2) {K : Bool → Prop} (H : slices_Equal_int s1 s2 K) :
    CallsV Try.prog 70 #[.slice sN s1.length sO, .slice sP s2.length sQ] w0 (fun v w' => ∃ (r0 : Bool), v = .bool r0 ∧ Same w0 w' ∧ K r0) := by
 refine CallsV.of (l := [.slice sN s1.length sO, .slice sP s2.length sQ]) Try.func70 rfl Try.ntmps70 rfl ?_
 have hO := Owns.start hA
 have hB := Fr.refl (bl []) w0
 unfold slices_Equal_int at H
 refine zq (zr (za rfl (zn (zq (zq ?_)))))
 refine zr (zm rfl (zo (op_len Try.underlying26 rfl) ?_))
 replace kU := kU.ch (Ch.start A w0)
 replace H := H kU.bd
 refine zm rfl (zo (op_len Try.underlying26 rfl) ?_)
 replace lR := lR.ch (Ch.start A w0)
 replace H := H lR.bd
 by_cases h1 : (s1.length : Int) = (s2.length : Int)
 ·replace H := ifp h1 H
  refine zo (fun w => opB (op_neq rfl rfl w) (ndT h1)) (zn (zf rfl rfl (zk (zq (zq ?_)))))
  refine zr (zm rfl (zo (op_len Try.underlying26 rfl) (zm rfl (zn (zb ?_)))))
  refine Go1.loopW (S := Nat) (fun s σ w => agrees σ [(0, .slice sN s1.length sO), (1, .slice sP s2.length sQ), (12, .int .i64 (s1.length : Int)), (13, .int .i64 (s : Int))] ∧ Owns w0.heap.size w [] A ∧ ISl (Rp.int .i64) (bl [] ++ A) w sN sO s1 ∧ ISl (Rp.int .i64) (bl [] ++ A) w sP sQ s2 ∧ Fr (bl []) w0 (bl []) w) H ⟨⟨rfl, rfl, rfl, rfl, trivial⟩, hO, kU, lR, hB⟩ ?_
  intro X1 k1_3
  intro H hX1 σ w2
  refine andE fun hag => andE fun hO => andE fun kU => andE fun lR => fun hB => ?_
  refine Go1.keep [(0, .slice sN s1.length sO), (1, .slice sP s2.length sQ), (12, .int .i64 (s1.length : Int)), (13, .int .i64 (k1_3 : Int))] hag ?_
  refine zq (zr ?_)
  by_cases h4 : (k1_3 : Int) < (s1.length : Int)
  ·replace H := ifp h4 H
   refine zo (fun w => opB (op_lss rfl rfl w) (decide_eq_true h4)) (zn (zq (zt rfl rfl (zk (zq ?_)))))
   refine zb (zq (zr (zm rfl (za rfl (zn ?_)))))
   refine zq ?_
   refine Go1.drawS 0 [(0, .pure), (1, .pure), (2, .pure), (3, .stable), (4, .pure), (5, .pure), (6, .pure), (7, .stable), (8, .pure)] mixed (by kernel_rfl) ?_
   intro w5 hs6
   have qQ := Stp.same hO hs6
   replace hO := qQ.own
   refine GoQ.pure rfl (op_move rfl) rfl rfl ?_
   refine GoQ.pure rfl (op_move rfl) rfl rfl ?_
   obtain ⟨h8, H⟩ := H
   obtain ⟨h9, H⟩ := H
   replace kU := kU.ch qQ.ch
   refine GoQ.pure rfl (op_index Try.underlying26 ti3 rfl rfl h8 h9 (kU.some_ h8 h9)) rfl rfl ?_
   refine GoQ.stable rfl (ldInt kU h8 h9 Try.underlying3 rfl rfl) rfl rfl ?_
   refine GoQ.pure rfl (op_move rfl) rfl rfl ?_
   refine GoQ.pure rfl (op_move rfl) rfl rfl ?_
   obtain ⟨h10, H⟩ := H
   obtain ⟨h11, H⟩ := H
   replace lR := lR.ch qQ.ch
   refine GoQ.pure rfl (op_index Try.underlying26 ti3 rfl rfl h10 h11 (lR.some_ h10 h11)) rfl rfl ?_
   refine GoQ.stable rfl (ldInt lR h10 h11 Try.underlying3 rfl rfl) rfl rfl ?_
   by_cases h12 : (ix s1 (k1_3 : Int)) = (ix s2 (k1_3 : Int))
   ·replace H := ifp h12 H
    refine GoQ.pure rfl (fun w => opB (op_neq rfl rfl w) (ndT h12)) rfl rfl ?_
    refine GoQ.nil ?_
    refine zf rfl rfl (zk ?_)
    refine Go1.inBlock ?_
    refine zr (zo (op_add rfl rfl (wrap_i64 (natbd h4 kU.bd))) (zm rfl (zn ?_)))
    replace hB := hB.trans qQ.fr
    exact hX1 _ H _ _ ⟨⟨rfl, rfl, rfl, rfl, trivial⟩, hO, kU, lR, hB⟩
   replace H := ifn h12 H
   refine GoQ.pure rfl (fun w => opB (op_neq rfl rfl w) (ndF h12)) rfl rfl ?_
   refine GoQ.nil ?_
   refine zt rfl rfl (zq (zr (za rfl (zn ?_))))
   refine Go1.ret1 Try.func70 rfl ?_
   replace hB := hB.trans qQ.fr
   exact ⟨false, rfl, hB.same, H⟩
  replace H := ifn h4 H
  refine zo (fun w => opB (op_lss rfl rfl w) (decide_eq_false h4)) (zn (zq (zf rfl rfl ?_)))
  refine Go1.exit rfl ?_
  refine zq (zr (za rfl (zn ?_)))
  refine Go1.ret1 Try.func70 rfl ?_
  exact ⟨true, rfl, hB.same, H⟩
 replace H := ifn h1 H
 refine zo (fun w => opB (op_neq rfl rfl w) (ndF h1)) (zn (zt rfl rfl (zq (zr (za rfl ?_)))))
 refine zn ?_
 refine Go1.ret1 Try.func70 rfl ?_
 exact ⟨false, rfl, hB.same, H⟩
theorem body69 : Body Try.prog 69 := ⟨Try.f69, Try.func69, rfl, by kernel_rfl⟩
theorem walk_slices_EqualFunc_int {A : List Nat} {w0 : World} {sN : Option Addr} {sO : Nat} {sP : Option Addr} {sQ : Nat} {s1 : List (List Int)} {s2 : List (List Int)} (hA : ∀ b ∈ A, b < w0.heap.size) (kU : ISl (Rp.sl (Rp.int .i64)) A w0 sN sO s1) (lR : ISl (Rp.sl (Rp.int .i64)) A w0 sP sQ s2) {K : Bool → Prop} (H : slices_EqualFunc_int s1 s2 K) :
    CallsV Try.prog 69 #[.slice sN s1.length sO, .slice sP s2.length sQ, .func (.func 70) #[] #[]] w0 (fun v w' => ∃ (r0 : Bool), v = .bool r0 ∧ Same w0 w' ∧ K r0) := by
 refine CallsV.of (l := [.slice sN s1.length sO, .slice sP s2.length sQ, .func (.func 70) #[] #[]]) Try.func69 rfl Try.ntmps69 rfl ?_
 have hO := Owns.start hA
 have hB := Fr.refl (bl []) w0
 unfold slices_EqualFunc_int at H
 refine zq (zr (za rfl (zn (zq (zq ?_)))))
 refine zr (zm rfl (zo (op_len Try.underlying22 rfl) ?_))
 replace kU := kU.ch (Ch.start A w0)
 replace H := H kU.bd
 refine zm rfl (zo (op_len Try.underlying22 rfl) ?_)
 replace lR := lR.ch (Ch.start A w0)
 replace H := H lR.bd
 by_cases h1 : (s1.length : Int) = (s2.length : Int)
 ·replace H := ifp h1 H
  refine zo (fun w => opB (op_neq rfl rfl w) (ndT h1)) (zn (zf rfl rfl (zk (zq (zq ?_)))))
  refine zr (zm rfl (zo (op_len Try.underlying22 rfl) (zm rfl (zn (zb ?_)))))
  refine Go1.loopW (S := Nat) (fun s σ w => agrees σ [(1, .slice sP s2.length sQ), (2, .func (.func 70) #[] #[]), (15, .slice sN s1.length sO), (16, .int .i64 (s1.length : Int)), (17, .int .i64 (s : Int))] ∧ Owns w0.heap.size w [] A ∧ ISl (Rp.sl (Rp.int .i64)) (bl [] ++ A) w sN sO s1 ∧ ISl (Rp.sl (Rp.int .i64)) (bl [] ++ A) w sP sQ s2 ∧ Fr (bl []) w0 (bl []) w) H ⟨⟨rfl, rfl, rfl, rfl, rfl, trivial⟩, hO, kU, lR, hB⟩ ?_
  intro X1 k1_3
  intro H hX1 σ w2
  refine andE fun hag => andE fun hO => andE fun kU => andE fun lR => fun hB => ?_
  refine Go1.keep [(1, .slice sP s2.length sQ), (2, .func (.func 70) #[] #[]), (15, .slice sN s1.length sO), (16, .int .i64 (s1.length : Int)), (17, .int .i64 (k1_3 : Int))] hag ?_
  refine zq (zr ?_)
  by_cases h4 : (k1_3 : Int) < (s1.length : Int)
  ·replace H := ifp h4 H
   refine zo (fun w => opB (op_lss rfl rfl w) (decide_eq_true h4)) (zn (zq (zt rfl rfl (zk (zq ?_)))))
   refine zb (zq (zr (zm rfl ?_)))
   obtain ⟨h5, H⟩ := H
   obtain ⟨h6, H⟩ := H
   refine zo (op_index Try.underlying22 ti26 rfl rfl h5 h6 (kU.some_ h5 h6)) ?_
   have hobt := ldSl kU h5 h6
   obtain ⟨p7, c8, hi9, Vq⟩ := hobt
   refine zs (Vq Try.underlying26 rfl rfl) (za rfl (za rfl (zn (zq (zr ?_)))))
   refine zm rfl (zm rfl ?_)
   obtain ⟨h11, H⟩ := H
   obtain ⟨h12, H⟩ := H
   refine zo (op_index Try.underlying22 ti26 rfl rfl h11 h12 (lR.some_ h11 h12)) ?_
   have hobt := ldSl lR h11 h12
   obtain ⟨p13, c14, lT, Jr⟩ := hobt
   refine zs (Jr Try.underlying26 rfl rfl) (za rfl (zn (zq (zr (zm rfl ?_)))))
   refine zm rfl (zm rfl ?_)
   refine GoR.call (op_callV (caps := []) body70 rfl rfl (walk_slices_Equal_int hO.lt hi9 lT H)) rfl rfl ?_
   rintro v21 w18 ⟨r17, rfl, EQ, H⟩
   have eK := Stp.same hO EQ
   replace hO := eK.own
   cases r17
   ·replace H := ifn Bool.false_ne_true H
    refine zo (op_not rfl) (zn (zt rfl rfl (zq (zr (za rfl ?_)))))
    refine zn ?_
    refine Go1.ret1 Try.func69 rfl ?_
    replace hB := hB.trans eK.fr
    exact ⟨false, rfl, hB.same, H⟩
   replace H := ifp rfl H
   refine zo (op_not rfl) (zn (zf rfl rfl (zk ?_)))
   refine Go1.inBlock ?_
   refine Go1.cut [(1, .slice sP s2.length sQ), (2, .func (.func 70) #[] #[]), (15, .slice sN s1.length sO), (16, .int .i64 (s1.length : Int)), (17, .int .i64 (k1_3 : Int))] ⟨rfl, rfl, rfl, rfl, rfl, trivial⟩ ?_
   intro σ _
   refine zr ?_
   replace kU := kU.ch eK.ch
   refine zo (op_add rfl rfl (wrap_i64 (natbd h4 kU.bd))) (zm rfl (zn ?_))
   replace lR := lR.ch eK.ch
   replace hB := hB.trans eK.fr
   exact hX1 _ H _ _ ⟨⟨rfl, rfl, rfl, rfl, rfl, trivial⟩, hO, kU, lR, hB⟩
  replace H := ifn h4 H
  refine zo (fun w => opB (op_lss rfl rfl w) (decide_eq_false h4)) (zn (zq (zf rfl rfl ?_)))
  refine Go1.exit rfl ?_
  refine zq (zr (za rfl (zn ?_)))
  refine Go1.ret1 Try.func69 rfl ?_
  exact ⟨true, rfl, hB.same, H⟩
 replace H := ifn h1 H
 refine zo (fun w => opB (op_neq rfl rfl w) (ndF h1)) (zn (zt rfl rfl (zq (zr (za rfl ?_)))))
 refine zn ?_
 refine Go1.ret1 Try.func69 rfl ?_
 exact ⟨false, rfl, hB.same, H⟩
theorem body71 : Body Try.prog 71 := ⟨Try.f71, Try.func71, rfl, by kernel_rfl⟩
theorem walk_slices_Equal_api_Rule {A : List Nat} {w0 : World} {sN : Option Addr} {sO : Nat} {sP : Option Addr} {sQ : Nat} {s1 : List Rule} {s2 : List Rule} (hA : ∀ b ∈ A, b < w0.heap.size) (kU : ISl (rpRule) A w0 sN sO s1) (lR : ISl (rpRule) A w0 sP sQ s2) {K : Bool → Prop} (H : slices_Equal_api_Rule s1 s2 K) :
    CallsV Try.prog 71 #[.slice sN s1.length sO, .slice sP s2.length sQ] w0 (fun v w' => ∃ (r0 : Bool), v = .bool r0 ∧ Same w0 w' ∧ K r0) := by
 refine CallsV.of (l := [.slice sN s1.length sO, .slice sP s2.length sQ]) Try.func71 rfl Try.ntmps71 rfl ?_
 have hO := Owns.start hA
 have hB := Fr.refl (bl []) w0
 unfold slices_Equal_api_Rule at H
 refine zq (zr (za rfl (zn (zq (zq ?_)))))
 refine zr (zm rfl (zo (op_len Try.underlying27 rfl) ?_))
 replace kU := kU.ch (Ch.start A w0)
 replace H := H kU.bd
 refine zm rfl (zo (op_len Try.underlying27 rfl) ?_)
 replace lR := lR.ch (Ch.start A w0)
 replace H := H lR.bd
 by_cases h1 : (s1.length : Int) = (s2.length : Int)
 ·replace H := ifp h1 H
  refine zo (fun w => opB (op_neq rfl rfl w) (ndT h1)) (zn (zf rfl rfl (zk (zq (zq ?_)))))
  refine zr (zm rfl (zo (op_len Try.underlying27 rfl) (zm rfl (zn (zb ?_)))))
  refine Go1.loopW (S := Nat) (fun s σ w => agrees σ [(0, .slice sN s1.length sO), (1, .slice sP s2.length sQ), (12, .int .i64 (s1.length : Int)), (13, .int .i64 (s : Int))] ∧ Owns w0.heap.size w [] A ∧ ISl (rpRule) (bl [] ++ A) w sN sO s1 ∧ ISl (rpRule) (bl [] ++ A) w sP sQ s2 ∧ Fr (bl []) w0 (bl []) w) H ⟨⟨rfl, rfl, rfl, rfl, trivial⟩, hO, kU, lR, hB⟩ ?_
  intro X1 k1_3
  intro H hX1 σ w2
  refine andE fun hag => andE fun hO => andE fun kU => andE fun lR => fun hB => ?_
  refine Go1.keep [(0, .slice sN s1.length sO), (1, .slice sP s2.length sQ), (12, .int .i64 (s1.length : Int)), (13, .int .i64 (k1_3 : Int))] hag ?_
  refine zq (zr ?_)
  by_cases h4 : (k1_3 : Int) < (s1.length : Int)
  ·replace H := ifp h4 H
   refine zo (fun w => opB (op_lss rfl rfl w) (decide_eq_true h4)) (zn (zq (zt rfl rfl (zk (zq ?_)))))
   refine zb (zq (zr (zm rfl (za rfl (zn ?_)))))
   refine zq ?_
   refine Go1.drawS 0 [(0, .pure), (1, .pure), (2, .pure), (3, .stable), (4, .pure), (5, .pure), (6, .pure), (7, .stable), (8, .pure)] mixed (by kernel_rfl) ?_
   intro w5 hs6
   have qQ := Stp.same hO hs6
   replace hO := qQ.own
   refine GoQ.pure rfl (op_move rfl) rfl rfl ?_
   refine GoQ.pure rfl (op_move rfl) rfl rfl ?_
   obtain ⟨h8, H⟩ := H
   obtain ⟨h9, H⟩ := H
   replace kU := kU.ch qQ.ch
   refine GoQ.pure rfl (op_index Try.underlying27 ti39 rfl rfl h8 h9 (kU.some_ h8 h9)) rfl rfl ?_
   have hok10 := ldFlatOk kU h8 h9
   refine GoQ.stable rfl (ldFlat kU h8 h9 Try.underlying39 rfl ti39 rfl) rfl rfl ?_
   refine GoQ.pure rfl (op_move rfl) rfl rfl ?_
   refine GoQ.pure rfl (op_move rfl) rfl rfl ?_
   obtain ⟨h11, H⟩ := H
   obtain ⟨h12, H⟩ := H
   replace lR := lR.ch qQ.ch
   refine GoQ.pure rfl (op_index Try.underlying27 ti39 rfl rfl h11 h12 (lR.some_ h11 h12)) rfl rfl ?_
   have hok13 := ldFlatOk lR h11 h12
   refine GoQ.stable rfl (ldFlat lR h11 h12 Try.underlying39 rfl ti39 rfl) rfl rfl ?_
   by_cases h14 : (((ix s1 (k1_3 : Int)).Left) = ((ix s2 (k1_3 : Int)).Left) ∧ ((ix s1 (k1_3 : Int)).Right) = ((ix s2 (k1_3 : Int)).Right))
   ·replace H := ifp h14 H
    refine GoQ.pure rfl (fun w => opB (op_neqSS Try.underlying39 eqh39 eqg39 (by decide) (by decide) rfl rfl Try.underlying9 Try.underlying9 rfl rfl w) (ndT h14)) rfl rfl ?_
    refine GoQ.nil ?_
    refine zf rfl rfl (zk ?_)
    refine Go1.inBlock ?_
    refine zr (zo (op_add rfl rfl (wrap_i64 (natbd h4 kU.bd))) (zm rfl (zn ?_)))
    replace hB := hB.trans qQ.fr
    exact hX1 _ H _ _ ⟨⟨rfl, rfl, rfl, rfl, trivial⟩, hO, kU, lR, hB⟩
   replace H := ifn h14 H
   refine GoQ.pure rfl (fun w => opB (op_neqSS Try.underlying39 eqh39 eqg39 (by decide) (by decide) rfl rfl Try.underlying9 Try.underlying9 rfl rfl w) (ndF h14)) rfl rfl ?_
   refine GoQ.nil ?_
   refine zt rfl rfl (zq (zr (za rfl (zn ?_))))
   refine Go1.ret1 Try.func71 rfl ?_
   replace hB := hB.trans qQ.fr
   exact ⟨false, rfl, hB.same, H⟩
  replace H := ifn h4 H
  refine zo (fun w => opB (op_lss rfl rfl w) (decide_eq_false h4)) (zn (zq (zf rfl rfl ?_)))
  refine Go1.exit rfl ?_
  refine zq (zr (za rfl (zn ?_)))
  refine Go1.ret1 Try.func71 rfl ?_
  exact ⟨true, rfl, hB.same, H⟩
 replace H := ifn h1 H
 refine zo (fun w => opB (op_neq rfl rfl w) (ndF h1)) (zn (zt rfl rfl (zq (zr (za rfl ?_)))))
 refine zn ?_
 refine Go1.ret1 Try.func71 rfl ?_
 exact ⟨false, rfl, hB.same, H⟩
end Sg
