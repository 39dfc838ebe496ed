/- The walks: each call keeps to its plain transformer. Printed by walkgen.py. -/
import Derived.Test.YtjegjjdfgefkoaaTi
import Derived.Test.YtjegjjdfgefkoaaWEnumerateBuilds
import Derived.Test.YtjegjjdfgefkoaaAl
namespace Sg
open Go Go.RowKit Go.Proofs
set_option linter.unusedVariables false
set_option linter.unusedSimpArgs false
set_option maxRecDepth 100000
set_option maxHeartbeats 4000000
theorem body66 : Body Try.prog 66 := ⟨Try.f66, Try.func66, rfl, by kernel_rfl⟩
theorem body67 : Body Try.prog 67 := ⟨Try.f67, Try.func67, rfl, by kernel_rfl⟩
theorem body51 : Body Try.prog 51 := ⟨Try.f51, Try.func51, rfl, by kernel_rfl⟩
theorem walk_enumerate_run_process {A : List Nat} {n0 : Nat} {w0 : World} {eY : Nat} {aq : Nat} {ar : Option Addr} {au : Nat} {cL : List Value} {cV : Nat} {cW : Option Addr} {cX : Nat} {fk : List Value} {cN : Nat} {cO : Option Addr} {cP : Nat} {eV : List Value} {dr : Nat} {dt : Option Addr} {du : Nat} {fC : List Value} {aB : Nat} {aM : Option Addr} {aN : Nat} {cG : List Value} {cY : Nat} {c5 : Option Addr} {c6 : Nat} {fm : List Value} {aO : Nat} {et : Nat} {eA : Option Addr} {eB : Nat} {jh : List Value} {d6 : Nat} {d7 : Option Addr} {d8 : Nat} {gQ : List Value} {bk : Nat} {bm : Option Addr} {bn : Nat} {dH : List Value} {a0 : run} (hO : Owns n0 w0 [.blk eY (.cells #[.int .i64 a0.Enum.Points, .bool a0.Enum.Monoid, .slice ar aq au, .slice cW cV cX, .slice cO cN cP, .slice dt dr du, .slice aM aB aN, .slice c5 cY c6, .int .i64 a0.Enum.Done, .map (some aO), .slice eA et eB, .slice d7 d6 d8, .slice bm bk bn] 72 (0, 0)), .row 26 1 ar aq au cL, .row 26 1 cW cV cX fk, .row 3 1 cO cN cP eV, .row 3 1 dt dr du fC, .row 26 1 aM aB aN cG, .row 39 2 c5 cY c6 fm, .row 9 1 eA et eB jh, .row 3 1 d7 d6 d8 gQ, .row 3 1 bm bk bn dH, .any (mapE (fun a : List UInt8 => Value.string (gstr a)) (fun a : Int => Value.int .i64 a) aO a0.number)] A) (aa : Els (Rp.sl (Rp.int .i64)) (bl [.blk eY (.cells #[.int .i64 a0.Enum.Points, .bool a0.Enum.Monoid, .slice ar aq au, .slice cW cV cX, .slice cO cN cP, .slice dt dr du, .slice aM aB aN, .slice c5 cY c6, .int .i64 a0.Enum.Done, .map (some aO), .slice eA et eB, .slice d7 d6 d8, .slice bm bk bn] 72 (0, 0)), .row 26 1 ar aq au cL, .row 26 1 cW cV cX fk, .row 3 1 cO cN cP eV, .row 3 1 dt dr du fC, .row 26 1 aM aB aN cG, .row 39 2 c5 cY c6 fm, .row 9 1 eA et eB jh, .row 3 1 d7 d6 d8 gQ, .row 3 1 bm bk bn dH, .any (mapE (fun a : List UInt8 => Value.string (gstr a)) (fun a : Int => Value.int .i64 a) aO a0.number)] ++ A) w0 cL a0.Enum.Gens) (zF : Els (Rp.sl (Rp.int .i64)) (bl [.blk eY (.cells #[.int .i64 a0.Enum.Points, .bool a0.Enum.Monoid, .slice ar aq au, .slice cW cV cX, .slice cO cN cP, .slice dt dr du, .slice aM aB aN, .slice c5 cY c6, .int .i64 a0.Enum.Done, .map (some aO), .slice eA et eB, .slice d7 d6 d8, .slice bm bk bn] 72 (0, 0)), .row 26 1 ar aq au cL, .row 26 1 cW cV cX fk, .row 3 1 cO cN cP eV, .row 3 1 dt dr du fC, .row 26 1 aM aB aN cG, .row 39 2 c5 cY c6 fm, .row 9 1 eA et eB jh, .row 3 1 d7 d6 d8 gQ, .row 3 1 bm bk bn dH, .any (mapE (fun a : List UInt8 => Value.string (gstr a)) (fun a : Int => Value.int .i64 a) aO a0.number)] ++ A) w0 fk a0.Enum.Elems) (yo : Els (Rp.int .i64) (bl [.blk eY (.cells #[.int .i64 a0.Enum.Points, .bool a0.Enum.Monoid, .slice ar aq au, .slice cW cV cX, .slice cO cN cP, .slice dt dr du, .slice aM aB aN, .slice c5 cY c6, .int .i64 a0.Enum.Done, .map (some aO), .slice eA et eB, .slice d7 d6 d8, .slice bm bk bn] 72 (0, 0)), .row 26 1 ar aq au cL, .row 26 1 cW cV cX fk, .row 3 1 cO cN cP eV, .row 3 1 dt dr du fC, .row 26 1 aM aB aN cG, .row 39 2 c5 cY c6 fm, .row 9 1 eA et eB jh, .row 3 1 d7 d6 d8 gQ, .row 3 1 bm bk bn dH, .any (mapE (fun a : List UInt8 => Value.string (gstr a)) (fun a : Int => Value.int .i64 a) aO a0.number)] ++ A) w0 eV a0.Enum.Prefix) (zN : Els (Rp.int .i64) (bl [.blk eY (.cells #[.int .i64 a0.Enum.Points, .bool a0.Enum.Monoid, .slice ar aq au, .slice cW cV cX, .slice cO cN cP, .slice dt dr du, .slice aM aB aN, .slice c5 cY c6, .int .i64 a0.Enum.Done, .map (some aO), .slice eA et eB, .slice d7 d6 d8, .slice bm bk bn] 72 (0, 0)), .row 26 1 ar aq au cL, .row 26 1 cW cV cX fk, .row 3 1 cO cN cP eV, .row 3 1 dt dr du fC, .row 26 1 aM aB aN cG, .row 39 2 c5 cY c6 fm, .row 9 1 eA et eB jh, .row 3 1 d7 d6 d8 gQ, .row 3 1 bm bk bn dH, .any (mapE (fun a : List UInt8 => Value.string (gstr a)) (fun a : Int => Value.int .i64 a) aO a0.number)] ++ A) w0 fC a0.Enum.Last) (ab : Els (Rp.sl (Rp.int .i64)) (bl [.blk eY (.cells #[.int .i64 a0.Enum.Points, .bool a0.Enum.Monoid, .slice ar aq au, .slice cW cV cX, .slice cO cN cP, .slice dt dr du, .slice aM aB aN, .slice c5 cY c6, .int .i64 a0.Enum.Done, .map (some aO), .slice eA et eB, .slice d7 d6 d8, .slice bm bk bn] 72 (0, 0)), .row 26 1 ar aq au cL, .row 26 1 cW cV cX fk, .row 3 1 cO cN cP eV, .row 3 1 dt dr du fC, .row 26 1 aM aB aN cG, .row 39 2 c5 cY c6 fm, .row 9 1 eA et eB jh, .row 3 1 d7 d6 d8 gQ, .row 3 1 bm bk bn dH, .any (mapE (fun a : List UInt8 => Value.string (gstr a)) (fun a : Int => Value.int .i64 a) aO a0.number)] ++ A) w0 cG a0.Enum.Right) (zG : Els (rpRule) (bl [.blk eY (.cells #[.int .i64 a0.Enum.Points, .bool a0.Enum.Monoid, .slice ar aq au, .slice cW cV cX, .slice cO cN cP, .slice dt dr du, .slice aM aB aN, .slice c5 cY c6, .int .i64 a0.Enum.Done, .map (some aO), .slice eA et eB, .slice d7 d6 d8, .slice bm bk bn] 72 (0, 0)), .row 26 1 ar aq au cL, .row 26 1 cW cV cX fk, .row 3 1 cO cN cP eV, .row 3 1 dt dr du fC, .row 26 1 aM aB aN cG, .row 39 2 c5 cY c6 fm, .row 9 1 eA et eB jh, .row 3 1 d7 d6 d8 gQ, .row 3 1 bm bk bn dH, .any (mapE (fun a : List UInt8 => Value.string (gstr a)) (fun a : Int => Value.int .i64 a) aO a0.number)] ++ A) w0 fm a0.Enum.Rules) (EA : Els (Rp.str) (bl [.blk eY (.cells #[.int .i64 a0.Enum.Points, .bool a0.Enum.Monoid, .slice ar aq au, .slice cW cV cX, .slice cO cN cP, .slice dt dr du, .slice aM aB aN, .slice c5 cY c6, .int .i64 a0.Enum.Done, .map (some aO), .slice eA et eB, .slice d7 d6 d8, .slice bm bk bn] 72 (0, 0)), .row 26 1 ar aq au cL, .row 26 1 cW cV cX fk, .row 3 1 cO cN cP eV, .row 3 1 dt dr du fC, .row 26 1 aM aB aN cG, .row 39 2 c5 cY c6 fm, .row 9 1 eA et eB jh, .row 3 1 d7 d6 d8 gQ, .row 3 1 bm bk bn dH, .any (mapE (fun a : List UInt8 => Value.string (gstr a)) (fun a : Int => Value.int .i64 a) aO a0.number)] ++ A) w0 jh a0.words) (Cq : Els (Rp.int .i64) (bl [.blk eY (.cells #[.int .i64 a0.Enum.Points, .bool a0.Enum.Monoid, .slice ar aq au, .slice cW cV cX, .slice cO cN cP, .slice dt dr du, .slice aM aB aN, .slice c5 cY c6, .int .i64 a0.Enum.Done, .map (some aO), .slice eA et eB, .slice d7 d6 d8, .slice bm bk bn] 72 (0, 0)), .row 26 1 ar aq au cL, .row 26 1 cW cV cX fk, .row 3 1 cO cN cP eV, .row 3 1 dt dr du fC, .row 26 1 aM aB aN cG, .row 39 2 c5 cY c6 fm, .row 9 1 eA et eB jh, .row 3 1 d7 d6 d8 gQ, .row 3 1 bm bk bn dH, .any (mapE (fun a : List UInt8 => Value.string (gstr a)) (fun a : Int => Value.int .i64 a) aO a0.number)] ++ A) w0 gQ a0.behind) (ad : Els (Rp.int .i64) (bl [.blk eY (.cells #[.int .i64 a0.Enum.Points, .bool a0.Enum.Monoid, .slice ar aq au, .slice cW cV cX, .slice cO cN cP, .slice dt dr du, .slice aM aB aN, .slice c5 cY c6, .int .i64 a0.Enum.Done, .map (some aO), .slice eA et eB, .slice d7 d6 d8, .slice bm bk bn] 72 (0, 0)), .row 26 1 ar aq au cL, .row 26 1 cW cV cX fk, .row 3 1 cO cN cP eV, .row 3 1 dt dr du fC, .row 26 1 aM aB aN cG, .row 39 2 c5 cY c6 fm, .row 9 1 eA et eB jh, .row 3 1 d7 d6 d8 gQ, .row 3 1 bm bk bn dH, .any (mapE (fun a : List UInt8 => Value.string (gstr a)) (fun a : Int => Value.int .i64 a) aO a0.number)] ++ A) w0 dH a0.single) {K : Int → run → Prop} (H : enumerate_run_process a0 K) :
    CallsV Try.prog 51 #[.pointer (some ⟨eY, 0, none⟩)] w0 (fun v w' => ∃ (r0 : Int), ∃ (q : run), ∃ (ba : Nat), ∃ (bc : Option Addr), ∃ (bf : Nat), ∃ (ck : List Value), ∃ (aP : Nat), ∃ (aQ : Option Addr), ∃ (aR : Nat), ∃ (bW : List Value), ∃ (aI : Nat), ∃ (aJ : Option Addr), ∃ (aK : Nat), ∃ (bM : List Value), ∃ (bg : Nat), ∃ (bh : Option Addr), ∃ (bi : Nat), ∃ (co : List Value), ∃ (aS : Nat), ∃ (aT : Option Addr), ∃ (aU : Nat), ∃ (bX : List Value), ∃ (aV : Nat), ∃ (aW : Option Addr), ∃ (aX : Nat), ∃ (bY : List Value), ∃ (bP : Nat), ∃ (bQ : Option Addr), ∃ (bS : Nat), ∃ (dE : List Value), ∃ (bu : Nat), ∃ (bv : Option Addr), ∃ (bw : Nat), ∃ (di : List Value), ∃ (bx : Nat), ∃ (bz : Option Addr), ∃ (bA : Nat), ∃ (dj : List Value), v = .int .i64 r0 ∧ (fun Z0 => Owns n0 w' Z0 A ∧ Els (Rp.sl (Rp.int .i64)) (bl Z0 ++ A) w' ck q.Enum.Gens ∧ Els (Rp.sl (Rp.int .i64)) (bl Z0 ++ A) w' bW q.Enum.Elems ∧ Els (Rp.int .i64) (bl Z0 ++ A) w' bM q.Enum.Prefix ∧ Els (Rp.int .i64) (bl Z0 ++ A) w' co q.Enum.Last ∧ Els (Rp.sl (Rp.int .i64)) (bl Z0 ++ A) w' bX q.Enum.Right ∧ Els (rpRule) (bl Z0 ++ A) w' bY q.Enum.Rules ∧ Els (Rp.str) (bl Z0 ++ A) w' dE q.words ∧ Els (Rp.int .i64) (bl Z0 ++ A) w' di q.behind ∧ Els (Rp.int .i64) (bl Z0 ++ A) w' dj q.single ∧ Fr (bl [.blk eY (.cells #[.int .i64 a0.Enum.Points, .bool a0.Enum.Monoid, .slice ar aq au, .slice cW cV cX, .slice cO cN cP, .slice dt dr du, .slice aM aB aN, .slice c5 cY c6, .int .i64 a0.Enum.Done, .map (some aO), .slice eA et eB, .slice d7 d6 d8, .slice bm bk bn] 72 (0, 0)), .row 26 1 ar aq au cL, .row 26 1 cW cV cX fk, .row 3 1 cO cN cP eV, .row 3 1 dt dr du fC, .row 26 1 aM aB aN cG, .row 39 2 c5 cY c6 fm, .row 9 1 eA et eB jh, .row 3 1 d7 d6 d8 gQ, .row 3 1 bm bk bn dH, .any (mapE (fun a : List UInt8 => Value.string (gstr a)) (fun a : Int => Value.int .i64 a) aO a0.number)]) w0 (bl Z0) w' ∧ K r0 q) [.blk eY (.cells #[.int .i64 q.Enum.Points, .bool q.Enum.Monoid, .slice bc ba bf, .slice aQ aP aR, .slice aJ aI aK, .slice bh bg bi, .slice aT aS aU, .slice aW aV aX, .int .i64 q.Enum.Done, .map (some aO), .slice bQ bP bS, .slice bv bu bw, .slice bz bx bA] 72 (0, 0)), .row 26 1 bc ba bf ck, .row 26 1 aQ aP aR bW, .row 3 1 aJ aI aK bM, .row 3 1 bh bg bi co, .row 26 1 aT aS aU bX, .row 39 2 aW aV aX bY, .row 9 1 bQ bP bS dE, .row 3 1 bv bu bw di, .row 3 1 bz bx bA dj, .any (mapE (fun a : List UInt8 => Value.string (gstr a)) (fun a : Int => Value.int .i64 a) aO q.number)]) := by
 refine CallsV.of (l := [.pointer (some ⟨eY, 0, none⟩)]) Try.func51 rfl Try.ntmps51 rfl ?_
 have hB := Fr.refl (bl [.blk eY (.cells #[.int .i64 a0.Enum.Points, .bool a0.Enum.Monoid, .slice ar aq au, .slice cW cV cX, .slice cO cN cP, .slice dt dr du, .slice aM aB aN, .slice c5 cY c6, .int .i64 a0.Enum.Done, .map (some aO), .slice eA et eB, .slice d7 d6 d8, .slice bm bk bn] 72 (0, 0)), .row 26 1 ar aq au cL, .row 26 1 cW cV cX fk, .row 3 1 cO cN cP eV, .row 3 1 dt dr du fC, .row 26 1 aM aB aN cG, .row 39 2 c5 cY c6 fm, .row 9 1 eA et eB jh, .row 3 1 d7 d6 d8 gQ, .row 3 1 bm bk bn dH, .any (mapE (fun a : List UInt8 => Value.string (gstr a)) (fun a : Int => Value.int .i64 a) aO a0.number)]) w0
 unfold enumerate_run_process at H
 refine zq (zr (za rfl (zn (zq (zr ?_)))))
 refine zm rfl (zo (op_nilCheck rfl) (zo (op_fieldAddr Try.underlying72 rfl ti29 rfl (by decide)) (zo (op_fieldAddr Try.underlying29 rfl ti3 rfl (by decide)) (zs (oblk (i := 8) 0 hO rfl rfl Try.underlying3 rfl rfl) (za rfl ?_)))))
 refine zn (zq (zr (zm rfl (zo (op_nilCheck rfl) (zo (op_fieldAddr Try.underlying72 rfl ti29 rfl (by decide)) ?_)))))
 refine zo (op_fieldAddr Try.underlying29 rfl ti22 rfl (by decide)) (zs (oblk (i := 2) 0 hO rfl rfl Try.underlying22 rfl rfl) (zo (op_lenN Try.underlying22 rfl (aa.neq hO 1 rfl)) ?_))
 obtain ⟨h8, H⟩ := H
 obtain ⟨h9, H⟩ := H
 have hobt := omake (n := (a0.Enum.Gens.length : Int)) (r := Rp.int .i64) (d := (0 : Int)) Try.underlying26 ti3 (fun _ _ => rfl) rfl hO h8 h9 (by decide)
 obtain ⟨w1, p2, vs3, ou, hE5, hs6, Cn⟩ := hobt
 refine zg (Cn rfl rfl) ?_
 replace hO := ou.own
 refine za rfl (zn (zq (zq (zr (zm rfl ?_)))))
 refine zo (op_nilCheck rfl) (zo (op_fieldAddr Try.underlying72 rfl ti29 rfl (by decide)) (zo (op_fieldAddr Try.underlying29 rfl ti22 rfl (by decide)) (zs (oblk (i := 2) 1 hO rfl rfl Try.underlying22 rfl rfl) ?_)))
 replace aa := aa.ch ou.ch
 refine zo (op_lenN Try.underlying22 rfl (aa.neq hO 2 rfl)) (zm rfl (zn (zb ?_)))
 replace zF := zF.ch ou.ch
 replace yo := yo.ch ou.ch
 replace zN := zN.ch ou.ch
 replace ab := ab.ch ou.ch
 replace zG := zG.ch ou.ch
 replace EA := EA.ch ou.ch
 replace Cq := Cq.ch ou.ch
 replace ad := ad.ch ou.ch
 replace hB := hB.trans ou.fr
 refine Go1.loopW (S := Nat × List Int × List (List Int) × List Int × List Int × List Rule × List Str × List Int × (List (Str × Int))) (fun s σ w => match s with | (k1_12, d_13, d_16, d_22, d_28, d_34, d_40, d_46, m1_52) => ∃ (lO : List Value), ∃ (n21 : Nat), ∃ (p19 : Option Addr), ∃ (c20 : Nat), ∃ (rf : List Value), ∃ (n27 : Nat), ∃ (p25 : Option Addr), ∃ (c26 : Nat), ∃ (sn : List Value), ∃ (n33 : Nat), ∃ (p31 : Option Addr), ∃ (c32 : Nat), ∃ (sq : List Value), ∃ (n39 : Nat), ∃ (p37 : Option Addr), ∃ (c38 : Nat), ∃ (sr : List Value), ∃ (n45 : Nat), ∃ (p43 : Option Addr), ∃ (c44 : Nat), ∃ (ss : List Value), ∃ (n51 : Nat), ∃ (p49 : Option Addr), ∃ (c50 : Nat), ∃ (su : List Value), agrees σ [(0, .pointer (some ⟨eY, 0, none⟩)), (3, .int .i64 a0.Enum.Done), (4, .slice p2 a0.Enum.Gens.length a0.Enum.Gens.length), (27, .slice ar aq au), (28, .int .i64 (a0.Enum.Gens.length : Int)), (29, .int .i64 (k1_12 : Int))] ∧ (fun Z0 => Owns n0 w Z0 A ∧ Els (Rp.int .i64) (bl Z0 ++ A) w lO d_13 ∧ Els (Rp.sl (Rp.int .i64)) (bl Z0 ++ A) w cL a0.Enum.Gens ∧ Els (Rp.sl (Rp.int .i64)) (bl Z0 ++ A) w rf d_16 ∧ Els (Rp.int .i64) (bl Z0 ++ A) w sn d_22 ∧ Els (Rp.int .i64) (bl Z0 ++ A) w sq d_28 ∧ Els (Rp.sl (Rp.int .i64)) (bl Z0 ++ A) w cG a0.Enum.Right ∧ Els (rpRule) (bl Z0 ++ A) w sr d_34 ∧ Els (Rp.str) (bl Z0 ++ A) w ss d_40 ∧ Els (Rp.int .i64) (bl Z0 ++ A) w su d_46 ∧ Els (Rp.int .i64) (bl Z0 ++ A) w dH a0.single ∧ Fr (bl [.blk eY (.cells #[.int .i64 a0.Enum.Points, .bool a0.Enum.Monoid, .slice ar aq au, .slice cW cV cX, .slice cO cN cP, .slice dt dr du, .slice aM aB aN, .slice c5 cY c6, .int .i64 a0.Enum.Done, .map (some aO), .slice eA et eB, .slice d7 d6 d8, .slice bm bk bn] 72 (0, 0)), .row 26 1 ar aq au cL, .row 26 1 cW cV cX fk, .row 3 1 cO cN cP eV, .row 3 1 dt dr du fC, .row 26 1 aM aB aN cG, .row 39 2 c5 cY c6 fm, .row 9 1 eA et eB jh, .row 3 1 d7 d6 d8 gQ, .row 3 1 bm bk bn dH, .any (mapE (fun a : List UInt8 => Value.string (gstr a)) (fun a : Int => Value.int .i64 a) aO a0.number)]) w0 (bl Z0) w) [.row 3 1 p2 a0.Enum.Gens.length a0.Enum.Gens.length lO, .blk eY (.cells #[.int .i64 a0.Enum.Points, .bool a0.Enum.Monoid, .slice ar aq au, .slice p19 n21 c20, .slice p25 n27 c26, .slice p31 n33 c32, .slice aM aB aN, .slice p37 n39 c38, .int .i64 a0.Enum.Done, .map (some aO), .slice p43 n45 c44, .slice p49 n51 c50, .slice bm bk bn] 72 (0, 0)), .row 26 1 ar aq au cL, .row 26 1 p19 n21 c20 rf, .row 3 1 p25 n27 c26 sn, .row 3 1 p31 n33 c32 sq, .row 26 1 aM aB aN cG, .row 39 2 p37 n39 c38 sr, .row 9 1 p43 n45 c44 ss, .row 3 1 p49 n51 c50 su, .row 3 1 bm bk bn dH, .any (mapE (fun a : List UInt8 => Value.string (gstr a)) (fun a : Int => Value.int .i64 a) aO m1_52)]) H ⟨vs3, cV, cW, cX, fk, cN, cO, cP, eV, dr, dt, du, fC, cY, c5, c6, fm, et, eA, eB, jh, d6, d7, d8, gQ, ⟨rfl, rfl, rfl, rfl, rfl, rfl, trivial⟩, hO, hE5, aa, zF, yo, zN, ab, zG, EA, Cq, ad, hB⟩ ?_
 intro X1
 refine prE fun k1_12 => prE fun d_13 => prE fun d_16 => prE fun d_22 => prE fun d_28 => prE fun d_34 => prE fun d_40 => prE fun d_46 => fun m1_52 => ?_
 intro H hX1 σ w11
 refine exE fun lO => exE fun n21 => exE fun p19 => exE fun c20 => exE fun rf => exE fun n27 => exE fun p25 => exE fun c26 => exE fun sn => exE fun n33 => exE fun p31 => exE fun c32 => exE fun sq => exE fun n39 => exE fun p37 => exE fun c38 => exE fun sr => exE fun n45 => exE fun p43 => exE fun c44 => exE fun ss => exE fun n51 => exE fun p49 => exE fun c50 => exE fun su => andE fun hag => andE fun hO => andE fun bt => andE fun aa => andE fun dB => andE fun cH => andE fun cr => andE fun ab => andE fun bH => andE fun bD => andE fun bB => andE fun ad => fun hB => ?_
 dsimp only at H
 refine Go1.keep [(0, .pointer (some ⟨eY, 0, none⟩)), (3, .int .i64 a0.Enum.Done), (4, .slice p2 a0.Enum.Gens.length a0.Enum.Gens.length), (27, .slice ar aq au), (28, .int .i64 (a0.Enum.Gens.length : Int)), (29, .int .i64 (k1_12 : Int))] hag ?_
 refine zq (zr ?_)
 by_cases h53 : (k1_12 : Int) < (a0.Enum.Gens.length : Int)
 ·replace H := ifp h53 H
  refine zo (fun w => opB (op_lss rfl rfl w) (decide_eq_true h53)) (zn (zq (zt rfl rfl (zk (zq ?_)))))
  refine zb (zq (zr (zm rfl ?_)))
  obtain ⟨h54, H⟩ := H
  obtain ⟨h55, H⟩ := H
  refine zo (op_index Try.underlying22 ti26 rfl rfl h54 (ltn (aa.neq hO 2 rfl) h55) (aa.psome hO 2 rfl h54 h55)) ?_
  have hobt := oldSl 2 hO rfl aa h54 h55
  obtain ⟨p56, c57, bT, aaL⟩ := hobt
  refine zs (aaL Try.underlying26 rfl rfl) (za rfl (za rfl (zn (zq (zr ?_)))))
  refine zm rfl (zo (op_nilCheck rfl) (zo (op_fieldAddr Try.underlying72 rfl ti29 rfl (by decide)) (zo (op_fieldAddr Try.underlying29 rfl ti22 rfl (by decide)) (zs (oblk (i := 3) 1 hO rfl rfl Try.underlying22 rfl rfl) (zm rfl ?_)))))
  obtain ⟨h60, H⟩ := H
  obtain ⟨h61, H⟩ := H
  refine zo (op_index Try.underlying22 ti26 rfl rfl h60 (ltn (dB.neq hO 3 rfl) h61) (dB.psome hO 3 rfl h60 h61)) ?_
  have hobt := oldSl 3 hO rfl dB h60 h61
  obtain ⟨p62, c63, bU, aaM⟩ := hobt
  refine zs (aaM Try.underlying26 rfl rfl) (zm rfl ?_)
  refine GoR.call (op_call body37 rfl (walk_trans_Compose hO.lt bU bT H)) rfl rfl ?_
  rintro v70 w67 ⟨r66, xY, x2, rfl, aaN, bp, H⟩
  have q9 := Stp.same hO aaN
  replace hO := q9.own
  refine za rfl (zn (zq ?_))
  refine Go1.drawS 0 [(0, .pure), (1, .pure), (2, .pure), (3, .stable), (4, .pure), (5, .loud), (6, .stable), (7, .pure), (8, .pure), (9, .pure), (10, .pure), (11, .pure)] mixed (by kernel_rfl) ?_
  intro w72 aaO
  have gW := Stp.same hO aaO
  replace hO := gW.own
  refine GoQ.pure rfl (op_move rfl) rfl rfl ?_
  refine GoQ.pure rfl (op_nilCheck rfl) rfl rfl ?_
  refine GoQ.pure rfl (op_fieldAddr Try.underlying72 rfl ti69 rfl (by decide)) rfl rfl ?_
  refine GoQ.stable rfl (oblk (i := 9) 1 hO rfl rfl Try.underlying69 rfl rfl) rfl rfl ?_
  refine GoQ.pure rfl (op_move rfl) rfl rfl ?_
  replace bp := bp.ch gW.ch
  refine GoQ.call rfl (op_call body61 rfl (walk_enumerate_text hO.lt bp H)) (fun v w hr => by obtain ⟨_, _, hs, _, _⟩ := hr; assumption) rfl rfl ?_
  rintro v79 w76 ⟨r75, rfl, NB, acU, H⟩
  have lb := Stp.same hO NB
  replace hO := lb.own
  by_cases h81 : mhas m1_52 r75 = true
  ·replace H := ifp h81 H
   refine GoQ.stable rfl (olookT (a := r75) (MK.str Try.underlying9) 11 hO rfl Try.underlying69 rfl rfl h81) rfl rfl ?_
   refine GoQ.pure rfl (op_move rfl) rfl rfl ?_
   refine GoQ.pure rfl (op_extract rfl rfl) rfl rfl ?_
   refine GoQ.pure rfl (op_extract rfl rfl) rfl rfl ?_
   refine GoQ.pure rfl (op_assign rfl) rfl rfl ?_
   refine GoQ.pure rfl (op_assign rfl) rfl rfl ?_
   refine GoQ.nil ?_
   refine zq ?_
   refine Go1.cut [(0, .pointer (some ⟨eY, 0, none⟩)), (3, .int .i64 a0.Enum.Done), (4, .slice p2 a0.Enum.Gens.length a0.Enum.Gens.length), (5, .int .i64 (k1_12 : Int)), (7, .slice xY r66.length x2), (8, .int .i64 (mgt m1_52 r75)), (9, .bool true), (27, .slice ar aq au), (28, .int .i64 (a0.Enum.Gens.length : Int)), (29, .int .i64 (k1_12 : Int))] ⟨rfl, rfl, rfl, rfl, rfl, rfl, rfl, rfl, rfl, rfl, trivial⟩ ?_
   intro σ _
   refine zr (zm rfl (zo (op_nilCheck rfl) (zo (op_fieldAddr Try.underlying72 rfl ti70 rfl (by decide)) (zs (oblk (i := 10) 1 hO rfl rfl Try.underlying70 rfl rfl) (zm rfl ?_)))))
   obtain ⟨h82, H⟩ := H
   obtain ⟨h83, H⟩ := H
   have Z1 := (q9.ch.trans gW.ch).trans lb.ch
   replace bD := bD.ch Z1
   refine zo (op_index Try.underlying70 ti9 rfl rfl h82 (ltn (bD.neq hO 8 rfl) h83) (bD.psome hO 8 rfl h82 h83)) (zs (oldStr 8 hO rfl bD h82 h83 Try.underlying9 rfl rfl) ?_)
   have hle84 := Els.str_le bD h82 h83
   refine zm rfl ?_
   obtain ⟨h85, H⟩ := H
   refine zo (op_add rfl rfl (wrap_i64 h85)) (zo (op_conv Try.underlying3 Try.underlying21 rfl rfl) ?_)
   obtain ⟨h86, H⟩ := H
   obtain ⟨h87, H⟩ := H
   refine zo (op_convRS Try.underlying21 Try.underlying9 rfl h86 h87) ?_
   obtain ⟨h88, H⟩ := H
   refine zo (op_addS rfl rfl h88) (za rfl (zn (zq (zb (zq ?_)))))
   refine zr (zm rfl (zo (op_not rfl) (zm rfl (zp (zp ?_)))))
   refine zp (zp (zp (zp (zp (zo (op_pickF rfl rfl rfl) ?_)))))
   refine za rfl (zn (zf rfl rfl (zq ?_)))
   refine Go1.cut [(0, .pointer (some ⟨eY, 0, none⟩)), (3, .int .i64 a0.Enum.Done), (4, .slice p2 a0.Enum.Gens.length a0.Enum.Gens.length), (5, .int .i64 (k1_12 : Int)), (7, .slice xY r66.length x2), (8, .int .i64 (mgt m1_52 r75)), (9, .bool true), (10, .string (gstr ((ix d_40 a0.Enum.Done) ++ (chr (IntKind.i32.wrap ((97 : Int) + (k1_12 : Int))))))), (27, .slice ar aq au), (28, .int .i64 (a0.Enum.Gens.length : Int)), (29, .int .i64 (k1_12 : Int))] ⟨rfl, rfl, rfl, rfl, rfl, rfl, rfl, rfl, rfl, rfl, rfl, trivial⟩ ?_
   intro σ _
   refine zr (zm rfl (zo (op_not rfl) (za rfl (zn (zf rfl rfl ?_)))))
   refine zq (zr (zm rfl (zo (op_nilCheck rfl) (zo (op_fieldAddr Try.underlying72 rfl ti70 rfl (by decide)) (zs (oblk (i := 10) 1 hO rfl rfl Try.underlying70 rfl rfl) ?_)))))
   refine zm rfl ?_
   obtain ⟨h89, H⟩ := H
   obtain ⟨h90, H⟩ := H
   refine zo (op_index Try.underlying70 ti9 rfl rfl h89 (ltn (bD.neq hO 8 rfl) h90) (bD.psome hO 8 rfl h89 h90)) (zs (oldStr 8 hO rfl bD h89 h90 Try.underlying9 rfl rfl) ?_)
   have hle91 := Els.str_le bD h89 h90
   by_cases h92 : (ix d_40 a0.Enum.Done) = (([] : Str))
   ·replace H := ifp h92 H
    refine zo (fun w => opB (op_neqS rfl rfl w) (ndT h92)) (zm rfl (zp (zp (zp (zp ?_)))))
    refine zp (zp (zp (zp (zp (zp ?_)))))
    refine zo (op_pickF rfl rfl rfl) (za rfl (zn (zf rfl rfl (zk ?_))))
    refine Go1.inBlock ?_
    refine Go1.cut [(0, .pointer (some ⟨eY, 0, none⟩)), (3, .int .i64 a0.Enum.Done), (4, .slice p2 a0.Enum.Gens.length a0.Enum.Gens.length), (5, .int .i64 (k1_12 : Int)), (8, .int .i64 (mgt m1_52 r75)), (27, .slice ar aq au), (28, .int .i64 (a0.Enum.Gens.length : Int)), (29, .int .i64 (k1_12 : Int))] ⟨rfl, rfl, rfl, rfl, rfl, rfl, rfl, rfl, trivial⟩ ?_
    intro σ _
    refine zr (zm rfl (zm rfl (zm rfl ?_)))
    obtain ⟨h93, H⟩ := H
    obtain ⟨h94, H⟩ := H
    replace bt := bt.ch Z1
    refine zo (op_index Try.underlying26 ti3 rfl rfl h93 (ltn (bt.neq hO 0 rfl) h94) (bt.psome hO 0 rfl h93 h94)) ?_
    have hobt := ost (r := Rp.int .i64) rfl 0 hO rfl bt h93 h94 (v := .int .i64 (mgt m1_52 r75)) (u := (mgt m1_52 r75)) rfl rfl
    obtain ⟨w95, aaP, vL, QK, UG⟩ := hobt
    dsimp only [sS, sZ] at vL QK
    refine zg (UG Try.underlying3 rfl ti3 (by exact rfl) (by exact rfl)) ?_
    replace hO := vL.own
    refine zn ?_
    refine Go1.inBlock ?_
    refine zr ?_
    replace aa := (aa.ch Z1).ch vL.ch
    refine zo (op_add rfl rfl (wrap_i64 (natbd h53 aa.bd))) (zm rfl (zn ?_))
    replace bD := bD.ch vL.ch
    have Z2 := Z1.trans vL.ch
    replace dB := dB.ch Z2
    replace cH := cH.ch Z2
    replace cr := cr.ch Z2
    replace ab := ab.ch Z2
    replace bH := bH.ch Z2
    replace bB := bB.ch Z2
    replace ad := ad.ch Z2
    replace hB := (((hB.trans q9.fr).trans gW.fr).trans lb.fr).trans vL.fr
    exact hX1 _ H _ _ ⟨aaP, n21, p19, c20, rf, n27, p25, c26, sn, n33, p31, c32, sq, n39, p37, c38, sr, n45, p43, c44, ss, n51, p49, c50, su, ⟨rfl, rfl, rfl, rfl, rfl, rfl, trivial⟩, hO, QK, aa, dB, cH, cr, ab, bH, bD, bB, ad, hB⟩
   replace H := ifn h92 H
   refine zo (fun w => opB (op_neqS rfl rfl w) (ndF h92)) (zm rfl (zm rfl (zm rfl (zo (op_nilCheck rfl) (zo (op_fieldAddr Try.underlying72 rfl ti26 rfl (by decide)) ?_)))))
   refine zs (oblk (i := 11) 1 hO rfl rfl Try.underlying26 rfl rfl) (zm rfl ?_)
   obtain ⟨Hz, H⟩ := H
   obtain ⟨HA, H⟩ := H
   replace bB := bB.ch Z1
   refine zo (op_index Try.underlying26 ti3 rfl rfl Hz (ltn (bB.neq hO 9 rfl) HA) (bB.psome hO 9 rfl Hz HA)) (zs (oldInt 9 hO rfl bB Hz HA Try.underlying3 rfl rfl) (zm rfl ?_))
   refine GoR.inl (vs := [.pointer (some ⟨eY, 0, none⟩), .int .i64 (ix d_46 a0.Enum.Done), .int .i64 (k1_12 : Int)]) (caps := []) rfl rfl body67 Try.func67 rfl Try.ntmps67 rfl rfl rfl ?_
   intro RhR102 hR102
   refine zq (zr (za rfl (zn (zq ?_))))
   refine Go1.cut [(0, .pointer (some ⟨eY, 0, none⟩)), (1, .int .i64 (ix d_46 a0.Enum.Done)), (2, .int .i64 (k1_12 : Int))] ⟨rfl, rfl, rfl, trivial⟩ ?_
   intro σ _
   refine zr (zm rfl (zm rfl (zm rfl ?_)))
   refine GoR.inl (vs := [.pointer (some ⟨eY, 0, none⟩), .int .i64 (ix d_46 a0.Enum.Done), .int .i64 (k1_12 : Int)]) (caps := []) rfl rfl body66 Try.func66 rfl Try.ntmps66 rfl rfl rfl ?_
   intro RhR103 hR103
   refine zq (zr (za rfl (zn (zq (zq ?_)))))
   refine zr (zm rfl ?_)
   by_cases yp : (ix d_46 a0.Enum.Done) = (-1 : Int)
   ·replace H := ifp yp H
    refine zo (fun w => opB (op_eql rfl rfl w) (decide_eq_true yp)) (zn (zt rfl rfl (zq (zr (zm rfl ?_)))))
    refine zo (op_nilCheck rfl) (zo (op_fieldAddr Try.underlying72 rfl ti26 rfl (by decide)) (zs (oblk (i := 12) 1 hO rfl rfl Try.underlying26 rfl rfl) (zm rfl ?_)))
    obtain ⟨yq, H⟩ := H
    obtain ⟨yr, H⟩ := H
    replace ad := ad.ch Z1
    refine zo (op_index Try.underlying26 ti3 rfl rfl yq (ltn (ad.neq hO 10 rfl) yr) (ad.psome hO 10 rfl yq yr)) (zs (oldInt 10 hO rfl ad yq yr Try.underlying3 rfl rfl) (za rfl (zn ?_)))
    refine Go1.ret1V Try.func66 rfl (show _ = .int .i64 (ix a0.single (k1_12 : Int)) from rfl) ?_
    refine hR103 _ _ ?_
    refine za rfl (zn (zq (zr (zm rfl (zo (op_nilCheck rfl) ?_)))))
    refine zo (op_fieldAddr Try.underlying72 rfl ti29 rfl (by decide)) (zo (op_fieldAddr Try.underlying29 rfl ti26 rfl (by decide)) (zs (oblk (i := 4) 1 hO rfl rfl Try.underlying26 rfl rfl) (zm rfl ?_)))
    obtain ⟨Bg, H⟩ := H
    obtain ⟨NC, H⟩ := H
    replace cH := cH.ch Z1
    refine zo (op_index Try.underlying26 ti3 rfl rfl Bg (ltn (cH.neq hO 4 rfl) NC) (cH.psome hO 4 rfl Bg NC)) (zs (oldInt 4 hO rfl cH Bg NC Try.underlying3 rfl rfl) (zm rfl ?_))
    by_cases LG : (ix d_22 (ix a0.single (k1_12 : Int))) = (ix d_46 a0.Enum.Done)
    ·replace H := ifp LG H
     refine zo (fun w => opB (op_eql rfl rfl w) (decide_eq_true LG)) (zm rfl (zm rfl (zo (op_nilCheck rfl) (zo (op_fieldAddr Try.underlying72 rfl ti29 rfl (by decide)) (zo (op_fieldAddr Try.underlying29 rfl ti26 rfl (by decide)) ?_)))))
     refine zs (oblk (i := 5) 1 hO rfl rfl Try.underlying26 rfl rfl) (zm rfl ?_)
     obtain ⟨ND, H⟩ := H
     obtain ⟨NE, H⟩ := H
     replace cr := cr.ch Z1
     refine zo (op_index Try.underlying26 ti3 rfl rfl ND (ltn (cr.neq hO 5 rfl) NE) (cr.psome hO 5 rfl ND NE)) (zs (oldInt 5 hO rfl cr ND NE Try.underlying3 rfl rfl) (zm rfl ?_))
     by_cases LH : (ix d_28 (ix a0.single (k1_12 : Int))) = (k1_12 : Int)
     ·replace H := ifp LH H
      refine zo (fun w => opB (op_eql rfl rfl w) (decide_eq_true LH)) (zo (op_pickT rfl rfl rfl) (za rfl (zn ?_)))
      refine Go1.ret1V Try.func67 rfl (show _ = .bool true from rfl) ?_
      refine hR102 _ _ ?_
      refine zo (op_pickT rfl rfl rfl) (za rfl (zn (zt rfl rfl ?_)))
      refine Go1.cut [(0, .pointer (some ⟨eY, 0, none⟩)), (3, .int .i64 a0.Enum.Done), (4, .slice p2 a0.Enum.Gens.length a0.Enum.Gens.length), (5, .int .i64 (k1_12 : Int)), (8, .int .i64 (mgt m1_52 r75)), (10, .string (gstr ((ix d_40 a0.Enum.Done) ++ (chr (IntKind.i32.wrap ((97 : Int) + (k1_12 : Int))))))), (27, .slice ar aq au), (28, .int .i64 (a0.Enum.Gens.length : Int)), (29, .int .i64 (k1_12 : Int))] ⟨rfl, rfl, rfl, rfl, rfl, rfl, rfl, rfl, rfl, trivial⟩ ?_
      intro σ _
      refine Go1.drawS 5 [(0, .pure), (1, .pure), (2, .pure), (3, .pure), (4, .pure), (5, .stable), (6, .pure), (7, .pure), (8, .pure), (9, .pure), (10, .stable), (11, .pure), (12, .pure), (13, .stable), (14, .pure), (15, .loud), (16, .last), (17, .pure), (18, .pure), (19, .pure), (20, .last)] mixed (by kernel_rfl) ?_
      intro ae0 UH
      have sv := Stp.same hO UH
      replace hO := sv.own
      refine GoQ.pure rfl (op_move rfl) rfl rfl ?_
      refine GoQ.pure rfl (op_move rfl) rfl rfl ?_
      refine GoQ.pure rfl (op_nilCheck rfl) rfl rfl ?_
      refine GoQ.pure rfl (op_fieldAddr Try.underlying72 rfl ti29 rfl (by decide)) rfl rfl ?_
      refine GoQ.pure rfl (op_fieldAddr Try.underlying29 rfl ti27 rfl (by decide)) rfl rfl ?_
      refine GoQ.stable rfl (oblk (i := 7) 1 hO rfl rfl Try.underlying27 rfl rfl) rfl rfl ?_
      refine GoQ.pure rfl (op_move rfl) rfl rfl ?_
      refine GoQ.pure rfl (op_move rfl) rfl rfl ?_
      refine GoQ.pure rfl (op_nilCheck rfl) rfl rfl ?_
      refine GoQ.pure rfl (op_fieldAddr Try.underlying72 rfl ti70 rfl (by decide)) rfl rfl ?_
      refine GoQ.stable rfl (oblk (i := 10) 1 hO rfl rfl Try.underlying70 rfl rfl) rfl rfl ?_
      refine GoQ.pure rfl (op_move rfl) rfl rfl ?_
      obtain ⟨Gm, H⟩ := H
      obtain ⟨LI, H⟩ := H
      replace bD := bD.ch sv.ch
      refine GoQ.pure rfl (op_index Try.underlying70 ti9 rfl rfl Gm (ltn (bD.neq hO 8 rfl) LI) (bD.psome hO 8 rfl Gm LI)) rfl rfl ?_
      refine GoQ.stable rfl (oldStr 8 hO rfl bD Gm LI Try.underlying9 rfl rfl) rfl rfl ?_
      have hle118 := Els.str_le bD Gm LI
      refine GoQ.pure rfl (op_build Try.underlying39 ti39 (pl := [(0, 1), (1, 1)]) (vs := [(0, .string (gstr ((ix d_40 a0.Enum.Done) ++ (chr (IntKind.i32.wrap ((97 : Int) + (k1_12 : Int))))))), (1, .string (gstr (ix d_40 (mgt m1_52 r75))))]) (cs := #[.string (gstr ((ix d_40 a0.Enum.Done) ++ (chr (IntKind.i32.wrap ((97 : Int) + (k1_12 : Int)))))), .string (gstr (ix d_40 (mgt m1_52 r75)))]) (by kernel_rfl) rfl (by kernel_rfl)) rfl rfl ?_
      have hobt := obuildN (r := rpRule) (n := 1) (parts := [(0, .agg #[.string (gstr ((ix d_40 a0.Enum.Done) ++ (chr (IntKind.i32.wrap ((97 : Int) + (k1_12 : Int)))))), .string (gstr (ix d_40 (mgt m1_52 r75)))])]) (vs := [.string (gstr ((ix d_40 a0.Enum.Done) ++ (chr (IntKind.i32.wrap ((97 : Int) + (k1_12 : Int)))))), .string (gstr (ix d_40 (mgt m1_52 r75)))]) (xs := [(⟨(ix d_40 a0.Enum.Done) ++ (chr (IntKind.i32.wrap ((97 : Int) + (k1_12 : Int)))), ix d_40 (mgt m1_52 r75)⟩ : Rule)]) Try.underlying27 ti39 hO (by decide) (by decide) (by kernel_rfl) (Els.flat1 (⟨(ix d_40 a0.Enum.Done) ++ (chr (IntKind.i32.wrap ((97 : Int) + (k1_12 : Int)))), ix d_40 (mgt m1_52 r75)⟩ : Rule) ⟨(lenApp h88), hle118⟩) rfl
      obtain ⟨ae1, mU, sw, UI, LJ, KB⟩ := hobt
      refine GoQ.loud rfl (KB rfl) LJ rfl rfl ?_
      replace hO := sw.own
      have hobt := freeze 0 hO rfl UI
      obtain ⟨hO1, xi, D4, UJ⟩ := hobt
      dsimp only [eS, eZ] at hO1 xi D4
      replace hB := (((((hB.trans q9.fr).trans gW.fr).trans lb.fr).trans sv.fr).trans sw.fr).trans (Owns.dropFr _ _ 0)
      dsimp only [eS, eZ] at hB
      replace hO := hO1; clear hO1
      obtain ⟨NF, H⟩ := H
      have Z3 := ((Z1.trans sv.ch).trans sw.ch).trans xi
      replace bH := bH.ch Z3
      have hobt := oapp Try.underlying27 ti39 rfl 7 hO rfl bH D4 UJ NF (by decide)
      obtain ⟨aaQ, mB, mC, vM, dg, gi, KC⟩ := hobt
      dsimp only [sS, sZ] at dg gi
      refine GoQ.last rfl (KC (by exact rfl) (by exact rfl)) rfl rfl ?_
      replace hO := dg.own
      refine GoQ.pure rfl (op_nilCheck rfl) rfl rfl ?_
      refine GoQ.pure rfl (op_fieldAddr Try.underlying72 rfl ti29 rfl (by decide)) rfl rfl ?_
      refine GoQ.pure rfl (op_fieldAddr Try.underlying29 rfl ti27 rfl (by decide)) rfl rfl ?_
      have hobt := oblkSt2 (v := .slice mB (n39 + 1) mC) (i := 7) (cs' := #[.int .i64 a0.Enum.Points, .bool a0.Enum.Monoid, .slice ar aq au, .slice p19 n21 c20, .slice p25 n27 c26, .slice p31 n33 c32, .slice aM aB aN, .slice mB (n39 + 1) mC, .int .i64 a0.Enum.Done, .map (some aO), .slice p43 n45 c44, .slice p49 n51 c50, .slice bm bk bn]) 1 hO rfl rfl rfl rfl
      obtain ⟨aaR, qu, QL⟩ := hobt
      dsimp only [sS, sZ] at qu
      refine GoQ.last rfl (QL Try.underlying27 rfl ti27 (by exact rfl) (by exact rfl)) rfl rfl ?_
      replace hO := qu.own
      refine GoQ.nil ?_
      refine Go1.inBlock ?_
      refine Go1.cut [(0, .pointer (some ⟨eY, 0, none⟩)), (3, .int .i64 a0.Enum.Done), (4, .slice p2 a0.Enum.Gens.length a0.Enum.Gens.length), (5, .int .i64 (k1_12 : Int)), (8, .int .i64 (mgt m1_52 r75)), (27, .slice ar aq au), (28, .int .i64 (a0.Enum.Gens.length : Int)), (29, .int .i64 (k1_12 : Int))] ⟨rfl, rfl, rfl, rfl, rfl, rfl, rfl, rfl, trivial⟩ ?_
      intro σ _
      refine zr (zm rfl (zm rfl (zm rfl ?_)))
      obtain ⟨NG, H⟩ := H
      obtain ⟨NH, H⟩ := H
      replace bt := ((bt.ch Z3).ch dg.ch).ch qu.ch
      refine zo (op_index Try.underlying26 ti3 rfl rfl NG (ltn (bt.neq hO 0 rfl) NH) (bt.psome hO 0 rfl NG NH)) ?_
      have hobt := ost (r := Rp.int .i64) rfl 0 hO rfl bt NG NH (v := .int .i64 (mgt m1_52 r75)) (u := (mgt m1_52 r75)) rfl rfl
      obtain ⟨aaS, UK, gl, OU, QM⟩ := hobt
      dsimp only [sS, sZ] at gl OU
      refine zg (QM Try.underlying3 rfl ti3 (by exact rfl) (by exact rfl)) ?_
      replace hO := gl.own
      refine zn ?_
      refine Go1.inBlock ?_
      refine zr ?_
      have Z4 := ((Z3.trans dg.ch).trans qu.ch).trans gl.ch
      replace aa := aa.ch Z4
      refine zo (op_add rfl rfl (wrap_i64 (natbd h53 aa.bd))) (zm rfl (zn ?_))
      replace gi := (gi.ch qu.ch).ch gl.ch
      replace hB := ((hB.trans dg.fr).trans qu.fr).trans gl.fr
      have Z5 := (((sw.ch.trans xi).trans dg.ch).trans qu.ch).trans gl.ch
      replace bD := bD.ch Z5
      have Z6 := ((((sv.ch.trans sw.ch).trans xi).trans dg.ch).trans qu.ch).trans gl.ch
      replace cH := cH.ch Z6
      replace cr := cr.ch Z6
      replace bB := bB.ch Z6
      replace ad := ad.ch Z6
      replace dB := dB.ch Z4
      replace ab := ab.ch Z4
      exact hX1 _ H _ _ ⟨UK, n21, p19, c20, rf, n27, p25, c26, sn, n33, p31, c32, sq, n39 + 1, mB, mC, vM, n45, p43, c44, ss, n51, p49, c50, su, ⟨rfl, rfl, rfl, rfl, rfl, rfl, trivial⟩, hO, OU, aa, dB, cH, cr, ab, gi, bD, bB, ad, hB⟩
     replace H := ifn LH H
     refine zo (fun w => opB (op_eql rfl rfl w) (decide_eq_false LH)) (zo (op_pickT rfl rfl rfl) (za rfl (zn ?_)))
     refine Go1.ret1V Try.func67 rfl (show _ = .bool false from rfl) ?_
     refine hR102 _ _ ?_
     refine zo (op_pickT rfl rfl rfl) (za rfl (zn (zf rfl rfl (zk ?_))))
     refine Go1.inBlock ?_
     refine zr (zm rfl (zm rfl (zm rfl ?_)))
     obtain ⟨NI, H⟩ := H
     obtain ⟨NJ, H⟩ := H
     replace bt := bt.ch Z1
     refine zo (op_index Try.underlying26 ti3 rfl rfl NI (ltn (bt.neq hO 0 rfl) NJ) (bt.psome hO 0 rfl NI NJ)) ?_
     have hobt := ost (r := Rp.int .i64) rfl 0 hO rfl bt NI NJ (v := .int .i64 (mgt m1_52 r75)) (u := (mgt m1_52 r75)) rfl rfl
     obtain ⟨aaT, UL, fu, OV, KD⟩ := hobt
     dsimp only [sS, sZ] at fu OV
     refine zg (KD Try.underlying3 rfl ti3 (by exact rfl) (by exact rfl)) ?_
     replace hO := fu.own
     refine zn ?_
     refine Go1.inBlock ?_
     refine zr ?_
     replace aa := (aa.ch Z1).ch fu.ch
     refine zo (op_add rfl rfl (wrap_i64 (natbd h53 aa.bd))) (zm rfl (zn ?_))
     replace cH := cH.ch fu.ch
     replace cr := cr.ch fu.ch
     replace bD := bD.ch fu.ch
     replace bB := bB.ch fu.ch
     replace ad := ad.ch fu.ch
     have Z7 := Z1.trans fu.ch
     replace dB := dB.ch Z7
     replace ab := ab.ch Z7
     replace bH := bH.ch Z7
     replace hB := (((hB.trans q9.fr).trans gW.fr).trans lb.fr).trans fu.fr
     exact hX1 _ H _ _ ⟨UL, n21, p19, c20, rf, n27, p25, c26, sn, n33, p31, c32, sq, n39, p37, c38, sr, n45, p43, c44, ss, n51, p49, c50, su, ⟨rfl, rfl, rfl, rfl, rfl, rfl, trivial⟩, hO, OV, aa, dB, cH, cr, ab, bH, bD, bB, ad, hB⟩
    replace H := ifn LG H
    refine zo (fun w => opB (op_eql rfl rfl w) (decide_eq_false LG)) (zm rfl (zp (zp (zp (zp ?_)))))
    refine zp (zp (zp (zp (zp (zp ?_)))))
    refine zo (op_pickF rfl rfl rfl) (za rfl (zn ?_))
    refine Go1.ret1V Try.func67 rfl (show _ = .bool false from rfl) ?_
    refine hR102 _ _ ?_
    refine zo (op_pickT rfl rfl rfl) (za rfl (zn (zf rfl rfl (zk ?_))))
    refine Go1.inBlock ?_
    refine Go1.cut [(0, .pointer (some ⟨eY, 0, none⟩)), (3, .int .i64 a0.Enum.Done), (4, .slice p2 a0.Enum.Gens.length a0.Enum.Gens.length), (5, .int .i64 (k1_12 : Int)), (8, .int .i64 (mgt m1_52 r75)), (27, .slice ar aq au), (28, .int .i64 (a0.Enum.Gens.length : Int)), (29, .int .i64 (k1_12 : Int))] ⟨rfl, rfl, rfl, rfl, rfl, rfl, rfl, rfl, trivial⟩ ?_
    intro σ _
    refine zr (zm rfl (zm rfl (zm rfl ?_)))
    obtain ⟨Bf, H⟩ := H
    obtain ⟨Gh, H⟩ := H
    replace bt := bt.ch Z1
    refine zo (op_index Try.underlying26 ti3 rfl rfl Bf (ltn (bt.neq hO 0 rfl) Gh) (bt.psome hO 0 rfl Bf Gh)) ?_
    have hobt := ost (r := Rp.int .i64) rfl 0 hO rfl bt Bf Gh (v := .int .i64 (mgt m1_52 r75)) (u := (mgt m1_52 r75)) rfl rfl
    obtain ⟨QO, UM, sx, OW, QP⟩ := hobt
    dsimp only [sS, sZ] at sx OW
    refine zg (QP Try.underlying3 rfl ti3 (by exact rfl) (by exact rfl)) ?_
    replace hO := sx.own
    refine zn ?_
    refine Go1.inBlock ?_
    refine zr ?_
    replace aa := (aa.ch Z1).ch sx.ch
    refine zo (op_add rfl rfl (wrap_i64 (natbd h53 aa.bd))) (zm rfl (zn ?_))
    replace cH := cH.ch sx.ch
    replace bD := bD.ch sx.ch
    replace bB := bB.ch sx.ch
    replace ad := ad.ch sx.ch
    have Z8 := Z1.trans sx.ch
    replace dB := dB.ch Z8
    replace cr := cr.ch Z8
    replace ab := ab.ch Z8
    replace bH := bH.ch Z8
    replace hB := (((hB.trans q9.fr).trans gW.fr).trans lb.fr).trans sx.fr
    exact hX1 _ H _ _ ⟨UM, n21, p19, c20, rf, n27, p25, c26, sn, n33, p31, c32, sq, n39, p37, c38, sr, n45, p43, c44, ss, n51, p49, c50, su, ⟨rfl, rfl, rfl, rfl, rfl, rfl, trivial⟩, hO, OW, aa, dB, cH, cr, ab, bH, bD, bB, ad, hB⟩
   replace H := ifn yp H
   refine zo (fun w => opB (op_eql rfl rfl w) (decide_eq_false yp)) (zn (zf rfl rfl (zk (zq (zr ?_)))))
   refine zm rfl (zo (op_nilCheck rfl) (zo (op_fieldAddr Try.underlying72 rfl ti29 rfl (by decide)) (zo (op_fieldAddr Try.underlying29 rfl ti22 rfl (by decide)) (zs (oblk (i := 6) 1 hO rfl rfl Try.underlying22 rfl rfl) (zm rfl ?_)))))
   obtain ⟨Il, H⟩ := H
   obtain ⟨Ki, H⟩ := H
   replace ab := ab.ch Z1
   refine zo (op_index Try.underlying22 ti26 rfl rfl Il (ltn (ab.neq hO 6 rfl) Ki) (ab.psome hO 6 rfl Il Ki)) ?_
   have hobt := oldSl 6 hO rfl ab Il Ki
   obtain ⟨LK, LM, ly, UN⟩ := hobt
   refine zs (UN Try.underlying26 rfl rfl) (zm rfl ?_)
   obtain ⟨NK, H⟩ := H
   obtain ⟨NL, H⟩ := H
   refine zo (op_index Try.underlying26 ti3 rfl rfl NK NL (ly.some_ NK NL)) (zs (ldInt ly NK NL Try.underlying3 rfl rfl) (za rfl (zn ?_)))
   refine Go1.ret1V Try.func66 rfl (show _ = .int .i64 (ix (ix a0.Enum.Right (ix d_46 a0.Enum.Done)) (k1_12 : Int)) from rfl) ?_
   refine hR103 _ _ ?_
   refine za rfl (zn (zq ?_))
   refine Go1.cut [(0, .pointer (some ⟨eY, 0, none⟩)), (1, .int .i64 (ix d_46 a0.Enum.Done)), (2, .int .i64 (k1_12 : Int)), (7, .int .i64 (ix (ix a0.Enum.Right (ix d_46 a0.Enum.Done)) (k1_12 : Int)))] ⟨rfl, rfl, rfl, rfl, trivial⟩ ?_
   intro σ _
   refine zr (zm rfl (zo (op_nilCheck rfl) (zo (op_fieldAddr Try.underlying72 rfl ti29 rfl (by decide)) (zo (op_fieldAddr Try.underlying29 rfl ti26 rfl (by decide)) (zs (oblk (i := 4) 1 hO rfl rfl Try.underlying26 rfl rfl) ?_)))))
   refine zm rfl ?_
   obtain ⟨NM, H⟩ := H
   obtain ⟨NN, H⟩ := H
   replace cH := cH.ch Z1
   refine zo (op_index Try.underlying26 ti3 rfl rfl NM (ltn (cH.neq hO 4 rfl) NN) (cH.psome hO 4 rfl NM NN)) (zs (oldInt 4 hO rfl cH NM NN Try.underlying3 rfl rfl) (zm rfl ?_))
   by_cases LN : (ix d_22 (ix (ix a0.Enum.Right (ix d_46 a0.Enum.Done)) (k1_12 : Int))) = (ix d_46 a0.Enum.Done)
   ·replace H := ifp LN H
    refine zo (fun w => opB (op_eql rfl rfl w) (decide_eq_true LN)) (zm rfl (zm rfl (zo (op_nilCheck rfl) (zo (op_fieldAddr Try.underlying72 rfl ti29 rfl (by decide)) (zo (op_fieldAddr Try.underlying29 rfl ti26 rfl (by decide)) ?_)))))
    refine zs (oblk (i := 5) 1 hO rfl rfl Try.underlying26 rfl rfl) (zm rfl ?_)
    obtain ⟨Hp, H⟩ := H
    obtain ⟨NO, H⟩ := H
    replace cr := cr.ch Z1
    refine zo (op_index Try.underlying26 ti3 rfl rfl Hp (ltn (cr.neq hO 5 rfl) NO) (cr.psome hO 5 rfl Hp NO)) (zs (oldInt 5 hO rfl cr Hp NO Try.underlying3 rfl rfl) (zm rfl ?_))
    by_cases LO : (ix d_28 (ix (ix a0.Enum.Right (ix d_46 a0.Enum.Done)) (k1_12 : Int))) = (k1_12 : Int)
    ·replace H := ifp LO H
     refine zo (fun w => opB (op_eql rfl rfl w) (decide_eq_true LO)) (zo (op_pickT rfl rfl rfl) (za rfl (zn ?_)))
     refine Go1.ret1V Try.func67 rfl (show _ = .bool true from rfl) ?_
     refine hR102 _ _ ?_
     refine zo (op_pickT rfl rfl rfl) (za rfl (zn (zt rfl rfl ?_)))
     refine Go1.cut [(0, .pointer (some ⟨eY, 0, none⟩)), (3, .int .i64 a0.Enum.Done), (4, .slice p2 a0.Enum.Gens.length a0.Enum.Gens.length), (5, .int .i64 (k1_12 : Int)), (8, .int .i64 (mgt m1_52 r75)), (10, .string (gstr ((ix d_40 a0.Enum.Done) ++ (chr (IntKind.i32.wrap ((97 : Int) + (k1_12 : Int))))))), (27, .slice ar aq au), (28, .int .i64 (a0.Enum.Gens.length : Int)), (29, .int .i64 (k1_12 : Int))] ⟨rfl, rfl, rfl, rfl, rfl, rfl, rfl, rfl, rfl, trivial⟩ ?_
     intro σ _
     refine Go1.drawS 5 [(0, .pure), (1, .pure), (2, .pure), (3, .pure), (4, .pure), (5, .stable), (6, .pure), (7, .pure), (8, .pure), (9, .pure), (10, .stable), (11, .pure), (12, .pure), (13, .stable), (14, .pure), (15, .loud), (16, .last), (17, .pure), (18, .pure), (19, .pure), (20, .last)] mixed (by kernel_rfl) ?_
     intro ae2 UO
     have kV := Stp.same hO UO
     replace hO := kV.own
     refine GoQ.pure rfl (op_move rfl) rfl rfl ?_
     refine GoQ.pure rfl (op_move rfl) rfl rfl ?_
     refine GoQ.pure rfl (op_nilCheck rfl) rfl rfl ?_
     refine GoQ.pure rfl (op_fieldAddr Try.underlying72 rfl ti29 rfl (by decide)) rfl rfl ?_
     refine GoQ.pure rfl (op_fieldAddr Try.underlying29 rfl ti27 rfl (by decide)) rfl rfl ?_
     refine GoQ.stable rfl (oblk (i := 7) 1 hO rfl rfl Try.underlying27 rfl rfl) rfl rfl ?_
     refine GoQ.pure rfl (op_move rfl) rfl rfl ?_
     refine GoQ.pure rfl (op_move rfl) rfl rfl ?_
     refine GoQ.pure rfl (op_nilCheck rfl) rfl rfl ?_
     refine GoQ.pure rfl (op_fieldAddr Try.underlying72 rfl ti70 rfl (by decide)) rfl rfl ?_
     refine GoQ.stable rfl (oblk (i := 10) 1 hO rfl rfl Try.underlying70 rfl rfl) rfl rfl ?_
     refine GoQ.pure rfl (op_move rfl) rfl rfl ?_
     obtain ⟨LP, H⟩ := H
     obtain ⟨LQ, H⟩ := H
     replace bD := bD.ch kV.ch
     refine GoQ.pure rfl (op_index Try.underlying70 ti9 rfl rfl LP (ltn (bD.neq hO 8 rfl) LQ) (bD.psome hO 8 rfl LP LQ)) rfl rfl ?_
     refine GoQ.stable rfl (oldStr 8 hO rfl bD LP LQ Try.underlying9 rfl rfl) rfl rfl ?_
     have hle181 := Els.str_le bD LP LQ
     refine GoQ.pure rfl (op_build Try.underlying39 ti39 (pl := [(0, 1), (1, 1)]) (vs := [(0, .string (gstr ((ix d_40 a0.Enum.Done) ++ (chr (IntKind.i32.wrap ((97 : Int) + (k1_12 : Int))))))), (1, .string (gstr (ix d_40 (mgt m1_52 r75))))]) (cs := #[.string (gstr ((ix d_40 a0.Enum.Done) ++ (chr (IntKind.i32.wrap ((97 : Int) + (k1_12 : Int)))))), .string (gstr (ix d_40 (mgt m1_52 r75)))]) (by kernel_rfl) rfl (by kernel_rfl)) rfl rfl ?_
     have hobt := obuildN (r := rpRule) (n := 1) (parts := [(0, .agg #[.string (gstr ((ix d_40 a0.Enum.Done) ++ (chr (IntKind.i32.wrap ((97 : Int) + (k1_12 : Int)))))), .string (gstr (ix d_40 (mgt m1_52 r75)))])]) (vs := [.string (gstr ((ix d_40 a0.Enum.Done) ++ (chr (IntKind.i32.wrap ((97 : Int) + (k1_12 : Int)))))), .string (gstr (ix d_40 (mgt m1_52 r75)))]) (xs := [(⟨(ix d_40 a0.Enum.Done) ++ (chr (IntKind.i32.wrap ((97 : Int) + (k1_12 : Int)))), ix d_40 (mgt m1_52 r75)⟩ : Rule)]) Try.underlying27 ti39 hO (by decide) (by decide) (by kernel_rfl) (Els.flat1 (⟨(ix d_40 a0.Enum.Done) ++ (chr (IntKind.i32.wrap ((97 : Int) + (k1_12 : Int)))), ix d_40 (mgt m1_52 r75)⟩ : Rule) ⟨(lenApp h88), hle181⟩) rfl
     obtain ⟨ae3, ae4, rz, UP, UQ, QQ⟩ := hobt
     refine GoQ.loud rfl (QQ rfl) UQ rfl rfl ?_
     replace hO := rz.own
     have hobt := freeze 0 hO rfl UP
     obtain ⟨hO1, vN, D5, UR⟩ := hobt
     dsimp only [eS, eZ] at hO1 vN D5
     replace hB := (((((hB.trans q9.fr).trans gW.fr).trans lb.fr).trans kV.fr).trans rz.fr).trans (Owns.dropFr _ _ 0)
     dsimp only [eS, eZ] at hB
     replace hO := hO1; clear hO1
     obtain ⟨aaU, H⟩ := H
     have Z9 := ((Z1.trans kV.ch).trans rz.ch).trans vN
     replace bH := bH.ch Z9
     have hobt := oapp Try.underlying27 ti39 rfl 7 hO rfl bH D5 UR aaU (by decide)
     obtain ⟨ae5, NP, NQ, US, qv, HP, QR⟩ := hobt
     dsimp only [sS, sZ] at qv HP
     refine GoQ.last rfl (QR (by exact rfl) (by exact rfl)) rfl rfl ?_
     replace hO := qv.own
     refine GoQ.pure rfl (op_nilCheck rfl) rfl rfl ?_
     refine GoQ.pure rfl (op_fieldAddr Try.underlying72 rfl ti29 rfl (by decide)) rfl rfl ?_
     refine GoQ.pure rfl (op_fieldAddr Try.underlying29 rfl ti27 rfl (by decide)) rfl rfl ?_
     have hobt := oblkSt2 (v := .slice NP (n39 + 1) NQ) (i := 7) (cs' := #[.int .i64 a0.Enum.Points, .bool a0.Enum.Monoid, .slice ar aq au, .slice p19 n21 c20, .slice p25 n27 c26, .slice p31 n33 c32, .slice aM aB aN, .slice NP (n39 + 1) NQ, .int .i64 a0.Enum.Done, .map (some aO), .slice p43 n45 c44, .slice p49 n51 c50, .slice bm bk bn]) 1 hO rfl rfl rfl rfl
     obtain ⟨ae6, pO, QS⟩ := hobt
     dsimp only [sS, sZ] at pO
     refine GoQ.last rfl (QS Try.underlying27 rfl ti27 (by exact rfl) (by exact rfl)) rfl rfl ?_
     replace hO := pO.own
     refine GoQ.nil ?_
     refine Go1.inBlock ?_
     refine Go1.cut [(0, .pointer (some ⟨eY, 0, none⟩)), (3, .int .i64 a0.Enum.Done), (4, .slice p2 a0.Enum.Gens.length a0.Enum.Gens.length), (5, .int .i64 (k1_12 : Int)), (8, .int .i64 (mgt m1_52 r75)), (27, .slice ar aq au), (28, .int .i64 (a0.Enum.Gens.length : Int)), (29, .int .i64 (k1_12 : Int))] ⟨rfl, rfl, rfl, rfl, rfl, rfl, rfl, rfl, trivial⟩ ?_
     intro σ _
     refine zr (zm rfl (zm rfl (zm rfl ?_)))
     obtain ⟨NR, H⟩ := H
     obtain ⟨NS, H⟩ := H
     replace bt := ((bt.ch Z9).ch qv.ch).ch pO.ch
     refine zo (op_index Try.underlying26 ti3 rfl rfl NR (ltn (bt.neq hO 0 rfl) NS) (bt.psome hO 0 rfl NR NS)) ?_
     have hobt := ost (r := Rp.int .i64) rfl 0 hO rfl bt NR NS (v := .int .i64 (mgt m1_52 r75)) (u := (mgt m1_52 r75)) rfl rfl
     obtain ⟨aaV, UT, qw, OX, QT⟩ := hobt
     dsimp only [sS, sZ] at qw OX
     refine zg (QT Try.underlying3 rfl ti3 (by exact rfl) (by exact rfl)) ?_
     replace hO := qw.own
     refine zn ?_
     refine Go1.inBlock ?_
     refine zr ?_
     have Z10 := ((Z9.trans qv.ch).trans pO.ch).trans qw.ch
     replace aa := aa.ch Z10
     refine zo (op_add rfl rfl (wrap_i64 (natbd h53 aa.bd))) (zm rfl (zn ?_))
     replace HP := (HP.ch pO.ch).ch qw.ch
     replace hB := ((hB.trans qv.fr).trans pO.fr).trans qw.fr
     have Z11 := (((rz.ch.trans vN).trans qv.ch).trans pO.ch).trans qw.ch
     replace bD := bD.ch Z11
     have Z12 := ((((kV.ch.trans rz.ch).trans vN).trans qv.ch).trans pO.ch).trans qw.ch
     replace cH := cH.ch Z12
     replace cr := cr.ch Z12
     replace ab := ab.ch Z12
     replace bB := bB.ch Z12
     replace dB := dB.ch Z10
     replace ad := ad.ch Z10
     exact hX1 _ H _ _ ⟨UT, n21, p19, c20, rf, n27, p25, c26, sn, n33, p31, c32, sq, n39 + 1, NP, NQ, US, n45, p43, c44, ss, n51, p49, c50, su, ⟨rfl, rfl, rfl, rfl, rfl, rfl, trivial⟩, hO, OX, aa, dB, cH, cr, ab, HP, bD, bB, ad, hB⟩
    replace H := ifn LO H
    refine zo (fun w => opB (op_eql rfl rfl w) (decide_eq_false LO)) (zo (op_pickT rfl rfl rfl) (za rfl (zn ?_)))
    refine Go1.ret1V Try.func67 rfl (show _ = .bool false from rfl) ?_
    refine hR102 _ _ ?_
    refine zo (op_pickT rfl rfl rfl) (za rfl (zn (zf rfl rfl (zk ?_))))
    refine Go1.inBlock ?_
    refine zr (zm rfl (zm rfl (zm rfl ?_)))
    obtain ⟨NT, H⟩ := H
    obtain ⟨Kk, H⟩ := H
    replace bt := bt.ch Z1
    refine zo (op_index Try.underlying26 ti3 rfl rfl NT (ltn (bt.neq hO 0 rfl) Kk) (bt.psome hO 0 rfl NT Kk)) ?_
    have hobt := ost (r := Rp.int .i64) rfl 0 hO rfl bt NT Kk (v := .int .i64 (mgt m1_52 r75)) (u := (mgt m1_52 r75)) rfl rfl
    obtain ⟨Y6, UU, rB, D6, QU⟩ := hobt
    dsimp only [sS, sZ] at rB D6
    refine zg (QU Try.underlying3 rfl ti3 (by exact rfl) (by exact rfl)) ?_
    replace hO := rB.own
    refine zn ?_
    refine Go1.inBlock ?_
    refine zr ?_
    replace aa := (aa.ch Z1).ch rB.ch
    refine zo (op_add rfl rfl (wrap_i64 (natbd h53 aa.bd))) (zm rfl (zn ?_))
    replace cH := cH.ch rB.ch
    replace cr := cr.ch rB.ch
    replace ab := ab.ch rB.ch
    replace bD := bD.ch rB.ch
    replace bB := bB.ch rB.ch
    have Z13 := Z1.trans rB.ch
    replace dB := dB.ch Z13
    replace bH := bH.ch Z13
    replace ad := ad.ch Z13
    replace hB := (((hB.trans q9.fr).trans gW.fr).trans lb.fr).trans rB.fr
    exact hX1 _ H _ _ ⟨UU, n21, p19, c20, rf, n27, p25, c26, sn, n33, p31, c32, sq, n39, p37, c38, sr, n45, p43, c44, ss, n51, p49, c50, su, ⟨rfl, rfl, rfl, rfl, rfl, rfl, trivial⟩, hO, D6, aa, dB, cH, cr, ab, bH, bD, bB, ad, hB⟩
   replace H := ifn LN H
   refine zo (fun w => opB (op_eql rfl rfl w) (decide_eq_false LN)) (zm rfl (zp (zp (zp (zp ?_)))))
   refine zp (zp (zp (zp (zp (zp ?_)))))
   refine zo (op_pickF rfl rfl rfl) (za rfl (zn ?_))
   refine Go1.ret1V Try.func67 rfl (show _ = .bool false from rfl) ?_
   refine hR102 _ _ ?_
   refine zo (op_pickT rfl rfl rfl) (za rfl (zn (zf rfl rfl (zk ?_))))
   refine Go1.inBlock ?_
   refine Go1.cut [(0, .pointer (some ⟨eY, 0, none⟩)), (3, .int .i64 a0.Enum.Done), (4, .slice p2 a0.Enum.Gens.length a0.Enum.Gens.length), (5, .int .i64 (k1_12 : Int)), (8, .int .i64 (mgt m1_52 r75)), (27, .slice ar aq au), (28, .int .i64 (a0.Enum.Gens.length : Int)), (29, .int .i64 (k1_12 : Int))] ⟨rfl, rfl, rfl, rfl, rfl, rfl, rfl, rfl, trivial⟩ ?_
   intro σ _
   refine zr (zm rfl (zm rfl (zm rfl ?_)))
   obtain ⟨HB, H⟩ := H
   obtain ⟨HC, H⟩ := H
   replace bt := bt.ch Z1
   refine zo (op_index Try.underlying26 ti3 rfl rfl HB (ltn (bt.neq hO 0 rfl) HC) (bt.psome hO 0 rfl HB HC)) ?_
   have hobt := ost (r := Rp.int .i64) rfl 0 hO rfl bt HB HC (v := .int .i64 (mgt m1_52 r75)) (u := (mgt m1_52 r75)) rfl rfl
   obtain ⟨ae7, UV, eg, OY, QV⟩ := hobt
   dsimp only [sS, sZ] at eg OY
   refine zg (QV Try.underlying3 rfl ti3 (by exact rfl) (by exact rfl)) ?_
   replace hO := eg.own
   refine zn ?_
   refine Go1.inBlock ?_
   refine zr ?_
   replace aa := (aa.ch Z1).ch eg.ch
   refine zo (op_add rfl rfl (wrap_i64 (natbd h53 aa.bd))) (zm rfl (zn ?_))
   replace cH := cH.ch eg.ch
   replace ab := ab.ch eg.ch
   replace bD := bD.ch eg.ch
   replace bB := bB.ch eg.ch
   have Z14 := Z1.trans eg.ch
   replace dB := dB.ch Z14
   replace cr := cr.ch Z14
   replace bH := bH.ch Z14
   replace ad := ad.ch Z14
   replace hB := (((hB.trans q9.fr).trans gW.fr).trans lb.fr).trans eg.fr
   exact hX1 _ H _ _ ⟨UV, n21, p19, c20, rf, n27, p25, c26, sn, n33, p31, c32, sq, n39, p37, c38, sr, n45, p43, c44, ss, n51, p49, c50, su, ⟨rfl, rfl, rfl, rfl, rfl, rfl, trivial⟩, hO, OY, aa, dB, cH, cr, ab, bH, bD, bB, ad, hB⟩
  replace H := ifn h81 H
  refine GoQ.stable rfl (olookF (a := r75) (MK.str Try.underlying9) 11 hO rfl Try.underlying69 ti3 rfl rfl h81) rfl rfl ?_
  refine GoQ.pure rfl (op_move rfl) rfl rfl ?_
  refine GoQ.pure rfl (op_extract rfl rfl) rfl rfl ?_
  refine GoQ.pure rfl (op_extract rfl rfl) rfl rfl ?_
  refine GoQ.pure rfl (op_assign rfl) rfl rfl ?_
  refine GoQ.pure rfl (op_assign rfl) rfl rfl ?_
  refine GoQ.nil ?_
  refine zq (zr (zm rfl (zo (op_nilCheck rfl) (zo (op_fieldAddr Try.underlying72 rfl ti70 rfl (by decide)) (zs (oblk (i := 10) 1 hO rfl rfl Try.underlying70 rfl rfl) ?_)))))
  refine zm rfl ?_
  obtain ⟨LS, H⟩ := H
  obtain ⟨LT, H⟩ := H
  have Z15 := (q9.ch.trans gW.ch).trans lb.ch
  replace bD := bD.ch Z15
  refine zo (op_index Try.underlying70 ti9 rfl rfl LS (ltn (bD.neq hO 8 rfl) LT) (bD.psome hO 8 rfl LS LT)) (zs (oldStr 8 hO rfl bD LS LT Try.underlying9 rfl rfl) ?_)
  have hle227 := Els.str_le bD LS LT
  refine zm rfl ?_
  obtain ⟨aaW, H⟩ := H
  refine zo (op_add rfl rfl (wrap_i64 aaW)) (zo (op_conv Try.underlying3 Try.underlying21 rfl rfl) ?_)
  obtain ⟨Ju, H⟩ := H
  obtain ⟨aaX, H⟩ := H
  refine zo (op_convRS Try.underlying21 Try.underlying9 rfl Ju aaX) ?_
  obtain ⟨NU, H⟩ := H
  refine zo (op_addS rfl rfl NU) (za rfl (zn (zq (zb (zq ?_)))))
  refine Go1.cut [(0, .pointer (some ⟨eY, 0, none⟩)), (3, .int .i64 a0.Enum.Done), (4, .slice p2 a0.Enum.Gens.length a0.Enum.Gens.length), (5, .int .i64 (k1_12 : Int)), (7, .slice xY r66.length x2), (8, .int .i64 (0 : Int)), (9, .bool false), (10, .string (gstr ((ix d_40 a0.Enum.Done) ++ (chr (IntKind.i32.wrap ((97 : Int) + (k1_12 : Int))))))), (27, .slice ar aq au), (28, .int .i64 (a0.Enum.Gens.length : Int)), (29, .int .i64 (k1_12 : Int))] ⟨rfl, rfl, rfl, rfl, rfl, rfl, rfl, rfl, rfl, rfl, rfl, trivial⟩ ?_
  intro σ _
  refine zr (zm rfl (zo (op_not rfl) (zm rfl (zm rfl (zo (op_nilCheck rfl) ?_)))))
  refine zo (op_fieldAddr Try.underlying72 rfl ti29 rfl (by decide)) (zo (op_fieldAddr Try.underlying29 rfl ti22 rfl (by decide)) (zs (oblk (i := 3) 1 hO rfl rfl Try.underlying22 rfl rfl) ?_))
  replace dB := dB.ch Z15
  refine zo (op_lenN Try.underlying22 rfl (dB.neq hO 3 rfl)) ?_
  by_cases LU : (d_16.length : Int) = (2000 : Int)
  ·replace H := ifp LU H
   refine zo (fun w => opB (op_eql rfl rfl w) (decide_eq_true LU)) (zo (op_pickT rfl rfl rfl) (za rfl (zn (zt rfl rfl (zq ?_)))))
   refine zr (za rfl (zn ?_))
   replace hO := hO.drop 0
   replace dB := dB.ch (Owns.dropCh _ _ 0)
   replace bD := bD.ch (Owns.dropCh _ _ 0)
   replace bp := (bp.ch lb.ch).ch (Owns.dropCh _ _ 0)
   have Z16 := Z15.trans (Owns.dropCh _ _ 0)
   replace aa := aa.ch Z16
   replace cH := cH.ch Z16
   replace cr := cr.ch Z16
   replace ab := ab.ch Z16
   replace bH := bH.ch Z16
   replace bB := bB.ch Z16
   replace ad := ad.ch Z16
   replace bT := bT.ch Z16
   replace bU := bU.ch Z16
   replace hB := (((hB.trans q9.fr).trans gW.fr).trans lb.fr).trans (Owns.dropFr _ _ 0)
   dsimp only [eS, eZ] at hB hO bT bU bp aa dB cH cr ab bH bD bB ad
   refine Go1.ret1 Try.func51 rfl ?_
   exact ⟨((3 : Int)), (⟨(⟨a0.Enum.Points, a0.Enum.Monoid, a0.Enum.Gens, d_16, d_22, d_28, a0.Enum.Right, d_34, a0.Enum.Done⟩ : Enum), m1_52, d_40, d_46, a0.single⟩ : run), aq, ar, au, cL, n21, p19, c20, rf, n27, p25, c26, sn, n33, p31, c32, sq, aB, aM, aN, cG, n39, p37, c38, sr, n45, p43, c44, ss, n51, p49, c50, su, bk, bm, bn, dH, rfl, hO, aa, dB, cH, cr, ab, bH, bD, bB, ad, hB, H⟩
  replace H := ifn LU H
  refine zo (fun w => opB (op_eql rfl rfl w) (decide_eq_false LU)) (zo (op_pickT rfl rfl rfl) (za rfl (zn (zf rfl rfl (zq ?_)))))
  refine zr (zm rfl (zo (op_not rfl) (za rfl (zn (zt rfl rfl ?_)))))
  refine zr (zm rfl (zm rfl (zm rfl (zm rfl (zm rfl ?_)))))
  refine zm rfl (zm rfl (zo (op_nilCheck rfl) (zo (op_fieldAddr Try.underlying72 rfl ti26 rfl (by decide)) (zs (oblk (i := 11) 1 hO rfl rfl Try.underlying26 rfl rfl) (zm rfl ?_)))))
  obtain ⟨NV, H⟩ := H
  obtain ⟨NW, H⟩ := H
  replace bB := bB.ch Z15
  refine zo (op_index Try.underlying26 ti3 rfl rfl NV (ltn (bB.neq hO 9 rfl) NW) (bB.psome hO 9 rfl NV NW)) (zs (oldInt 9 hO rfl bB NV NW Try.underlying3 rfl rfl) (zm rfl ?_))
  refine GoR.inl (vs := [.pointer (some ⟨eY, 0, none⟩), .int .i64 (ix d_46 a0.Enum.Done), .int .i64 (k1_12 : Int)]) (caps := []) rfl rfl body66 Try.func66 rfl Try.ntmps66 rfl rfl rfl ?_
  intro RhR235 hR235
  refine zq ?_
  refine Go1.cut [(0, .pointer (some ⟨eY, 0, none⟩)), (1, .int .i64 (ix d_46 a0.Enum.Done)), (2, .int .i64 (k1_12 : Int))] ⟨rfl, rfl, rfl, trivial⟩ ?_
  intro σ _
  refine zr (za rfl (zn (zq (zq (zr ?_)))))
  refine zm rfl ?_
  by_cases LV : (ix d_46 a0.Enum.Done) = (-1 : Int)
  ·replace H := ifp LV H
   refine zo (fun w => opB (op_eql rfl rfl w) (decide_eq_true LV)) (zn (zt rfl rfl (zq (zr (zm rfl ?_)))))
   refine zo (op_nilCheck rfl) (zo (op_fieldAddr Try.underlying72 rfl ti26 rfl (by decide)) (zs (oblk (i := 12) 1 hO rfl rfl Try.underlying26 rfl rfl) (zm rfl ?_)))
   obtain ⟨NX, H⟩ := H
   obtain ⟨NY, H⟩ := H
   replace ad := ad.ch Z15
   refine zo (op_index Try.underlying26 ti3 rfl rfl NX (ltn (ad.neq hO 10 rfl) NY) (ad.psome hO 10 rfl NX NY)) (zs (oldInt 10 hO rfl ad NX NY Try.underlying3 rfl rfl) (za rfl (zn ?_)))
   refine Go1.ret1V Try.func66 rfl (show _ = .int .i64 (ix a0.single (k1_12 : Int)) from rfl) ?_
   refine hR235 _ _ ?_
   refine GoR.inl (vs := [.pointer (some ⟨eY, 0, none⟩), .slice xY r66.length x2, .int .i64 a0.Enum.Done, .int .i64 (k1_12 : Int), .string (gstr ((ix d_40 a0.Enum.Done) ++ (chr (IntKind.i32.wrap ((97 : Int) + (k1_12 : Int)))))), .int .i64 (ix a0.single (k1_12 : Int))]) (caps := []) rfl rfl body65 Try.func65 rfl Try.ntmps65 rfl rfl rfl ?_
   intro RhR239 hR239
   refine zq (zr (za rfl (zn (zq (zr ?_)))))
   refine zm rfl (zo (op_nilCheck rfl) (zo (op_fieldAddr Try.underlying72 rfl ti29 rfl (by decide)) (zo (op_fieldAddr Try.underlying29 rfl ti22 rfl (by decide)) (zs (oblk (i := 3) 1 hO rfl rfl Try.underlying22 rfl rfl) (zo (op_lenN Try.underlying22 rfl (dB.neq hO 3 rfl)) ?_)))))
   refine za rfl (zn (zq ?_))
   refine Go1.cut [(0, .pointer (some ⟨eY, 0, none⟩)), (1, .slice xY r66.length x2), (2, .int .i64 a0.Enum.Done), (3, .int .i64 (k1_12 : Int)), (4, .string (gstr ((ix d_40 a0.Enum.Done) ++ (chr (IntKind.i32.wrap ((97 : Int) + (k1_12 : Int))))))), (5, .int .i64 (ix a0.single (k1_12 : Int))), (13, .int .i64 (d_16.length : Int))] ⟨rfl, rfl, rfl, rfl, rfl, rfl, rfl, trivial⟩ ?_
   intro σ _
   refine Go1.drawS 1 [(0, .pure), (1, .pure), (2, .pure), (3, .stable), (4, .pure), (6, .pure), (5, .loud), (7, .last)] mixed (by kernel_rfl) ?_
   intro Y8 Lm
   have od := Stp.same hO Lm
   replace hO := od.own
   refine GoQ.pure rfl (op_move rfl) rfl rfl ?_
   refine GoQ.pure rfl (op_nilCheck rfl) rfl rfl ?_
   refine GoQ.pure rfl (op_fieldAddr Try.underlying72 rfl ti69 rfl (by decide)) rfl rfl ?_
   refine GoQ.stable rfl (oblk (i := 9) 1 hO rfl rfl Try.underlying69 rfl rfl) rfl rfl ?_
   refine GoQ.pure rfl (op_move rfl) rfl rfl ?_
   refine GoQ.pure rfl (op_move rfl) rfl rfl ?_
   replace bp := (bp.ch lb.ch).ch od.ch
   refine GoQ.call rfl (op_call body61 rfl (walk_enumerate_text hO.lt bp H)) (fun v w hr => by obtain ⟨_, _, hs, _, _⟩ := hr; assumption) rfl rfl ?_
   rintro ae8 ae9 ⟨r243, rfl, UW, acQ, H⟩
   have sy := Stp.same hO UW
   replace hO := sy.own
   have hobt := omapUpd (MK.str Try.underlying9) 11 hO rfl Try.underlying69 r243 (d_16.length : Int)
   obtain ⟨aaY, jW, KE⟩ := hobt
   dsimp only [sS, sZ] at jW
   refine GoQ.last rfl (KE (by exact rfl) (by exact rfl) (by exact rfl)) rfl rfl ?_
   replace hO := jW.own
   refine GoQ.nil ?_
   refine zq (zr (zm rfl (zm rfl (zo (op_nilCheck rfl) (zo (op_fieldAddr Try.underlying72 rfl ti29 rfl (by decide)) ?_)))))
   refine zo (op_fieldAddr Try.underlying29 rfl ti22 rfl (by decide)) (zs (oblk (i := 3) 1 hO rfl rfl Try.underlying22 rfl rfl) (zm rfl ?_))
   replace bp := (bp.ch sy.ch).ch jW.ch
   have hobt := obuild (r := Rp.sl (Rp.int .i64)) (n := 1) (parts := [(0, .slice xY r66.length x2)]) (vs := [.slice xY r66.length x2]) (xs := [r66]) rfl Try.underlying22 ti26 hO (by decide) (by kernel_rfl) (Els.cons rfl ⟨xY, x2, rfl, bp⟩ (Els.nil _ _ _) (by simp [mx])) rfl
   obtain ⟨aa0, Iw, sA, UX, adh, QW⟩ := hobt
   refine zg (QW rfl) ?_
   replace hO := sA.own
   have hobt := freeze 0 hO rfl UX
   obtain ⟨hO1, xj, gp, UY⟩ := hobt
   dsimp only [eS, eZ] at hO1 xj gp
   replace hB := (((((((hB.trans q9.fr).trans gW.fr).trans lb.fr).trans od.fr).trans sy.fr).trans jW.fr).trans sA.fr).trans (Owns.dropFr _ _ 0)
   dsimp only [eS, eZ] at hB
   replace hO := hO1; clear hO1
   obtain ⟨aa1, H⟩ := H
   have Z17 := (((od.ch.trans sy.ch).trans jW.ch).trans sA.ch).trans xj
   replace dB := dB.ch Z17
   have hobt := oapp Try.underlying22 ti26 rfl 3 hO rfl dB gp UY aa1 (by decide)
   obtain ⟨afa, Ix, Iy, U0, rC, gF, QX⟩ := hobt
   dsimp only [sS, sZ] at rC gF
   refine zg (QX (by exact rfl) (by exact rfl)) ?_
   replace hO := rC.own
   refine zo (op_nilCheck rfl) (zo (op_fieldAddr Try.underlying72 rfl ti29 rfl (by decide)) (zo (op_fieldAddr Try.underlying29 rfl ti22 rfl (by decide)) ?_))
   have hobt := oblkSt2 (v := .slice Ix (n21 + 1) Iy) (i := 3) (cs' := #[.int .i64 a0.Enum.Points, .bool a0.Enum.Monoid, .slice ar aq au, .slice Ix (n21 + 1) Iy, .slice p25 n27 c26, .slice p31 n33 c32, .slice aM aB aN, .slice p37 n39 c38, .int .i64 a0.Enum.Done, .map (some aO), .slice p43 n45 c44, .slice p49 n51 c50, .slice bm bk bn]) 1 hO rfl rfl rfl rfl
   obtain ⟨afb, qx, QY⟩ := hobt
   dsimp only [sS, sZ] at qx
   refine zg (QY Try.underlying22 rfl ti22 (by exact rfl) (by exact rfl)) ?_
   replace hO := qx.own
   refine zn (zq ?_)
   refine Go1.cut [(0, .pointer (some ⟨eY, 0, none⟩)), (2, .int .i64 a0.Enum.Done), (3, .int .i64 (k1_12 : Int)), (4, .string (gstr ((ix d_40 a0.Enum.Done) ++ (chr (IntKind.i32.wrap ((97 : Int) + (k1_12 : Int))))))), (5, .int .i64 (ix a0.single (k1_12 : Int))), (13, .int .i64 (d_16.length : Int))] ⟨rfl, rfl, rfl, rfl, rfl, rfl, trivial⟩ ?_
   intro σ _
   refine zr (zm rfl (zm rfl (zo (op_nilCheck rfl) (zo (op_fieldAddr Try.underlying72 rfl ti29 rfl (by decide)) (zo (op_fieldAddr Try.underlying29 rfl ti26 rfl (by decide)) ?_)))))
   refine zs (oblk (i := 4) 1 hO rfl rfl Try.underlying26 rfl rfl) (zm rfl ?_)
   have hobt := obuild (r := Rp.int .i64) (n := 1) (parts := [(0, .int .i64 a0.Enum.Done)]) (vs := [.int .i64 a0.Enum.Done]) (xs := [a0.Enum.Done]) rfl Try.underlying26 ti3 hO (by decide) (by kernel_rfl) (Els.cons rfl rfl (Els.nil _ _ _) (by simp [mx])) rfl
   obtain ⟨afc, rW, rD, U1, adi, Q0⟩ := hobt
   refine zg (Q0 rfl) ?_
   replace hO := rD.own
   have hobt := freeze 0 hO rfl U1
   obtain ⟨hO1, vO, dp, U2⟩ := hobt
   dsimp only [eS, eZ] at hO1 vO dp
   replace hB := (((hB.trans rC.fr).trans qx.fr).trans rD.fr).trans (Owns.dropFr _ _ 0)
   dsimp only [eS, eZ] at hB
   replace hO := hO1; clear hO1
   obtain ⟨aa2, H⟩ := H
   have Z18 := ((((((((Z15.trans od.ch).trans sy.ch).trans jW.ch).trans sA.ch).trans xj).trans rC.ch).trans qx.ch).trans rD.ch).trans vO
   replace cH := cH.ch Z18
   have hobt := oapp Try.underlying26 ti3 rfl 4 hO rfl cH dp U2 aa2 (by decide)
   obtain ⟨afd, Jv, Jw, nj, qy, ld, Q1⟩ := hobt
   dsimp only [sS, sZ] at qy ld
   refine zg (Q1 (by exact rfl) (by exact rfl)) ?_
   replace hO := qy.own
   refine zo (op_nilCheck rfl) (zo (op_fieldAddr Try.underlying72 rfl ti29 rfl (by decide)) (zo (op_fieldAddr Try.underlying29 rfl ti26 rfl (by decide)) ?_))
   have hobt := oblkSt2 (v := .slice Jv (n27 + 1) Jw) (i := 4) (cs' := #[.int .i64 a0.Enum.Points, .bool a0.Enum.Monoid, .slice ar aq au, .slice Ix (n21 + 1) Iy, .slice Jv (n27 + 1) Jw, .slice p31 n33 c32, .slice aM aB aN, .slice p37 n39 c38, .int .i64 a0.Enum.Done, .map (some aO), .slice p43 n45 c44, .slice p49 n51 c50, .slice bm bk bn]) 1 hO rfl rfl rfl rfl
   obtain ⟨aa3, pP, Q2⟩ := hobt
   dsimp only [sS, sZ] at pP
   refine zg (Q2 Try.underlying26 rfl ti26 (by exact rfl) (by exact rfl)) ?_
   replace hO := pP.own
   refine zn (zq (zr (zm rfl (zm rfl (zo (op_nilCheck rfl) ?_)))))
   refine zo (op_fieldAddr Try.underlying72 rfl ti29 rfl (by decide)) (zo (op_fieldAddr Try.underlying29 rfl ti26 rfl (by decide)) (zs (oblk (i := 5) 1 hO rfl rfl Try.underlying26 rfl rfl) (zm rfl ?_)))
   have hobt := obuild (r := Rp.int .i64) (n := 1) (parts := [(0, .int .i64 (k1_12 : Int))]) (vs := [.int .i64 (k1_12 : Int)]) (xs := [(k1_12 : Int)]) rfl Try.underlying26 ti3 hO (by decide) (by kernel_rfl) (Els.cons rfl rfl (Els.nil _ _ _) (by simp [mx])) rfl
   obtain ⟨aa4, afe, qz, U3, adk, Q3⟩ := hobt
   refine zg (Q3 rfl) ?_
   replace hO := qz.own
   have hobt := freeze 0 hO rfl U3
   obtain ⟨hO1, uG, oq, U4⟩ := hobt
   dsimp only [eS, eZ] at hO1 uG oq
   replace hB := (((hB.trans qy.fr).trans pP.fr).trans qz.fr).trans (Owns.dropFr _ _ 0)
   dsimp only [eS, eZ] at hB
   replace hO := hO1; clear hO1
   obtain ⟨aa5, H⟩ := H
   have Z19 := (((Z18.trans qy.ch).trans pP.ch).trans qz.ch).trans uG
   replace cr := cr.ch Z19
   have hobt := oapp Try.underlying26 ti3 rfl 5 hO rfl cr oq U4 aa5 (by decide)
   obtain ⟨aff, ii, ik, U5, pQ, pF, Q4⟩ := hobt
   dsimp only [sS, sZ] at pQ pF
   refine zg (Q4 (by exact rfl) (by exact rfl)) ?_
   replace hO := pQ.own
   refine zo (op_nilCheck rfl) (zo (op_fieldAddr Try.underlying72 rfl ti29 rfl (by decide)) (zo (op_fieldAddr Try.underlying29 rfl ti26 rfl (by decide)) ?_))
   have hobt := oblkSt2 (v := .slice ii (n33 + 1) ik) (i := 5) (cs' := #[.int .i64 a0.Enum.Points, .bool a0.Enum.Monoid, .slice ar aq au, .slice Ix (n21 + 1) Iy, .slice Jv (n27 + 1) Jw, .slice ii (n33 + 1) ik, .slice aM aB aN, .slice p37 n39 c38, .int .i64 a0.Enum.Done, .map (some aO), .slice p43 n45 c44, .slice p49 n51 c50, .slice bm bk bn]) 1 hO rfl rfl rfl rfl
   obtain ⟨afg, oT, Q5⟩ := hobt
   dsimp only [sS, sZ] at oT
   refine zg (Q5 Try.underlying26 rfl ti26 (by exact rfl) (by exact rfl)) ?_
   replace hO := oT.own
   refine zn (zq ?_)
   refine Go1.cut [(0, .pointer (some ⟨eY, 0, none⟩)), (4, .string (gstr ((ix d_40 a0.Enum.Done) ++ (chr (IntKind.i32.wrap ((97 : Int) + (k1_12 : Int))))))), (5, .int .i64 (ix a0.single (k1_12 : Int))), (13, .int .i64 (d_16.length : Int))] ⟨rfl, rfl, rfl, rfl, trivial⟩ ?_
   intro σ _
   refine zr (zm rfl (zm rfl (zo (op_nilCheck rfl) (zo (op_fieldAddr Try.underlying72 rfl ti70 rfl (by decide)) (zs (oblk (i := 10) 1 hO rfl rfl Try.underlying70 rfl rfl) ?_)))))
   refine zm rfl ?_
   have hobt := obuild (r := Rp.str) (n := 1) (parts := [(0, .string (gstr ((ix d_40 a0.Enum.Done) ++ (chr (IntKind.i32.wrap ((97 : Int) + (k1_12 : Int)))))))]) (vs := [.string (gstr ((ix d_40 a0.Enum.Done) ++ (chr (IntKind.i32.wrap ((97 : Int) + (k1_12 : Int))))))]) (xs := [(ix d_40 a0.Enum.Done) ++ (chr (IntKind.i32.wrap ((97 : Int) + (k1_12 : Int))))]) rfl Try.underlying70 ti9 hO (by decide) (by kernel_rfl) (Els.cons rfl ⟨rfl, (lenApp NU)⟩ (Els.nil _ _ _) (by simp [mx])) rfl
   obtain ⟨afh, afi, pS, U6, adl, Q6⟩ := hobt
   refine zg (Q6 rfl) ?_
   replace hO := pS.own
   have hobt := freeze 0 hO rfl U6
   obtain ⟨hO1, t8, bF, U7⟩ := hobt
   dsimp only [eS, eZ] at hO1 t8 bF
   replace hB := (((hB.trans pQ.fr).trans oT.fr).trans pS.fr).trans (Owns.dropFr _ _ 0)
   dsimp only [eS, eZ] at hB
   replace hO := hO1; clear hO1
   obtain ⟨KF, H⟩ := H
   have Z20 := (((((((((((Z17.trans rC.ch).trans qx.ch).trans rD.ch).trans vO).trans qy.ch).trans pP.ch).trans qz.ch).trans uG).trans pQ.ch).trans oT.ch).trans pS.ch).trans t8
   replace bD := bD.ch Z20
   have hobt := oapp Try.underlying70 ti9 rfl 8 hO rfl bD bF U7 KF (by decide)
   obtain ⟨afj, LX, LY, U8, oU, xk, Q7⟩ := hobt
   dsimp only [sS, sZ] at oU xk
   refine zg (Q7 (by exact rfl) (by exact rfl)) ?_
   replace hO := oU.own
   refine zo (op_nilCheck rfl) (zo (op_fieldAddr Try.underlying72 rfl ti70 rfl (by decide)) ?_)
   have hobt := oblkSt2 (v := .slice LX (n45 + 1) LY) (i := 10) (cs' := #[.int .i64 a0.Enum.Points, .bool a0.Enum.Monoid, .slice ar aq au, .slice Ix (n21 + 1) Iy, .slice Jv (n27 + 1) Jw, .slice ii (n33 + 1) ik, .slice aM aB aN, .slice p37 n39 c38, .int .i64 a0.Enum.Done, .map (some aO), .slice LX (n45 + 1) LY, .slice p49 n51 c50, .slice bm bk bn]) 1 hO rfl rfl rfl rfl
   obtain ⟨aa6, oe, Q8⟩ := hobt
   dsimp only [sS, sZ] at oe
   refine zg (Q8 Try.underlying70 rfl ti70 (by exact rfl) (by exact rfl)) ?_
   replace hO := oe.own
   refine zn (zq (zr (zm rfl (zm rfl (zo (op_nilCheck rfl) ?_)))))
   refine zo (op_fieldAddr Try.underlying72 rfl ti26 rfl (by decide)) (zs (oblk (i := 11) 1 hO rfl rfl Try.underlying26 rfl rfl) (zm rfl ?_))
   have hobt := obuild (r := Rp.int .i64) (n := 1) (parts := [(0, .int .i64 (ix a0.single (k1_12 : Int)))]) (vs := [.int .i64 (ix a0.single (k1_12 : Int))]) (xs := [(ix a0.single (k1_12 : Int))]) rfl Try.underlying26 ti3 hO (by decide) (by kernel_rfl) (Els.cons rfl rfl (Els.nil _ _ _) (by simp [mx])) rfl
   obtain ⟨Q9, Iz, ki, x3, L1, KG⟩ := hobt
   refine zg (KG rfl) ?_
   replace hO := ki.own
   have hobt := freeze 0 hO rfl x3
   obtain ⟨hO1, tP, D7, U9⟩ := hobt
   dsimp only [eS, eZ] at hO1 tP D7
   replace hB := (((hB.trans oU.fr).trans oe.fr).trans ki.fr).trans (Owns.dropFr _ _ 0)
   dsimp only [eS, eZ] at hB
   replace hO := hO1; clear hO1
   obtain ⟨Jx, H⟩ := H
   have Z21 := (((Z20.trans oU.ch).trans oe.ch).trans ki.ch).trans tP
   replace bB := bB.ch Z21
   have hobt := oapp Try.underlying26 ti3 rfl 9 hO rfl bB D7 U9 Jx (by decide)
   obtain ⟨aa7, N1, N2, Va, ib, HQ, KH⟩ := hobt
   dsimp only [sS, sZ] at ib HQ
   refine zg (KH (by exact rfl) (by exact rfl)) ?_
   replace hO := ib.own
   refine zo (op_nilCheck rfl) (zo (op_fieldAddr Try.underlying72 rfl ti26 rfl (by decide)) ?_)
   have hobt := oblkSt2 (v := .slice N1 (n51 + 1) N2) (i := 11) (cs' := #[.int .i64 a0.Enum.Points, .bool a0.Enum.Monoid, .slice ar aq au, .slice Ix (n21 + 1) Iy, .slice Jv (n27 + 1) Jw, .slice ii (n33 + 1) ik, .slice aM aB aN, .slice p37 n39 c38, .int .i64 a0.Enum.Done, .map (some aO), .slice LX (n45 + 1) LY, .slice N1 (n51 + 1) N2, .slice bm bk bn]) 1 hO rfl rfl rfl rfl
   obtain ⟨afk, mX, Ra⟩ := hobt
   dsimp only [sS, sZ] at mX
   refine zg (Ra Try.underlying26 rfl ti26 (by exact rfl) (by exact rfl)) ?_
   replace hO := mX.own
   refine zn (zq ?_)
   refine Go1.cut [(13, .int .i64 (d_16.length : Int))] ⟨rfl, trivial⟩ ?_
   intro σ _
   refine zr (zm rfl (za rfl (zn ?_)))
   refine Go1.ret1V Try.func65 rfl (show _ = .int .i64 (d_16.length : Int) from rfl) ?_
   refine hR239 _ _ ?_
   refine za rfl (zn ?_)
   refine Go1.inBlock ?_
   refine zr (zm rfl (zm rfl (zm rfl ?_)))
   obtain ⟨N3, H⟩ := H
   obtain ⟨N4, H⟩ := H
   have Z22 := (((((((((Z19.trans pQ.ch).trans oT.ch).trans pS.ch).trans t8).trans oU.ch).trans oe.ch).trans ki.ch).trans tP).trans ib.ch).trans mX.ch
   replace bt := bt.ch Z22
   refine zo (op_index Try.underlying26 ti3 rfl rfl N3 (ltn (bt.neq hO 0 rfl) N4) (bt.psome hO 0 rfl N3 N4)) ?_
   have hobt := ost (r := Rp.int .i64) rfl 0 hO rfl bt N3 N4 (v := .int .i64 (d_16.length : Int)) (u := (d_16.length : Int)) rfl rfl
   obtain ⟨afl, Vb, ff, O0, Rb⟩ := hobt
   dsimp only [sS, sZ] at ff O0
   refine zg (Rb Try.underlying3 rfl ti3 (by exact rfl) (by exact rfl)) ?_
   replace hO := ff.own
   refine zn ?_
   refine Go1.inBlock ?_
   refine zr ?_
   replace aa := (aa.ch Z22).ch ff.ch
   refine zo (op_add rfl rfl (wrap_i64 (natbd h53 aa.bd))) (zm rfl (zn ?_))
   replace HQ := (HQ.ch mX.ch).ch ff.ch
   replace hB := ((hB.trans ib.fr).trans mX.fr).trans ff.fr
   have Z23 := ((((oe.ch.trans ki.ch).trans tP).trans ib.ch).trans mX.ch).trans ff.ch
   replace xk := xk.ch Z23
   have Z24 := ((((((((oT.ch.trans pS.ch).trans t8).trans oU.ch).trans oe.ch).trans ki.ch).trans tP).trans ib.ch).trans mX.ch).trans ff.ch
   replace pF := pF.ch Z24
   have Z25 := ((((((((((((pP.ch.trans qz.ch).trans uG).trans pQ.ch).trans oT.ch).trans pS.ch).trans t8).trans oU.ch).trans oe.ch).trans ki.ch).trans tP).trans ib.ch).trans mX.ch).trans ff.ch
   replace ld := ld.ch Z25
   have Z26 := ((((((((((((((((qx.ch.trans rD.ch).trans vO).trans qy.ch).trans pP.ch).trans qz.ch).trans uG).trans pQ.ch).trans oT.ch).trans pS.ch).trans t8).trans oU.ch).trans oe.ch).trans ki.ch).trans tP).trans ib.ch).trans mX.ch).trans ff.ch
   replace gF := gF.ch Z26
   have Z27 := ((Z21.trans ib.ch).trans mX.ch).trans ff.ch
   replace ad := ad.ch Z27
   have Z28 := Z22.trans ff.ch
   replace ab := ab.ch Z28
   replace bH := bH.ch Z28
   exact hX1 _ H _ _ ⟨Vb, n21 + 1, Ix, Iy, U0, n27 + 1, Jv, Jw, nj, n33 + 1, ii, ik, U5, n39, p37, c38, sr, n45 + 1, LX, LY, U8, n51 + 1, N1, N2, Va, ⟨rfl, rfl, rfl, rfl, rfl, rfl, trivial⟩, hO, O0, aa, gF, ld, pF, ab, bH, xk, HQ, ad, hB⟩
  replace H := ifn LV H
  refine zo (fun w => opB (op_eql rfl rfl w) (decide_eq_false LV)) (zn (zf rfl rfl (zk (zq (zr ?_)))))
  refine zm rfl (zo (op_nilCheck rfl) (zo (op_fieldAddr Try.underlying72 rfl ti29 rfl (by decide)) (zo (op_fieldAddr Try.underlying29 rfl ti22 rfl (by decide)) (zs (oblk (i := 6) 1 hO rfl rfl Try.underlying22 rfl rfl) (zm rfl ?_)))))
  obtain ⟨N5, H⟩ := H
  obtain ⟨N6, H⟩ := H
  replace ab := ab.ch Z15
  refine zo (op_index Try.underlying22 ti26 rfl rfl N5 (ltn (ab.neq hO 6 rfl) N6) (ab.psome hO 6 rfl N5 N6)) ?_
  have hobt := oldSl 6 hO rfl ab N5 N6
  obtain ⟨io, ip, fq, Vc⟩ := hobt
  refine zs (Vc Try.underlying26 rfl rfl) (zm rfl ?_)
  obtain ⟨N7, H⟩ := H
  obtain ⟨N8, H⟩ := H
  refine zo (op_index Try.underlying26 ti3 rfl rfl N7 N8 (fq.some_ N7 N8)) (zs (ldInt fq N7 N8 Try.underlying3 rfl rfl) (za rfl (zn ?_)))
  refine Go1.ret1V Try.func66 rfl (show _ = .int .i64 (ix (ix a0.Enum.Right (ix d_46 a0.Enum.Done)) (k1_12 : Int)) from rfl) ?_
  refine hR235 _ _ ?_
  refine GoR.inl (vs := [.pointer (some ⟨eY, 0, none⟩), .slice xY r66.length x2, .int .i64 a0.Enum.Done, .int .i64 (k1_12 : Int), .string (gstr ((ix d_40 a0.Enum.Done) ++ (chr (IntKind.i32.wrap ((97 : Int) + (k1_12 : Int)))))), .int .i64 (ix (ix a0.Enum.Right (ix d_46 a0.Enum.Done)) (k1_12 : Int))]) (caps := []) rfl rfl body65 Try.func65 rfl Try.ntmps65 rfl rfl rfl ?_
  intro RhR377 hR377
  refine zq ?_
  refine Go1.cut [(0, .pointer (some ⟨eY, 0, none⟩)), (1, .slice xY r66.length x2), (2, .int .i64 a0.Enum.Done), (3, .int .i64 (k1_12 : Int)), (4, .string (gstr ((ix d_40 a0.Enum.Done) ++ (chr (IntKind.i32.wrap ((97 : Int) + (k1_12 : Int))))))), (5, .int .i64 (ix (ix a0.Enum.Right (ix d_46 a0.Enum.Done)) (k1_12 : Int)))] ⟨rfl, rfl, rfl, rfl, rfl, rfl, trivial⟩ ?_
  intro σ _
  refine zr (za rfl (zn (zq (zr (zm rfl ?_)))))
  refine zo (op_nilCheck rfl) (zo (op_fieldAddr Try.underlying72 rfl ti29 rfl (by decide)) (zo (op_fieldAddr Try.underlying29 rfl ti22 rfl (by decide)) (zs (oblk (i := 3) 1 hO rfl rfl Try.underlying22 rfl rfl) (zo (op_lenN Try.underlying22 rfl (dB.neq hO 3 rfl)) (za rfl ?_)))))
  refine zn (zq ?_)
  refine Go1.drawS 1 [(0, .pure), (1, .pure), (2, .pure), (3, .stable), (4, .pure), (6, .pure), (5, .loud), (7, .last)] mixed (by kernel_rfl) ?_
  intro aa8 Vd
  have rE := Stp.same hO Vd
  replace hO := rE.own
  refine GoQ.pure rfl (op_move rfl) rfl rfl ?_
  refine GoQ.pure rfl (op_nilCheck rfl) rfl rfl ?_
  refine GoQ.pure rfl (op_fieldAddr Try.underlying72 rfl ti69 rfl (by decide)) rfl rfl ?_
  refine GoQ.stable rfl (oblk (i := 9) 1 hO rfl rfl Try.underlying69 rfl rfl) rfl rfl ?_
  refine GoQ.pure rfl (op_move rfl) rfl rfl ?_
  refine GoQ.pure rfl (op_move rfl) rfl rfl ?_
  replace bp := (bp.ch lb.ch).ch rE.ch
  refine GoQ.call rfl (op_call body61 rfl (walk_enumerate_text hO.lt bp H)) (fun v w hr => by obtain ⟨_, _, hs, _, _⟩ := hr; assumption) rfl rfl ?_
  rintro afm afn ⟨r381, rfl, Ve, acR, H⟩
  have eO := Stp.same hO Ve
  replace hO := eO.own
  have hobt := omapUpd (MK.str Try.underlying9) 11 hO rfl Try.underlying69 r381 (d_16.length : Int)
  obtain ⟨N9, g9, Rc⟩ := hobt
  dsimp only [sS, sZ] at g9
  refine GoQ.last rfl (Rc (by exact rfl) (by exact rfl) (by exact rfl)) rfl rfl ?_
  replace hO := g9.own
  refine GoQ.nil ?_
  refine zq (zr (zm rfl (zm rfl (zo (op_nilCheck rfl) (zo (op_fieldAddr Try.underlying72 rfl ti29 rfl (by decide)) ?_)))))
  refine zo (op_fieldAddr Try.underlying29 rfl ti22 rfl (by decide)) (zs (oblk (i := 3) 1 hO rfl rfl Try.underlying22 rfl rfl) (zm rfl ?_))
  replace bp := (bp.ch eO.ch).ch g9.ch
  have hobt := obuild (r := Rp.sl (Rp.int .i64)) (n := 1) (parts := [(0, .slice xY r66.length x2)]) (vs := [.slice xY r66.length x2]) (xs := [r66]) rfl Try.underlying22 ti26 hO (by decide) (by kernel_rfl) (Els.cons rfl ⟨xY, x2, rfl, bp⟩ (Els.nil _ _ _) (by simp [mx])) rfl
  obtain ⟨afo, afp, iH, Vf, adm, Rd⟩ := hobt
  refine zg (Rd rfl) ?_
  replace hO := iH.own
  have hobt := freeze 0 hO rfl Vf
  obtain ⟨hO1, vP, bO, Vg⟩ := hobt
  dsimp only [eS, eZ] at hO1 vP bO
  replace hB := (((((((hB.trans q9.fr).trans gW.fr).trans lb.fr).trans rE.fr).trans eO.fr).trans g9.fr).trans iH.fr).trans (Owns.dropFr _ _ 0)
  dsimp only [eS, eZ] at hB
  replace hO := hO1; clear hO1
  obtain ⟨aa9, H⟩ := H
  have Z29 := (((rE.ch.trans eO.ch).trans g9.ch).trans iH.ch).trans vP
  replace dB := dB.ch Z29
  have hobt := oapp Try.underlying22 ti26 rfl 3 hO rfl dB bO Vg aa9 (by decide)
  obtain ⟨aba, IA, IB, Vh, gu, gG, Re⟩ := hobt
  dsimp only [sS, sZ] at gu gG
  refine zg (Re (by exact rfl) (by exact rfl)) ?_
  replace hO := gu.own
  refine zo (op_nilCheck rfl) (zo (op_fieldAddr Try.underlying72 rfl ti29 rfl (by decide)) (zo (op_fieldAddr Try.underlying29 rfl ti22 rfl (by decide)) ?_))
  have hobt := oblkSt2 (v := .slice IA (n21 + 1) IB) (i := 3) (cs' := #[.int .i64 a0.Enum.Points, .bool a0.Enum.Monoid, .slice ar aq au, .slice IA (n21 + 1) IB, .slice p25 n27 c26, .slice p31 n33 c32, .slice aM aB aN, .slice p37 n39 c38, .int .i64 a0.Enum.Done, .map (some aO), .slice p43 n45 c44, .slice p49 n51 c50, .slice bm bk bn]) 1 hO rfl rfl rfl rfl
  obtain ⟨abb, pT, KI⟩ := hobt
  dsimp only [sS, sZ] at pT
  refine zg (KI Try.underlying22 rfl ti22 (by exact rfl) (by exact rfl)) ?_
  replace hO := pT.own
  refine zn (zq ?_)
  refine Go1.cut [(0, .pointer (some ⟨eY, 0, none⟩)), (2, .int .i64 a0.Enum.Done), (3, .int .i64 (k1_12 : Int)), (4, .string (gstr ((ix d_40 a0.Enum.Done) ++ (chr (IntKind.i32.wrap ((97 : Int) + (k1_12 : Int))))))), (5, .int .i64 (ix (ix a0.Enum.Right (ix d_46 a0.Enum.Done)) (k1_12 : Int))), (13, .int .i64 (d_16.length : Int))] ⟨rfl, rfl, rfl, rfl, rfl, rfl, trivial⟩ ?_
  intro σ _
  refine zr (zm rfl (zm rfl (zo (op_nilCheck rfl) (zo (op_fieldAddr Try.underlying72 rfl ti29 rfl (by decide)) (zo (op_fieldAddr Try.underlying29 rfl ti26 rfl (by decide)) ?_)))))
  refine zs (oblk (i := 4) 1 hO rfl rfl Try.underlying26 rfl rfl) (zm rfl ?_)
  have hobt := obuild (r := Rp.int .i64) (n := 1) (parts := [(0, .int .i64 a0.Enum.Done)]) (vs := [.int .i64 a0.Enum.Done]) (xs := [a0.Enum.Done]) rfl Try.underlying26 ti3 hO (by decide) (by kernel_rfl) (Els.cons rfl rfl (Els.nil _ _ _) (by simp [mx])) rfl
  obtain ⟨afq, afr, lW, Vi, adn, Rf⟩ := hobt
  refine zg (Rf rfl) ?_
  replace hO := lW.own
  have hobt := freeze 0 hO rfl Vi
  obtain ⟨hO1, uH, j7, Vj⟩ := hobt
  dsimp only [eS, eZ] at hO1 uH j7
  replace hB := (((hB.trans gu.fr).trans pT.fr).trans lW.fr).trans (Owns.dropFr _ _ 0)
  dsimp only [eS, eZ] at hB
  replace hO := hO1; clear hO1
  obtain ⟨abc, H⟩ := H
  have Z30 := ((((((((Z15.trans rE.ch).trans eO.ch).trans g9.ch).trans iH.ch).trans vP).trans gu.ch).trans pT.ch).trans lW.ch).trans uH
  replace cH := cH.ch Z30
  have hobt := oapp Try.underlying26 ti3 rfl 4 hO rfl cH j7 Vj abc (by decide)
  obtain ⟨afs, Jy, Jz, Vk, kT, j5, Rg⟩ := hobt
  dsimp only [sS, sZ] at kT j5
  refine zg (Rg (by exact rfl) (by exact rfl)) ?_
  replace hO := kT.own
  refine zo (op_nilCheck rfl) (zo (op_fieldAddr Try.underlying72 rfl ti29 rfl (by decide)) (zo (op_fieldAddr Try.underlying29 rfl ti26 rfl (by decide)) ?_))
  have hobt := oblkSt2 (v := .slice Jy (n27 + 1) Jz) (i := 4) (cs' := #[.int .i64 a0.Enum.Points, .bool a0.Enum.Monoid, .slice ar aq au, .slice IA (n21 + 1) IB, .slice Jy (n27 + 1) Jz, .slice p31 n33 c32, .slice aM aB aN, .slice p37 n39 c38, .int .i64 a0.Enum.Done, .map (some aO), .slice p43 n45 c44, .slice p49 n51 c50, .slice bm bk bn]) 1 hO rfl rfl rfl rfl
  obtain ⟨afu, gc, Rh⟩ := hobt
  dsimp only [sS, sZ] at gc
  refine zg (Rh Try.underlying26 rfl ti26 (by exact rfl) (by exact rfl)) ?_
  replace hO := gc.own
  refine zn (zq (zr (zm rfl (zm rfl (zo (op_nilCheck rfl) ?_)))))
  refine zo (op_fieldAddr Try.underlying72 rfl ti29 rfl (by decide)) (zo (op_fieldAddr Try.underlying29 rfl ti26 rfl (by decide)) (zs (oblk (i := 5) 1 hO rfl rfl Try.underlying26 rfl rfl) (zm rfl ?_)))
  have hobt := obuild (r := Rp.int .i64) (n := 1) (parts := [(0, .int .i64 (k1_12 : Int))]) (vs := [.int .i64 (k1_12 : Int)]) (xs := [(k1_12 : Int)]) rfl Try.underlying26 ti3 hO (by decide) (by kernel_rfl) (Els.cons rfl rfl (Els.nil _ _ _) (by simp [mx])) rfl
  obtain ⟨Ri, afv, fv, jm, ado, Rj⟩ := hobt
  refine zg (Rj rfl) ?_
  replace hO := fv.own
  have hobt := freeze 0 hO rfl jm
  obtain ⟨hO1, t9, ot, Vl⟩ := hobt
  dsimp only [eS, eZ] at hO1 t9 ot
  replace hB := (((hB.trans kT.fr).trans gc.fr).trans fv.fr).trans (Owns.dropFr _ _ 0)
  dsimp only [eS, eZ] at hB
  replace hO := hO1; clear hO1
  obtain ⟨abd, H⟩ := H
  have Z31 := (((Z30.trans kT.ch).trans gc.ch).trans fv.ch).trans t9
  replace cr := cr.ch Z31
  have hobt := oapp Try.underlying26 ti3 rfl 5 hO rfl cr ot Vl abd (by decide)
  obtain ⟨afw, KJ, KK, Vm, oV, pG, KL⟩ := hobt
  dsimp only [sS, sZ] at oV pG
  refine zg (KL (by exact rfl) (by exact rfl)) ?_
  replace hO := oV.own
  refine zo (op_nilCheck rfl) (zo (op_fieldAddr Try.underlying72 rfl ti29 rfl (by decide)) (zo (op_fieldAddr Try.underlying29 rfl ti26 rfl (by decide)) ?_))
  have hobt := oblkSt2 (v := .slice KJ (n33 + 1) KK) (i := 5) (cs' := #[.int .i64 a0.Enum.Points, .bool a0.Enum.Monoid, .slice ar aq au, .slice IA (n21 + 1) IB, .slice Jy (n27 + 1) Jz, .slice KJ (n33 + 1) KK, .slice aM aB aN, .slice p37 n39 c38, .int .i64 a0.Enum.Done, .map (some aO), .slice p43 n45 c44, .slice p49 n51 c50, .slice bm bk bn]) 1 hO rfl rfl rfl rfl
  obtain ⟨afx, ic, Rk⟩ := hobt
  dsimp only [sS, sZ] at ic
  refine zg (Rk Try.underlying26 rfl ti26 (by exact rfl) (by exact rfl)) ?_
  replace hO := ic.own
  refine zn (zq ?_)
  refine Go1.cut [(0, .pointer (some ⟨eY, 0, none⟩)), (4, .string (gstr ((ix d_40 a0.Enum.Done) ++ (chr (IntKind.i32.wrap ((97 : Int) + (k1_12 : Int))))))), (5, .int .i64 (ix (ix a0.Enum.Right (ix d_46 a0.Enum.Done)) (k1_12 : Int))), (13, .int .i64 (d_16.length : Int))] ⟨rfl, rfl, rfl, rfl, trivial⟩ ?_
  intro σ _
  refine zr (zm rfl (zm rfl (zo (op_nilCheck rfl) (zo (op_fieldAddr Try.underlying72 rfl ti70 rfl (by decide)) (zs (oblk (i := 10) 1 hO rfl rfl Try.underlying70 rfl rfl) ?_)))))
  refine zm rfl ?_
  have hobt := obuild (r := Rp.str) (n := 1) (parts := [(0, .string (gstr ((ix d_40 a0.Enum.Done) ++ (chr (IntKind.i32.wrap ((97 : Int) + (k1_12 : Int)))))))]) (vs := [.string (gstr ((ix d_40 a0.Enum.Done) ++ (chr (IntKind.i32.wrap ((97 : Int) + (k1_12 : Int))))))]) (xs := [(ix d_40 a0.Enum.Done) ++ (chr (IntKind.i32.wrap ((97 : Int) + (k1_12 : Int))))]) rfl Try.underlying70 ti9 hO (by decide) (by kernel_rfl) (Els.cons rfl ⟨rfl, (lenApp NU)⟩ (Els.nil _ _ _) (by simp [mx])) rfl
  obtain ⟨afy, afz, oW, Vn, adp, Kt⟩ := hobt
  refine zg (Kt rfl) ?_
  replace hO := oW.own
  have hobt := freeze 0 hO rfl Vn
  obtain ⟨hO1, tQ, uI, Vo⟩ := hobt
  dsimp only [eS, eZ] at hO1 tQ uI
  replace hB := (((hB.trans oV.fr).trans ic.fr).trans oW.fr).trans (Owns.dropFr _ _ 0)
  dsimp only [eS, eZ] at hB
  replace hO := hO1; clear hO1
  obtain ⟨abe, H⟩ := H
  have Z32 := (((((((((((Z29.trans gu.ch).trans pT.ch).trans lW.ch).trans uH).trans kT.ch).trans gc.ch).trans fv.ch).trans t9).trans oV.ch).trans ic.ch).trans oW.ch).trans tQ
  replace bD := bD.ch Z32
  have hobt := oapp Try.underlying70 ti9 rfl 8 hO rfl bD uI Vo abe (by decide)
  obtain ⟨Oa, L5, L6, Vp, og, xl, Rl⟩ := hobt
  dsimp only [sS, sZ] at og xl
  refine zg (Rl (by exact rfl) (by exact rfl)) ?_
  replace hO := og.own
  refine zo (op_nilCheck rfl) (zo (op_fieldAddr Try.underlying72 rfl ti70 rfl (by decide)) ?_)
  have hobt := oblkSt2 (v := .slice L5 (n45 + 1) L6) (i := 10) (cs' := #[.int .i64 a0.Enum.Points, .bool a0.Enum.Monoid, .slice ar aq au, .slice IA (n21 + 1) IB, .slice Jy (n27 + 1) Jz, .slice KJ (n33 + 1) KK, .slice aM aB aN, .slice p37 n39 c38, .int .i64 a0.Enum.Done, .map (some aO), .slice L5 (n45 + 1) L6, .slice p49 n51 c50, .slice bm bk bn]) 1 hO rfl rfl rfl rfl
  obtain ⟨afA, mY, Rm⟩ := hobt
  dsimp only [sS, sZ] at mY
  refine zg (Rm Try.underlying70 rfl ti70 (by exact rfl) (by exact rfl)) ?_
  replace hO := mY.own
  refine zn (zq (zr (zm rfl (zm rfl (zo (op_nilCheck rfl) ?_)))))
  refine zo (op_fieldAddr Try.underlying72 rfl ti26 rfl (by decide)) (zs (oblk (i := 11) 1 hO rfl rfl Try.underlying26 rfl rfl) (zm rfl ?_))
  have hobt := obuild (r := Rp.int .i64) (n := 1) (parts := [(0, .int .i64 (ix (ix a0.Enum.Right (ix d_46 a0.Enum.Done)) (k1_12 : Int)))]) (vs := [.int .i64 (ix (ix a0.Enum.Right (ix d_46 a0.Enum.Done)) (k1_12 : Int))]) (xs := [(ix (ix a0.Enum.Right (ix d_46 a0.Enum.Done)) (k1_12 : Int))]) rfl Try.underlying26 ti3 hO (by decide) (by kernel_rfl) (Els.cons rfl rfl (Els.nil _ _ _) (by simp [mx])) rfl
  obtain ⟨abf, afB, oh, Vq, adq, KM⟩ := hobt
  refine zg (KM rfl) ?_
  replace hO := oh.own
  have hobt := freeze 0 hO rfl Vq
  obtain ⟨hO1, rX, D8, Vr⟩ := hobt
  dsimp only [eS, eZ] at hO1 rX D8
  replace hB := (((hB.trans og.fr).trans mY.fr).trans oh.fr).trans (Owns.dropFr _ _ 0)
  dsimp only [eS, eZ] at hB
  replace hO := hO1; clear hO1
  obtain ⟨abg, H⟩ := H
  have Z33 := (((Z32.trans og.ch).trans mY.ch).trans oh.ch).trans rX
  replace bB := bB.ch Z33
  have hobt := oapp Try.underlying26 ti3 rfl 9 hO rfl bB D8 Vr abg (by decide)
  obtain ⟨afC, Ob, Oc, Vs, gt, D2, Rn⟩ := hobt
  dsimp only [sS, sZ] at gt D2
  refine zg (Rn (by exact rfl) (by exact rfl)) ?_
  replace hO := gt.own
  refine zo (op_nilCheck rfl) (zo (op_fieldAddr Try.underlying72 rfl ti26 rfl (by decide)) ?_)
  have hobt := oblkSt2 (v := .slice Ob (n51 + 1) Oc) (i := 11) (cs' := #[.int .i64 a0.Enum.Points, .bool a0.Enum.Monoid, .slice ar aq au, .slice IA (n21 + 1) IB, .slice Jy (n27 + 1) Jz, .slice KJ (n33 + 1) KK, .slice aM aB aN, .slice p37 n39 c38, .int .i64 a0.Enum.Done, .map (some aO), .slice L5 (n45 + 1) L6, .slice Ob (n51 + 1) Oc, .slice bm bk bn]) 1 hO rfl rfl rfl rfl
  obtain ⟨afD, mz, Ro⟩ := hobt
  dsimp only [sS, sZ] at mz
  refine zg (Ro Try.underlying26 rfl ti26 (by exact rfl) (by exact rfl)) ?_
  replace hO := mz.own
  refine zn (zq ?_)
  refine Go1.cut [(13, .int .i64 (d_16.length : Int))] ⟨rfl, trivial⟩ ?_
  intro σ _
  refine zr (zm rfl (za rfl (zn ?_)))
  refine Go1.ret1V Try.func65 rfl (show _ = .int .i64 (d_16.length : Int) from rfl) ?_
  refine hR377 _ _ ?_
  refine za rfl (zn ?_)
  refine Go1.inBlock ?_
  refine zr (zm rfl (zm rfl (zm rfl ?_)))
  obtain ⟨Od, H⟩ := H
  obtain ⟨Oe, H⟩ := H
  have Z34 := (((((((((Z31.trans oV.ch).trans ic.ch).trans oW.ch).trans tQ).trans og.ch).trans mY.ch).trans oh.ch).trans rX).trans gt.ch).trans mz.ch
  replace bt := bt.ch Z34
  refine zo (op_index Try.underlying26 ti3 rfl rfl Od (ltn (bt.neq hO 0 rfl) Oe) (bt.psome hO 0 rfl Od Oe)) ?_
  have hobt := ost (r := Rp.int .i64) rfl 0 hO rfl bt Od Oe (v := .int .i64 (d_16.length : Int)) (u := (d_16.length : Int)) rfl rfl
  obtain ⟨afE, Vt, m0, O1, Rq⟩ := hobt
  dsimp only [sS, sZ] at m0 O1
  refine zg (Rq Try.underlying3 rfl ti3 (by exact rfl) (by exact rfl)) ?_
  replace hO := m0.own
  refine zn ?_
  refine Go1.inBlock ?_
  refine zr ?_
  replace aa := (aa.ch Z34).ch m0.ch
  refine zo (op_add rfl rfl (wrap_i64 (natbd h53 aa.bd))) (zm rfl (zn ?_))
  replace D2 := (D2.ch mz.ch).ch m0.ch
  replace hB := ((hB.trans gt.fr).trans mz.fr).trans m0.fr
  have Z35 := ((((mY.ch.trans oh.ch).trans rX).trans gt.ch).trans mz.ch).trans m0.ch
  replace xl := xl.ch Z35
  have Z36 := ((((((((ic.ch.trans oW.ch).trans tQ).trans og.ch).trans mY.ch).trans oh.ch).trans rX).trans gt.ch).trans mz.ch).trans m0.ch
  replace pG := pG.ch Z36
  have Z37 := ((((((((((((gc.ch.trans fv.ch).trans t9).trans oV.ch).trans ic.ch).trans oW.ch).trans tQ).trans og.ch).trans mY.ch).trans oh.ch).trans rX).trans gt.ch).trans mz.ch).trans m0.ch
  replace j5 := j5.ch Z37
  have Z38 := ((((((((((((((((pT.ch.trans lW.ch).trans uH).trans kT.ch).trans gc.ch).trans fv.ch).trans t9).trans oV.ch).trans ic.ch).trans oW.ch).trans tQ).trans og.ch).trans mY.ch).trans oh.ch).trans rX).trans gt.ch).trans mz.ch).trans m0.ch
  replace gG := gG.ch Z38
  have Z39 := ((Z33.trans gt.ch).trans mz.ch).trans m0.ch
  replace ab := ab.ch Z39
  have Z40 := Z34.trans m0.ch
  replace bH := bH.ch Z40
  replace ad := ad.ch Z40
  exact hX1 _ H _ _ ⟨Vt, n21 + 1, IA, IB, Vh, n27 + 1, Jy, Jz, Vk, n33 + 1, KJ, KK, Vm, n39, p37, c38, sr, n45 + 1, L5, L6, Vp, n51 + 1, Ob, Oc, Vs, ⟨rfl, rfl, rfl, rfl, rfl, rfl, trivial⟩, hO, O1, aa, gG, j5, pG, ab, bH, xl, D2, ad, hB⟩
 replace H := ifn h53 H
 refine zo (fun w => opB (op_lss rfl rfl w) (decide_eq_false h53)) (zn (zq (zf rfl rfl ?_)))
 refine Go1.exit rfl ?_
 refine zq (zr (zm rfl (zm rfl (zo (op_nilCheck rfl) (zo (op_fieldAddr Try.underlying72 rfl ti29 rfl (by decide)) ?_)))))
 refine zo (op_fieldAddr Try.underlying29 rfl ti22 rfl (by decide)) (zs (oblk (i := 6) 1 hO rfl rfl Try.underlying22 rfl rfl) (zm rfl ?_))
 have hobt := freeze 0 hO rfl bt
 obtain ⟨hO1, Ax, yW, Vu⟩ := hobt
 dsimp only [eS, eZ] at hO1 Ax yW
 replace hB := hB.trans (Owns.dropFr _ _ 0)
 dsimp only [eS, eZ] at hB
 replace hO := hO1; clear hO1
 have hobt := obuild (r := Rp.sl (Rp.int .i64)) (n := 1) (parts := [(0, .slice p2 a0.Enum.Gens.length a0.Enum.Gens.length)]) (vs := [.slice p2 a0.Enum.Gens.length a0.Enum.Gens.length]) (xs := [d_13]) rfl Try.underlying22 ti26 hO (by decide) (by kernel_rfl) (Els.cons rfl ⟨p2, a0.Enum.Gens.length, congrArg some (congrArg (fun nn => Value.slice p2 nn a0.Enum.Gens.length) Vu), yW⟩ (Els.nil _ _ _) (by simp [mx])) rfl
 obtain ⟨afF, afG, wB, Vv, adr, Ku⟩ := hobt
 refine zg (Ku rfl) ?_
 replace hO := wB.own
 have hobt := freeze 0 hO rfl Vv
 obtain ⟨hO1, zO, D9, Vw⟩ := hobt
 dsimp only [eS, eZ] at hO1 zO D9
 replace hB := (hB.trans wB.fr).trans (Owns.dropFr _ _ 0)
 dsimp only [eS, eZ] at hB
 replace hO := hO1; clear hO1
 obtain ⟨abh, H⟩ := H
 have Z41 := (Ax.trans wB.ch).trans zO
 replace ab := ab.ch Z41
 have hobt := oapp Try.underlying22 ti26 rfl 5 hO rfl ab D9 Vw abh (by decide)
 obtain ⟨Og, L7, L8, Vx, u0, HR, Rr⟩ := hobt
 dsimp only [sS, sZ] at u0 HR
 refine zg (Rr (by exact rfl) (by exact rfl)) ?_
 replace hO := u0.own
 refine zo (op_nilCheck rfl) (zo (op_fieldAddr Try.underlying72 rfl ti29 rfl (by decide)) (zo (op_fieldAddr Try.underlying29 rfl ti22 rfl (by decide)) ?_))
 have hobt := oblkSt2 (v := .slice L7 (aB + 1) L8) (i := 6) (cs' := #[.int .i64 a0.Enum.Points, .bool a0.Enum.Monoid, .slice ar aq au, .slice p19 n21 c20, .slice p25 n27 c26, .slice p31 n33 c32, .slice L7 (aB + 1) L8, .slice p37 n39 c38, .int .i64 a0.Enum.Done, .map (some aO), .slice p43 n45 c44, .slice p49 n51 c50, .slice bm bk bn]) 0 hO rfl rfl rfl rfl
 obtain ⟨afH, ua, Rs⟩ := hobt
 dsimp only [sS, sZ] at ua
 refine zg (Rs Try.underlying22 rfl ti22 (by exact rfl) (by exact rfl)) ?_
 replace hO := ua.own
 refine zn (zq ?_)
 refine Go1.cut [(0, .pointer (some ⟨eY, 0, none⟩))] ⟨rfl, trivial⟩ ?_
 intro σ _
 refine zr (zm rfl (zo (op_nilCheck rfl) (zo (op_fieldAddr Try.underlying72 rfl ti29 rfl (by decide)) (zo (op_fieldAddr Try.underlying29 rfl ti3 rfl (by decide)) (zs (oblk (i := 8) 0 hO rfl rfl Try.underlying3 rfl rfl) ?_)))))
 obtain ⟨abi, H⟩ := H
 refine zo (op_add rfl rfl (wrap_i64 abi)) (zo (op_nilCheck rfl) (zo (op_fieldAddr Try.underlying72 rfl ti29 rfl (by decide)) (zo (op_fieldAddr Try.underlying29 rfl ti3 rfl (by decide)) ?_)))
 have hobt := oblkSt2 (v := .int .i64 (a0.Enum.Done + (1 : Int))) (i := 8) (cs' := #[.int .i64 a0.Enum.Points, .bool a0.Enum.Monoid, .slice ar aq au, .slice p19 n21 c20, .slice p25 n27 c26, .slice p31 n33 c32, .slice L7 (aB + 1) L8, .slice p37 n39 c38, .int .i64 (a0.Enum.Done + (1 : Int)), .map (some aO), .slice p43 n45 c44, .slice p49 n51 c50, .slice bm bk bn]) 0 hO rfl rfl rfl rfl
 obtain ⟨afI, hV, Rt⟩ := hobt
 dsimp only [sS, sZ] at hV
 refine zg (Rt Try.underlying3 rfl ti3 (by exact rfl) (by exact rfl)) ?_
 replace hO := hV.own
 refine zn (zq (zr (za rfl (zn ?_))))
 refine Go1.ret1 Try.func51 rfl ?_
 replace HR := (HR.ch ua.ch).ch hV.ch
 replace hB := ((hB.trans u0.fr).trans ua.fr).trans hV.fr
 have Z42 := ((Z41.trans u0.ch).trans ua.ch).trans hV.ch
 replace aa := aa.ch Z42
 replace dB := dB.ch Z42
 replace cH := cH.ch Z42
 replace cr := cr.ch Z42
 replace bH := bH.ch Z42
 replace bD := bD.ch Z42
 replace bB := bB.ch Z42
 replace ad := ad.ch Z42
 exact ⟨((0 : Int)), (⟨(⟨a0.Enum.Points, a0.Enum.Monoid, a0.Enum.Gens, d_16, d_22, d_28, a0.Enum.Right ++ ([d_13]), d_34, (a0.Enum.Done + (1 : Int))⟩ : Enum), m1_52, d_40, d_46, a0.single⟩ : run), aq, ar, au, cL, n21, p19, c20, rf, n27, p25, c26, sn, n33, p31, c32, sq, (aB + 1), L7, L8, Vx, n39, p37, c38, sr, n45, p43, c44, ss, n51, p49, c50, su, bk, bm, bn, dH, rfl, hO, aa, dB, cH, cr, HR, bH, bD, bB, ad, hB, H⟩
theorem body50 : Body Try.prog 50 := ⟨Try.f50, Try.func50, rfl, by kernel_rfl⟩
theorem body17 : Body Try.prog 17 := ⟨Try.f17, Try.func17, rfl, by kernel_rfl⟩
theorem walk_enumerate_Build {A : List Nat} {w0 : World} {mt : Option Addr} {mv : Nat} {gens : List (List Int)} {monoid : Bool} (hA : ∀ b ∈ A, b < w0.heap.size) (dw : ISl (Rp.sl (Rp.int .i64)) A w0 mt mv gens) {K : Enum → Int → Prop} (H : enumerate_Build gens monoid K) :
    CallsV Try.prog 17 #[.slice mt gens.length mv, .bool monoid] w0 (fun v w' => ∃ (r0 : Enum), ∃ (r1 : Int), ∃ (kj : Option Addr), ∃ (kl : Nat), ∃ (iI : Option Addr), ∃ (iJ : Nat), ∃ (gA : Option Addr), ∃ (gB : Nat), ∃ (km : Option Addr), ∃ (kn : Nat), ∃ (iK : Option Addr), ∃ (iL : Nat), ∃ (iM : Option Addr), ∃ (iN : Nat), v = .tuple #[.agg #[.int .i64 r0.Points, .bool r0.Monoid, .slice kj r0.Gens.length kl, .slice iI r0.Elems.length iJ, .slice gA r0.Prefix.length gB, .slice km r0.Last.length kn, .slice iK r0.Right.length iL, .slice iM r0.Rules.length iN, .int .i64 r0.Done], .int .i64 r1] ∧ Same w0 w' ∧ ISl (Rp.sl (Rp.int .i64)) A w' kj kl r0.Gens ∧ ISl (Rp.sl (Rp.int .i64)) A w' iI iJ r0.Elems ∧ ISl (Rp.int .i64) A w' gA gB r0.Prefix ∧ ISl (Rp.int .i64) A w' km kn r0.Last ∧ ISl (Rp.sl (Rp.int .i64)) A w' iK iL r0.Right ∧ ISl (rpRule) A w' iM iN r0.Rules ∧ K r0 r1) := by
 refine CallsV.of (l := [.slice mt gens.length mv, .bool monoid]) Try.func17 rfl Try.ntmps17 rfl ?_
 have hO := Owns.start hA
 have hB := Fr.refl (bl []) w0
 unfold enumerate_Build at H
 refine zq (zr ?_)
 have hobt := oalloc (t := 29) (cs := #[.int .i64 (0 : Int), .bool false, .slice none 0 0, .slice none 0 0, .slice none 0 0, .slice none 0 0, .slice none 0 0, .slice none 0 0, .int .i64 (0 : Int)]) ti29 hO rfl
 obtain ⟨w1, B2, cQ, hs4, rh⟩ := hobt
 refine GoR.op rh rfl rfl ?_
 replace hO := cQ.own
 refine za rfl (zn (zq (zr (zm rfl (zm rfl ?_)))))
 replace dw := (dw.ch (Ch.start A w0)).ch cQ.ch
 refine GoR.call (op_call body49 rfl (walk_enumerate_begin hO.lt dw H)) rfl rfl ?_
 intro v9 w10 hcase13
 refine Or.elim hcase13 ?_ ?_
 ·refine exE fun r8 => andE fun hv14 => andE fun u3 => fun H => ?_
  subst hv14
  clear hcase13
  replace H := oElimN H
  have gq := Stp.same hO u3
  replace hO := gq.own
  refine zm rfl (zo (op_extract rfl rfl) (zo (op_extract rfl rfl) (za rfl (za rfl (zn ?_)))))
  refine zq (zq (zr (zm rfl ?_)))
  by_cases h16 : r8 = (0 : Int)
  ·replace H := ifp h16 H
   refine zo (fun w => opB (op_neq rfl rfl w) (ndT h16)) (zn (zf rfl rfl (zk (zq (zb ?_)))))
   replace hB := (hB.trans cQ.fr).trans gq.fr
   refine Go1.loopW (S := Unit) (fun s σ w => agrees σ [(4, .pointer (some ⟨B2, 0, none⟩)), (6, .pointer none)] ∧ Owns w0.heap.size w [.blk B2 (.cells #[.int .i64 (0 : Int), .bool false, .slice none 0 0, .slice none 0 0, .slice none 0 0, .slice none 0 0, .slice none 0 0, .slice none 0 0, .int .i64 (0 : Int)] 29 (0, 0))] A ∧ Fr (bl []) w0 (bl [.blk B2 (.cells #[.int .i64 (0 : Int), .bool false, .slice none 0 0, .slice none 0 0, .slice none 0 0, .slice none 0 0, .slice none 0 0, .slice none 0 0, .int .i64 (0 : Int)] 29 (0, 0))]) w) H ⟨⟨rfl, rfl, trivial⟩, hO, hB⟩ ?_
   intro X1 _
   intro H hX1 σ w17
   refine andE fun hag => andE fun hO => fun hB => ?_
   refine Go1.keep [(4, .pointer (some ⟨B2, 0, none⟩)), (6, .pointer none)] hag ?_
   refine zq (zq (zr (zm rfl ?_)))
   refine GoR.inl (vs := [.pointer none]) (caps := []) rfl rfl body50 Try.func50 rfl Try.ntmps50 rfl rfl rfl ?_
   intro RhR18 hR18
   refine zq (zr (za rfl (zn (zq ?_))))
   refine Go1.drawS 0 [(0, .pure), (1, .pure), (2, .pure), (3, .pure), (4, .stable), (5, .pure), (6, .pure), (7, .pure), (8, .pure), (9, .stable), (10, .pure), (11, .pure), (12, .pure)] mixed (by kernel_rfl) ?_
   intro w19 Ru
   have lL := Stp.same hO Ru
   replace hO := lL.own
   refine GoQ.pure rfl (op_move rfl) rfl rfl ?_
   exact H.elim
  replace H := ifn h16 H
  refine zo (fun w => opB (op_neq rfl rfl w) (ndF h16)) (zn (zt rfl rfl (zq (zr (zo (op_build Try.underlying29 ti29 (pl := [(0, 1), (1, 1), (2, 1), (3, 1), (4, 1), (5, 1), (6, 1), (7, 1), (8, 1)]) (vs := []) (cs := #[.int .i64 (0 : Int), .bool false, .slice none 0 0, .slice none 0 0, .slice none 0 0, .slice none 0 0, .slice none 0 0, .slice none 0 0, .int .i64 (0 : Int)]) (by kernel_rfl) rfl (by kernel_rfl)) ?_)))))
  refine zm rfl ?_
  have hobt := oblkStAgg (us := [.int .i64 (0 : Int), .bool false, .slice none 0 0, .slice none 0 0, .slice none 0 0, .slice none 0 0, .slice none 0 0, .slice none 0 0, .int .i64 (0 : Int)]) (o := 0) (cs' := #[.int .i64 (0 : Int), .bool false, .slice none 0 0, .slice none 0 0, .slice none 0 0, .slice none 0 0, .slice none 0 0, .slice none 0 0, .int .i64 (0 : Int)]) 0 hO rfl rfl (Nat.le_of_ble_eq_true rfl) rfl
  obtain ⟨w22, iD, L9⟩ := hobt
  refine zg (L9 ti29 (by exact rfl) (by exact rfl) rfl) ?_
  replace hO := iD.own
  refine za rfl (zn ?_)
  refine Go1.retC2 Try.func17 rfl rfl (run_loadBlk (vs := [.int .i64 (0 : Int), .bool false, .slice none 0 0, .slice none 0 0, .slice none 0 0, .slice none 0 0, .slice none 0 0, .slice none 0 0, .int .i64 (0 : Int)]) 0 hO rfl rfl Try.underlying29 rfl ti29) ?_
  replace hB := ((hB.trans cQ.fr).trans gq.fr).trans iD.fr
  exact ⟨(⟨(0 : Int), false, ([] : List (List Int)), ([] : List (List Int)), ([] : List Int), ([] : List Int), ([] : List (List Int)), ([] : List Rule), (0 : Int)⟩ : Enum), r8, none, 0, none, 0, none, 0, none, 0, none, 0, none, 0, rfl, hB.same, (ISl.null _ _ _), (ISl.null _ _ _), (ISl.null _ _ _), (ISl.null _ _ _), (ISl.null _ _ _), (ISl.null _ _ _), H⟩
 ·refine exE fun r7 => exE fun r8 => exE fun eW => exE fun lh => exE fun iw => exE fun iA => exE fun ra => exE fun j8 => exE fun gH => exE fun gI => exE fun qi => exE fun ji => exE fun gm => exE fun gn => exE fun po => exE fun li => exE fun iB => exE fun iC => exE fun rb => exE fun j9 => exE fun gJ => exE fun gK => exE fun qj => exE fun ka => exE fun gL => exE fun gM => exE fun qk => exE fun ap => exE fun x4 => exE fun x5 => exE fun x6 => exE fun wN => exE fun wO => exE fun wP => exE fun wQ => exE fun u4 => exE fun wR => exE fun wS => exE fun wT => exE fun u5 => andE fun hv25 => andE fun u3 => andE fun hN12 => andE fun cR => andE fun cp => andE fun bV => andE fun cf => andE fun bN => andE fun bC => andE fun cz => andE fun cD => andE fun cE => fun H => ?_
  subst hv25
  clear hcase13
  replace H := oElimS H
  have x7 := Stp.more hO u3 hN12
  dsimp only [List.cons_append, List.nil_append] at x7
  replace hO := x7.own
  replace cR := cR.ch (Ch.assoc _ _ _ _)
  dsimp only [List.cons_append, List.nil_append] at cR
  replace cp := cp.ch (Ch.assoc _ _ _ _)
  dsimp only [List.cons_append, List.nil_append] at cp
  replace bV := bV.ch (Ch.assoc _ _ _ _)
  dsimp only [List.cons_append, List.nil_append] at bV
  replace cf := cf.ch (Ch.assoc _ _ _ _)
  dsimp only [List.cons_append, List.nil_append] at cf
  replace bN := bN.ch (Ch.assoc _ _ _ _)
  dsimp only [List.cons_append, List.nil_append] at bN
  replace bC := bC.ch (Ch.assoc _ _ _ _)
  dsimp only [List.cons_append, List.nil_append] at bC
  replace cz := cz.ch (Ch.assoc _ _ _ _)
  dsimp only [List.cons_append, List.nil_append] at cz
  replace cD := cD.ch (Ch.assoc _ _ _ _)
  dsimp only [List.cons_append, List.nil_append] at cD
  replace cE := cE.ch (Ch.assoc _ _ _ _)
  dsimp only [List.cons_append, List.nil_append] at cE
  refine zm rfl (zo (op_extract rfl rfl) (zo (op_extract rfl rfl) (za rfl (za rfl (zn ?_)))))
  refine zq (zq (zr (zm rfl ?_)))
  by_cases h38 : r8 = (0 : Int)
  ·replace H := ifp h38 H
   refine zo (fun w => opB (op_neq rfl rfl w) (ndT h38)) (zn (zf rfl rfl (zk (zq (zb ?_)))))
   replace hB := (hB.trans cQ.fr).trans x7.fr
   refine Go1.loopW (S := Int × Bool × Int × List (List Int) × List (List Int) × List Int × List Int × List (List Int) × List Rule × List Str × List Int × List Int × (List (Str × Int))) (fun s σ w => match s with | (k2_40, b2_41, k2_42, d_43, d_49, d_55, d_61, d_67, d_73, d_79, d_85, d_91, m2_97) => ∃ (n48 : Nat), ∃ (p46 : Option Addr), ∃ (c47 : Nat), ∃ (wW : List Value), ∃ (n54 : Nat), ∃ (p52 : Option Addr), ∃ (c53 : Nat), ∃ (wX : List Value), ∃ (n60 : Nat), ∃ (p58 : Option Addr), ∃ (c59 : Nat), ∃ (wY : List Value), ∃ (n66 : Nat), ∃ (p64 : Option Addr), ∃ (c65 : Nat), ∃ (lj : List Value), ∃ (n72 : Nat), ∃ (p70 : Option Addr), ∃ (c71 : Nat), ∃ (lk : List Value), ∃ (n78 : Nat), ∃ (p76 : Option Addr), ∃ (c77 : Nat), ∃ (ll : List Value), ∃ (n84 : Nat), ∃ (p82 : Option Addr), ∃ (c83 : Nat), ∃ (kq : List Value), ∃ (n90 : Nat), ∃ (p88 : Option Addr), ∃ (c89 : Nat), ∃ (lm : List Value), ∃ (n96 : Nat), ∃ (p94 : Option Addr), ∃ (c95 : Nat), ∃ (lp : List Value), agrees σ [(4, .pointer (some ⟨B2, 0, none⟩)), (6, .pointer (some ⟨eW, 0, none⟩))] ∧ (fun Z0 => Owns w0.heap.size w Z0 A ∧ Els (Rp.sl (Rp.int .i64)) (bl Z0 ++ A) w wW d_43 ∧ Els (Rp.sl (Rp.int .i64)) (bl Z0 ++ A) w wX d_49 ∧ Els (Rp.int .i64) (bl Z0 ++ A) w wY d_55 ∧ Els (Rp.int .i64) (bl Z0 ++ A) w lj d_61 ∧ Els (Rp.sl (Rp.int .i64)) (bl Z0 ++ A) w lk d_67 ∧ Els (rpRule) (bl Z0 ++ A) w ll d_73 ∧ Els (Rp.str) (bl Z0 ++ A) w kq d_79 ∧ Els (Rp.int .i64) (bl Z0 ++ A) w lm d_85 ∧ Els (Rp.int .i64) (bl Z0 ++ A) w lp d_91 ∧ Fr (bl []) w0 (bl Z0) w) [.blk eW (.cells #[.int .i64 k2_40, .bool b2_41, .slice p46 n48 c47, .slice p52 n54 c53, .slice p58 n60 c59, .slice p64 n66 c65, .slice p70 n72 c71, .slice p76 n78 c77, .int .i64 k2_42, .map (some ap), .slice p82 n84 c83, .slice p88 n90 c89, .slice p94 n96 c95] 72 (0, 0)), .row 26 1 p46 n48 c47 wW, .row 26 1 p52 n54 c53 wX, .row 3 1 p58 n60 c59 wY, .row 3 1 p64 n66 c65 lj, .row 26 1 p70 n72 c71 lk, .row 39 2 p76 n78 c77 ll, .row 9 1 p82 n84 c83 kq, .row 3 1 p88 n90 c89 lm, .row 3 1 p94 n96 c95 lp, .any (mapE (fun a : List UInt8 => Value.string (gstr a)) (fun a : Int => Value.int .i64 a) ap m2_97), .blk B2 (.cells #[.int .i64 (0 : Int), .bool false, .slice none 0 0, .slice none 0 0, .slice none 0 0, .slice none 0 0, .slice none 0 0, .slice none 0 0, .int .i64 (0 : Int)] 29 (0, 0))]) H ⟨lh, iw, iA, ra, j8, gH, gI, qi, ji, gm, gn, po, li, iB, iC, rb, j9, gJ, gK, qj, ka, gL, gM, qk, x4, x5, x6, wN, wO, wP, wQ, u4, wR, wS, wT, u5, ⟨rfl, rfl, trivial⟩, hO, cR, cp, bV, cf, bN, bC, cz, cD, cE, hB⟩ ?_
   intro X2
   refine prE fun k2_40 => prE fun b2_41 => prE fun k2_42 => prE fun d_43 => prE fun d_49 => prE fun d_55 => prE fun d_61 => prE fun d_67 => prE fun d_73 => prE fun d_79 => prE fun d_85 => prE fun d_91 => fun m2_97 => ?_
   intro H hX2 σ w39
   refine exE fun n48 => exE fun p46 => exE fun c47 => exE fun wW => exE fun n54 => exE fun p52 => exE fun c53 => exE fun wX => exE fun n60 => exE fun p58 => exE fun c59 => exE fun wY => exE fun n66 => exE fun p64 => exE fun c65 => exE fun lj => exE fun n72 => exE fun p70 => exE fun c71 => exE fun lk => exE fun n78 => exE fun p76 => exE fun c77 => exE fun ll => exE fun n84 => exE fun p82 => exE fun c83 => exE fun kq => exE fun n90 => exE fun p88 => exE fun c89 => exE fun lm => exE fun n96 => exE fun p94 => exE fun c95 => exE fun lp => andE fun hag => andE fun hO => andE fun JA => andE fun Gn => andE fun EB => andE fun dU => andE fun ko => andE fun kW => andE fun ks => andE fun dA => andE fun fy => fun hB => ?_
   dsimp only at H
   refine Go1.keep [(4, .pointer (some ⟨B2, 0, none⟩)), (6, .pointer (some ⟨eW, 0, none⟩))] hag ?_
   refine zq (zq (zr (zm rfl ?_)))
   refine GoR.inl (vs := [.pointer (some ⟨eW, 0, none⟩)]) (caps := []) rfl rfl body50 Try.func50 rfl Try.ntmps50 rfl rfl rfl ?_
   intro RhR98 hR98
   refine zq (zr (za rfl (zn (zq ?_))))
   refine Go1.drawS 0 [(0, .pure), (1, .pure), (2, .pure), (3, .pure), (4, .stable), (5, .pure), (6, .pure), (7, .pure), (8, .pure), (9, .stable), (10, .pure), (11, .pure), (12, .pure)] mixed (by kernel_rfl) ?_
   intro w99 Ma
   have fF := Stp.same hO Ma
   replace hO := fF.own
   refine GoQ.pure rfl (op_move rfl) rfl rfl ?_
   refine GoQ.pure rfl (op_nilCheck rfl) rfl rfl ?_
   refine GoQ.pure rfl (op_fieldAddr Try.underlying72 rfl ti29 rfl (by decide)) rfl rfl ?_
   refine GoQ.pure rfl (op_fieldAddr Try.underlying29 rfl ti3 rfl (by decide)) rfl rfl ?_
   refine GoQ.stable rfl (oblk (i := 8) 0 hO rfl rfl Try.underlying3 rfl rfl) rfl rfl ?_
   refine GoQ.pure rfl (op_move rfl) rfl rfl ?_
   refine GoQ.pure rfl (op_nilCheck rfl) rfl rfl ?_
   refine GoQ.pure rfl (op_fieldAddr Try.underlying72 rfl ti29 rfl (by decide)) rfl rfl ?_
   refine GoQ.pure rfl (op_fieldAddr Try.underlying29 rfl ti22 rfl (by decide)) rfl rfl ?_
   refine GoQ.stable rfl (oblk (i := 3) 0 hO rfl rfl Try.underlying22 rfl rfl) rfl rfl ?_
   replace Gn := Gn.ch fF.ch
   refine GoQ.pure rfl (op_lenN Try.underlying22 rfl (Gn.neq hO 2 rfl)) rfl rfl ?_
   by_cases Gp : k2_42 = (d_49.length : Int)
   ·replace H := ifp Gp H
    refine GoQ.pure rfl (fun w => opB (op_eql rfl rfl w) (decide_eq_true Gp)) rfl rfl ?_
    refine GoQ.pure rfl (op_assign rfl) rfl rfl ?_
    refine GoQ.nil ?_
    refine Go1.ret1V Try.func50 rfl (show _ = .bool true from rfl) ?_
    refine hR98 _ _ ?_
    refine zo (op_not rfl) (zn (zf rfl rfl ?_))
    refine Go1.exit rfl ?_
    refine zq (zr (zm rfl (zo (op_nilCheck rfl) (zo (op_fieldAddr Try.underlying72 rfl ti29 rfl (by decide)) (zs (oblkAgg (vs := [.int .i64 k2_40, .bool b2_41, .slice p46 n48 c47, .slice p52 n54 c53, .slice p58 n60 c59, .slice p64 n66 c65, .slice p70 n72 c71, .slice p76 n78 c77, .int .i64 k2_42]) (i := 0) 0 hO rfl rfl Try.underlying29 rfl ti29 rfl) ?_)))))
    have hobt := oblkStAgg (us := [.int .i64 k2_40, .bool b2_41, .slice p46 n48 c47, .slice p52 n54 c53, .slice p58 n60 c59, .slice p64 n66 c65, .slice p70 n72 c71, .slice p76 n78 c77, .int .i64 k2_42]) (o := 0) (cs' := #[.int .i64 k2_40, .bool b2_41, .slice p46 n48 c47, .slice p52 n54 c53, .slice p58 n60 c59, .slice p64 n66 c65, .slice p70 n72 c71, .slice p76 n78 c77, .int .i64 k2_42]) 11 hO rfl rfl (Nat.le_of_ble_eq_true rfl) rfl
    obtain ⟨afJ, mw, Rv⟩ := hobt
    dsimp only [sS, sZ] at mw
    refine zg (Rv ti29 (by exact rfl) (by exact rfl) rfl) ?_
    replace hO := mw.own
    refine za rfl (zn ?_)
    replace JA := (JA.ch fF.ch).ch mw.ch
    have hobt := freeze 1 hO rfl JA
    obtain ⟨hO1, BJ, yX, Vy⟩ := hobt
    dsimp only [eS, eZ] at hO1 BJ yX
    replace hB := ((hB.trans fF.fr).trans mw.fr).trans (Owns.dropFr _ _ 1)
    dsimp only [eS, eZ] at hB
    replace hO := hO1; clear hO1
    replace Gn := (Gn.ch mw.ch).ch BJ
    have hobt := freeze 1 hO rfl Gn
    obtain ⟨hO1, BK, Ay, Vz⟩ := hobt
    dsimp only [eS, eZ] at hO1 BK Ay
    replace hB := hB.trans (Owns.dropFr _ _ 1)
    dsimp only [eS, eZ] at hB
    replace hO := hO1; clear hO1
    have Z1 := ((fF.ch.trans mw.ch).trans BJ).trans BK
    replace EB := EB.ch Z1
    have hobt := freeze 1 hO rfl EB
    obtain ⟨hO1, BL, Ea, Mb⟩ := hobt
    dsimp only [eS, eZ] at hO1 BL Ea
    replace hB := hB.trans (Owns.dropFr _ _ 1)
    dsimp only [eS, eZ] at hB
    replace hO := hO1; clear hO1
    replace dU := (dU.ch Z1).ch BL
    have hobt := freeze 1 hO rfl dU
    obtain ⟨hO1, BM, HS, VA⟩ := hobt
    dsimp only [eS, eZ] at hO1 BM HS
    replace hB := hB.trans (Owns.dropFr _ _ 1)
    dsimp only [eS, eZ] at hB
    replace hO := hO1; clear hO1
    replace ko := ((ko.ch Z1).ch BL).ch BM
    have hobt := freeze 1 hO rfl ko
    obtain ⟨hO1, BN, JW, VB⟩ := hobt
    dsimp only [eS, eZ] at hO1 BN JW
    replace hB := hB.trans (Owns.dropFr _ _ 1)
    dsimp only [eS, eZ] at hB
    replace hO := hO1; clear hO1
    have Z2 := ((Z1.trans BL).trans BM).trans BN
    replace kW := kW.ch Z2
    have hobt := freeze 1 hO rfl kW
    obtain ⟨hO1, BO, O2, VC⟩ := hobt
    dsimp only [eS, eZ] at hO1 BO O2
    replace hB := hB.trans (Owns.dropFr _ _ 1)
    dsimp only [eS, eZ] at hB
    replace hO := hO1; clear hO1
    refine Go1.retC2 Try.func17 rfl rfl (run_loadBlk (vs := [.int .i64 k2_40, .bool b2_41, .slice p46 n48 c47, .slice p52 n54 c53, .slice p58 n60 c59, .slice p64 n66 c65, .slice p70 n72 c71, .slice p76 n78 c77, .int .i64 k2_42]) 5 hO rfl rfl Try.underlying29 rfl ti29) ?_
    replace JW := JW.ch BO
    replace HS := (HS.ch BN).ch BO
    have Z3 := (BM.trans BN).trans BO
    replace Ea := Ea.ch Z3
    have Z4 := ((BL.trans BM).trans BN).trans BO
    replace Ay := Ay.ch Z4
    have Z5 := (((BK.trans BL).trans BM).trans BN).trans BO
    replace yX := yX.ch Z5
    exact ⟨(⟨k2_40, b2_41, d_43, d_49, d_55, d_61, d_67, d_73, k2_42⟩ : Enum), (0 : Int), p46, c47, p52, c53, p58, c59, p64, c65, p70, c71, p76, c77, (congrArg (fun l => Value.tuple (List.toArray l)) (cons_eq (congrArg (fun l => Value.agg (List.toArray l)) (cons_eq rfl (cons_eq rfl (cons_eq (congrArg (fun nn => Value.slice p46 nn c47) Vy) (cons_eq (congrArg (fun nn => Value.slice p52 nn c53) Vz) (cons_eq (congrArg (fun nn => Value.slice p58 nn c59) Mb) (cons_eq (congrArg (fun nn => Value.slice p64 nn c65) VA) (cons_eq (congrArg (fun nn => Value.slice p70 nn c71) VB) (cons_eq (congrArg (fun nn => Value.slice p76 nn c77) VC) (cons_eq rfl rfl)))))))))) (cons_eq rfl rfl))), hB.same, (yX.ch (Ch.weak _ _ _)), (Ay.ch (Ch.weak _ _ _)), (Ea.ch (Ch.weak _ _ _)), (HS.ch (Ch.weak _ _ _)), (JW.ch (Ch.weak _ _ _)), (O2.ch (Ch.weak _ _ _)), H⟩
   replace H := ifn Gp H
   refine GoQ.pure rfl (fun w => opB (op_eql rfl rfl w) (decide_eq_false Gp)) rfl rfl ?_
   refine GoQ.pure rfl (op_assign rfl) rfl rfl ?_
   refine GoQ.nil ?_
   refine Go1.ret1V Try.func50 rfl (show _ = .bool false from rfl) ?_
   refine hR98 _ _ ?_
   refine zo (op_not rfl) (zn (zt rfl rfl (zk (zb (zq ?_)))))
   refine Go1.cut [(4, .pointer (some ⟨B2, 0, none⟩)), (6, .pointer (some ⟨eW, 0, none⟩))] ⟨rfl, rfl, trivial⟩ ?_
   intro σ _
   refine zr (zm rfl ?_)
   have O3 : Owns w0.heap.size w99 ([.blk eW (.cells #[.int .i64 k2_40, .bool b2_41, .slice p46 n48 c47, .slice p52 n54 c53, .slice p58 n60 c59, .slice p64 n66 c65, .slice p70 n72 c71, .slice p76 n78 c77, .int .i64 k2_42, .map (some ap), .slice p82 n84 c83, .slice p88 n90 c89, .slice p94 n96 c95] 72 (0, 0)), .row 26 1 p46 n48 c47 wW, .row 26 1 p52 n54 c53 wX, .row 3 1 p58 n60 c59 wY, .row 3 1 p64 n66 c65 lj, .row 26 1 p70 n72 c71 lk, .row 39 2 p76 n78 c77 ll, .row 9 1 p82 n84 c83 kq, .row 3 1 p88 n90 c89 lm, .row 3 1 p94 n96 c95 lp, .any (mapE (fun a : List UInt8 => Value.string (gstr a)) (fun a : Int => Value.int .i64 a) ap m2_97)] ++ [.blk B2 (.cells #[.int .i64 (0 : Int), .bool false, .slice none 0 0, .slice none 0 0, .slice none 0 0, .slice none 0 0, .slice none 0 0, .slice none 0 0, .int .i64 (0 : Int)] 29 (0, 0))]) A := hO
   have VD := Owns.split O3
   have hca126 : Ch (bl [.blk eW (.cells #[.int .i64 k2_40, .bool b2_41, .slice p46 n48 c47, .slice p52 n54 c53, .slice p58 n60 c59, .slice p64 n66 c65, .slice p70 n72 c71, .slice p76 n78 c77, .int .i64 k2_42, .map (some ap), .slice p82 n84 c83, .slice p88 n90 c89, .slice p94 n96 c95] 72 (0, 0)), .row 26 1 p46 n48 c47 wW, .row 26 1 p52 n54 c53 wX, .row 3 1 p58 n60 c59 wY, .row 3 1 p64 n66 c65 lj, .row 26 1 p70 n72 c71 lk, .row 39 2 p76 n78 c77 ll, .row 9 1 p82 n84 c83 kq, .row 3 1 p88 n90 c89 lm, .row 3 1 p94 n96 c95 lp, .any (mapE (fun a : List UInt8 => Value.string (gstr a)) (fun a : Int => Value.int .i64 a) ap m2_97), .blk B2 (.cells #[.int .i64 (0 : Int), .bool false, .slice none 0 0, .slice none 0 0, .slice none 0 0, .slice none 0 0, .slice none 0 0, .slice none 0 0, .int .i64 (0 : Int)] 29 (0, 0))] ++ A) w99 (bl [.blk eW (.cells #[.int .i64 k2_40, .bool b2_41, .slice p46 n48 c47, .slice p52 n54 c53, .slice p58 n60 c59, .slice p64 n66 c65, .slice p70 n72 c71, .slice p76 n78 c77, .int .i64 k2_42, .map (some ap), .slice p82 n84 c83, .slice p88 n90 c89, .slice p94 n96 c95] 72 (0, 0)), .row 26 1 p46 n48 c47 wW, .row 26 1 p52 n54 c53 wX, .row 3 1 p58 n60 c59 wY, .row 3 1 p64 n66 c65 lj, .row 26 1 p70 n72 c71 lk, .row 39 2 p76 n78 c77 ll, .row 9 1 p82 n84 c83 kq, .row 3 1 p88 n90 c89 lm, .row 3 1 p94 n96 c95 lp, .any (mapE (fun a : List UInt8 => Value.string (gstr a)) (fun a : Int => Value.int .i64 a) ap m2_97)] ++ (bl [.blk B2 (.cells #[.int .i64 (0 : Int), .bool false, .slice none 0 0, .slice none 0 0, .slice none 0 0, .slice none 0 0, .slice none 0 0, .slice none 0 0, .int .i64 (0 : Int)] 29 (0, 0))] ++ A)) w99 := Ch.assoc' [.blk eW (.cells #[.int .i64 k2_40, .bool b2_41, .slice p46 n48 c47, .slice p52 n54 c53, .slice p58 n60 c59, .slice p64 n66 c65, .slice p70 n72 c71, .slice p76 n78 c77, .int .i64 k2_42, .map (some ap), .slice p82 n84 c83, .slice p88 n90 c89, .slice p94 n96 c95] 72 (0, 0)), .row 26 1 p46 n48 c47 wW, .row 26 1 p52 n54 c53 wX, .row 3 1 p58 n60 c59 wY, .row 3 1 p64 n66 c65 lj, .row 26 1 p70 n72 c71 lk, .row 39 2 p76 n78 c77 ll, .row 9 1 p82 n84 c83 kq, .row 3 1 p88 n90 c89 lm, .row 3 1 p94 n96 c95 lp, .any (mapE (fun a : List UInt8 => Value.string (gstr a)) (fun a : Int => Value.int .i64 a) ap m2_97)] [.blk B2 (.cells #[.int .i64 (0 : Int), .bool false, .slice none 0 0, .slice none 0 0, .slice none 0 0, .slice none 0 0, .slice none 0 0, .slice none 0 0, .int .i64 (0 : Int)] 29 (0, 0))] A w99
   replace JA := JA.ch fF.ch
   replace EB := EB.ch fF.ch
   replace dU := dU.ch fF.ch
   replace ko := ko.ch fF.ch
   replace kW := kW.ch fF.ch
   replace ks := ks.ch fF.ch
   replace dA := dA.ch fF.ch
   replace fy := fy.ch fF.ch
   refine GoR.call (op_call body51 rfl (walk_enumerate_run_process (a0 := (⟨(⟨k2_40, b2_41, d_43, d_49, d_55, d_61, d_67, d_73, k2_42⟩ : Enum), m2_97, d_79, d_85, d_91⟩ : run)) VD (JA.ch hca126) (Gn.ch hca126) (EB.ch hca126) (dU.ch hca126) (ko.ch hca126) (kW.ch hca126) (ks.ch hca126) (dA.ch hca126) (fy.ch hca126) H)) rfl rfl ?_
   intro afK Mc
   refine exE fun r127 => exE fun q128 => exE fun kt => exE fun ku => exE fun kw => exE fun rF => exE fun jt => exE fun ju => exE fun jv => exE fun qA => exE fun iO => exE fun iP => exE fun iQ => exE fun pU => exE fun kx => exE fun kz => exE fun kA => exE fun rG => exE fun jw => exE fun jx => exE fun jy => exE fun qB => exE fun jz => exE fun jA => exE fun jB => exE fun qC => exE fun oX => exE fun oY => exE fun o0 => exE fun wC => exE fun nk => exE fun nm => exE fun np => exE fun u6 => exE fun nq => exE fun nr => exE fun ns => exE fun u7 => andE fun hv134 => andE fun hN131 => andE fun rH => andE fun qD => andE fun pV => andE fun rI => andE fun qE => andE fun qF => andE fun wD => andE fun u9 => andE fun va => andE fun hF132 => fun H => ?_
   subst hv134
   have M5 : Stp w0.heap.size A w99 [.blk eW (.cells #[.int .i64 k2_40, .bool b2_41, .slice p46 n48 c47, .slice p52 n54 c53, .slice p58 n60 c59, .slice p64 n66 c65, .slice p70 n72 c71, .slice p76 n78 c77, .int .i64 k2_42, .map (some ap), .slice p82 n84 c83, .slice p88 n90 c89, .slice p94 n96 c95] 72 (0, 0)), .row 26 1 p46 n48 c47 wW, .row 26 1 p52 n54 c53 wX, .row 3 1 p58 n60 c59 wY, .row 3 1 p64 n66 c65 lj, .row 26 1 p70 n72 c71 lk, .row 39 2 p76 n78 c77 ll, .row 9 1 p82 n84 c83 kq, .row 3 1 p88 n90 c89 lm, .row 3 1 p94 n96 c95 lp, .any (mapE (fun a : List UInt8 => Value.string (gstr a)) (fun a : Int => Value.int .i64 a) ap m2_97), .blk B2 (.cells #[.int .i64 (0 : Int), .bool false, .slice none 0 0, .slice none 0 0, .slice none 0 0, .slice none 0 0, .slice none 0 0, .slice none 0 0, .int .i64 (0 : Int)] 29 (0, 0))] Mc [.blk eW (.cells #[.int .i64 q128.Enum.Points, .bool q128.Enum.Monoid, .slice ku kt kw, .slice ju jt jv, .slice iP iO iQ, .slice kz kx kA, .slice jx jw jy, .slice jA jz jB, .int .i64 q128.Enum.Done, .map (some ap), .slice oY oX o0, .slice nm nk np, .slice nr nq ns] 72 (0, 0)), .row 26 1 ku kt kw rF, .row 26 1 ju jt jv qA, .row 3 1 iP iO iQ pU, .row 3 1 kz kx kA rG, .row 26 1 jx jw jy qB, .row 39 2 jA jz jB qC, .row 9 1 oY oX o0 wC, .row 3 1 nm nk np u6, .row 3 1 nr nq ns u7, .any (mapE (fun a : List UInt8 => Value.string (gstr a)) (fun a : Int => Value.int .i64 a) ap q128.number), .blk B2 (.cells #[.int .i64 (0 : Int), .bool false, .slice none 0 0, .slice none 0 0, .slice none 0 0, .slice none 0 0, .slice none 0 0, .slice none 0 0, .int .i64 (0 : Int)] 29 (0, 0))] := Stp.join O3 hN131 hF132
   replace hO := M5.own
   have hca135 : Ch (bl [.blk eW (.cells #[.int .i64 q128.Enum.Points, .bool q128.Enum.Monoid, .slice ku kt kw, .slice ju jt jv, .slice iP iO iQ, .slice kz kx kA, .slice jx jw jy, .slice jA jz jB, .int .i64 q128.Enum.Done, .map (some ap), .slice oY oX o0, .slice nm nk np, .slice nr nq ns] 72 (0, 0)), .row 26 1 ku kt kw rF, .row 26 1 ju jt jv qA, .row 3 1 iP iO iQ pU, .row 3 1 kz kx kA rG, .row 26 1 jx jw jy qB, .row 39 2 jA jz jB qC, .row 9 1 oY oX o0 wC, .row 3 1 nm nk np u6, .row 3 1 nr nq ns u7, .any (mapE (fun a : List UInt8 => Value.string (gstr a)) (fun a : Int => Value.int .i64 a) ap q128.number)] ++ (bl [.blk B2 (.cells #[.int .i64 (0 : Int), .bool false, .slice none 0 0, .slice none 0 0, .slice none 0 0, .slice none 0 0, .slice none 0 0, .slice none 0 0, .int .i64 (0 : Int)] 29 (0, 0))] ++ A)) Mc (bl [.blk eW (.cells #[.int .i64 q128.Enum.Points, .bool q128.Enum.Monoid, .slice ku kt kw, .slice ju jt jv, .slice iP iO iQ, .slice kz kx kA, .slice jx jw jy, .slice jA jz jB, .int .i64 q128.Enum.Done, .map (some ap), .slice oY oX o0, .slice nm nk np, .slice nr nq ns] 72 (0, 0)), .row 26 1 ku kt kw rF, .row 26 1 ju jt jv qA, .row 3 1 iP iO iQ pU, .row 3 1 kz kx kA rG, .row 26 1 jx jw jy qB, .row 39 2 jA jz jB qC, .row 9 1 oY oX o0 wC, .row 3 1 nm nk np u6, .row 3 1 nr nq ns u7, .any (mapE (fun a : List UInt8 => Value.string (gstr a)) (fun a : Int => Value.int .i64 a) ap q128.number), .blk B2 (.cells #[.int .i64 (0 : Int), .bool false, .slice none 0 0, .slice none 0 0, .slice none 0 0, .slice none 0 0, .slice none 0 0, .slice none 0 0, .int .i64 (0 : Int)] 29 (0, 0))] ++ A) Mc := Ch.assoc [.blk eW (.cells #[.int .i64 q128.Enum.Points, .bool q128.Enum.Monoid, .slice ku kt kw, .slice ju jt jv, .slice iP iO iQ, .slice kz kx kA, .slice jx jw jy, .slice jA jz jB, .int .i64 q128.Enum.Done, .map (some ap), .slice oY oX o0, .slice nm nk np, .slice nr nq ns] 72 (0, 0)), .row 26 1 ku kt kw rF, .row 26 1 ju jt jv qA, .row 3 1 iP iO iQ pU, .row 3 1 kz kx kA rG, .row 26 1 jx jw jy qB, .row 39 2 jA jz jB qC, .row 9 1 oY oX o0 wC, .row 3 1 nm nk np u6, .row 3 1 nr nq ns u7, .any (mapE (fun a : List UInt8 => Value.string (gstr a)) (fun a : Int => Value.int .i64 a) ap q128.number)] [.blk B2 (.cells #[.int .i64 (0 : Int), .bool false, .slice none 0 0, .slice none 0 0, .slice none 0 0, .slice none 0 0, .slice none 0 0, .slice none 0 0, .int .i64 (0 : Int)] 29 (0, 0))] A Mc
   refine za rfl (zn (zq (zr (zm rfl ?_))))
   by_cases Me : r127 = (0 : Int)
   ·replace H := ifp Me H
    refine zo (fun w => opB (op_neq rfl rfl w) (ndT Me)) (zn (zf rfl rfl (zk ?_)))
    refine Go1.inBlock ?_
    replace rH := rH.ch hca135
    replace qD := qD.ch hca135
    replace pV := pV.ch hca135
    replace rI := rI.ch hca135
    replace qE := qE.ch hca135
    replace qF := qF.ch hca135
    replace wD := wD.ch hca135
    replace u9 := u9.ch hca135
    replace va := va.ch hca135
    replace hB := (hB.trans fF.fr).trans M5.fr
    exact hX2 _ H _ _ ⟨kt, ku, kw, rF, jt, ju, jv, qA, iO, iP, iQ, pU, kx, kz, kA, rG, jw, jx, jy, qB, jz, jA, jB, qC, oX, oY, o0, wC, nk, nm, np, u6, nq, nr, ns, u7, ⟨rfl, rfl, trivial⟩, hO, rH, qD, pV, rI, qE, qF, wD, u9, va, hB⟩
   replace H := ifn Me H
   refine zo (fun w => opB (op_neq rfl rfl w) (ndF Me)) (zn (zt rfl rfl (zq (zr (zo (op_build Try.underlying29 ti29 (pl := [(0, 1), (1, 1), (2, 1), (3, 1), (4, 1), (5, 1), (6, 1), (7, 1), (8, 1)]) (vs := []) (cs := #[.int .i64 (0 : Int), .bool false, .slice none 0 0, .slice none 0 0, .slice none 0 0, .slice none 0 0, .slice none 0 0, .slice none 0 0, .int .i64 (0 : Int)]) (by kernel_rfl) rfl (by kernel_rfl)) ?_)))))
   refine zm rfl ?_
   have hobt := oblkStAgg (us := [.int .i64 (0 : Int), .bool false, .slice none 0 0, .slice none 0 0, .slice none 0 0, .slice none 0 0, .slice none 0 0, .slice none 0 0, .int .i64 (0 : Int)]) (o := 0) (cs' := #[.int .i64 (0 : Int), .bool false, .slice none 0 0, .slice none 0 0, .slice none 0 0, .slice none 0 0, .slice none 0 0, .slice none 0 0, .int .i64 (0 : Int)]) 11 hO rfl rfl (Nat.le_of_ble_eq_true rfl) rfl
   obtain ⟨afL, wE, Rw⟩ := hobt
   dsimp only [sS, sZ] at wE
   refine zg (Rw ti29 (by exact rfl) (by exact rfl) rfl) ?_
   replace hO := wE.own
   refine za rfl (zn ?_)
   refine Go1.retC2 Try.func17 rfl rfl (run_loadBlk (vs := [.int .i64 (0 : Int), .bool false, .slice none 0 0, .slice none 0 0, .slice none 0 0, .slice none 0 0, .slice none 0 0, .slice none 0 0, .int .i64 (0 : Int)]) 11 hO rfl rfl Try.underlying29 rfl ti29) ?_
   replace hB := ((hB.trans fF.fr).trans M5.fr).trans wE.fr
   exact ⟨(⟨(0 : Int), false, ([] : List (List Int)), ([] : List (List Int)), ([] : List Int), ([] : List Int), ([] : List (List Int)), ([] : List Rule), (0 : Int)⟩ : Enum), r127, none, 0, none, 0, none, 0, none, 0, none, 0, none, 0, rfl, hB.same, (ISl.null _ _ _), (ISl.null _ _ _), (ISl.null _ _ _), (ISl.null _ _ _), (ISl.null _ _ _), (ISl.null _ _ _), H⟩
  replace H := ifn h38 H
  refine zo (fun w => opB (op_neq rfl rfl w) (ndF h38)) (zn (zt rfl rfl (zq (zr (zo (op_build Try.underlying29 ti29 (pl := [(0, 1), (1, 1), (2, 1), (3, 1), (4, 1), (5, 1), (6, 1), (7, 1), (8, 1)]) (vs := []) (cs := #[.int .i64 (0 : Int), .bool false, .slice none 0 0, .slice none 0 0, .slice none 0 0, .slice none 0 0, .slice none 0 0, .slice none 0 0, .int .i64 (0 : Int)]) (by kernel_rfl) rfl (by kernel_rfl)) ?_)))))
  refine zm rfl ?_
  have hobt := oblkStAgg (us := [.int .i64 (0 : Int), .bool false, .slice none 0 0, .slice none 0 0, .slice none 0 0, .slice none 0 0, .slice none 0 0, .slice none 0 0, .int .i64 (0 : Int)]) (o := 0) (cs' := #[.int .i64 (0 : Int), .bool false, .slice none 0 0, .slice none 0 0, .slice none 0 0, .slice none 0 0, .slice none 0 0, .slice none 0 0, .int .i64 (0 : Int)]) 11 hO rfl rfl (Nat.le_of_ble_eq_true rfl) rfl
  obtain ⟨afM, vb, Rx⟩ := hobt
  dsimp only [sS, sZ] at vb
  refine zg (Rx ti29 (by exact rfl) (by exact rfl) rfl) ?_
  replace hO := vb.own
  refine za rfl (zn ?_)
  refine Go1.retC2 Try.func17 rfl rfl (run_loadBlk (vs := [.int .i64 (0 : Int), .bool false, .slice none 0 0, .slice none 0 0, .slice none 0 0, .slice none 0 0, .slice none 0 0, .slice none 0 0, .int .i64 (0 : Int)]) 11 hO rfl rfl Try.underlying29 rfl ti29) ?_
  replace hB := ((hB.trans cQ.fr).trans x7.fr).trans vb.fr
  exact ⟨(⟨(0 : Int), false, ([] : List (List Int)), ([] : List (List Int)), ([] : List Int), ([] : List Int), ([] : List (List Int)), ([] : List Rule), (0 : Int)⟩ : Enum), r8, none, 0, none, 0, none, 0, none, 0, none, 0, none, 0, rfl, hB.same, (ISl.null _ _ _), (ISl.null _ _ _), (ISl.null _ _ _), (ISl.null _ _ _), (ISl.null _ _ _), (ISl.null _ _ _), H⟩
theorem body70 : Body Try.prog 70 := ⟨Try.f70, Try.func70, rfl, by kernel_rfl⟩
theorem walk_slices_Equal_int {A : List Nat} {w0 : World} {uq : Option Addr} {ur : Nat} {ut : Option Addr} {uu : Nat} {s1 : List Int} {s2 : List Int} (hA : ∀ b ∈ A, b < w0.heap.size) (lF : ISl (Rp.int .i64) A w0 uq ur s1) (mD : ISl (Rp.int .i64) A w0 ut uu s2) {K : Bool → Prop} (H : slices_Equal_int s1 s2 K) :
    CallsV Try.prog 70 #[.slice uq s1.length ur, .slice ut s2.length uu] w0 (fun v w' => ∃ (r0 : Bool), v = .bool r0 ∧ Same w0 w' ∧ K r0) := by
 refine CallsV.of (l := [.slice uq s1.length ur, .slice ut s2.length uu]) Try.func70 rfl Try.ntmps70 rfl ?_
 have hO := Owns.start hA
 have hB := Fr.refl (bl []) w0
 unfold slices_Equal_int at H
 refine zq (zr (za rfl (zn (zq (zq ?_)))))
 refine zr (zm rfl (zo (op_len Try.underlying26 rfl) ?_))
 replace lF := lF.ch (Ch.start A w0)
 replace H := H lF.bd
 refine zm rfl (zo (op_len Try.underlying26 rfl) ?_)
 replace mD := mD.ch (Ch.start A w0)
 replace H := H mD.bd
 by_cases h1 : (s1.length : Int) = (s2.length : Int)
 ·replace H := ifp h1 H
  refine zo (fun w => opB (op_neq rfl rfl w) (ndT h1)) (zn (zf rfl rfl (zk (zq (zq ?_)))))
  refine zr (zm rfl (zo (op_len Try.underlying26 rfl) (zm rfl (zn (zb ?_)))))
  refine Go1.loopW (S := Nat) (fun s σ w => agrees σ [(0, .slice uq s1.length ur), (1, .slice ut s2.length uu), (12, .int .i64 (s1.length : Int)), (13, .int .i64 (s : Int))] ∧ Owns w0.heap.size w [] A ∧ ISl (Rp.int .i64) (bl [] ++ A) w uq ur s1 ∧ ISl (Rp.int .i64) (bl [] ++ A) w ut uu s2 ∧ Fr (bl []) w0 (bl []) w) H ⟨⟨rfl, rfl, rfl, rfl, trivial⟩, hO, lF, mD, hB⟩ ?_
  intro X1 k1_3
  intro H hX1 σ w2
  refine andE fun hag => andE fun hO => andE fun lF => andE fun mD => fun hB => ?_
  refine Go1.keep [(0, .slice uq s1.length ur), (1, .slice ut s2.length uu), (12, .int .i64 (s1.length : Int)), (13, .int .i64 (k1_3 : Int))] hag ?_
  refine zq (zr ?_)
  by_cases h4 : (k1_3 : Int) < (s1.length : Int)
  ·replace H := ifp h4 H
   refine zo (fun w => opB (op_lss rfl rfl w) (decide_eq_true h4)) (zn (zq (zt rfl rfl (zk (zq ?_)))))
   refine zb (zq (zr (zm rfl (za rfl (zn ?_)))))
   refine zq ?_
   refine Go1.drawS 0 [(0, .pure), (1, .pure), (2, .pure), (3, .stable), (4, .pure), (5, .pure), (6, .pure), (7, .stable), (8, .pure)] mixed (by kernel_rfl) ?_
   intro w5 hs6
   have rV := Stp.same hO hs6
   replace hO := rV.own
   refine GoQ.pure rfl (op_move rfl) rfl rfl ?_
   refine GoQ.pure rfl (op_move rfl) rfl rfl ?_
   obtain ⟨h8, H⟩ := H
   obtain ⟨h9, H⟩ := H
   replace lF := lF.ch rV.ch
   refine GoQ.pure rfl (op_index Try.underlying26 ti3 rfl rfl h8 h9 (lF.some_ h8 h9)) rfl rfl ?_
   refine GoQ.stable rfl (ldInt lF h8 h9 Try.underlying3 rfl rfl) rfl rfl ?_
   refine GoQ.pure rfl (op_move rfl) rfl rfl ?_
   refine GoQ.pure rfl (op_move rfl) rfl rfl ?_
   obtain ⟨h10, H⟩ := H
   obtain ⟨h11, H⟩ := H
   replace mD := mD.ch rV.ch
   refine GoQ.pure rfl (op_index Try.underlying26 ti3 rfl rfl h10 h11 (mD.some_ h10 h11)) rfl rfl ?_
   refine GoQ.stable rfl (ldInt mD h10 h11 Try.underlying3 rfl rfl) rfl rfl ?_
   by_cases h12 : (ix s1 (k1_3 : Int)) = (ix s2 (k1_3 : Int))
   ·replace H := ifp h12 H
    refine GoQ.pure rfl (fun w => opB (op_neq rfl rfl w) (ndT h12)) rfl rfl ?_
    refine GoQ.nil ?_
    refine zf rfl rfl (zk ?_)
    refine Go1.inBlock ?_
    refine zr (zo (op_add rfl rfl (wrap_i64 (natbd h4 lF.bd))) (zm rfl (zn ?_)))
    replace hB := hB.trans rV.fr
    exact hX1 _ H _ _ ⟨⟨rfl, rfl, rfl, rfl, trivial⟩, hO, lF, mD, hB⟩
   replace H := ifn h12 H
   refine GoQ.pure rfl (fun w => opB (op_neq rfl rfl w) (ndF h12)) rfl rfl ?_
   refine GoQ.nil ?_
   refine zt rfl rfl (zq (zr (za rfl (zn ?_))))
   refine Go1.ret1 Try.func70 rfl ?_
   replace hB := hB.trans rV.fr
   exact ⟨false, rfl, hB.same, H⟩
  replace H := ifn h4 H
  refine zo (fun w => opB (op_lss rfl rfl w) (decide_eq_false h4)) (zn (zq (zf rfl rfl ?_)))
  refine Go1.exit rfl ?_
  refine zq (zr (za rfl (zn ?_)))
  refine Go1.ret1 Try.func70 rfl ?_
  exact ⟨true, rfl, hB.same, H⟩
 replace H := ifn h1 H
 refine zo (fun w => opB (op_neq rfl rfl w) (ndF h1)) (zn (zt rfl rfl (zq (zr (za rfl ?_)))))
 refine zn ?_
 refine Go1.ret1 Try.func70 rfl ?_
 exact ⟨false, rfl, hB.same, H⟩
theorem body69 : Body Try.prog 69 := ⟨Try.f69, Try.func69, rfl, by kernel_rfl⟩
theorem walk_slices_EqualFunc_int {A : List Nat} {w0 : World} {uq : Option Addr} {ur : Nat} {ut : Option Addr} {uu : Nat} {s1 : List (List Int)} {s2 : List (List Int)} (hA : ∀ b ∈ A, b < w0.heap.size) (lF : ISl (Rp.sl (Rp.int .i64)) A w0 uq ur s1) (mD : ISl (Rp.sl (Rp.int .i64)) A w0 ut uu s2) {K : Bool → Prop} (H : slices_EqualFunc_int s1 s2 K) :
    CallsV Try.prog 69 #[.slice uq s1.length ur, .slice ut s2.length uu, .func (.func 70) #[] #[]] w0 (fun v w' => ∃ (r0 : Bool), v = .bool r0 ∧ Same w0 w' ∧ K r0) := by
 refine CallsV.of (l := [.slice uq s1.length ur, .slice ut s2.length uu, .func (.func 70) #[] #[]]) Try.func69 rfl Try.ntmps69 rfl ?_
 have hO := Owns.start hA
 have hB := Fr.refl (bl []) w0
 unfold slices_EqualFunc_int at H
 refine zq (zr (za rfl (zn (zq (zq ?_)))))
 refine zr (zm rfl (zo (op_len Try.underlying22 rfl) ?_))
 replace lF := lF.ch (Ch.start A w0)
 replace H := H lF.bd
 refine zm rfl (zo (op_len Try.underlying22 rfl) ?_)
 replace mD := mD.ch (Ch.start A w0)
 replace H := H mD.bd
 by_cases h1 : (s1.length : Int) = (s2.length : Int)
 ·replace H := ifp h1 H
  refine zo (fun w => opB (op_neq rfl rfl w) (ndT h1)) (zn (zf rfl rfl (zk (zq (zq ?_)))))
  refine zr (zm rfl (zo (op_len Try.underlying22 rfl) (zm rfl (zn (zb ?_)))))
  refine Go1.loopW (S := Nat) (fun s σ w => agrees σ [(1, .slice ut s2.length uu), (2, .func (.func 70) #[] #[]), (15, .slice uq s1.length ur), (16, .int .i64 (s1.length : Int)), (17, .int .i64 (s : Int))] ∧ Owns w0.heap.size w [] A ∧ ISl (Rp.sl (Rp.int .i64)) (bl [] ++ A) w uq ur s1 ∧ ISl (Rp.sl (Rp.int .i64)) (bl [] ++ A) w ut uu s2 ∧ Fr (bl []) w0 (bl []) w) H ⟨⟨rfl, rfl, rfl, rfl, rfl, trivial⟩, hO, lF, mD, hB⟩ ?_
  intro X1 k1_3
  intro H hX1 σ w2
  refine andE fun hag => andE fun hO => andE fun lF => andE fun mD => fun hB => ?_
  refine Go1.keep [(1, .slice ut s2.length uu), (2, .func (.func 70) #[] #[]), (15, .slice uq s1.length ur), (16, .int .i64 (s1.length : Int)), (17, .int .i64 (k1_3 : Int))] hag ?_
  refine zq (zr ?_)
  by_cases h4 : (k1_3 : Int) < (s1.length : Int)
  ·replace H := ifp h4 H
   refine zo (fun w => opB (op_lss rfl rfl w) (decide_eq_true h4)) (zn (zq (zt rfl rfl (zk (zq ?_)))))
   refine zb (zq (zr (zm rfl ?_)))
   obtain ⟨h5, H⟩ := H
   obtain ⟨h6, H⟩ := H
   refine zo (op_index Try.underlying22 ti26 rfl rfl h5 h6 (lF.some_ h5 h6)) ?_
   have hobt := ldSl lF h5 h6
   obtain ⟨p7, c8, hi9, abj⟩ := hobt
   refine zs (abj Try.underlying26 rfl rfl) (za rfl (za rfl (zn (zq (zr ?_)))))
   refine zm rfl (zm rfl ?_)
   obtain ⟨h11, H⟩ := H
   obtain ⟨h12, H⟩ := H
   refine zo (op_index Try.underlying22 ti26 rfl rfl h11 h12 (mD.some_ h11 h12)) ?_
   have hobt := ldSl mD h11 h12
   obtain ⟨p13, c14, mE, Oh⟩ := hobt
   refine zs (Oh Try.underlying26 rfl rfl) (za rfl (zn (zq (zr (zm rfl ?_)))))
   refine zm rfl (zm rfl ?_)
   refine GoR.call (op_callV (caps := []) body70 rfl rfl (walk_slices_Equal_int hO.lt hi9 mE H)) rfl rfl ?_
   rintro v21 w18 ⟨r17, rfl, Jt, H⟩
   have d9 := Stp.same hO Jt
   replace hO := d9.own
   cases r17
   ·replace H := ifn Bool.false_ne_true H
    refine zo (op_not rfl) (zn (zt rfl rfl (zq (zr (za rfl ?_)))))
    refine zn ?_
    refine Go1.ret1 Try.func69 rfl ?_
    replace hB := hB.trans d9.fr
    exact ⟨false, rfl, hB.same, H⟩
   replace H := ifp rfl H
   refine zo (op_not rfl) (zn (zf rfl rfl (zk ?_)))
   refine Go1.inBlock ?_
   refine Go1.cut [(1, .slice ut s2.length uu), (2, .func (.func 70) #[] #[]), (15, .slice uq s1.length ur), (16, .int .i64 (s1.length : Int)), (17, .int .i64 (k1_3 : Int))] ⟨rfl, rfl, rfl, rfl, rfl, trivial⟩ ?_
   intro σ _
   refine zr ?_
   replace lF := lF.ch d9.ch
   refine zo (op_add rfl rfl (wrap_i64 (natbd h4 lF.bd))) (zm rfl (zn ?_))
   replace mD := mD.ch d9.ch
   replace hB := hB.trans d9.fr
   exact hX1 _ H _ _ ⟨⟨rfl, rfl, rfl, rfl, rfl, trivial⟩, hO, lF, mD, hB⟩
  replace H := ifn h4 H
  refine zo (fun w => opB (op_lss rfl rfl w) (decide_eq_false h4)) (zn (zq (zf rfl rfl ?_)))
  refine Go1.exit rfl ?_
  refine zq (zr (za rfl (zn ?_)))
  refine Go1.ret1 Try.func69 rfl ?_
  exact ⟨true, rfl, hB.same, H⟩
 replace H := ifn h1 H
 refine zo (fun w => opB (op_neq rfl rfl w) (ndF h1)) (zn (zt rfl rfl (zq (zr (za rfl ?_)))))
 refine zn ?_
 refine Go1.ret1 Try.func69 rfl ?_
 exact ⟨false, rfl, hB.same, H⟩
theorem body71 : Body Try.prog 71 := ⟨Try.f71, Try.func71, rfl, by kernel_rfl⟩
theorem walk_slices_Equal_api_Rule {A : List Nat} {w0 : World} {uq : Option Addr} {ur : Nat} {ut : Option Addr} {uu : Nat} {s1 : List Rule} {s2 : List Rule} (hA : ∀ b ∈ A, b < w0.heap.size) (lF : ISl (rpRule) A w0 uq ur s1) (mD : ISl (rpRule) A w0 ut uu s2) {K : Bool → Prop} (H : slices_Equal_api_Rule s1 s2 K) :
    CallsV Try.prog 71 #[.slice uq s1.length ur, .slice ut s2.length uu] w0 (fun v w' => ∃ (r0 : Bool), v = .bool r0 ∧ Same w0 w' ∧ K r0) := by
 refine CallsV.of (l := [.slice uq s1.length ur, .slice ut s2.length uu]) Try.func71 rfl Try.ntmps71 rfl ?_
 have hO := Owns.start hA
 have hB := Fr.refl (bl []) w0
 unfold slices_Equal_api_Rule at H
 refine zq (zr (za rfl (zn (zq (zq ?_)))))
 refine zr (zm rfl (zo (op_len Try.underlying27 rfl) ?_))
 replace lF := lF.ch (Ch.start A w0)
 replace H := H lF.bd
 refine zm rfl (zo (op_len Try.underlying27 rfl) ?_)
 replace mD := mD.ch (Ch.start A w0)
 replace H := H mD.bd
 by_cases h1 : (s1.length : Int) = (s2.length : Int)
 ·replace H := ifp h1 H
  refine zo (fun w => opB (op_neq rfl rfl w) (ndT h1)) (zn (zf rfl rfl (zk (zq (zq ?_)))))
  refine zr (zm rfl (zo (op_len Try.underlying27 rfl) (zm rfl (zn (zb ?_)))))
  refine Go1.loopW (S := Nat) (fun s σ w => agrees σ [(0, .slice uq s1.length ur), (1, .slice ut s2.length uu), (12, .int .i64 (s1.length : Int)), (13, .int .i64 (s : Int))] ∧ Owns w0.heap.size w [] A ∧ ISl (rpRule) (bl [] ++ A) w uq ur s1 ∧ ISl (rpRule) (bl [] ++ A) w ut uu s2 ∧ Fr (bl []) w0 (bl []) w) H ⟨⟨rfl, rfl, rfl, rfl, trivial⟩, hO, lF, mD, hB⟩ ?_
  intro X1 k1_3
  intro H hX1 σ w2
  refine andE fun hag => andE fun hO => andE fun lF => andE fun mD => fun hB => ?_
  refine Go1.keep [(0, .slice uq s1.length ur), (1, .slice ut s2.length uu), (12, .int .i64 (s1.length : Int)), (13, .int .i64 (k1_3 : Int))] hag ?_
  refine zq (zr ?_)
  by_cases h4 : (k1_3 : Int) < (s1.length : Int)
  ·replace H := ifp h4 H
   refine zo (fun w => opB (op_lss rfl rfl w) (decide_eq_true h4)) (zn (zq (zt rfl rfl (zk (zq ?_)))))
   refine zb (zq (zr (zm rfl (za rfl (zn ?_)))))
   refine zq ?_
   refine Go1.drawS 0 [(0, .pure), (1, .pure), (2, .pure), (3, .stable), (4, .pure), (5, .pure), (6, .pure), (7, .stable), (8, .pure)] mixed (by kernel_rfl) ?_
   intro w5 hs6
   have rV := Stp.same hO hs6
   replace hO := rV.own
   refine GoQ.pure rfl (op_move rfl) rfl rfl ?_
   refine GoQ.pure rfl (op_move rfl) rfl rfl ?_
   obtain ⟨h8, H⟩ := H
   obtain ⟨h9, H⟩ := H
   replace lF := lF.ch rV.ch
   refine GoQ.pure rfl (op_index Try.underlying27 ti39 rfl rfl h8 h9 (lF.some_ h8 h9)) rfl rfl ?_
   have hok10 := ldFlatOk lF h8 h9
   refine GoQ.stable rfl (ldFlat lF h8 h9 Try.underlying39 rfl ti39 rfl) rfl rfl ?_
   refine GoQ.pure rfl (op_move rfl) rfl rfl ?_
   refine GoQ.pure rfl (op_move rfl) rfl rfl ?_
   obtain ⟨h11, H⟩ := H
   obtain ⟨h12, H⟩ := H
   replace mD := mD.ch rV.ch
   refine GoQ.pure rfl (op_index Try.underlying27 ti39 rfl rfl h11 h12 (mD.some_ h11 h12)) rfl rfl ?_
   have hok13 := ldFlatOk mD h11 h12
   refine GoQ.stable rfl (ldFlat mD h11 h12 Try.underlying39 rfl ti39 rfl) rfl rfl ?_
   by_cases h14 : (((ix s1 (k1_3 : Int)).Left) = ((ix s2 (k1_3 : Int)).Left) ∧ ((ix s1 (k1_3 : Int)).Right) = ((ix s2 (k1_3 : Int)).Right))
   ·replace H := ifp h14 H
    refine GoQ.pure rfl (fun w => opB (op_neqSS Try.underlying39 eqh39 eqg39 (by decide) (by decide) rfl rfl Try.underlying9 Try.underlying9 rfl rfl w) (ndT h14)) rfl rfl ?_
    refine GoQ.nil ?_
    refine zf rfl rfl (zk ?_)
    refine Go1.inBlock ?_
    refine zr (zo (op_add rfl rfl (wrap_i64 (natbd h4 lF.bd))) (zm rfl (zn ?_)))
    replace hB := hB.trans rV.fr
    exact hX1 _ H _ _ ⟨⟨rfl, rfl, rfl, rfl, trivial⟩, hO, lF, mD, hB⟩
   replace H := ifn h14 H
   refine GoQ.pure rfl (fun w => opB (op_neqSS Try.underlying39 eqh39 eqg39 (by decide) (by decide) rfl rfl Try.underlying9 Try.underlying9 rfl rfl w) (ndF h14)) rfl rfl ?_
   refine GoQ.nil ?_
   refine zt rfl rfl (zq (zr (za rfl (zn ?_))))
   refine Go1.ret1 Try.func71 rfl ?_
   replace hB := hB.trans rV.fr
   exact ⟨false, rfl, hB.same, H⟩
  replace H := ifn h4 H
  refine zo (fun w => opB (op_lss rfl rfl w) (decide_eq_false h4)) (zn (zq (zf rfl rfl ?_)))
  refine Go1.exit rfl ?_
  refine zq (zr (za rfl (zn ?_)))
  refine Go1.ret1 Try.func71 rfl ?_
  exact ⟨true, rfl, hB.same, H⟩
 replace H := ifn h1 H
 refine zo (fun w => opB (op_neq rfl rfl w) (ndF h1)) (zn (zt rfl rfl (zq (zr (za rfl ?_)))))
 refine zn ?_
 refine Go1.ret1 Try.func71 rfl ?_
 exact ⟨false, rfl, hB.same, H⟩
end Sg
