/- The walks: each call keeps to its plain transformer. Printed by walkgen.py. -/
import Derived.Test.YtjegjjdfgefkoaaTi
import Derived.Test.YtjegjjdfgefkoaaWEnumerateBuilds
namespace Sg
open Go Go.RowKit Go.Proofs
set_option linter.unusedVariables false
set_option linter.unusedSimpArgs false
set_option maxRecDepth 100000
set_option maxHeartbeats 4000000
theorem body66 : Body Try.prog 66 := ⟨Try.f66, Try.func66, rfl, by kernel_rfl⟩
theorem body67 : Body Try.prog 67 := ⟨Try.f67, Try.func67, rfl, by kernel_rfl⟩
theorem body51 : Body Try.prog 51 := ⟨Try.f51, Try.func51, rfl, by kernel_rfl⟩
theorem walk_enumerate_run_process {A : List Nat} {n0 : Nat} {w0 : World} {dp : Nat} {ak : Nat} {al : Option Addr} {am : Nat} {bZ : List Value} {b8 : Nat} {b9 : Option Addr} {ca : Nat} {dr : List Value} {b4 : Nat} {b5 : Option Addr} {b6 : Nat} {dn : List Value} {cr : Nat} {ct : Option Addr} {cu : Nat} {dB : List Value} {aq : Nat} {ax : Option Addr} {ay : Nat} {bV : List Value} {cb : Nat} {cd : Option Addr} {ce : Nat} {dt : List Value} {az : Nat} {db : Nat} {dc : Option Addr} {de : Nat} {ft : List Value} {c6 : Nat} {c7 : Option Addr} {da : Nat} {eP : List Value} {bc : Nat} {bf : Option Addr} {bg : Nat} {cE : List Value} {a0 : run} (hO : Owns n0 w0 [.blk dp (.cells #[.int .i64 a0.Enum.Points, .bool a0.Enum.Monoid, .slice al ak am, .slice b9 b8 ca, .slice b5 b4 b6, .slice ct cr cu, .slice ax aq ay, .slice cd cb ce, .int .i64 a0.Enum.Done, .map (some az), .slice dc db de, .slice c7 c6 da, .slice bf bc bg] 72 (0, 0)), .row 26 1 al ak am bZ, .row 26 1 b9 b8 ca dr, .row 3 1 b5 b4 b6 dn, .row 3 1 ct cr cu dB, .row 26 1 ax aq ay bV, .row 39 2 cd cb ce dt, .row 9 1 dc db de ft, .row 3 1 c7 c6 da eP, .row 3 1 bf bc bg cE, .any (mapE (fun a : List UInt8 => Value.string (gstr a)) (fun a : Int => Value.int .i64 a) az a0.number)] A) (aa : Els (Rp.sl (Rp.int .i64)) (bl [.blk dp (.cells #[.int .i64 a0.Enum.Points, .bool a0.Enum.Monoid, .slice al ak am, .slice b9 b8 ca, .slice b5 b4 b6, .slice ct cr cu, .slice ax aq ay, .slice cd cb ce, .int .i64 a0.Enum.Done, .map (some az), .slice dc db de, .slice c7 c6 da, .slice bf bc bg] 72 (0, 0)), .row 26 1 al ak am bZ, .row 26 1 b9 b8 ca dr, .row 3 1 b5 b4 b6 dn, .row 3 1 ct cr cu dB, .row 26 1 ax aq ay bV, .row 39 2 cd cb ce dt, .row 9 1 dc db de ft, .row 3 1 c7 c6 da eP, .row 3 1 bf bc bg cE, .any (mapE (fun a : List UInt8 => Value.string (gstr a)) (fun a : Int => Value.int .i64 a) az a0.number)] ++ A) w0 bZ a0.Enum.Gens) (qz : Els (Rp.sl (Rp.int .i64)) (bl [.blk dp (.cells #[.int .i64 a0.Enum.Points, .bool a0.Enum.Monoid, .slice al ak am, .slice b9 b8 ca, .slice b5 b4 b6, .slice ct cr cu, .slice ax aq ay, .slice cd cb ce, .int .i64 a0.Enum.Done, .map (some az), .slice dc db de, .slice c7 c6 da, .slice bf bc bg] 72 (0, 0)), .row 26 1 al ak am bZ, .row 26 1 b9 b8 ca dr, .row 3 1 b5 b4 b6 dn, .row 3 1 ct cr cu dB, .row 26 1 ax aq ay bV, .row 39 2 cd cb ce dt, .row 9 1 dc db de ft, .row 3 1 c7 c6 da eP, .row 3 1 bf bc bg cE, .any (mapE (fun a : List UInt8 => Value.string (gstr a)) (fun a : Int => Value.int .i64 a) az a0.number)] ++ A) w0 dr a0.Enum.Elems) (qa : Els (Rp.int .i64) (bl [.blk dp (.cells #[.int .i64 a0.Enum.Points, .bool a0.Enum.Monoid, .slice al ak am, .slice b9 b8 ca, .slice b5 b4 b6, .slice ct cr cu, .slice ax aq ay, .slice cd cb ce, .int .i64 a0.Enum.Done, .map (some az), .slice dc db de, .slice c7 c6 da, .slice bf bc bg] 72 (0, 0)), .row 26 1 al ak am bZ, .row 26 1 b9 b8 ca dr, .row 3 1 b5 b4 b6 dn, .row 3 1 ct cr cu dB, .row 26 1 ax aq ay bV, .row 39 2 cd cb ce dt, .row 9 1 dc db de ft, .row 3 1 c7 c6 da eP, .row 3 1 bf bc bg cE, .any (mapE (fun a : List UInt8 => Value.string (gstr a)) (fun a : Int => Value.int .i64 a) az a0.number)] ++ A) w0 dn a0.Enum.Prefix) (qN : Els (Rp.int .i64) (bl [.blk dp (.cells #[.int .i64 a0.Enum.Points, .bool a0.Enum.Monoid, .slice al ak am, .slice b9 b8 ca, .slice b5 b4 b6, .slice ct cr cu, .slice ax aq ay, .slice cd cb ce, .int .i64 a0.Enum.Done, .map (some az), .slice dc db de, .slice c7 c6 da, .slice bf bc bg] 72 (0, 0)), .row 26 1 al ak am bZ, .row 26 1 b9 b8 ca dr, .row 3 1 b5 b4 b6 dn, .row 3 1 ct cr cu dB, .row 26 1 ax aq ay bV, .row 39 2 cd cb ce dt, .row 9 1 dc db de ft, .row 3 1 c7 c6 da eP, .row 3 1 bf bc bg cE, .any (mapE (fun a : List UInt8 => Value.string (gstr a)) (fun a : Int => Value.int .i64 a) az a0.number)] ++ A) w0 dB a0.Enum.Last) (ab : Els (Rp.sl (Rp.int .i64)) (bl [.blk dp (.cells #[.int .i64 a0.Enum.Points, .bool a0.Enum.Monoid, .slice al ak am, .slice b9 b8 ca, .slice b5 b4 b6, .slice ct cr cu, .slice ax aq ay, .slice cd cb ce, .int .i64 a0.Enum.Done, .map (some az), .slice dc db de, .slice c7 c6 da, .slice bf bc bg] 72 (0, 0)), .row 26 1 al ak am bZ, .row 26 1 b9 b8 ca dr, .row 3 1 b5 b4 b6 dn, .row 3 1 ct cr cu dB, .row 26 1 ax aq ay bV, .row 39 2 cd cb ce dt, .row 9 1 dc db de ft, .row 3 1 c7 c6 da eP, .row 3 1 bf bc bg cE, .any (mapE (fun a : List UInt8 => Value.string (gstr a)) (fun a : Int => Value.int .i64 a) az a0.number)] ++ A) w0 bV a0.Enum.Right) (qA : Els (rpRule) (bl [.blk dp (.cells #[.int .i64 a0.Enum.Points, .bool a0.Enum.Monoid, .slice al ak am, .slice b9 b8 ca, .slice b5 b4 b6, .slice ct cr cu, .slice ax aq ay, .slice cd cb ce, .int .i64 a0.Enum.Done, .map (some az), .slice dc db de, .slice c7 c6 da, .slice bf bc bg] 72 (0, 0)), .row 26 1 al ak am bZ, .row 26 1 b9 b8 ca dr, .row 3 1 b5 b4 b6 dn, .row 3 1 ct cr cu dB, .row 26 1 ax aq ay bV, .row 39 2 cd cb ce dt, .row 9 1 dc db de ft, .row 3 1 c7 c6 da eP, .row 3 1 bf bc bg cE, .any (mapE (fun a : List UInt8 => Value.string (gstr a)) (fun a : Int => Value.int .i64 a) az a0.number)] ++ A) w0 dt a0.Enum.Rules) (sW : Els (Rp.str) (bl [.blk dp (.cells #[.int .i64 a0.Enum.Points, .bool a0.Enum.Monoid, .slice al ak am, .slice b9 b8 ca, .slice b5 b4 b6, .slice ct cr cu, .slice ax aq ay, .slice cd cb ce, .int .i64 a0.Enum.Done, .map (some az), .slice dc db de, .slice c7 c6 da, .slice bf bc bg] 72 (0, 0)), .row 26 1 al ak am bZ, .row 26 1 b9 b8 ca dr, .row 3 1 b5 b4 b6 dn, .row 3 1 ct cr cu dB, .row 26 1 ax aq ay bV, .row 39 2 cd cb ce dt, .row 9 1 dc db de ft, .row 3 1 c7 c6 da eP, .row 3 1 bf bc bg cE, .any (mapE (fun a : List UInt8 => Value.string (gstr a)) (fun a : Int => Value.int .i64 a) az a0.number)] ++ A) w0 ft a0.words) (sC : Els (Rp.int .i64) (bl [.blk dp (.cells #[.int .i64 a0.Enum.Points, .bool a0.Enum.Monoid, .slice al ak am, .slice b9 b8 ca, .slice b5 b4 b6, .slice ct cr cu, .slice ax aq ay, .slice cd cb ce, .int .i64 a0.Enum.Done, .map (some az), .slice dc db de, .slice c7 c6 da, .slice bf bc bg] 72 (0, 0)), .row 26 1 al ak am bZ, .row 26 1 b9 b8 ca dr, .row 3 1 b5 b4 b6 dn, .row 3 1 ct cr cu dB, .row 26 1 ax aq ay bV, .row 39 2 cd cb ce dt, .row 9 1 dc db de ft, .row 3 1 c7 c6 da eP, .row 3 1 bf bc bg cE, .any (mapE (fun a : List UInt8 => Value.string (gstr a)) (fun a : Int => Value.int .i64 a) az a0.number)] ++ A) w0 eP a0.behind) (ac : Els (Rp.int .i64) (bl [.blk dp (.cells #[.int .i64 a0.Enum.Points, .bool a0.Enum.Monoid, .slice al ak am, .slice b9 b8 ca, .slice b5 b4 b6, .slice ct cr cu, .slice ax aq ay, .slice cd cb ce, .int .i64 a0.Enum.Done, .map (some az), .slice dc db de, .slice c7 c6 da, .slice bf bc bg] 72 (0, 0)), .row 26 1 al ak am bZ, .row 26 1 b9 b8 ca dr, .row 3 1 b5 b4 b6 dn, .row 3 1 ct cr cu dB, .row 26 1 ax aq ay bV, .row 39 2 cd cb ce dt, .row 9 1 dc db de ft, .row 3 1 c7 c6 da eP, .row 3 1 bf bc bg cE, .any (mapE (fun a : List UInt8 => Value.string (gstr a)) (fun a : Int => Value.int .i64 a) az a0.number)] ++ A) w0 cE a0.single) {K : Int → run → Prop} (H : enumerate_run_process a0 K) :
    CallsV Try.prog 51 #[.pointer (some ⟨dp, 0, none⟩)] w0 (fun v w' => ∃ (r0 : Int), ∃ (q : run), ∃ (aR : Nat), ∃ (aS : Option Addr), ∃ (aT : Nat), ∃ (bI : List Value), ∃ (aH : Nat), ∃ (aI : Option Addr), ∃ (aJ : Nat), ∃ (bD : List Value), ∃ (au : Nat), ∃ (av : Option Addr), ∃ (aw : Nat), ∃ (bw : List Value), ∃ (aU : Nat), ∃ (aV : Option Addr), ∃ (aW : Nat), ∃ (bK : List Value), ∃ (aK : Nat), ∃ (aL : Option Addr), ∃ (aM : Nat), ∃ (bE : List Value), ∃ (aN : Nat), ∃ (aO : Option Addr), ∃ (aP : Nat), ∃ (bF : List Value), ∃ (bx : Nat), ∃ (bz : Option Addr), ∃ (bA : Nat), ∃ (cB : List Value), ∃ (bm : Nat), ∃ (bn : Option Addr), ∃ (bo : Nat), ∃ (cl : List Value), ∃ (bp : Nat), ∃ (bq : Option Addr), ∃ (bt : Nat), ∃ (co : List Value), v = .int .i64 r0 ∧ Owns n0 w' [.blk dp (.cells #[.int .i64 q.Enum.Points, .bool q.Enum.Monoid, .slice aS aR aT, .slice aI aH aJ, .slice av au aw, .slice aV aU aW, .slice aL aK aM, .slice aO aN aP, .int .i64 q.Enum.Done, .map (some az), .slice bz bx bA, .slice bn bm bo, .slice bq bp bt] 72 (0, 0)), .row 26 1 aS aR aT bI, .row 26 1 aI aH aJ bD, .row 3 1 av au aw bw, .row 3 1 aV aU aW bK, .row 26 1 aL aK aM bE, .row 39 2 aO aN aP bF, .row 9 1 bz bx bA cB, .row 3 1 bn bm bo cl, .row 3 1 bq bp bt co, .any (mapE (fun a : List UInt8 => Value.string (gstr a)) (fun a : Int => Value.int .i64 a) az q.number)] A ∧ Els (Rp.sl (Rp.int .i64)) (bl [.blk dp (.cells #[.int .i64 q.Enum.Points, .bool q.Enum.Monoid, .slice aS aR aT, .slice aI aH aJ, .slice av au aw, .slice aV aU aW, .slice aL aK aM, .slice aO aN aP, .int .i64 q.Enum.Done, .map (some az), .slice bz bx bA, .slice bn bm bo, .slice bq bp bt] 72 (0, 0)), .row 26 1 aS aR aT bI, .row 26 1 aI aH aJ bD, .row 3 1 av au aw bw, .row 3 1 aV aU aW bK, .row 26 1 aL aK aM bE, .row 39 2 aO aN aP bF, .row 9 1 bz bx bA cB, .row 3 1 bn bm bo cl, .row 3 1 bq bp bt co, .any (mapE (fun a : List UInt8 => Value.string (gstr a)) (fun a : Int => Value.int .i64 a) az q.number)] ++ A) w' bI q.Enum.Gens ∧ Els (Rp.sl (Rp.int .i64)) (bl [.blk dp (.cells #[.int .i64 q.Enum.Points, .bool q.Enum.Monoid, .slice aS aR aT, .slice aI aH aJ, .slice av au aw, .slice aV aU aW, .slice aL aK aM, .slice aO aN aP, .int .i64 q.Enum.Done, .map (some az), .slice bz bx bA, .slice bn bm bo, .slice bq bp bt] 72 (0, 0)), .row 26 1 aS aR aT bI, .row 26 1 aI aH aJ bD, .row 3 1 av au aw bw, .row 3 1 aV aU aW bK, .row 26 1 aL aK aM bE, .row 39 2 aO aN aP bF, .row 9 1 bz bx bA cB, .row 3 1 bn bm bo cl, .row 3 1 bq bp bt co, .any (mapE (fun a : List UInt8 => Value.string (gstr a)) (fun a : Int => Value.int .i64 a) az q.number)] ++ A) w' bD q.Enum.Elems ∧ Els (Rp.int .i64) (bl [.blk dp (.cells #[.int .i64 q.Enum.Points, .bool q.Enum.Monoid, .slice aS aR aT, .slice aI aH aJ, .slice av au aw, .slice aV aU aW, .slice aL aK aM, .slice aO aN aP, .int .i64 q.Enum.Done, .map (some az), .slice bz bx bA, .slice bn bm bo, .slice bq bp bt] 72 (0, 0)), .row 26 1 aS aR aT bI, .row 26 1 aI aH aJ bD, .row 3 1 av au aw bw, .row 3 1 aV aU aW bK, .row 26 1 aL aK aM bE, .row 39 2 aO aN aP bF, .row 9 1 bz bx bA cB, .row 3 1 bn bm bo cl, .row 3 1 bq bp bt co, .any (mapE (fun a : List UInt8 => Value.string (gstr a)) (fun a : Int => Value.int .i64 a) az q.number)] ++ A) w' bw q.Enum.Prefix ∧ Els (Rp.int .i64) (bl [.blk dp (.cells #[.int .i64 q.Enum.Points, .bool q.Enum.Monoid, .slice aS aR aT, .slice aI aH aJ, .slice av au aw, .slice aV aU aW, .slice aL aK aM, .slice aO aN aP, .int .i64 q.Enum.Done, .map (some az), .slice bz bx bA, .slice bn bm bo, .slice bq bp bt] 72 (0, 0)), .row 26 1 aS aR aT bI, .row 26 1 aI aH aJ bD, .row 3 1 av au aw bw, .row 3 1 aV aU aW bK, .row 26 1 aL aK aM bE, .row 39 2 aO aN aP bF, .row 9 1 bz bx bA cB, .row 3 1 bn bm bo cl, .row 3 1 bq bp bt co, .any (mapE (fun a : List UInt8 => Value.string (gstr a)) (fun a : Int => Value.int .i64 a) az q.number)] ++ A) w' bK q.Enum.Last ∧ Els (Rp.sl (Rp.int .i64)) (bl [.blk dp (.cells #[.int .i64 q.Enum.Points, .bool q.Enum.Monoid, .slice aS aR aT, .slice aI aH aJ, .slice av au aw, .slice aV aU aW, .slice aL aK aM, .slice aO aN aP, .int .i64 q.Enum.Done, .map (some az), .slice bz bx bA, .slice bn bm bo, .slice bq bp bt] 72 (0, 0)), .row 26 1 aS aR aT bI, .row 26 1 aI aH aJ bD, .row 3 1 av au aw bw, .row 3 1 aV aU aW bK, .row 26 1 aL aK aM bE, .row 39 2 aO aN aP bF, .row 9 1 bz bx bA cB, .row 3 1 bn bm bo cl, .row 3 1 bq bp bt co, .any (mapE (fun a : List UInt8 => Value.string (gstr a)) (fun a : Int => Value.int .i64 a) az q.number)] ++ A) w' bE q.Enum.Right ∧ Els (rpRule) (bl [.blk dp (.cells #[.int .i64 q.Enum.Points, .bool q.Enum.Monoid, .slice aS aR aT, .slice aI aH aJ, .slice av au aw, .slice aV aU aW, .slice aL aK aM, .slice aO aN aP, .int .i64 q.Enum.Done, .map (some az), .slice bz bx bA, .slice bn bm bo, .slice bq bp bt] 72 (0, 0)), .row 26 1 aS aR aT bI, .row 26 1 aI aH aJ bD, .row 3 1 av au aw bw, .row 3 1 aV aU aW bK, .row 26 1 aL aK aM bE, .row 39 2 aO aN aP bF, .row 9 1 bz bx bA cB, .row 3 1 bn bm bo cl, .row 3 1 bq bp bt co, .any (mapE (fun a : List UInt8 => Value.string (gstr a)) (fun a : Int => Value.int .i64 a) az q.number)] ++ A) w' bF q.Enum.Rules ∧ Els (Rp.str) (bl [.blk dp (.cells #[.int .i64 q.Enum.Points, .bool q.Enum.Monoid, .slice aS aR aT, .slice aI aH aJ, .slice av au aw, .slice aV aU aW, .slice aL aK aM, .slice aO aN aP, .int .i64 q.Enum.Done, .map (some az), .slice bz bx bA, .slice bn bm bo, .slice bq bp bt] 72 (0, 0)), .row 26 1 aS aR aT bI, .row 26 1 aI aH aJ bD, .row 3 1 av au aw bw, .row 3 1 aV aU aW bK, .row 26 1 aL aK aM bE, .row 39 2 aO aN aP bF, .row 9 1 bz bx bA cB, .row 3 1 bn bm bo cl, .row 3 1 bq bp bt co, .any (mapE (fun a : List UInt8 => Value.string (gstr a)) (fun a : Int => Value.int .i64 a) az q.number)] ++ A) w' cB q.words ∧ Els (Rp.int .i64) (bl [.blk dp (.cells #[.int .i64 q.Enum.Points, .bool q.Enum.Monoid, .slice aS aR aT, .slice aI aH aJ, .slice av au aw, .slice aV aU aW, .slice aL aK aM, .slice aO aN aP, .int .i64 q.Enum.Done, .map (some az), .slice bz bx bA, .slice bn bm bo, .slice bq bp bt] 72 (0, 0)), .row 26 1 aS aR aT bI, .row 26 1 aI aH aJ bD, .row 3 1 av au aw bw, .row 3 1 aV aU aW bK, .row 26 1 aL aK aM bE, .row 39 2 aO aN aP bF, .row 9 1 bz bx bA cB, .row 3 1 bn bm bo cl, .row 3 1 bq bp bt co, .any (mapE (fun a : List UInt8 => Value.string (gstr a)) (fun a : Int => Value.int .i64 a) az q.number)] ++ A) w' cl q.behind ∧ Els (Rp.int .i64) (bl [.blk dp (.cells #[.int .i64 q.Enum.Points, .bool q.Enum.Monoid, .slice aS aR aT, .slice aI aH aJ, .slice av au aw, .slice aV aU aW, .slice aL aK aM, .slice aO aN aP, .int .i64 q.Enum.Done, .map (some az), .slice bz bx bA, .slice bn bm bo, .slice bq bp bt] 72 (0, 0)), .row 26 1 aS aR aT bI, .row 26 1 aI aH aJ bD, .row 3 1 av au aw bw, .row 3 1 aV aU aW bK, .row 26 1 aL aK aM bE, .row 39 2 aO aN aP bF, .row 9 1 bz bx bA cB, .row 3 1 bn bm bo cl, .row 3 1 bq bp bt co, .any (mapE (fun a : List UInt8 => Value.string (gstr a)) (fun a : Int => Value.int .i64 a) az q.number)] ++ A) w' co q.single ∧ Fr (bl [.blk dp (.cells #[.int .i64 a0.Enum.Points, .bool a0.Enum.Monoid, .slice al ak am, .slice b9 b8 ca, .slice b5 b4 b6, .slice ct cr cu, .slice ax aq ay, .slice cd cb ce, .int .i64 a0.Enum.Done, .map (some az), .slice dc db de, .slice c7 c6 da, .slice bf bc bg] 72 (0, 0)), .row 26 1 al ak am bZ, .row 26 1 b9 b8 ca dr, .row 3 1 b5 b4 b6 dn, .row 3 1 ct cr cu dB, .row 26 1 ax aq ay bV, .row 39 2 cd cb ce dt, .row 9 1 dc db de ft, .row 3 1 c7 c6 da eP, .row 3 1 bf bc bg cE, .any (mapE (fun a : List UInt8 => Value.string (gstr a)) (fun a : Int => Value.int .i64 a) az a0.number)]) w0 (bl [.blk dp (.cells #[.int .i64 q.Enum.Points, .bool q.Enum.Monoid, .slice aS aR aT, .slice aI aH aJ, .slice av au aw, .slice aV aU aW, .slice aL aK aM, .slice aO aN aP, .int .i64 q.Enum.Done, .map (some az), .slice bz bx bA, .slice bn bm bo, .slice bq bp bt] 72 (0, 0)), .row 26 1 aS aR aT bI, .row 26 1 aI aH aJ bD, .row 3 1 av au aw bw, .row 3 1 aV aU aW bK, .row 26 1 aL aK aM bE, .row 39 2 aO aN aP bF, .row 9 1 bz bx bA cB, .row 3 1 bn bm bo cl, .row 3 1 bq bp bt co, .any (mapE (fun a : List UInt8 => Value.string (gstr a)) (fun a : Int => Value.int .i64 a) az q.number)]) w' ∧ K r0 q) := by
 refine CallsV.of (l := [.pointer (some ⟨dp, 0, none⟩)]) Try.func51 rfl Try.ntmps51 rfl ?_
 have hB := Fr.refl (bl [.blk dp (.cells #[.int .i64 a0.Enum.Points, .bool a0.Enum.Monoid, .slice al ak am, .slice b9 b8 ca, .slice b5 b4 b6, .slice ct cr cu, .slice ax aq ay, .slice cd cb ce, .int .i64 a0.Enum.Done, .map (some az), .slice dc db de, .slice c7 c6 da, .slice bf bc bg] 72 (0, 0)), .row 26 1 al ak am bZ, .row 26 1 b9 b8 ca dr, .row 3 1 b5 b4 b6 dn, .row 3 1 ct cr cu dB, .row 26 1 ax aq ay bV, .row 39 2 cd cb ce dt, .row 9 1 dc db de ft, .row 3 1 c7 c6 da eP, .row 3 1 bf bc bg cE, .any (mapE (fun a : List UInt8 => Value.string (gstr a)) (fun a : Int => Value.int .i64 a) az a0.number)]) w0
 unfold enumerate_run_process at H
 refine Go1.seq ?_
 refine Go1.region ?_
 refine GoR.op ((op_assign rfl) _) rfl rfl ?_
 refine GoR.nil ?_
 refine Go1.seq ?_
 refine Go1.region ?_
 refine GoR.op ((op_move rfl) _) rfl rfl ?_
 refine GoR.op ((op_nilCheck rfl) _) rfl rfl ?_
 refine GoR.op ((op_fieldAddr Try.underlying72 rfl ti29 rfl (by decide)) _) rfl rfl ?_
 refine GoR.op ((op_fieldAddr Try.underlying29 rfl ti3 rfl (by decide)) _) rfl rfl ?_
 refine GoR.op ((oblk (i := 8) 0 hO rfl rfl Try.underlying3 rfl rfl) _ (Same.refl _)) rfl rfl ?_
 refine GoR.op ((op_assign rfl) _) rfl rfl ?_
 refine GoR.nil ?_
 refine Go1.seq ?_
 refine Go1.region ?_
 refine GoR.op ((op_move rfl) _) rfl rfl ?_
 refine GoR.op ((op_nilCheck rfl) _) rfl rfl ?_
 refine GoR.op ((op_fieldAddr Try.underlying72 rfl ti29 rfl (by decide)) _) rfl rfl ?_
 refine GoR.op ((op_fieldAddr Try.underlying29 rfl ti22 rfl (by decide)) _) rfl rfl ?_
 refine GoR.op ((oblk (i := 2) 0 hO rfl rfl Try.underlying22 rfl rfl) _ (Same.refl _)) rfl rfl ?_
 refine GoR.op ((op_lenN Try.underlying22 rfl (aa.neq hO 1 rfl)) _) rfl rfl ?_
 obtain ⟨h8, H⟩ := H
 obtain ⟨h9, H⟩ := H
 have hobt := omake (n := (a0.Enum.Gens.length : Int)) (r := Rp.int .i64) (d := (0 : Int)) Try.underlying26 ti3 (fun _ _ => rfl) rfl hO h8 h9 (by decide)
 obtain ⟨w1, p2, vs3, nv, hE5, hs6, wA⟩ := hobt
 refine GoR.op (wA rfl rfl) rfl rfl ?_
 replace aa := aa.ch nv.ch
 replace qz := qz.ch nv.ch
 replace qa := qa.ch nv.ch
 replace qN := qN.ch nv.ch
 replace ab := ab.ch nv.ch
 replace qA := qA.ch nv.ch
 replace sW := sW.ch nv.ch
 replace sC := sC.ch nv.ch
 replace ac := ac.ch nv.ch
 replace hO := nv.own
 replace hB := hB.trans nv.fr
 refine GoR.op ((op_assign rfl) _) rfl rfl ?_
 refine GoR.nil ?_
 refine Go1.seq ?_
 refine Go1.seq ?_
 refine Go1.region ?_
 refine GoR.op ((op_move rfl) _) rfl rfl ?_
 refine GoR.op ((op_nilCheck rfl) _) rfl rfl ?_
 refine GoR.op ((op_fieldAddr Try.underlying72 rfl ti29 rfl (by decide)) _) rfl rfl ?_
 refine GoR.op ((op_fieldAddr Try.underlying29 rfl ti22 rfl (by decide)) _) rfl rfl ?_
 refine GoR.op ((oblk (i := 2) 1 hO rfl rfl Try.underlying22 rfl rfl) _ (Same.refl _)) rfl rfl ?_
 refine GoR.op ((op_lenN Try.underlying22 rfl (aa.neq hO 2 rfl)) _) rfl rfl ?_
 refine GoR.op ((op_move rfl) _) rfl rfl ?_
 refine GoR.nil ?_
 refine Go1.block ?_
 refine Go1.loopW (S := Nat × List Int × List (List Int) × List Int × List Int × List Rule × List Str × List Int × (List (Str × Int))) (fun s σ w => match s with | (k1_12, d_13, d_16, d_22, d_28, d_34, d_40, d_46, m1_52) => ∃ (mK : List Value), ∃ (n21 : Nat), ∃ (p19 : Option Addr), ∃ (c20 : Nat), ∃ (lk : List Value), ∃ (n27 : Nat), ∃ (p25 : Option Addr), ∃ (c26 : Nat), ∃ (l7 : List Value), ∃ (n33 : Nat), ∃ (p31 : Option Addr), ∃ (c32 : Nat), ∃ (l8 : List Value), ∃ (n39 : Nat), ∃ (p37 : Option Addr), ∃ (c38 : Nat), ∃ (l9 : List Value), ∃ (n45 : Nat), ∃ (p43 : Option Addr), ∃ (c44 : Nat), ∃ (dH : List Value), ∃ (n51 : Nat), ∃ (p49 : Option Addr), ∃ (c50 : Nat), ∃ (dI : List Value), agrees σ [(0, .pointer (some ⟨dp, 0, none⟩)), (3, .int .i64 a0.Enum.Done), (4, .slice p2 a0.Enum.Gens.length a0.Enum.Gens.length), (27, .slice al ak am), (28, .int .i64 (a0.Enum.Gens.length : Int)), (29, .int .i64 (k1_12 : Int))] ∧ Owns n0 w [.row 3 1 p2 a0.Enum.Gens.length a0.Enum.Gens.length mK, .blk dp (.cells #[.int .i64 a0.Enum.Points, .bool a0.Enum.Monoid, .slice al ak am, .slice p19 n21 c20, .slice p25 n27 c26, .slice p31 n33 c32, .slice ax aq ay, .slice p37 n39 c38, .int .i64 a0.Enum.Done, .map (some az), .slice p43 n45 c44, .slice p49 n51 c50, .slice bf bc bg] 72 (0, 0)), .row 26 1 al ak am bZ, .row 26 1 p19 n21 c20 lk, .row 3 1 p25 n27 c26 l7, .row 3 1 p31 n33 c32 l8, .row 26 1 ax aq ay bV, .row 39 2 p37 n39 c38 l9, .row 9 1 p43 n45 c44 dH, .row 3 1 p49 n51 c50 dI, .row 3 1 bf bc bg cE, .any (mapE (fun a : List UInt8 => Value.string (gstr a)) (fun a : Int => Value.int .i64 a) az m1_52)] A ∧ Els (Rp.int .i64) (bl [.row 3 1 p2 a0.Enum.Gens.length a0.Enum.Gens.length mK, .blk dp (.cells #[.int .i64 a0.Enum.Points, .bool a0.Enum.Monoid, .slice al ak am, .slice p19 n21 c20, .slice p25 n27 c26, .slice p31 n33 c32, .slice ax aq ay, .slice p37 n39 c38, .int .i64 a0.Enum.Done, .map (some az), .slice p43 n45 c44, .slice p49 n51 c50, .slice bf bc bg] 72 (0, 0)), .row 26 1 al ak am bZ, .row 26 1 p19 n21 c20 lk, .row 3 1 p25 n27 c26 l7, .row 3 1 p31 n33 c32 l8, .row 26 1 ax aq ay bV, .row 39 2 p37 n39 c38 l9, .row 9 1 p43 n45 c44 dH, .row 3 1 p49 n51 c50 dI, .row 3 1 bf bc bg cE, .any (mapE (fun a : List UInt8 => Value.string (gstr a)) (fun a : Int => Value.int .i64 a) az m1_52)] ++ A) w mK d_13 ∧ Els (Rp.sl (Rp.int .i64)) (bl [.row 3 1 p2 a0.Enum.Gens.length a0.Enum.Gens.length mK, .blk dp (.cells #[.int .i64 a0.Enum.Points, .bool a0.Enum.Monoid, .slice al ak am, .slice p19 n21 c20, .slice p25 n27 c26, .slice p31 n33 c32, .slice ax aq ay, .slice p37 n39 c38, .int .i64 a0.Enum.Done, .map (some az), .slice p43 n45 c44, .slice p49 n51 c50, .slice bf bc bg] 72 (0, 0)), .row 26 1 al ak am bZ, .row 26 1 p19 n21 c20 lk, .row 3 1 p25 n27 c26 l7, .row 3 1 p31 n33 c32 l8, .row 26 1 ax aq ay bV, .row 39 2 p37 n39 c38 l9, .row 9 1 p43 n45 c44 dH, .row 3 1 p49 n51 c50 dI, .row 3 1 bf bc bg cE, .any (mapE (fun a : List UInt8 => Value.string (gstr a)) (fun a : Int => Value.int .i64 a) az m1_52)] ++ A) w bZ a0.Enum.Gens ∧ Els (Rp.sl (Rp.int .i64)) (bl [.row 3 1 p2 a0.Enum.Gens.length a0.Enum.Gens.length mK, .blk dp (.cells #[.int .i64 a0.Enum.Points, .bool a0.Enum.Monoid, .slice al ak am, .slice p19 n21 c20, .slice p25 n27 c26, .slice p31 n33 c32, .slice ax aq ay, .slice p37 n39 c38, .int .i64 a0.Enum.Done, .map (some az), .slice p43 n45 c44, .slice p49 n51 c50, .slice bf bc bg] 72 (0, 0)), .row 26 1 al ak am bZ, .row 26 1 p19 n21 c20 lk, .row 3 1 p25 n27 c26 l7, .row 3 1 p31 n33 c32 l8, .row 26 1 ax aq ay bV, .row 39 2 p37 n39 c38 l9, .row 9 1 p43 n45 c44 dH, .row 3 1 p49 n51 c50 dI, .row 3 1 bf bc bg cE, .any (mapE (fun a : List UInt8 => Value.string (gstr a)) (fun a : Int => Value.int .i64 a) az m1_52)] ++ A) w lk d_16 ∧ Els (Rp.int .i64) (bl [.row 3 1 p2 a0.Enum.Gens.length a0.Enum.Gens.length mK, .blk dp (.cells #[.int .i64 a0.Enum.Points, .bool a0.Enum.Monoid, .slice al ak am, .slice p19 n21 c20, .slice p25 n27 c26, .slice p31 n33 c32, .slice ax aq ay, .slice p37 n39 c38, .int .i64 a0.Enum.Done, .map (some az), .slice p43 n45 c44, .slice p49 n51 c50, .slice bf bc bg] 72 (0, 0)), .row 26 1 al ak am bZ, .row 26 1 p19 n21 c20 lk, .row 3 1 p25 n27 c26 l7, .row 3 1 p31 n33 c32 l8, .row 26 1 ax aq ay bV, .row 39 2 p37 n39 c38 l9, .row 9 1 p43 n45 c44 dH, .row 3 1 p49 n51 c50 dI, .row 3 1 bf bc bg cE, .any (mapE (fun a : List UInt8 => Value.string (gstr a)) (fun a : Int => Value.int .i64 a) az m1_52)] ++ A) w l7 d_22 ∧ Els (Rp.int .i64) (bl [.row 3 1 p2 a0.Enum.Gens.length a0.Enum.Gens.length mK, .blk dp (.cells #[.int .i64 a0.Enum.Points, .bool a0.Enum.Monoid, .slice al ak am, .slice p19 n21 c20, .slice p25 n27 c26, .slice p31 n33 c32, .slice ax aq ay, .slice p37 n39 c38, .int .i64 a0.Enum.Done, .map (some az), .slice p43 n45 c44, .slice p49 n51 c50, .slice bf bc bg] 72 (0, 0)), .row 26 1 al ak am bZ, .row 26 1 p19 n21 c20 lk, .row 3 1 p25 n27 c26 l7, .row 3 1 p31 n33 c32 l8, .row 26 1 ax aq ay bV, .row 39 2 p37 n39 c38 l9, .row 9 1 p43 n45 c44 dH, .row 3 1 p49 n51 c50 dI, .row 3 1 bf bc bg cE, .any (mapE (fun a : List UInt8 => Value.string (gstr a)) (fun a : Int => Value.int .i64 a) az m1_52)] ++ A) w l8 d_28 ∧ Els (Rp.sl (Rp.int .i64)) (bl [.row 3 1 p2 a0.Enum.Gens.length a0.Enum.Gens.length mK, .blk dp (.cells #[.int .i64 a0.Enum.Points, .bool a0.Enum.Monoid, .slice al ak am, .slice p19 n21 c20, .slice p25 n27 c26, .slice p31 n33 c32, .slice ax aq ay, .slice p37 n39 c38, .int .i64 a0.Enum.Done, .map (some az), .slice p43 n45 c44, .slice p49 n51 c50, .slice bf bc bg] 72 (0, 0)), .row 26 1 al ak am bZ, .row 26 1 p19 n21 c20 lk, .row 3 1 p25 n27 c26 l7, .row 3 1 p31 n33 c32 l8, .row 26 1 ax aq ay bV, .row 39 2 p37 n39 c38 l9, .row 9 1 p43 n45 c44 dH, .row 3 1 p49 n51 c50 dI, .row 3 1 bf bc bg cE, .any (mapE (fun a : List UInt8 => Value.string (gstr a)) (fun a : Int => Value.int .i64 a) az m1_52)] ++ A) w bV a0.Enum.Right ∧ Els (rpRule) (bl [.row 3 1 p2 a0.Enum.Gens.length a0.Enum.Gens.length mK, .blk dp (.cells #[.int .i64 a0.Enum.Points, .bool a0.Enum.Monoid, .slice al ak am, .slice p19 n21 c20, .slice p25 n27 c26, .slice p31 n33 c32, .slice ax aq ay, .slice p37 n39 c38, .int .i64 a0.Enum.Done, .map (some az), .slice p43 n45 c44, .slice p49 n51 c50, .slice bf bc bg] 72 (0, 0)), .row 26 1 al ak am bZ, .row 26 1 p19 n21 c20 lk, .row 3 1 p25 n27 c26 l7, .row 3 1 p31 n33 c32 l8, .row 26 1 ax aq ay bV, .row 39 2 p37 n39 c38 l9, .row 9 1 p43 n45 c44 dH, .row 3 1 p49 n51 c50 dI, .row 3 1 bf bc bg cE, .any (mapE (fun a : List UInt8 => Value.string (gstr a)) (fun a : Int => Value.int .i64 a) az m1_52)] ++ A) w l9 d_34 ∧ Els (Rp.str) (bl [.row 3 1 p2 a0.Enum.Gens.length a0.Enum.Gens.length mK, .blk dp (.cells #[.int .i64 a0.Enum.Points, .bool a0.Enum.Monoid, .slice al ak am, .slice p19 n21 c20, .slice p25 n27 c26, .slice p31 n33 c32, .slice ax aq ay, .slice p37 n39 c38, .int .i64 a0.Enum.Done, .map (some az), .slice p43 n45 c44, .slice p49 n51 c50, .slice bf bc bg] 72 (0, 0)), .row 26 1 al ak am bZ, .row 26 1 p19 n21 c20 lk, .row 3 1 p25 n27 c26 l7, .row 3 1 p31 n33 c32 l8, .row 26 1 ax aq ay bV, .row 39 2 p37 n39 c38 l9, .row 9 1 p43 n45 c44 dH, .row 3 1 p49 n51 c50 dI, .row 3 1 bf bc bg cE, .any (mapE (fun a : List UInt8 => Value.string (gstr a)) (fun a : Int => Value.int .i64 a) az m1_52)] ++ A) w dH d_40 ∧ Els (Rp.int .i64) (bl [.row 3 1 p2 a0.Enum.Gens.length a0.Enum.Gens.length mK, .blk dp (.cells #[.int .i64 a0.Enum.Points, .bool a0.Enum.Monoid, .slice al ak am, .slice p19 n21 c20, .slice p25 n27 c26, .slice p31 n33 c32, .slice ax aq ay, .slice p37 n39 c38, .int .i64 a0.Enum.Done, .map (some az), .slice p43 n45 c44, .slice p49 n51 c50, .slice bf bc bg] 72 (0, 0)), .row 26 1 al ak am bZ, .row 26 1 p19 n21 c20 lk, .row 3 1 p25 n27 c26 l7, .row 3 1 p31 n33 c32 l8, .row 26 1 ax aq ay bV, .row 39 2 p37 n39 c38 l9, .row 9 1 p43 n45 c44 dH, .row 3 1 p49 n51 c50 dI, .row 3 1 bf bc bg cE, .any (mapE (fun a : List UInt8 => Value.string (gstr a)) (fun a : Int => Value.int .i64 a) az m1_52)] ++ A) w dI d_46 ∧ Els (Rp.int .i64) (bl [.row 3 1 p2 a0.Enum.Gens.length a0.Enum.Gens.length mK, .blk dp (.cells #[.int .i64 a0.Enum.Points, .bool a0.Enum.Monoid, .slice al ak am, .slice p19 n21 c20, .slice p25 n27 c26, .slice p31 n33 c32, .slice ax aq ay, .slice p37 n39 c38, .int .i64 a0.Enum.Done, .map (some az), .slice p43 n45 c44, .slice p49 n51 c50, .slice bf bc bg] 72 (0, 0)), .row 26 1 al ak am bZ, .row 26 1 p19 n21 c20 lk, .row 3 1 p25 n27 c26 l7, .row 3 1 p31 n33 c32 l8, .row 26 1 ax aq ay bV, .row 39 2 p37 n39 c38 l9, .row 9 1 p43 n45 c44 dH, .row 3 1 p49 n51 c50 dI, .row 3 1 bf bc bg cE, .any (mapE (fun a : List UInt8 => Value.string (gstr a)) (fun a : Int => Value.int .i64 a) az m1_52)] ++ A) w cE a0.single ∧ Fr (bl [.blk dp (.cells #[.int .i64 a0.Enum.Points, .bool a0.Enum.Monoid, .slice al ak am, .slice b9 b8 ca, .slice b5 b4 b6, .slice ct cr cu, .slice ax aq ay, .slice cd cb ce, .int .i64 a0.Enum.Done, .map (some az), .slice dc db de, .slice c7 c6 da, .slice bf bc bg] 72 (0, 0)), .row 26 1 al ak am bZ, .row 26 1 b9 b8 ca dr, .row 3 1 b5 b4 b6 dn, .row 3 1 ct cr cu dB, .row 26 1 ax aq ay bV, .row 39 2 cd cb ce dt, .row 9 1 dc db de ft, .row 3 1 c7 c6 da eP, .row 3 1 bf bc bg cE, .any (mapE (fun a : List UInt8 => Value.string (gstr a)) (fun a : Int => Value.int .i64 a) az a0.number)]) w0 (bl [.row 3 1 p2 a0.Enum.Gens.length a0.Enum.Gens.length mK, .blk dp (.cells #[.int .i64 a0.Enum.Points, .bool a0.Enum.Monoid, .slice al ak am, .slice p19 n21 c20, .slice p25 n27 c26, .slice p31 n33 c32, .slice ax aq ay, .slice p37 n39 c38, .int .i64 a0.Enum.Done, .map (some az), .slice p43 n45 c44, .slice p49 n51 c50, .slice bf bc bg] 72 (0, 0)), .row 26 1 al ak am bZ, .row 26 1 p19 n21 c20 lk, .row 3 1 p25 n27 c26 l7, .row 3 1 p31 n33 c32 l8, .row 26 1 ax aq ay bV, .row 39 2 p37 n39 c38 l9, .row 9 1 p43 n45 c44 dH, .row 3 1 p49 n51 c50 dI, .row 3 1 bf bc bg cE, .any (mapE (fun a : List UInt8 => Value.string (gstr a)) (fun a : Int => Value.int .i64 a) az m1_52)]) w) H ⟨vs3, b8, b9, ca, dr, b4, b5, b6, dn, cr, ct, cu, dB, cb, cd, ce, dt, db, dc, de, ft, c6, c7, da, eP, ⟨rfl, rfl, rfl, rfl, rfl, rfl, trivial⟩, hO, hE5, aa, qz, qa, qN, ab, qA, sW, sC, ac, hB⟩ ?_
 intro X1
 refine prE fun k1_12 => prE fun d_13 => prE fun d_16 => prE fun d_22 => prE fun d_28 => prE fun d_34 => prE fun d_40 => prE fun d_46 => fun m1_52 => ?_
 intro H hX1 σ w11
 refine exE fun mK => exE fun n21 => exE fun p19 => exE fun c20 => exE fun lk => exE fun n27 => exE fun p25 => exE fun c26 => exE fun l7 => exE fun n33 => exE fun p31 => exE fun c32 => exE fun l8 => exE fun n39 => exE fun p37 => exE fun c38 => exE fun l9 => exE fun n45 => exE fun p43 => exE fun c44 => exE fun dH => exE fun n51 => exE fun p49 => exE fun c50 => exE fun dI => andE fun hag => andE fun hO => andE fun bu => andE fun aa => andE fun cz => andE fun bW => andE fun bO => andE fun ab => andE fun bv => andE fun aQ => andE fun aG => andE fun ac => fun hB => ?_
 dsimp only at H
 refine Go1.keep [(0, .pointer (some ⟨dp, 0, none⟩)), (3, .int .i64 a0.Enum.Done), (4, .slice p2 a0.Enum.Gens.length a0.Enum.Gens.length), (27, .slice al ak am), (28, .int .i64 (a0.Enum.Gens.length : Int)), (29, .int .i64 (k1_12 : Int))] hag ?_
 refine Go1.seq ?_
 refine Go1.region ?_
 by_cases h53 : (k1_12 : Int) < (a0.Enum.Gens.length : Int)
 ·replace H := ifp h53 H
  refine GoR.op ((fun w => opB (op_lss rfl rfl w) (decide_eq_true h53)) _) rfl rfl ?_
  refine GoR.nil ?_
  refine Go1.seq ?_
  refine Go1.condT rfl rfl ?_
  refine Go1.skip ?_
  refine Go1.seq ?_
  refine Go1.block ?_
  refine Go1.seq ?_
  refine Go1.region ?_
  refine GoR.op ((op_move rfl) _) rfl rfl ?_
  obtain ⟨h54, H⟩ := H
  obtain ⟨h55, H⟩ := H
  refine GoR.op ((op_index Try.underlying22 ti26 rfl rfl h54 (ltn (aa.neq hO 2 rfl) h55) (aa.psome hO 2 rfl h54 h55)) _) rfl rfl ?_
  have hobt := oldSl 2 hO rfl aa h54 h55
  obtain ⟨p56, c57, bB, GR⟩ := hobt
  refine GoR.op ((GR Try.underlying26 rfl rfl) _ (Same.refl _)) rfl rfl ?_
  refine GoR.op ((op_assign rfl) _) rfl rfl ?_
  refine GoR.op ((op_assign rfl) _) rfl rfl ?_
  refine GoR.nil ?_
  refine Go1.seq ?_
  refine Go1.region ?_
  refine GoR.op ((op_move rfl) _) rfl rfl ?_
  refine GoR.op ((op_nilCheck rfl) _) rfl rfl ?_
  refine GoR.op ((op_fieldAddr Try.underlying72 rfl ti29 rfl (by decide)) _) rfl rfl ?_
  refine GoR.op ((op_fieldAddr Try.underlying29 rfl ti22 rfl (by decide)) _) rfl rfl ?_
  refine GoR.op ((oblk (i := 3) 1 hO rfl rfl Try.underlying22 rfl rfl) _ (Same.refl _)) rfl rfl ?_
  refine GoR.op ((op_move rfl) _) rfl rfl ?_
  obtain ⟨h60, H⟩ := H
  obtain ⟨h61, H⟩ := H
  refine GoR.op ((op_index Try.underlying22 ti26 rfl rfl h60 (ltn (cz.neq hO 3 rfl) h61) (cz.psome hO 3 rfl h60 h61)) _) rfl rfl ?_
  have hobt := oldSl 3 hO rfl cz h60 h61
  obtain ⟨p62, c63, bC, GT⟩ := hobt
  refine GoR.op ((GT Try.underlying26 rfl rfl) _ (Same.refl _)) rfl rfl ?_
  refine GoR.op ((op_move rfl) _) rfl rfl ?_
  refine GoR.call (op_call body37 rfl (walk_trans_Compose hO.lt bC bB H)) rfl rfl ?_
  rintro v70 w67 ⟨r66, pV, pW, rfl, GU, bh, H⟩
  have pi := Stp.same hO GU
  replace bu := bu.ch pi.ch
  replace aa := aa.ch pi.ch
  replace cz := cz.ch pi.ch
  replace bW := bW.ch pi.ch
  replace bO := bO.ch pi.ch
  replace ab := ab.ch pi.ch
  replace bv := bv.ch pi.ch
  replace aQ := aQ.ch pi.ch
  replace aG := aG.ch pi.ch
  replace ac := ac.ch pi.ch
  replace hO := pi.own
  replace bB := bB.ch pi.ch
  replace bC := bC.ch pi.ch
  replace hB := hB.trans pi.fr
  refine GoR.op ((op_assign rfl) _) rfl rfl ?_
  refine GoR.nil ?_
  refine Go1.seq ?_
  refine Go1.drawS 0 [(0, .pure), (1, .pure), (2, .pure), (3, .stable), (4, .pure), (5, .loud), (6, .stable), (7, .pure), (8, .pure), (9, .pure), (10, .pure), (11, .pure)] mixed (by kernel_rfl) ?_
  intro w72 yT
  have nP := Stp.same hO yT
  replace bu := bu.ch nP.ch
  replace aa := aa.ch nP.ch
  replace cz := cz.ch nP.ch
  replace bW := bW.ch nP.ch
  replace bO := bO.ch nP.ch
  replace ab := ab.ch nP.ch
  replace bv := bv.ch nP.ch
  replace aQ := aQ.ch nP.ch
  replace aG := aG.ch nP.ch
  replace ac := ac.ch nP.ch
  replace hO := nP.own
  replace bB := bB.ch nP.ch
  replace bC := bC.ch nP.ch
  replace bh := bh.ch nP.ch
  replace hB := hB.trans nP.fr
  refine GoQ.pure rfl (op_move rfl) rfl rfl ?_
  refine GoQ.pure rfl (op_nilCheck rfl) rfl rfl ?_
  refine GoQ.pure rfl (op_fieldAddr Try.underlying72 rfl ti69 rfl (by decide)) rfl rfl ?_
  refine GoQ.stable rfl (oblk (i := 9) 1 hO rfl rfl Try.underlying69 rfl rfl) rfl rfl ?_
  refine GoQ.pure rfl (op_move rfl) rfl rfl ?_
  refine GoQ.call rfl (op_call body61 rfl (walk_enumerate_text hO.lt bh H)) (fun v w hr => by obtain ⟨_, _, hs, _, _⟩ := hr; assumption) rfl rfl ?_
  rintro v79 w76 ⟨r75, rfl, GW, HW, H⟩
  have nQ := Stp.same hO GW
  replace bu := bu.ch nQ.ch
  replace aa := aa.ch nQ.ch
  replace cz := cz.ch nQ.ch
  replace bW := bW.ch nQ.ch
  replace bO := bO.ch nQ.ch
  replace ab := ab.ch nQ.ch
  replace bv := bv.ch nQ.ch
  replace aQ := aQ.ch nQ.ch
  replace aG := aG.ch nQ.ch
  replace ac := ac.ch nQ.ch
  replace hO := nQ.own
  replace bB := bB.ch nQ.ch
  replace bC := bC.ch nQ.ch
  replace bh := bh.ch nQ.ch
  replace hB := hB.trans nQ.fr
  by_cases h81 : mhas m1_52 r75 = true
  ·replace H := ifp h81 H
   refine GoQ.stable rfl (olookT (a := r75) (MK.str Try.underlying9) 11 hO rfl Try.underlying69 rfl rfl h81) rfl rfl ?_
   refine GoQ.pure rfl (op_move rfl) rfl rfl ?_
   refine GoQ.pure rfl (op_extract rfl rfl) rfl rfl ?_
   refine GoQ.pure rfl (op_extract rfl rfl) rfl rfl ?_
   refine GoQ.pure rfl (op_assign rfl) rfl rfl ?_
   refine GoQ.pure rfl (op_assign rfl) rfl rfl ?_
   refine GoQ.nil ?_
   refine Go1.seq ?_
   refine Go1.cut [(0, .pointer (some ⟨dp, 0, none⟩)), (3, .int .i64 a0.Enum.Done), (4, .slice p2 a0.Enum.Gens.length a0.Enum.Gens.length), (5, .int .i64 (k1_12 : Int)), (7, .slice pV r66.length pW), (8, .int .i64 (mgt m1_52 r75)), (9, .bool true), (27, .slice al ak am), (28, .int .i64 (a0.Enum.Gens.length : Int)), (29, .int .i64 (k1_12 : Int))] ⟨rfl, rfl, rfl, rfl, rfl, rfl, rfl, rfl, rfl, rfl, trivial⟩ ?_
   intro σ _
   refine Go1.region ?_
   refine GoR.op ((op_move rfl) _) rfl rfl ?_
   refine GoR.op ((op_nilCheck rfl) _) rfl rfl ?_
   refine GoR.op ((op_fieldAddr Try.underlying72 rfl ti70 rfl (by decide)) _) rfl rfl ?_
   refine GoR.op ((oblk (i := 10) 1 hO rfl rfl Try.underlying70 rfl rfl) _ (Same.refl _)) rfl rfl ?_
   refine GoR.op ((op_move rfl) _) rfl rfl ?_
   obtain ⟨h82, H⟩ := H
   obtain ⟨h83, H⟩ := H
   refine GoR.op ((op_index Try.underlying70 ti9 rfl rfl h82 (ltn (aQ.neq hO 8 rfl) h83) (aQ.psome hO 8 rfl h82 h83)) _) rfl rfl ?_
   refine GoR.op ((oldStr 8 hO rfl aQ h82 h83 Try.underlying9 rfl rfl) _ (Same.refl _)) rfl rfl ?_
   have hle84 := Els.str_le aQ h82 h83
   refine GoR.op ((op_move rfl) _) rfl rfl ?_
   obtain ⟨h85, H⟩ := H
   refine GoR.op ((op_add rfl rfl (wrap_i64 h85)) _) rfl rfl ?_
   refine GoR.op ((op_conv Try.underlying3 Try.underlying21 rfl rfl) _) rfl rfl ?_
   obtain ⟨h86, H⟩ := H
   obtain ⟨h87, H⟩ := H
   refine GoR.op ((op_convRS Try.underlying21 Try.underlying9 rfl h86 h87) _) rfl rfl ?_
   obtain ⟨h88, H⟩ := H
   refine GoR.op ((op_addS rfl rfl h88) _) rfl rfl ?_
   refine GoR.op ((op_assign rfl) _) rfl rfl ?_
   refine GoR.nil ?_
   refine Go1.seq ?_
   refine Go1.block ?_
   refine Go1.seq ?_
   refine Go1.region ?_
   refine GoR.op ((op_move rfl) _) rfl rfl ?_
   refine GoR.op ((op_not rfl) _) rfl rfl ?_
   refine GoR.op ((op_move rfl) _) rfl rfl ?_
   refine GoR.pass rfl rfl ?_
   refine GoR.pass rfl rfl ?_
   refine GoR.pass rfl rfl ?_
   refine GoR.pass rfl rfl ?_
   refine GoR.pass rfl rfl ?_
   refine GoR.pass rfl rfl ?_
   refine GoR.pass rfl rfl ?_
   refine GoR.op ((op_pickF rfl rfl rfl) _) rfl rfl ?_
   refine GoR.op ((op_assign rfl) _) rfl rfl ?_
   refine GoR.nil ?_
   refine Go1.condF rfl rfl ?_
   refine Go1.seq ?_
   refine Go1.cut [(0, .pointer (some ⟨dp, 0, none⟩)), (3, .int .i64 a0.Enum.Done), (4, .slice p2 a0.Enum.Gens.length a0.Enum.Gens.length), (5, .int .i64 (k1_12 : Int)), (7, .slice pV r66.length pW), (8, .int .i64 (mgt m1_52 r75)), (9, .bool true), (10, .string (gstr ((ix d_40 a0.Enum.Done) ++ (chr (IntKind.i32.wrap ((97 : Int) + (k1_12 : Int))))))), (27, .slice al ak am), (28, .int .i64 (a0.Enum.Gens.length : Int)), (29, .int .i64 (k1_12 : Int))] ⟨rfl, rfl, rfl, rfl, rfl, rfl, rfl, rfl, rfl, rfl, rfl, trivial⟩ ?_
   intro σ _
   refine Go1.region ?_
   refine GoR.op ((op_move rfl) _) rfl rfl ?_
   refine GoR.op ((op_not rfl) _) rfl rfl ?_
   refine GoR.op ((op_assign rfl) _) rfl rfl ?_
   refine GoR.nil ?_
   refine Go1.condF rfl rfl ?_
   refine Go1.seq ?_
   refine Go1.region ?_
   refine GoR.op ((op_move rfl) _) rfl rfl ?_
   refine GoR.op ((op_nilCheck rfl) _) rfl rfl ?_
   refine GoR.op ((op_fieldAddr Try.underlying72 rfl ti70 rfl (by decide)) _) rfl rfl ?_
   refine GoR.op ((oblk (i := 10) 1 hO rfl rfl Try.underlying70 rfl rfl) _ (Same.refl _)) rfl rfl ?_
   refine GoR.op ((op_move rfl) _) rfl rfl ?_
   obtain ⟨h89, H⟩ := H
   obtain ⟨h90, H⟩ := H
   refine GoR.op ((op_index Try.underlying70 ti9 rfl rfl h89 (ltn (aQ.neq hO 8 rfl) h90) (aQ.psome hO 8 rfl h89 h90)) _) rfl rfl ?_
   refine GoR.op ((oldStr 8 hO rfl aQ h89 h90 Try.underlying9 rfl rfl) _ (Same.refl _)) rfl rfl ?_
   have hle91 := Els.str_le aQ h89 h90
   by_cases h92 : (ix d_40 a0.Enum.Done) = (([] : Str))
   ·replace H := ifp h92 H
    refine GoR.op ((fun w => opB (op_neqS rfl rfl w) (ndT h92)) _) rfl rfl ?_
    refine GoR.op ((op_move rfl) _) rfl rfl ?_
    refine GoR.pass rfl rfl ?_
    refine GoR.pass rfl rfl ?_
    refine GoR.pass rfl rfl ?_
    refine GoR.pass rfl rfl ?_
    refine GoR.pass rfl rfl ?_
    refine GoR.pass rfl rfl ?_
    refine GoR.pass rfl rfl ?_
    refine GoR.pass rfl rfl ?_
    refine GoR.pass rfl rfl ?_
    refine GoR.pass rfl rfl ?_
    refine GoR.op ((op_pickF rfl rfl rfl) _) rfl rfl ?_
    refine GoR.op ((op_assign rfl) _) rfl rfl ?_
    refine GoR.nil ?_
    refine Go1.condF rfl rfl ?_
    refine Go1.skip ?_
    refine Go1.inBlock ?_
    refine Go1.cut [(0, .pointer (some ⟨dp, 0, none⟩)), (3, .int .i64 a0.Enum.Done), (4, .slice p2 a0.Enum.Gens.length a0.Enum.Gens.length), (5, .int .i64 (k1_12 : Int)), (8, .int .i64 (mgt m1_52 r75)), (27, .slice al ak am), (28, .int .i64 (a0.Enum.Gens.length : Int)), (29, .int .i64 (k1_12 : Int))] ⟨rfl, rfl, rfl, rfl, rfl, rfl, rfl, rfl, trivial⟩ ?_
    intro σ _
    refine Go1.region ?_
    refine GoR.op ((op_move rfl) _) rfl rfl ?_
    refine GoR.op ((op_move rfl) _) rfl rfl ?_
    refine GoR.op ((op_move rfl) _) rfl rfl ?_
    obtain ⟨h93, H⟩ := H
    obtain ⟨h94, H⟩ := H
    refine GoR.op ((op_index Try.underlying26 ti3 rfl rfl h93 (ltn (bu.neq hO 0 rfl) h94) (bu.psome hO 0 rfl h93 h94)) _) rfl rfl ?_
    have hobt := ost (r := Rp.int .i64) rfl 0 hO rfl bu h93 h94 (v := .int .i64 (mgt m1_52 r75)) (u := (mgt m1_52 r75)) rfl rfl
    obtain ⟨w95, GX, fu, Bk, DW⟩ := hobt
    dsimp only [sS, sZ] at fu Bk
    refine GoR.op (DW Try.underlying3 rfl ti3 (by exact rfl) (by exact rfl)) rfl rfl ?_
    replace aa := aa.ch fu.ch
    replace cz := cz.ch fu.ch
    replace bW := bW.ch fu.ch
    replace bO := bO.ch fu.ch
    replace ab := ab.ch fu.ch
    replace bv := bv.ch fu.ch
    replace aQ := aQ.ch fu.ch
    replace aG := aG.ch fu.ch
    replace ac := ac.ch fu.ch
    replace hO := fu.own
    replace bB := bB.ch fu.ch
    replace bC := bC.ch fu.ch
    replace bh := bh.ch fu.ch
    replace hB := hB.trans fu.fr
    refine GoR.nil ?_
    refine Go1.inBlock ?_
    refine Go1.region ?_
    refine GoR.op ((op_add rfl rfl (wrap_i64 (natbd h53 aa.bd))) _) rfl rfl ?_
    refine GoR.op ((op_move rfl) _) rfl rfl ?_
    refine GoR.nil ?_
    exact hX1 _ H _ _ ⟨GX, n21, p19, c20, lk, n27, p25, c26, l7, n33, p31, c32, l8, n39, p37, c38, l9, n45, p43, c44, dH, n51, p49, c50, dI, ⟨rfl, rfl, rfl, rfl, rfl, rfl, trivial⟩, hO, Bk, aa, cz, bW, bO, ab, bv, aQ, aG, ac, hB⟩
   replace H := ifn h92 H
   refine GoR.op ((fun w => opB (op_neqS rfl rfl w) (ndF h92)) _) rfl rfl ?_
   refine GoR.op ((op_move rfl) _) rfl rfl ?_
   refine GoR.op ((op_move rfl) _) rfl rfl ?_
   refine GoR.op ((op_move rfl) _) rfl rfl ?_
   refine GoR.op ((op_nilCheck rfl) _) rfl rfl ?_
   refine GoR.op ((op_fieldAddr Try.underlying72 rfl ti26 rfl (by decide)) _) rfl rfl ?_
   refine GoR.op ((oblk (i := 11) 1 hO rfl rfl Try.underlying26 rfl rfl) _ (Same.refl _)) rfl rfl ?_
   refine GoR.op ((op_move rfl) _) rfl rfl ?_
   obtain ⟨yU, H⟩ := H
   obtain ⟨yV, H⟩ := H
   refine GoR.op ((op_index Try.underlying26 ti3 rfl rfl yU (ltn (aG.neq hO 9 rfl) yV) (aG.psome hO 9 rfl yU yV)) _) rfl rfl ?_
   refine GoR.op ((oldInt 9 hO rfl aG yU yV Try.underlying3 rfl rfl) _ (Same.refl _)) rfl rfl ?_
   refine GoR.op ((op_move rfl) _) rfl rfl ?_
   refine GoR.inl (vs := [.pointer (some ⟨dp, 0, none⟩), .int .i64 (ix d_46 a0.Enum.Done), .int .i64 (k1_12 : Int)]) (caps := []) rfl rfl body67 Try.func67 rfl Try.ntmps67 rfl rfl rfl ?_
   intro RhR102 hR102
   refine Go1.seq ?_
   refine Go1.region ?_
   refine GoR.op ((op_assign rfl) _) rfl rfl ?_
   refine GoR.nil ?_
   refine Go1.seq ?_
   refine Go1.cut [(0, .pointer (some ⟨dp, 0, none⟩)), (1, .int .i64 (ix d_46 a0.Enum.Done)), (2, .int .i64 (k1_12 : Int))] ⟨rfl, rfl, rfl, trivial⟩ ?_
   intro σ _
   refine Go1.region ?_
   refine GoR.op ((op_move rfl) _) rfl rfl ?_
   refine GoR.op ((op_move rfl) _) rfl rfl ?_
   refine GoR.op ((op_move rfl) _) rfl rfl ?_
   refine GoR.inl (vs := [.pointer (some ⟨dp, 0, none⟩), .int .i64 (ix d_46 a0.Enum.Done), .int .i64 (k1_12 : Int)]) (caps := []) rfl rfl body66 Try.func66 rfl Try.ntmps66 rfl rfl rfl ?_
   intro RhR103 hR103
   refine Go1.seq ?_
   refine Go1.region ?_
   refine GoR.op ((op_assign rfl) _) rfl rfl ?_
   refine GoR.nil ?_
   refine Go1.seq ?_
   refine Go1.seq ?_
   refine Go1.region ?_
   refine GoR.op ((op_move rfl) _) rfl rfl ?_
   by_cases xN : (ix d_46 a0.Enum.Done) = (-1 : Int)
   ·replace H := ifp xN H
    refine GoR.op ((fun w => opB (op_eql rfl rfl w) (decide_eq_true xN)) _) rfl rfl ?_
    refine GoR.nil ?_
    refine Go1.condT rfl rfl ?_
    refine Go1.seq ?_
    refine Go1.region ?_
    refine GoR.op ((op_move rfl) _) rfl rfl ?_
    refine GoR.op ((op_nilCheck rfl) _) rfl rfl ?_
    refine GoR.op ((op_fieldAddr Try.underlying72 rfl ti26 rfl (by decide)) _) rfl rfl ?_
    refine GoR.op ((oblk (i := 12) 1 hO rfl rfl Try.underlying26 rfl rfl) _ (Same.refl _)) rfl rfl ?_
    refine GoR.op ((op_move rfl) _) rfl rfl ?_
    obtain ⟨yW, H⟩ := H
    obtain ⟨yX, H⟩ := H
    refine GoR.op ((op_index Try.underlying26 ti3 rfl rfl yW (ltn (ac.neq hO 10 rfl) yX) (ac.psome hO 10 rfl yW yX)) _) rfl rfl ?_
    refine GoR.op ((oldInt 10 hO rfl ac yW yX Try.underlying3 rfl rfl) _ (Same.refl _)) rfl rfl ?_
    refine GoR.op ((op_assign rfl) _) rfl rfl ?_
    refine GoR.nil ?_
    refine Go1.ret1V Try.func66 rfl (show _ = .int .i64 (ix a0.single (k1_12 : Int)) from rfl) ?_
    refine hR103 _ _ ?_
    refine GoR.op ((op_assign rfl) _) rfl rfl ?_
    refine GoR.nil ?_
    refine Go1.seq ?_
    refine Go1.region ?_
    refine GoR.op ((op_move rfl) _) rfl rfl ?_
    refine GoR.op ((op_nilCheck rfl) _) rfl rfl ?_
    refine GoR.op ((op_fieldAddr Try.underlying72 rfl ti29 rfl (by decide)) _) rfl rfl ?_
    refine GoR.op ((op_fieldAddr Try.underlying29 rfl ti26 rfl (by decide)) _) rfl rfl ?_
    refine GoR.op ((oblk (i := 4) 1 hO rfl rfl Try.underlying26 rfl rfl) _ (Same.refl _)) rfl rfl ?_
    refine GoR.op ((op_move rfl) _) rfl rfl ?_
    obtain ⟨tZ, H⟩ := H
    obtain ⟨yY, H⟩ := H
    refine GoR.op ((op_index Try.underlying26 ti3 rfl rfl tZ (ltn (bW.neq hO 4 rfl) yY) (bW.psome hO 4 rfl tZ yY)) _) rfl rfl ?_
    refine GoR.op ((oldInt 4 hO rfl bW tZ yY Try.underlying3 rfl rfl) _ (Same.refl _)) rfl rfl ?_
    refine GoR.op ((op_move rfl) _) rfl rfl ?_
    by_cases xO : (ix d_22 (ix a0.single (k1_12 : Int))) = (ix d_46 a0.Enum.Done)
    ·replace H := ifp xO H
     refine GoR.op ((fun w => opB (op_eql rfl rfl w) (decide_eq_true xO)) _) rfl rfl ?_
     refine GoR.op ((op_move rfl) _) rfl rfl ?_
     refine GoR.op ((op_move rfl) _) rfl rfl ?_
     refine GoR.op ((op_nilCheck rfl) _) rfl rfl ?_
     refine GoR.op ((op_fieldAddr Try.underlying72 rfl ti29 rfl (by decide)) _) rfl rfl ?_
     refine GoR.op ((op_fieldAddr Try.underlying29 rfl ti26 rfl (by decide)) _) rfl rfl ?_
     refine GoR.op ((oblk (i := 5) 1 hO rfl rfl Try.underlying26 rfl rfl) _ (Same.refl _)) rfl rfl ?_
     refine GoR.op ((op_move rfl) _) rfl rfl ?_
     obtain ⟨sX, H⟩ := H
     obtain ⟨t0, H⟩ := H
     refine GoR.op ((op_index Try.underlying26 ti3 rfl rfl sX (ltn (bO.neq hO 5 rfl) t0) (bO.psome hO 5 rfl sX t0)) _) rfl rfl ?_
     refine GoR.op ((oldInt 5 hO rfl bO sX t0 Try.underlying3 rfl rfl) _ (Same.refl _)) rfl rfl ?_
     refine GoR.op ((op_move rfl) _) rfl rfl ?_
     by_cases tA : (ix d_28 (ix a0.single (k1_12 : Int))) = (k1_12 : Int)
     ·replace H := ifp tA H
      refine GoR.op ((fun w => opB (op_eql rfl rfl w) (decide_eq_true tA)) _) rfl rfl ?_
      refine GoR.op ((op_pickT rfl rfl rfl) _) rfl rfl ?_
      refine GoR.op ((op_assign rfl) _) rfl rfl ?_
      refine GoR.nil ?_
      refine Go1.ret1V Try.func67 rfl (show _ = .bool true from rfl) ?_
      refine hR102 _ _ ?_
      refine GoR.op ((op_pickT rfl rfl rfl) _) rfl rfl ?_
      refine GoR.op ((op_assign rfl) _) rfl rfl ?_
      refine GoR.nil ?_
      refine Go1.condT rfl rfl ?_
      refine Go1.cut [(0, .pointer (some ⟨dp, 0, none⟩)), (3, .int .i64 a0.Enum.Done), (4, .slice p2 a0.Enum.Gens.length a0.Enum.Gens.length), (5, .int .i64 (k1_12 : Int)), (8, .int .i64 (mgt m1_52 r75)), (10, .string (gstr ((ix d_40 a0.Enum.Done) ++ (chr (IntKind.i32.wrap ((97 : Int) + (k1_12 : Int))))))), (27, .slice al ak am), (28, .int .i64 (a0.Enum.Gens.length : Int)), (29, .int .i64 (k1_12 : Int))] ⟨rfl, rfl, rfl, rfl, rfl, rfl, rfl, rfl, rfl, trivial⟩ ?_
      intro σ _
      refine Go1.drawS 5 [(0, .pure), (1, .pure), (2, .pure), (3, .pure), (4, .pure), (5, .stable), (6, .pure), (7, .pure), (8, .pure), (9, .pure), (10, .stable), (11, .pure), (12, .pure), (13, .stable), (14, .pure), (15, .loud), (16, .last), (17, .pure), (18, .pure), (19, .pure), (20, .last)] mixed (by kernel_rfl) ?_
      intro Kl DX
      have ma := Stp.same hO DX
      replace bu := bu.ch ma.ch
      replace aa := aa.ch ma.ch
      replace cz := cz.ch ma.ch
      replace bW := bW.ch ma.ch
      replace bO := bO.ch ma.ch
      replace ab := ab.ch ma.ch
      replace bv := bv.ch ma.ch
      replace aQ := aQ.ch ma.ch
      replace aG := aG.ch ma.ch
      replace ac := ac.ch ma.ch
      replace hO := ma.own
      replace bB := bB.ch ma.ch
      replace bC := bC.ch ma.ch
      replace bh := bh.ch ma.ch
      replace hB := hB.trans ma.fr
      refine GoQ.pure rfl (op_move rfl) rfl rfl ?_
      refine GoQ.pure rfl (op_move rfl) rfl rfl ?_
      refine GoQ.pure rfl (op_nilCheck rfl) rfl rfl ?_
      refine GoQ.pure rfl (op_fieldAddr Try.underlying72 rfl ti29 rfl (by decide)) rfl rfl ?_
      refine GoQ.pure rfl (op_fieldAddr Try.underlying29 rfl ti27 rfl (by decide)) rfl rfl ?_
      refine GoQ.stable rfl (oblk (i := 7) 1 hO rfl rfl Try.underlying27 rfl rfl) rfl rfl ?_
      refine GoQ.pure rfl (op_move rfl) rfl rfl ?_
      refine GoQ.pure rfl (op_move rfl) rfl rfl ?_
      refine GoQ.pure rfl (op_nilCheck rfl) rfl rfl ?_
      refine GoQ.pure rfl (op_fieldAddr Try.underlying72 rfl ti70 rfl (by decide)) rfl rfl ?_
      refine GoQ.stable rfl (oblk (i := 10) 1 hO rfl rfl Try.underlying70 rfl rfl) rfl rfl ?_
      refine GoQ.pure rfl (op_move rfl) rfl rfl ?_
      obtain ⟨tB, H⟩ := H
      obtain ⟨xP, H⟩ := H
      refine GoQ.pure rfl (op_index Try.underlying70 ti9 rfl rfl tB (ltn (aQ.neq hO 8 rfl) xP) (aQ.psome hO 8 rfl tB xP)) rfl rfl ?_
      refine GoQ.stable rfl (oldStr 8 hO rfl aQ tB xP Try.underlying9 rfl rfl) rfl rfl ?_
      have hle118 := Els.str_le aQ tB xP
      refine GoQ.pure rfl (op_build Try.underlying39 ti39 (pl := [(0, 1), (1, 1)]) (vs := [(0, .string (gstr ((ix d_40 a0.Enum.Done) ++ (chr (IntKind.i32.wrap ((97 : Int) + (k1_12 : Int))))))), (1, .string (gstr (ix d_40 (mgt m1_52 r75))))]) (cs := #[.string (gstr ((ix d_40 a0.Enum.Done) ++ (chr (IntKind.i32.wrap ((97 : Int) + (k1_12 : Int)))))), .string (gstr (ix d_40 (mgt m1_52 r75)))]) (by kernel_rfl) rfl (by kernel_rfl)) rfl rfl ?_
      have hobt := obuildN (r := rpRule) (n := 1) (parts := [(0, .agg #[.string (gstr ((ix d_40 a0.Enum.Done) ++ (chr (IntKind.i32.wrap ((97 : Int) + (k1_12 : Int)))))), .string (gstr (ix d_40 (mgt m1_52 r75)))])]) (vs := [.string (gstr ((ix d_40 a0.Enum.Done) ++ (chr (IntKind.i32.wrap ((97 : Int) + (k1_12 : Int)))))), .string (gstr (ix d_40 (mgt m1_52 r75)))]) (xs := [(⟨(ix d_40 a0.Enum.Done) ++ (chr (IntKind.i32.wrap ((97 : Int) + (k1_12 : Int)))), ix d_40 (mgt m1_52 r75)⟩ : Rule)]) Try.underlying27 ti39 hO (by decide) (by decide) (by kernel_rfl) (Els.flat1 (⟨(ix d_40 a0.Enum.Done) ++ (chr (IntKind.i32.wrap ((97 : Int) + (k1_12 : Int)))), ix d_40 (mgt m1_52 r75)⟩ : Rule) ⟨(lenApp h88), hle118⟩) rfl
      obtain ⟨Km, hZ, gD, DY, DZ, Bl⟩ := hobt
      refine GoQ.loud rfl (Bl rfl) DZ rfl rfl ?_
      replace bu := bu.ch gD.ch
      replace aa := aa.ch gD.ch
      replace cz := cz.ch gD.ch
      replace bW := bW.ch gD.ch
      replace bO := bO.ch gD.ch
      replace ab := ab.ch gD.ch
      replace bv := bv.ch gD.ch
      replace aQ := aQ.ch gD.ch
      replace aG := aG.ch gD.ch
      replace ac := ac.ch gD.ch
      replace hO := gD.own
      replace bB := bB.ch gD.ch
      replace bC := bC.ch gD.ch
      replace bh := bh.ch gD.ch
      replace hB := hB.trans gD.fr
      have hobt := freeze 0 hO rfl DY
      obtain ⟨hO1, pk, sL, D0⟩ := hobt
      dsimp only [eS, eZ] at hO1 pk sL
      replace bB := bB.ch pk
      replace bC := bC.ch pk
      replace bh := bh.ch pk
      replace bu := bu.ch pk
      replace aa := aa.ch pk
      replace cz := cz.ch pk
      replace bW := bW.ch pk
      replace bO := bO.ch pk
      replace ab := ab.ch pk
      replace bv := bv.ch pk
      replace aQ := aQ.ch pk
      replace aG := aG.ch pk
      replace ac := ac.ch pk
      replace hB := hB.trans (Owns.dropFr _ _ 0)
      dsimp only [eS, eZ] at hB
      replace hO := hO1; clear hO1
      obtain ⟨GY, H⟩ := H
      have hobt := oapp Try.underlying27 ti39 rfl 7 hO rfl bv sL D0 GY (by decide)
      obtain ⟨GZ, yZ, y3, D1, ly, ui, Bm⟩ := hobt
      dsimp only [sS, sZ] at ly ui
      refine GoQ.last rfl (Bm (by exact rfl) (by exact rfl)) rfl rfl ?_
      replace bu := bu.ch ly.ch
      replace aa := aa.ch ly.ch
      replace cz := cz.ch ly.ch
      replace bW := bW.ch ly.ch
      replace bO := bO.ch ly.ch
      replace ab := ab.ch ly.ch
      replace aQ := aQ.ch ly.ch
      replace aG := aG.ch ly.ch
      replace ac := ac.ch ly.ch
      replace hO := ly.own
      replace bB := bB.ch ly.ch
      replace bC := bC.ch ly.ch
      replace bh := bh.ch ly.ch
      replace sL := sL.ch ly.ch
      replace hB := hB.trans ly.fr
      refine GoQ.pure rfl (op_nilCheck rfl) rfl rfl ?_
      refine GoQ.pure rfl (op_fieldAddr Try.underlying72 rfl ti29 rfl (by decide)) rfl rfl ?_
      refine GoQ.pure rfl (op_fieldAddr Try.underlying29 rfl ti27 rfl (by decide)) rfl rfl ?_
      have hobt := oblkSt2 (v := .slice yZ (n39 + 1) y3) (i := 7) (cs' := #[.int .i64 a0.Enum.Points, .bool a0.Enum.Monoid, .slice al ak am, .slice p19 n21 c20, .slice p25 n27 c26, .slice p31 n33 c32, .slice ax aq ay, .slice yZ (n39 + 1) y3, .int .i64 a0.Enum.Done, .map (some az), .slice p43 n45 c44, .slice p49 n51 c50, .slice bf bc bg]) 1 hO rfl rfl rfl rfl
      obtain ⟨Kn, kr, wM⟩ := hobt
      dsimp only [sS, sZ] at kr
      refine GoQ.last rfl (wM Try.underlying27 rfl ti27 (by exact rfl) (by exact rfl)) rfl rfl ?_
      replace bu := bu.ch kr.ch
      replace aa := aa.ch kr.ch
      replace cz := cz.ch kr.ch
      replace bW := bW.ch kr.ch
      replace bO := bO.ch kr.ch
      replace ab := ab.ch kr.ch
      replace ui := ui.ch kr.ch
      replace aQ := aQ.ch kr.ch
      replace aG := aG.ch kr.ch
      replace ac := ac.ch kr.ch
      replace hO := kr.own
      replace bB := bB.ch kr.ch
      replace bC := bC.ch kr.ch
      replace bh := bh.ch kr.ch
      replace sL := sL.ch kr.ch
      replace hB := hB.trans kr.fr
      refine GoQ.nil ?_
      refine Go1.inBlock ?_
      refine Go1.cut [(0, .pointer (some ⟨dp, 0, none⟩)), (3, .int .i64 a0.Enum.Done), (4, .slice p2 a0.Enum.Gens.length a0.Enum.Gens.length), (5, .int .i64 (k1_12 : Int)), (8, .int .i64 (mgt m1_52 r75)), (27, .slice al ak am), (28, .int .i64 (a0.Enum.Gens.length : Int)), (29, .int .i64 (k1_12 : Int))] ⟨rfl, rfl, rfl, rfl, rfl, rfl, rfl, rfl, trivial⟩ ?_
      intro σ _
      refine Go1.region ?_
      refine GoR.op ((op_move rfl) _) rfl rfl ?_
      refine GoR.op ((op_move rfl) _) rfl rfl ?_
      refine GoR.op ((op_move rfl) _) rfl rfl ?_
      obtain ⟨y4, H⟩ := H
      obtain ⟨y5, H⟩ := H
      refine GoR.op ((op_index Try.underlying26 ti3 rfl rfl y4 (ltn (bu.neq hO 0 rfl) y5) (bu.psome hO 0 rfl y4 y5)) _) rfl rfl ?_
      have hobt := ost (r := Rp.int .i64) rfl 0 hO rfl bu y4 y5 (v := .int .i64 (mgt m1_52 r75)) (u := (mgt m1_52 r75)) rfl rfl
      obtain ⟨Ko, D2, lz, zL, Bn⟩ := hobt
      dsimp only [sS, sZ] at lz zL
      refine GoR.op (Bn Try.underlying3 rfl ti3 (by exact rfl) (by exact rfl)) rfl rfl ?_
      replace aa := aa.ch lz.ch
      replace cz := cz.ch lz.ch
      replace bW := bW.ch lz.ch
      replace bO := bO.ch lz.ch
      replace ab := ab.ch lz.ch
      replace ui := ui.ch lz.ch
      replace aQ := aQ.ch lz.ch
      replace aG := aG.ch lz.ch
      replace ac := ac.ch lz.ch
      replace hO := lz.own
      replace bB := bB.ch lz.ch
      replace bC := bC.ch lz.ch
      replace bh := bh.ch lz.ch
      replace sL := sL.ch lz.ch
      replace hB := hB.trans lz.fr
      refine GoR.nil ?_
      refine Go1.inBlock ?_
      refine Go1.region ?_
      refine GoR.op ((op_add rfl rfl (wrap_i64 (natbd h53 aa.bd))) _) rfl rfl ?_
      refine GoR.op ((op_move rfl) _) rfl rfl ?_
      refine GoR.nil ?_
      exact hX1 _ H _ _ ⟨D2, n21, p19, c20, lk, n27, p25, c26, l7, n33, p31, c32, l8, n39 + 1, yZ, y3, D1, n45, p43, c44, dH, n51, p49, c50, dI, ⟨rfl, rfl, rfl, rfl, rfl, rfl, trivial⟩, hO, zL, aa, cz, bW, bO, ab, ui, aQ, aG, ac, hB⟩
     replace H := ifn tA H
     refine GoR.op ((fun w => opB (op_eql rfl rfl w) (decide_eq_false tA)) _) rfl rfl ?_
     refine GoR.op ((op_pickT rfl rfl rfl) _) rfl rfl ?_
     refine GoR.op ((op_assign rfl) _) rfl rfl ?_
     refine GoR.nil ?_
     refine Go1.ret1V Try.func67 rfl (show _ = .bool false from rfl) ?_
     refine hR102 _ _ ?_
     refine GoR.op ((op_pickT rfl rfl rfl) _) rfl rfl ?_
     refine GoR.op ((op_assign rfl) _) rfl rfl ?_
     refine GoR.nil ?_
     refine Go1.condF rfl rfl ?_
     refine Go1.skip ?_
     refine Go1.inBlock ?_
     refine Go1.region ?_
     refine GoR.op ((op_move rfl) _) rfl rfl ?_
     refine GoR.op ((op_move rfl) _) rfl rfl ?_
     refine GoR.op ((op_move rfl) _) rfl rfl ?_
     obtain ⟨y6, H⟩ := H
     obtain ⟨y7, H⟩ := H
     refine GoR.op ((op_index Try.underlying26 ti3 rfl rfl y6 (ltn (bu.neq hO 0 rfl) y7) (bu.psome hO 0 rfl y6 y7)) _) rfl rfl ?_
     have hobt := ost (r := Rp.int .i64) rfl 0 hO rfl bu y6 y7 (v := .int .i64 (mgt m1_52 r75)) (u := (mgt m1_52 r75)) rfl rfl
     obtain ⟨Kq, D3, mb, zM, Bo⟩ := hobt
     dsimp only [sS, sZ] at mb zM
     refine GoR.op (Bo Try.underlying3 rfl ti3 (by exact rfl) (by exact rfl)) rfl rfl ?_
     replace aa := aa.ch mb.ch
     replace cz := cz.ch mb.ch
     replace bW := bW.ch mb.ch
     replace bO := bO.ch mb.ch
     replace ab := ab.ch mb.ch
     replace bv := bv.ch mb.ch
     replace aQ := aQ.ch mb.ch
     replace aG := aG.ch mb.ch
     replace ac := ac.ch mb.ch
     replace hO := mb.own
     replace bB := bB.ch mb.ch
     replace bC := bC.ch mb.ch
     replace bh := bh.ch mb.ch
     replace hB := hB.trans mb.fr
     refine GoR.nil ?_
     refine Go1.inBlock ?_
     refine Go1.region ?_
     refine GoR.op ((op_add rfl rfl (wrap_i64 (natbd h53 aa.bd))) _) rfl rfl ?_
     refine GoR.op ((op_move rfl) _) rfl rfl ?_
     refine GoR.nil ?_
     exact hX1 _ H _ _ ⟨D3, n21, p19, c20, lk, n27, p25, c26, l7, n33, p31, c32, l8, n39, p37, c38, l9, n45, p43, c44, dH, n51, p49, c50, dI, ⟨rfl, rfl, rfl, rfl, rfl, rfl, trivial⟩, hO, zM, aa, cz, bW, bO, ab, bv, aQ, aG, ac, hB⟩
    replace H := ifn xO H
    refine GoR.op ((fun w => opB (op_eql rfl rfl w) (decide_eq_false xO)) _) rfl rfl ?_
    refine GoR.op ((op_move rfl) _) rfl rfl ?_
    refine GoR.pass rfl rfl ?_
    refine GoR.pass rfl rfl ?_
    refine GoR.pass rfl rfl ?_
    refine GoR.pass rfl rfl ?_
    refine GoR.pass rfl rfl ?_
    refine GoR.pass rfl rfl ?_
    refine GoR.pass rfl rfl ?_
    refine GoR.pass rfl rfl ?_
    refine GoR.pass rfl rfl ?_
    refine GoR.pass rfl rfl ?_
    refine GoR.op ((op_pickF rfl rfl rfl) _) rfl rfl ?_
    refine GoR.op ((op_assign rfl) _) rfl rfl ?_
    refine GoR.nil ?_
    refine Go1.ret1V Try.func67 rfl (show _ = .bool false from rfl) ?_
    refine hR102 _ _ ?_
    refine GoR.op ((op_pickT rfl rfl rfl) _) rfl rfl ?_
    refine GoR.op ((op_assign rfl) _) rfl rfl ?_
    refine GoR.nil ?_
    refine Go1.condF rfl rfl ?_
    refine Go1.skip ?_
    refine Go1.inBlock ?_
    refine Go1.cut [(0, .pointer (some ⟨dp, 0, none⟩)), (3, .int .i64 a0.Enum.Done), (4, .slice p2 a0.Enum.Gens.length a0.Enum.Gens.length), (5, .int .i64 (k1_12 : Int)), (8, .int .i64 (mgt m1_52 r75)), (27, .slice al ak am), (28, .int .i64 (a0.Enum.Gens.length : Int)), (29, .int .i64 (k1_12 : Int))] ⟨rfl, rfl, rfl, rfl, rfl, rfl, rfl, rfl, trivial⟩ ?_
    intro σ _
    refine Go1.region ?_
    refine GoR.op ((op_move rfl) _) rfl rfl ?_
    refine GoR.op ((op_move rfl) _) rfl rfl ?_
    refine GoR.op ((op_move rfl) _) rfl rfl ?_
    obtain ⟨uH, H⟩ := H
    obtain ⟨uI, H⟩ := H
    refine GoR.op ((op_index Try.underlying26 ti3 rfl rfl uH (ltn (bu.neq hO 0 rfl) uI) (bu.psome hO 0 rfl uH uI)) _) rfl rfl ?_
    have hobt := ost (r := Rp.int .i64) rfl 0 hO rfl bu uH uI (v := .int .i64 (mgt m1_52 r75)) (u := (mgt m1_52 r75)) rfl rfl
    obtain ⟨Kr, D4, mc, zN, Bp⟩ := hobt
    dsimp only [sS, sZ] at mc zN
    refine GoR.op (Bp Try.underlying3 rfl ti3 (by exact rfl) (by exact rfl)) rfl rfl ?_
    replace aa := aa.ch mc.ch
    replace cz := cz.ch mc.ch
    replace bW := bW.ch mc.ch
    replace bO := bO.ch mc.ch
    replace ab := ab.ch mc.ch
    replace bv := bv.ch mc.ch
    replace aQ := aQ.ch mc.ch
    replace aG := aG.ch mc.ch
    replace ac := ac.ch mc.ch
    replace hO := mc.own
    replace bB := bB.ch mc.ch
    replace bC := bC.ch mc.ch
    replace bh := bh.ch mc.ch
    replace hB := hB.trans mc.fr
    refine GoR.nil ?_
    refine Go1.inBlock ?_
    refine Go1.region ?_
    refine GoR.op ((op_add rfl rfl (wrap_i64 (natbd h53 aa.bd))) _) rfl rfl ?_
    refine GoR.op ((op_move rfl) _) rfl rfl ?_
    refine GoR.nil ?_
    exact hX1 _ H _ _ ⟨D4, n21, p19, c20, lk, n27, p25, c26, l7, n33, p31, c32, l8, n39, p37, c38, l9, n45, p43, c44, dH, n51, p49, c50, dI, ⟨rfl, rfl, rfl, rfl, rfl, rfl, trivial⟩, hO, zN, aa, cz, bW, bO, ab, bv, aQ, aG, ac, hB⟩
   replace H := ifn xN H
   refine GoR.op ((fun w => opB (op_eql rfl rfl w) (decide_eq_false xN)) _) rfl rfl ?_
   refine GoR.nil ?_
   refine Go1.condF rfl rfl ?_
   refine Go1.skip ?_
   refine Go1.seq ?_
   refine Go1.region ?_
   refine GoR.op ((op_move rfl) _) rfl rfl ?_
   refine GoR.op ((op_nilCheck rfl) _) rfl rfl ?_
   refine GoR.op ((op_fieldAddr Try.underlying72 rfl ti29 rfl (by decide)) _) rfl rfl ?_
   refine GoR.op ((op_fieldAddr Try.underlying29 rfl ti22 rfl (by decide)) _) rfl rfl ?_
   refine GoR.op ((oblk (i := 6) 1 hO rfl rfl Try.underlying22 rfl rfl) _ (Same.refl _)) rfl rfl ?_
   refine GoR.op ((op_move rfl) _) rfl rfl ?_
   obtain ⟨wD, H⟩ := H
   obtain ⟨wE, H⟩ := H
   refine GoR.op ((op_index Try.underlying22 ti26 rfl rfl wD (ltn (ab.neq hO 6 rfl) wE) (ab.psome hO 6 rfl wD wE)) _) rfl rfl ?_
   have hobt := oldSl 6 hO rfl ab wD wE
   obtain ⟨Ks, Kt, ml, D5⟩ := hobt
   refine GoR.op ((D5 Try.underlying26 rfl rfl) _ (Same.refl _)) rfl rfl ?_
   refine GoR.op ((op_move rfl) _) rfl rfl ?_
   obtain ⟨y8, H⟩ := H
   obtain ⟨y9, H⟩ := H
   refine GoR.op ((op_index Try.underlying26 ti3 rfl rfl y8 y9 (ml.some_ y8 y9)) _) rfl rfl ?_
   refine GoR.op ((ldInt ml y8 y9 Try.underlying3 rfl rfl) _ (Same.refl _)) rfl rfl ?_
   refine GoR.op ((op_assign rfl) _) rfl rfl ?_
   refine GoR.nil ?_
   refine Go1.ret1V Try.func66 rfl (show _ = .int .i64 (ix (ix a0.Enum.Right (ix d_46 a0.Enum.Done)) (k1_12 : Int)) from rfl) ?_
   refine hR103 _ _ ?_
   refine GoR.op ((op_assign rfl) _) rfl rfl ?_
   refine GoR.nil ?_
   refine Go1.seq ?_
   refine Go1.cut [(0, .pointer (some ⟨dp, 0, none⟩)), (1, .int .i64 (ix d_46 a0.Enum.Done)), (2, .int .i64 (k1_12 : Int)), (7, .int .i64 (ix (ix a0.Enum.Right (ix d_46 a0.Enum.Done)) (k1_12 : Int)))] ⟨rfl, rfl, rfl, rfl, trivial⟩ ?_
   intro σ _
   refine Go1.region ?_
   refine GoR.op ((op_move rfl) _) rfl rfl ?_
   refine GoR.op ((op_nilCheck rfl) _) rfl rfl ?_
   refine GoR.op ((op_fieldAddr Try.underlying72 rfl ti29 rfl (by decide)) _) rfl rfl ?_
   refine GoR.op ((op_fieldAddr Try.underlying29 rfl ti26 rfl (by decide)) _) rfl rfl ?_
   refine GoR.op ((oblk (i := 4) 1 hO rfl rfl Try.underlying26 rfl rfl) _ (Same.refl _)) rfl rfl ?_
   refine GoR.op ((op_move rfl) _) rfl rfl ?_
   obtain ⟨za, H⟩ := H
   obtain ⟨zb, H⟩ := H
   refine GoR.op ((op_index Try.underlying26 ti3 rfl rfl za (ltn (bW.neq hO 4 rfl) zb) (bW.psome hO 4 rfl za zb)) _) rfl rfl ?_
   refine GoR.op ((oldInt 4 hO rfl bW za zb Try.underlying3 rfl rfl) _ (Same.refl _)) rfl rfl ?_
   refine GoR.op ((op_move rfl) _) rfl rfl ?_
   by_cases xQ : (ix d_22 (ix (ix a0.Enum.Right (ix d_46 a0.Enum.Done)) (k1_12 : Int))) = (ix d_46 a0.Enum.Done)
   ·replace H := ifp xQ H
    refine GoR.op ((fun w => opB (op_eql rfl rfl w) (decide_eq_true xQ)) _) rfl rfl ?_
    refine GoR.op ((op_move rfl) _) rfl rfl ?_
    refine GoR.op ((op_move rfl) _) rfl rfl ?_
    refine GoR.op ((op_nilCheck rfl) _) rfl rfl ?_
    refine GoR.op ((op_fieldAddr Try.underlying72 rfl ti29 rfl (by decide)) _) rfl rfl ?_
    refine GoR.op ((op_fieldAddr Try.underlying29 rfl ti26 rfl (by decide)) _) rfl rfl ?_
    refine GoR.op ((oblk (i := 5) 1 hO rfl rfl Try.underlying26 rfl rfl) _ (Same.refl _)) rfl rfl ?_
    refine GoR.op ((op_move rfl) _) rfl rfl ?_
    obtain ⟨tN, H⟩ := H
    obtain ⟨zc, H⟩ := H
    refine GoR.op ((op_index Try.underlying26 ti3 rfl rfl tN (ltn (bO.neq hO 5 rfl) zc) (bO.psome hO 5 rfl tN zc)) _) rfl rfl ?_
    refine GoR.op ((oldInt 5 hO rfl bO tN zc Try.underlying3 rfl rfl) _ (Same.refl _)) rfl rfl ?_
    refine GoR.op ((op_move rfl) _) rfl rfl ?_
    by_cases xR : (ix d_28 (ix (ix a0.Enum.Right (ix d_46 a0.Enum.Done)) (k1_12 : Int))) = (k1_12 : Int)
    ·replace H := ifp xR H
     refine GoR.op ((fun w => opB (op_eql rfl rfl w) (decide_eq_true xR)) _) rfl rfl ?_
     refine GoR.op ((op_pickT rfl rfl rfl) _) rfl rfl ?_
     refine GoR.op ((op_assign rfl) _) rfl rfl ?_
     refine GoR.nil ?_
     refine Go1.ret1V Try.func67 rfl (show _ = .bool true from rfl) ?_
     refine hR102 _ _ ?_
     refine GoR.op ((op_pickT rfl rfl rfl) _) rfl rfl ?_
     refine GoR.op ((op_assign rfl) _) rfl rfl ?_
     refine GoR.nil ?_
     refine Go1.condT rfl rfl ?_
     refine Go1.cut [(0, .pointer (some ⟨dp, 0, none⟩)), (3, .int .i64 a0.Enum.Done), (4, .slice p2 a0.Enum.Gens.length a0.Enum.Gens.length), (5, .int .i64 (k1_12 : Int)), (8, .int .i64 (mgt m1_52 r75)), (10, .string (gstr ((ix d_40 a0.Enum.Done) ++ (chr (IntKind.i32.wrap ((97 : Int) + (k1_12 : Int))))))), (27, .slice al ak am), (28, .int .i64 (a0.Enum.Gens.length : Int)), (29, .int .i64 (k1_12 : Int))] ⟨rfl, rfl, rfl, rfl, rfl, rfl, rfl, rfl, rfl, trivial⟩ ?_
     intro σ _
     refine Go1.drawS 5 [(0, .pure), (1, .pure), (2, .pure), (3, .pure), (4, .pure), (5, .stable), (6, .pure), (7, .pure), (8, .pure), (9, .pure), (10, .stable), (11, .pure), (12, .pure), (13, .stable), (14, .pure), (15, .loud), (16, .last), (17, .pure), (18, .pure), (19, .pure), (20, .last)] mixed (by kernel_rfl) ?_
     intro Ku D6
     have lA := Stp.same hO D6
     replace bu := bu.ch lA.ch
     replace aa := aa.ch lA.ch
     replace cz := cz.ch lA.ch
     replace bW := bW.ch lA.ch
     replace bO := bO.ch lA.ch
     replace ab := ab.ch lA.ch
     replace bv := bv.ch lA.ch
     replace aQ := aQ.ch lA.ch
     replace aG := aG.ch lA.ch
     replace ac := ac.ch lA.ch
     replace hO := lA.own
     replace bB := bB.ch lA.ch
     replace bC := bC.ch lA.ch
     replace bh := bh.ch lA.ch
     replace ml := ml.ch lA.ch
     replace hB := hB.trans lA.fr
     refine GoQ.pure rfl (op_move rfl) rfl rfl ?_
     refine GoQ.pure rfl (op_move rfl) rfl rfl ?_
     refine GoQ.pure rfl (op_nilCheck rfl) rfl rfl ?_
     refine GoQ.pure rfl (op_fieldAddr Try.underlying72 rfl ti29 rfl (by decide)) rfl rfl ?_
     refine GoQ.pure rfl (op_fieldAddr Try.underlying29 rfl ti27 rfl (by decide)) rfl rfl ?_
     refine GoQ.stable rfl (oblk (i := 7) 1 hO rfl rfl Try.underlying27 rfl rfl) rfl rfl ?_
     refine GoQ.pure rfl (op_move rfl) rfl rfl ?_
     refine GoQ.pure rfl (op_move rfl) rfl rfl ?_
     refine GoQ.pure rfl (op_nilCheck rfl) rfl rfl ?_
     refine GoQ.pure rfl (op_fieldAddr Try.underlying72 rfl ti70 rfl (by decide)) rfl rfl ?_
     refine GoQ.stable rfl (oblk (i := 10) 1 hO rfl rfl Try.underlying70 rfl rfl) rfl rfl ?_
     refine GoQ.pure rfl (op_move rfl) rfl rfl ?_
     obtain ⟨xS, H⟩ := H
     obtain ⟨xT, H⟩ := H
     refine GoQ.pure rfl (op_index Try.underlying70 ti9 rfl rfl xS (ltn (aQ.neq hO 8 rfl) xT) (aQ.psome hO 8 rfl xS xT)) rfl rfl ?_
     refine GoQ.stable rfl (oldStr 8 hO rfl aQ xS xT Try.underlying9 rfl rfl) rfl rfl ?_
     have hle181 := Els.str_le aQ xS xT
     refine GoQ.pure rfl (op_build Try.underlying39 ti39 (pl := [(0, 1), (1, 1)]) (vs := [(0, .string (gstr ((ix d_40 a0.Enum.Done) ++ (chr (IntKind.i32.wrap ((97 : Int) + (k1_12 : Int))))))), (1, .string (gstr (ix d_40 (mgt m1_52 r75))))]) (cs := #[.string (gstr ((ix d_40 a0.Enum.Done) ++ (chr (IntKind.i32.wrap ((97 : Int) + (k1_12 : Int)))))), .string (gstr (ix d_40 (mgt m1_52 r75)))]) (by kernel_rfl) rfl (by kernel_rfl)) rfl rfl ?_
     have hobt := obuildN (r := rpRule) (n := 1) (parts := [(0, .agg #[.string (gstr ((ix d_40 a0.Enum.Done) ++ (chr (IntKind.i32.wrap ((97 : Int) + (k1_12 : Int)))))), .string (gstr (ix d_40 (mgt m1_52 r75)))])]) (vs := [.string (gstr ((ix d_40 a0.Enum.Done) ++ (chr (IntKind.i32.wrap ((97 : Int) + (k1_12 : Int)))))), .string (gstr (ix d_40 (mgt m1_52 r75)))]) (xs := [(⟨(ix d_40 a0.Enum.Done) ++ (chr (IntKind.i32.wrap ((97 : Int) + (k1_12 : Int)))), ix d_40 (mgt m1_52 r75)⟩ : Rule)]) Try.underlying27 ti39 hO (by decide) (by decide) (by kernel_rfl) (Els.flat1 (⟨(ix d_40 a0.Enum.Done) ++ (chr (IntKind.i32.wrap ((97 : Int) + (k1_12 : Int)))), ix d_40 (mgt m1_52 r75)⟩ : Rule) ⟨(lenApp h88), hle181⟩) rfl
     obtain ⟨Kv, Kw, lB, D7, xU, Bq⟩ := hobt
     refine GoQ.loud rfl (Bq rfl) xU rfl rfl ?_
     replace bu := bu.ch lB.ch
     replace aa := aa.ch lB.ch
     replace cz := cz.ch lB.ch
     replace bW := bW.ch lB.ch
     replace bO := bO.ch lB.ch
     replace ab := ab.ch lB.ch
     replace bv := bv.ch lB.ch
     replace aQ := aQ.ch lB.ch
     replace aG := aG.ch lB.ch
     replace ac := ac.ch lB.ch
     replace hO := lB.own
     replace bB := bB.ch lB.ch
     replace bC := bC.ch lB.ch
     replace bh := bh.ch lB.ch
     replace ml := ml.ch lB.ch
     replace hB := hB.trans lB.fr
     have hobt := freeze 0 hO rfl D7
     obtain ⟨hO1, nS, sM, D8⟩ := hobt
     dsimp only [eS, eZ] at hO1 nS sM
     replace bB := bB.ch nS
     replace bC := bC.ch nS
     replace bh := bh.ch nS
     replace ml := ml.ch nS
     replace bu := bu.ch nS
     replace aa := aa.ch nS
     replace cz := cz.ch nS
     replace bW := bW.ch nS
     replace bO := bO.ch nS
     replace ab := ab.ch nS
     replace bv := bv.ch nS
     replace aQ := aQ.ch nS
     replace aG := aG.ch nS
     replace ac := ac.ch nS
     replace hB := hB.trans (Owns.dropFr _ _ 0)
     dsimp only [eS, eZ] at hB
     replace hO := hO1; clear hO1
     obtain ⟨G0, H⟩ := H
     have hobt := oapp Try.underlying27 ti39 rfl 7 hO rfl bv sM D8 G0 (by decide)
     obtain ⟨Kx, zd, zf, D9, ks, uj, Br⟩ := hobt
     dsimp only [sS, sZ] at ks uj
     refine GoQ.last rfl (Br (by exact rfl) (by exact rfl)) rfl rfl ?_
     replace bu := bu.ch ks.ch
     replace aa := aa.ch ks.ch
     replace cz := cz.ch ks.ch
     replace bW := bW.ch ks.ch
     replace bO := bO.ch ks.ch
     replace ab := ab.ch ks.ch
     replace aQ := aQ.ch ks.ch
     replace aG := aG.ch ks.ch
     replace ac := ac.ch ks.ch
     replace hO := ks.own
     replace bB := bB.ch ks.ch
     replace bC := bC.ch ks.ch
     replace bh := bh.ch ks.ch
     replace ml := ml.ch ks.ch
     replace sM := sM.ch ks.ch
     replace hB := hB.trans ks.fr
     refine GoQ.pure rfl (op_nilCheck rfl) rfl rfl ?_
     refine GoQ.pure rfl (op_fieldAddr Try.underlying72 rfl ti29 rfl (by decide)) rfl rfl ?_
     refine GoQ.pure rfl (op_fieldAddr Try.underlying29 rfl ti27 rfl (by decide)) rfl rfl ?_
     have hobt := oblkSt2 (v := .slice zd (n39 + 1) zf) (i := 7) (cs' := #[.int .i64 a0.Enum.Points, .bool a0.Enum.Monoid, .slice al ak am, .slice p19 n21 c20, .slice p25 n27 c26, .slice p31 n33 c32, .slice ax aq ay, .slice zd (n39 + 1) zf, .int .i64 a0.Enum.Done, .map (some az), .slice p43 n45 c44, .slice p49 n51 c50, .slice bf bc bg]) 1 hO rfl rfl rfl rfl
     obtain ⟨Ky, jV, Bs⟩ := hobt
     dsimp only [sS, sZ] at jV
     refine GoQ.last rfl (Bs Try.underlying27 rfl ti27 (by exact rfl) (by exact rfl)) rfl rfl ?_
     replace bu := bu.ch jV.ch
     replace aa := aa.ch jV.ch
     replace cz := cz.ch jV.ch
     replace bW := bW.ch jV.ch
     replace bO := bO.ch jV.ch
     replace ab := ab.ch jV.ch
     replace uj := uj.ch jV.ch
     replace aQ := aQ.ch jV.ch
     replace aG := aG.ch jV.ch
     replace ac := ac.ch jV.ch
     replace hO := jV.own
     replace bB := bB.ch jV.ch
     replace bC := bC.ch jV.ch
     replace bh := bh.ch jV.ch
     replace ml := ml.ch jV.ch
     replace sM := sM.ch jV.ch
     replace hB := hB.trans jV.fr
     refine GoQ.nil ?_
     refine Go1.inBlock ?_
     refine Go1.cut [(0, .pointer (some ⟨dp, 0, none⟩)), (3, .int .i64 a0.Enum.Done), (4, .slice p2 a0.Enum.Gens.length a0.Enum.Gens.length), (5, .int .i64 (k1_12 : Int)), (8, .int .i64 (mgt m1_52 r75)), (27, .slice al ak am), (28, .int .i64 (a0.Enum.Gens.length : Int)), (29, .int .i64 (k1_12 : Int))] ⟨rfl, rfl, rfl, rfl, rfl, rfl, rfl, rfl, trivial⟩ ?_
     intro σ _
     refine Go1.region ?_
     refine GoR.op ((op_move rfl) _) rfl rfl ?_
     refine GoR.op ((op_move rfl) _) rfl rfl ?_
     refine GoR.op ((op_move rfl) _) rfl rfl ?_
     obtain ⟨zg, H⟩ := H
     obtain ⟨zh, H⟩ := H
     refine GoR.op ((op_index Try.underlying26 ti3 rfl rfl zg (ltn (bu.neq hO 0 rfl) zh) (bu.psome hO 0 rfl zg zh)) _) rfl rfl ?_
     have hobt := ost (r := Rp.int .i64) rfl 0 hO rfl bu zg zh (v := .int .i64 (mgt m1_52 r75)) (u := (mgt m1_52 r75)) rfl rfl
     obtain ⟨Kz, fv, kt, zO, Bt⟩ := hobt
     dsimp only [sS, sZ] at kt zO
     refine GoR.op (Bt Try.underlying3 rfl ti3 (by exact rfl) (by exact rfl)) rfl rfl ?_
     replace aa := aa.ch kt.ch
     replace cz := cz.ch kt.ch
     replace bW := bW.ch kt.ch
     replace bO := bO.ch kt.ch
     replace ab := ab.ch kt.ch
     replace uj := uj.ch kt.ch
     replace aQ := aQ.ch kt.ch
     replace aG := aG.ch kt.ch
     replace ac := ac.ch kt.ch
     replace hO := kt.own
     replace bB := bB.ch kt.ch
     replace bC := bC.ch kt.ch
     replace bh := bh.ch kt.ch
     replace ml := ml.ch kt.ch
     replace sM := sM.ch kt.ch
     replace hB := hB.trans kt.fr
     refine GoR.nil ?_
     refine Go1.inBlock ?_
     refine Go1.region ?_
     refine GoR.op ((op_add rfl rfl (wrap_i64 (natbd h53 aa.bd))) _) rfl rfl ?_
     refine GoR.op ((op_move rfl) _) rfl rfl ?_
     refine GoR.nil ?_
     exact hX1 _ H _ _ ⟨fv, n21, p19, c20, lk, n27, p25, c26, l7, n33, p31, c32, l8, n39 + 1, zd, zf, D9, n45, p43, c44, dH, n51, p49, c50, dI, ⟨rfl, rfl, rfl, rfl, rfl, rfl, trivial⟩, hO, zO, aa, cz, bW, bO, ab, uj, aQ, aG, ac, hB⟩
    replace H := ifn xR H
    refine GoR.op ((fun w => opB (op_eql rfl rfl w) (decide_eq_false xR)) _) rfl rfl ?_
    refine GoR.op ((op_pickT rfl rfl rfl) _) rfl rfl ?_
    refine GoR.op ((op_assign rfl) _) rfl rfl ?_
    refine GoR.nil ?_
    refine Go1.ret1V Try.func67 rfl (show _ = .bool false from rfl) ?_
    refine hR102 _ _ ?_
    refine GoR.op ((op_pickT rfl rfl rfl) _) rfl rfl ?_
    refine GoR.op ((op_assign rfl) _) rfl rfl ?_
    refine GoR.nil ?_
    refine Go1.condF rfl rfl ?_
    refine Go1.skip ?_
    refine Go1.inBlock ?_
    refine Go1.region ?_
    refine GoR.op ((op_move rfl) _) rfl rfl ?_
    refine GoR.op ((op_move rfl) _) rfl rfl ?_
    refine GoR.op ((op_move rfl) _) rfl rfl ?_
    obtain ⟨zi, H⟩ := H
    obtain ⟨wF, H⟩ := H
    refine GoR.op ((op_index Try.underlying26 ti3 rfl rfl zi (ltn (bu.neq hO 0 rfl) wF) (bu.psome hO 0 rfl zi wF)) _) rfl rfl ?_
    have hobt := ost (r := Rp.int .i64) rfl 0 hO rfl bu zi wF (v := .int .i64 (mgt m1_52 r75)) (u := (mgt m1_52 r75)) rfl rfl
    obtain ⟨Gf, Ea, lC, zP, Bu⟩ := hobt
    dsimp only [sS, sZ] at lC zP
    refine GoR.op (Bu Try.underlying3 rfl ti3 (by exact rfl) (by exact rfl)) rfl rfl ?_
    replace aa := aa.ch lC.ch
    replace cz := cz.ch lC.ch
    replace bW := bW.ch lC.ch
    replace bO := bO.ch lC.ch
    replace ab := ab.ch lC.ch
    replace bv := bv.ch lC.ch
    replace aQ := aQ.ch lC.ch
    replace aG := aG.ch lC.ch
    replace ac := ac.ch lC.ch
    replace hO := lC.own
    replace bB := bB.ch lC.ch
    replace bC := bC.ch lC.ch
    replace bh := bh.ch lC.ch
    replace ml := ml.ch lC.ch
    replace hB := hB.trans lC.fr
    refine GoR.nil ?_
    refine Go1.inBlock ?_
    refine Go1.region ?_
    refine GoR.op ((op_add rfl rfl (wrap_i64 (natbd h53 aa.bd))) _) rfl rfl ?_
    refine GoR.op ((op_move rfl) _) rfl rfl ?_
    refine GoR.nil ?_
    exact hX1 _ H _ _ ⟨Ea, n21, p19, c20, lk, n27, p25, c26, l7, n33, p31, c32, l8, n39, p37, c38, l9, n45, p43, c44, dH, n51, p49, c50, dI, ⟨rfl, rfl, rfl, rfl, rfl, rfl, trivial⟩, hO, zP, aa, cz, bW, bO, ab, bv, aQ, aG, ac, hB⟩
   replace H := ifn xQ H
   refine GoR.op ((fun w => opB (op_eql rfl rfl w) (decide_eq_false xQ)) _) rfl rfl ?_
   refine GoR.op ((op_move rfl) _) rfl rfl ?_
   refine GoR.pass rfl rfl ?_
   refine GoR.pass rfl rfl ?_
   refine GoR.pass rfl rfl ?_
   refine GoR.pass rfl rfl ?_
   refine GoR.pass rfl rfl ?_
   refine GoR.pass rfl rfl ?_
   refine GoR.pass rfl rfl ?_
   refine GoR.pass rfl rfl ?_
   refine GoR.pass rfl rfl ?_
   refine GoR.pass rfl rfl ?_
   refine GoR.op ((op_pickF rfl rfl rfl) _) rfl rfl ?_
   refine GoR.op ((op_assign rfl) _) rfl rfl ?_
   refine GoR.nil ?_
   refine Go1.ret1V Try.func67 rfl (show _ = .bool false from rfl) ?_
   refine hR102 _ _ ?_
   refine GoR.op ((op_pickT rfl rfl rfl) _) rfl rfl ?_
   refine GoR.op ((op_assign rfl) _) rfl rfl ?_
   refine GoR.nil ?_
   refine Go1.condF rfl rfl ?_
   refine Go1.skip ?_
   refine Go1.inBlock ?_
   refine Go1.cut [(0, .pointer (some ⟨dp, 0, none⟩)), (3, .int .i64 a0.Enum.Done), (4, .slice p2 a0.Enum.Gens.length a0.Enum.Gens.length), (5, .int .i64 (k1_12 : Int)), (8, .int .i64 (mgt m1_52 r75)), (27, .slice al ak am), (28, .int .i64 (a0.Enum.Gens.length : Int)), (29, .int .i64 (k1_12 : Int))] ⟨rfl, rfl, rfl, rfl, rfl, rfl, rfl, rfl, trivial⟩ ?_
   intro σ _
   refine Go1.region ?_
   refine GoR.op ((op_move rfl) _) rfl rfl ?_
   refine GoR.op ((op_move rfl) _) rfl rfl ?_
   refine GoR.op ((op_move rfl) _) rfl rfl ?_
   obtain ⟨zj, H⟩ := H
   obtain ⟨zk, H⟩ := H
   refine GoR.op ((op_index Try.underlying26 ti3 rfl rfl zj (ltn (bu.neq hO 0 rfl) zk) (bu.psome hO 0 rfl zj zk)) _) rfl rfl ?_
   have hobt := ost (r := Rp.int .i64) rfl 0 hO rfl bu zj zk (v := .int .i64 (mgt m1_52 r75)) (u := (mgt m1_52 r75)) rfl rfl
   obtain ⟨KA, Eb, eO, zQ, Bv⟩ := hobt
   dsimp only [sS, sZ] at eO zQ
   refine GoR.op (Bv Try.underlying3 rfl ti3 (by exact rfl) (by exact rfl)) rfl rfl ?_
   replace aa := aa.ch eO.ch
   replace cz := cz.ch eO.ch
   replace bW := bW.ch eO.ch
   replace bO := bO.ch eO.ch
   replace ab := ab.ch eO.ch
   replace bv := bv.ch eO.ch
   replace aQ := aQ.ch eO.ch
   replace aG := aG.ch eO.ch
   replace ac := ac.ch eO.ch
   replace hO := eO.own
   replace bB := bB.ch eO.ch
   replace bC := bC.ch eO.ch
   replace bh := bh.ch eO.ch
   replace ml := ml.ch eO.ch
   replace hB := hB.trans eO.fr
   refine GoR.nil ?_
   refine Go1.inBlock ?_
   refine Go1.region ?_
   refine GoR.op ((op_add rfl rfl (wrap_i64 (natbd h53 aa.bd))) _) rfl rfl ?_
   refine GoR.op ((op_move rfl) _) rfl rfl ?_
   refine GoR.nil ?_
   exact hX1 _ H _ _ ⟨Eb, n21, p19, c20, lk, n27, p25, c26, l7, n33, p31, c32, l8, n39, p37, c38, l9, n45, p43, c44, dH, n51, p49, c50, dI, ⟨rfl, rfl, rfl, rfl, rfl, rfl, trivial⟩, hO, zQ, aa, cz, bW, bO, ab, bv, aQ, aG, ac, hB⟩
  replace H := ifn h81 H
  refine GoQ.stable rfl (olookF (a := r75) (MK.str Try.underlying9) 11 hO rfl Try.underlying69 ti3 rfl rfl h81) rfl rfl ?_
  refine GoQ.pure rfl (op_move rfl) rfl rfl ?_
  refine GoQ.pure rfl (op_extract rfl rfl) rfl rfl ?_
  refine GoQ.pure rfl (op_extract rfl rfl) rfl rfl ?_
  refine GoQ.pure rfl (op_assign rfl) rfl rfl ?_
  refine GoQ.pure rfl (op_assign rfl) rfl rfl ?_
  refine GoQ.nil ?_
  refine Go1.seq ?_
  refine Go1.region ?_
  refine GoR.op ((op_move rfl) _) rfl rfl ?_
  refine GoR.op ((op_nilCheck rfl) _) rfl rfl ?_
  refine GoR.op ((op_fieldAddr Try.underlying72 rfl ti70 rfl (by decide)) _) rfl rfl ?_
  refine GoR.op ((oblk (i := 10) 1 hO rfl rfl Try.underlying70 rfl rfl) _ (Same.refl _)) rfl rfl ?_
  refine GoR.op ((op_move rfl) _) rfl rfl ?_
  obtain ⟨xV, H⟩ := H
  obtain ⟨xW, H⟩ := H
  refine GoR.op ((op_index Try.underlying70 ti9 rfl rfl xV (ltn (aQ.neq hO 8 rfl) xW) (aQ.psome hO 8 rfl xV xW)) _) rfl rfl ?_
  refine GoR.op ((oldStr 8 hO rfl aQ xV xW Try.underlying9 rfl rfl) _ (Same.refl _)) rfl rfl ?_
  have hle227 := Els.str_le aQ xV xW
  refine GoR.op ((op_move rfl) _) rfl rfl ?_
  obtain ⟨G1, H⟩ := H
  refine GoR.op ((op_add rfl rfl (wrap_i64 G1)) _) rfl rfl ?_
  refine GoR.op ((op_conv Try.underlying3 Try.underlying21 rfl rfl) _) rfl rfl ?_
  obtain ⟨G3, H⟩ := H
  obtain ⟨G4, H⟩ := H
  refine GoR.op ((op_convRS Try.underlying21 Try.underlying9 rfl G3 G4) _) rfl rfl ?_
  obtain ⟨zl, H⟩ := H
  refine GoR.op ((op_addS rfl rfl zl) _) rfl rfl ?_
  refine GoR.op ((op_assign rfl) _) rfl rfl ?_
  refine GoR.nil ?_
  refine Go1.seq ?_
  refine Go1.block ?_
  refine Go1.seq ?_
  refine Go1.cut [(0, .pointer (some ⟨dp, 0, none⟩)), (3, .int .i64 a0.Enum.Done), (4, .slice p2 a0.Enum.Gens.length a0.Enum.Gens.length), (5, .int .i64 (k1_12 : Int)), (7, .slice pV r66.length pW), (8, .int .i64 (0 : Int)), (9, .bool false), (10, .string (gstr ((ix d_40 a0.Enum.Done) ++ (chr (IntKind.i32.wrap ((97 : Int) + (k1_12 : Int))))))), (27, .slice al ak am), (28, .int .i64 (a0.Enum.Gens.length : Int)), (29, .int .i64 (k1_12 : Int))] ⟨rfl, rfl, rfl, rfl, rfl, rfl, rfl, rfl, rfl, rfl, rfl, trivial⟩ ?_
  intro σ _
  refine Go1.region ?_
  refine GoR.op ((op_move rfl) _) rfl rfl ?_
  refine GoR.op ((op_not rfl) _) rfl rfl ?_
  refine GoR.op ((op_move rfl) _) rfl rfl ?_
  refine GoR.op ((op_move rfl) _) rfl rfl ?_
  refine GoR.op ((op_nilCheck rfl) _) rfl rfl ?_
  refine GoR.op ((op_fieldAddr Try.underlying72 rfl ti29 rfl (by decide)) _) rfl rfl ?_
  refine GoR.op ((op_fieldAddr Try.underlying29 rfl ti22 rfl (by decide)) _) rfl rfl ?_
  refine GoR.op ((oblk (i := 3) 1 hO rfl rfl Try.underlying22 rfl rfl) _ (Same.refl _)) rfl rfl ?_
  refine GoR.op ((op_lenN Try.underlying22 rfl (cz.neq hO 3 rfl)) _) rfl rfl ?_
  by_cases xX : (d_16.length : Int) = (2000 : Int)
  ·replace H := ifp xX H
   refine GoR.op ((fun w => opB (op_eql rfl rfl w) (decide_eq_true xX)) _) rfl rfl ?_
   refine GoR.op ((op_pickT rfl rfl rfl) _) rfl rfl ?_
   refine GoR.op ((op_assign rfl) _) rfl rfl ?_
   refine GoR.nil ?_
   refine Go1.condT rfl rfl ?_
   refine Go1.seq ?_
   refine Go1.region ?_
   refine GoR.op ((op_assign rfl) _) rfl rfl ?_
   refine GoR.nil ?_
   replace bB := bB.ch (Owns.dropCh _ _ 0)
   replace bC := bC.ch (Owns.dropCh _ _ 0)
   replace bh := bh.ch (Owns.dropCh _ _ 0)
   replace aa := aa.ch (Owns.dropCh _ _ 0)
   replace cz := cz.ch (Owns.dropCh _ _ 0)
   replace bW := bW.ch (Owns.dropCh _ _ 0)
   replace bO := bO.ch (Owns.dropCh _ _ 0)
   replace ab := ab.ch (Owns.dropCh _ _ 0)
   replace bv := bv.ch (Owns.dropCh _ _ 0)
   replace aQ := aQ.ch (Owns.dropCh _ _ 0)
   replace aG := aG.ch (Owns.dropCh _ _ 0)
   replace ac := ac.ch (Owns.dropCh _ _ 0)
   replace hB := hB.trans (Owns.dropFr _ _ 0)
   replace hO := hO.drop 0
   dsimp only [eS, eZ] at hB hO bB bC bh aa cz bW bO ab bv aQ aG ac
   refine Go1.ret1 Try.func51 rfl ?_
   exact ⟨((3 : Int)), (⟨(⟨a0.Enum.Points, a0.Enum.Monoid, a0.Enum.Gens, d_16, d_22, d_28, a0.Enum.Right, d_34, a0.Enum.Done⟩ : Enum), m1_52, d_40, d_46, a0.single⟩ : run), ak, al, am, bZ, n21, p19, c20, lk, n27, p25, c26, l7, n33, p31, c32, l8, aq, ax, ay, bV, n39, p37, c38, l9, n45, p43, c44, dH, n51, p49, c50, dI, bc, bf, bg, cE, rfl, hO, aa, cz, bW, bO, ab, bv, aQ, aG, ac, hB, H⟩
  replace H := ifn xX H
  refine GoR.op ((fun w => opB (op_eql rfl rfl w) (decide_eq_false xX)) _) rfl rfl ?_
  refine GoR.op ((op_pickT rfl rfl rfl) _) rfl rfl ?_
  refine GoR.op ((op_assign rfl) _) rfl rfl ?_
  refine GoR.nil ?_
  refine Go1.condF rfl rfl ?_
  refine Go1.seq ?_
  refine Go1.region ?_
  refine GoR.op ((op_move rfl) _) rfl rfl ?_
  refine GoR.op ((op_not rfl) _) rfl rfl ?_
  refine GoR.op ((op_assign rfl) _) rfl rfl ?_
  refine GoR.nil ?_
  refine Go1.condT rfl rfl ?_
  refine Go1.region ?_
  refine GoR.op ((op_move rfl) _) rfl rfl ?_
  refine GoR.op ((op_move rfl) _) rfl rfl ?_
  refine GoR.op ((op_move rfl) _) rfl rfl ?_
  refine GoR.op ((op_move rfl) _) rfl rfl ?_
  refine GoR.op ((op_move rfl) _) rfl rfl ?_
  refine GoR.op ((op_move rfl) _) rfl rfl ?_
  refine GoR.op ((op_move rfl) _) rfl rfl ?_
  refine GoR.op ((op_nilCheck rfl) _) rfl rfl ?_
  refine GoR.op ((op_fieldAddr Try.underlying72 rfl ti26 rfl (by decide)) _) rfl rfl ?_
  refine GoR.op ((oblk (i := 11) 1 hO rfl rfl Try.underlying26 rfl rfl) _ (Same.refl _)) rfl rfl ?_
  refine GoR.op ((op_move rfl) _) rfl rfl ?_
  obtain ⟨zm, H⟩ := H
  obtain ⟨zn, H⟩ := H
  refine GoR.op ((op_index Try.underlying26 ti3 rfl rfl zm (ltn (aG.neq hO 9 rfl) zn) (aG.psome hO 9 rfl zm zn)) _) rfl rfl ?_
  refine GoR.op ((oldInt 9 hO rfl aG zm zn Try.underlying3 rfl rfl) _ (Same.refl _)) rfl rfl ?_
  refine GoR.op ((op_move rfl) _) rfl rfl ?_
  refine GoR.inl (vs := [.pointer (some ⟨dp, 0, none⟩), .int .i64 (ix d_46 a0.Enum.Done), .int .i64 (k1_12 : Int)]) (caps := []) rfl rfl body66 Try.func66 rfl Try.ntmps66 rfl rfl rfl ?_
  intro RhR235 hR235
  refine Go1.seq ?_
  refine Go1.cut [(0, .pointer (some ⟨dp, 0, none⟩)), (1, .int .i64 (ix d_46 a0.Enum.Done)), (2, .int .i64 (k1_12 : Int))] ⟨rfl, rfl, rfl, trivial⟩ ?_
  intro σ _
  refine Go1.region ?_
  refine GoR.op ((op_assign rfl) _) rfl rfl ?_
  refine GoR.nil ?_
  refine Go1.seq ?_
  refine Go1.seq ?_
  refine Go1.region ?_
  refine GoR.op ((op_move rfl) _) rfl rfl ?_
  by_cases xY : (ix d_46 a0.Enum.Done) = (-1 : Int)
  ·replace H := ifp xY H
   refine GoR.op ((fun w => opB (op_eql rfl rfl w) (decide_eq_true xY)) _) rfl rfl ?_
   refine GoR.nil ?_
   refine Go1.condT rfl rfl ?_
   refine Go1.seq ?_
   refine Go1.region ?_
   refine GoR.op ((op_move rfl) _) rfl rfl ?_
   refine GoR.op ((op_nilCheck rfl) _) rfl rfl ?_
   refine GoR.op ((op_fieldAddr Try.underlying72 rfl ti26 rfl (by decide)) _) rfl rfl ?_
   refine GoR.op ((oblk (i := 12) 1 hO rfl rfl Try.underlying26 rfl rfl) _ (Same.refl _)) rfl rfl ?_
   refine GoR.op ((op_move rfl) _) rfl rfl ?_
   obtain ⟨zo, H⟩ := H
   obtain ⟨zp, H⟩ := H
   refine GoR.op ((op_index Try.underlying26 ti3 rfl rfl zo (ltn (ac.neq hO 10 rfl) zp) (ac.psome hO 10 rfl zo zp)) _) rfl rfl ?_
   refine GoR.op ((oldInt 10 hO rfl ac zo zp Try.underlying3 rfl rfl) _ (Same.refl _)) rfl rfl ?_
   refine GoR.op ((op_assign rfl) _) rfl rfl ?_
   refine GoR.nil ?_
   refine Go1.ret1V Try.func66 rfl (show _ = .int .i64 (ix a0.single (k1_12 : Int)) from rfl) ?_
   refine hR235 _ _ ?_
   refine GoR.inl (vs := [.pointer (some ⟨dp, 0, none⟩), .slice pV r66.length pW, .int .i64 a0.Enum.Done, .int .i64 (k1_12 : Int), .string (gstr ((ix d_40 a0.Enum.Done) ++ (chr (IntKind.i32.wrap ((97 : Int) + (k1_12 : Int)))))), .int .i64 (ix a0.single (k1_12 : Int))]) (caps := []) rfl rfl body65 Try.func65 rfl Try.ntmps65 rfl rfl rfl ?_
   intro RhR239 hR239
   refine Go1.seq ?_
   refine Go1.region ?_
   refine GoR.op ((op_assign rfl) _) rfl rfl ?_
   refine GoR.nil ?_
   refine Go1.seq ?_
   refine Go1.region ?_
   refine GoR.op ((op_move rfl) _) rfl rfl ?_
   refine GoR.op ((op_nilCheck rfl) _) rfl rfl ?_
   refine GoR.op ((op_fieldAddr Try.underlying72 rfl ti29 rfl (by decide)) _) rfl rfl ?_
   refine GoR.op ((op_fieldAddr Try.underlying29 rfl ti22 rfl (by decide)) _) rfl rfl ?_
   refine GoR.op ((oblk (i := 3) 1 hO rfl rfl Try.underlying22 rfl rfl) _ (Same.refl _)) rfl rfl ?_
   refine GoR.op ((op_lenN Try.underlying22 rfl (cz.neq hO 3 rfl)) _) rfl rfl ?_
   refine GoR.op ((op_assign rfl) _) rfl rfl ?_
   refine GoR.nil ?_
   refine Go1.seq ?_
   refine Go1.cut [(0, .pointer (some ⟨dp, 0, none⟩)), (1, .slice pV r66.length pW), (2, .int .i64 a0.Enum.Done), (3, .int .i64 (k1_12 : Int)), (4, .string (gstr ((ix d_40 a0.Enum.Done) ++ (chr (IntKind.i32.wrap ((97 : Int) + (k1_12 : Int))))))), (5, .int .i64 (ix a0.single (k1_12 : Int))), (13, .int .i64 (d_16.length : Int))] ⟨rfl, rfl, rfl, rfl, rfl, rfl, rfl, trivial⟩ ?_
   intro σ _
   refine Go1.drawS 1 [(0, .pure), (1, .pure), (2, .pure), (3, .stable), (4, .pure), (6, .pure), (5, .loud), (7, .last)] mixed (by kernel_rfl) ?_
   intro Gg xx
   have me := Stp.same hO xx
   replace bu := bu.ch me.ch
   replace aa := aa.ch me.ch
   replace cz := cz.ch me.ch
   replace bW := bW.ch me.ch
   replace bO := bO.ch me.ch
   replace ab := ab.ch me.ch
   replace bv := bv.ch me.ch
   replace aQ := aQ.ch me.ch
   replace aG := aG.ch me.ch
   replace ac := ac.ch me.ch
   replace hO := me.own
   replace bB := bB.ch me.ch
   replace bC := bC.ch me.ch
   replace bh := bh.ch me.ch
   replace hB := hB.trans me.fr
   refine GoQ.pure rfl (op_move rfl) rfl rfl ?_
   refine GoQ.pure rfl (op_nilCheck rfl) rfl rfl ?_
   refine GoQ.pure rfl (op_fieldAddr Try.underlying72 rfl ti69 rfl (by decide)) rfl rfl ?_
   refine GoQ.stable rfl (oblk (i := 9) 1 hO rfl rfl Try.underlying69 rfl rfl) rfl rfl ?_
   refine GoQ.pure rfl (op_move rfl) rfl rfl ?_
   refine GoQ.pure rfl (op_move rfl) rfl rfl ?_
   refine GoQ.call rfl (op_call body61 rfl (walk_enumerate_text hO.lt bh H)) (fun v w hr => by obtain ⟨_, _, hs, _, _⟩ := hr; assumption) rfl rfl ?_
   rintro KB KC ⟨r243, rfl, Ec, HT, H⟩
   have mf := Stp.same hO Ec
   replace bu := bu.ch mf.ch
   replace aa := aa.ch mf.ch
   replace cz := cz.ch mf.ch
   replace bW := bW.ch mf.ch
   replace bO := bO.ch mf.ch
   replace ab := ab.ch mf.ch
   replace bv := bv.ch mf.ch
   replace aQ := aQ.ch mf.ch
   replace aG := aG.ch mf.ch
   replace ac := ac.ch mf.ch
   replace hO := mf.own
   replace bB := bB.ch mf.ch
   replace bC := bC.ch mf.ch
   replace bh := bh.ch mf.ch
   replace hB := hB.trans mf.fr
   have hobt := omapUpd (MK.str Try.underlying9) 11 hO rfl Try.underlying69 r243 (d_16.length : Int)
   obtain ⟨KD, lD, Bw⟩ := hobt
   dsimp only [sS, sZ] at lD
   refine GoQ.last rfl (Bw (by exact rfl) (by exact rfl) (by exact rfl)) rfl rfl ?_
   replace bu := bu.ch lD.ch
   replace aa := aa.ch lD.ch
   replace cz := cz.ch lD.ch
   replace bW := bW.ch lD.ch
   replace bO := bO.ch lD.ch
   replace ab := ab.ch lD.ch
   replace bv := bv.ch lD.ch
   replace aQ := aQ.ch lD.ch
   replace aG := aG.ch lD.ch
   replace ac := ac.ch lD.ch
   replace hO := lD.own
   replace bB := bB.ch lD.ch
   replace bC := bC.ch lD.ch
   replace bh := bh.ch lD.ch
   replace hB := hB.trans lD.fr
   refine GoQ.nil ?_
   refine Go1.seq ?_
   refine Go1.region ?_
   refine GoR.op ((op_move rfl) _) rfl rfl ?_
   refine GoR.op ((op_move rfl) _) rfl rfl ?_
   refine GoR.op ((op_nilCheck rfl) _) rfl rfl ?_
   refine GoR.op ((op_fieldAddr Try.underlying72 rfl ti29 rfl (by decide)) _) rfl rfl ?_
   refine GoR.op ((op_fieldAddr Try.underlying29 rfl ti22 rfl (by decide)) _) rfl rfl ?_
   refine GoR.op ((oblk (i := 3) 1 hO rfl rfl Try.underlying22 rfl rfl) _ (Same.refl _)) rfl rfl ?_
   refine GoR.op ((op_move rfl) _) rfl rfl ?_
   have hobt := obuild (r := Rp.sl (Rp.int .i64)) (n := 1) (parts := [(0, .slice pV r66.length pW)]) (vs := [.slice pV r66.length pW]) (xs := [r66]) rfl Try.underlying22 ti26 hO (by decide) (by kernel_rfl) (Els.cons rfl ⟨pV, pW, rfl, bh⟩ (Els.nil _ _ _) (by simp [mx])) rfl
   obtain ⟨KE, KF, mg, Ed, Ik, Bx⟩ := hobt
   refine GoR.op (Bx rfl) rfl rfl ?_
   replace bu := bu.ch mg.ch
   replace aa := aa.ch mg.ch
   replace cz := cz.ch mg.ch
   replace bW := bW.ch mg.ch
   replace bO := bO.ch mg.ch
   replace ab := ab.ch mg.ch
   replace bv := bv.ch mg.ch
   replace aQ := aQ.ch mg.ch
   replace aG := aG.ch mg.ch
   replace ac := ac.ch mg.ch
   replace hO := mg.own
   replace bB := bB.ch mg.ch
   replace bC := bC.ch mg.ch
   replace bh := bh.ch mg.ch
   replace hB := hB.trans mg.fr
   have hobt := freeze 0 hO rfl Ed
   obtain ⟨hO1, pm, eA, Ee⟩ := hobt
   dsimp only [eS, eZ] at hO1 pm eA
   replace bB := bB.ch pm
   replace bC := bC.ch pm
   replace bh := bh.ch pm
   replace bu := bu.ch pm
   replace aa := aa.ch pm
   replace cz := cz.ch pm
   replace bW := bW.ch pm
   replace bO := bO.ch pm
   replace ab := ab.ch pm
   replace bv := bv.ch pm
   replace aQ := aQ.ch pm
   replace aG := aG.ch pm
   replace ac := ac.ch pm
   replace hB := hB.trans (Owns.dropFr _ _ 0)
   dsimp only [eS, eZ] at hB
   replace hO := hO1; clear hO1
   obtain ⟨G5, H⟩ := H
   have hobt := oapp Try.underlying22 ti26 rfl 3 hO rfl cz eA Ee G5 (by decide)
   obtain ⟨KG, uQ, uR, Ef, lE, eM, By⟩ := hobt
   dsimp only [sS, sZ] at lE eM
   refine GoR.op (By (by exact rfl) (by exact rfl)) rfl rfl ?_
   replace bu := bu.ch lE.ch
   replace aa := aa.ch lE.ch
   replace bW := bW.ch lE.ch
   replace bO := bO.ch lE.ch
   replace ab := ab.ch lE.ch
   replace bv := bv.ch lE.ch
   replace aQ := aQ.ch lE.ch
   replace aG := aG.ch lE.ch
   replace ac := ac.ch lE.ch
   replace hO := lE.own
   replace bB := bB.ch lE.ch
   replace bC := bC.ch lE.ch
   replace bh := bh.ch lE.ch
   replace eA := eA.ch lE.ch
   replace hB := hB.trans lE.fr
   refine GoR.op ((op_nilCheck rfl) _) rfl rfl ?_
   refine GoR.op ((op_fieldAddr Try.underlying72 rfl ti29 rfl (by decide)) _) rfl rfl ?_
   refine GoR.op ((op_fieldAddr Try.underlying29 rfl ti22 rfl (by decide)) _) rfl rfl ?_
   have hobt := oblkSt2 (v := .slice uQ (n21 + 1) uR) (i := 3) (cs' := #[.int .i64 a0.Enum.Points, .bool a0.Enum.Monoid, .slice al ak am, .slice uQ (n21 + 1) uR, .slice p25 n27 c26, .slice p31 n33 c32, .slice ax aq ay, .slice p37 n39 c38, .int .i64 a0.Enum.Done, .map (some az), .slice p43 n45 c44, .slice p49 n51 c50, .slice bf bc bg]) 1 hO rfl rfl rfl rfl
   obtain ⟨KH, ku, Bz⟩ := hobt
   dsimp only [sS, sZ] at ku
   refine GoR.op (Bz Try.underlying22 rfl ti22 (by exact rfl) (by exact rfl)) rfl rfl ?_
   replace bu := bu.ch ku.ch
   replace aa := aa.ch ku.ch
   replace eM := eM.ch ku.ch
   replace bW := bW.ch ku.ch
   replace bO := bO.ch ku.ch
   replace ab := ab.ch ku.ch
   replace bv := bv.ch ku.ch
   replace aQ := aQ.ch ku.ch
   replace aG := aG.ch ku.ch
   replace ac := ac.ch ku.ch
   replace hO := ku.own
   replace bB := bB.ch ku.ch
   replace bC := bC.ch ku.ch
   replace bh := bh.ch ku.ch
   replace eA := eA.ch ku.ch
   replace hB := hB.trans ku.fr
   refine GoR.nil ?_
   refine Go1.seq ?_
   refine Go1.cut [(0, .pointer (some ⟨dp, 0, none⟩)), (2, .int .i64 a0.Enum.Done), (3, .int .i64 (k1_12 : Int)), (4, .string (gstr ((ix d_40 a0.Enum.Done) ++ (chr (IntKind.i32.wrap ((97 : Int) + (k1_12 : Int))))))), (5, .int .i64 (ix a0.single (k1_12 : Int))), (13, .int .i64 (d_16.length : Int))] ⟨rfl, rfl, rfl, rfl, rfl, rfl, trivial⟩ ?_
   intro σ _
   refine Go1.region ?_
   refine GoR.op ((op_move rfl) _) rfl rfl ?_
   refine GoR.op ((op_move rfl) _) rfl rfl ?_
   refine GoR.op ((op_nilCheck rfl) _) rfl rfl ?_
   refine GoR.op ((op_fieldAddr Try.underlying72 rfl ti29 rfl (by decide)) _) rfl rfl ?_
   refine GoR.op ((op_fieldAddr Try.underlying29 rfl ti26 rfl (by decide)) _) rfl rfl ?_
   refine GoR.op ((oblk (i := 4) 1 hO rfl rfl Try.underlying26 rfl rfl) _ (Same.refl _)) rfl rfl ?_
   refine GoR.op ((op_move rfl) _) rfl rfl ?_
   have hobt := obuild (r := Rp.int .i64) (n := 1) (parts := [(0, .int .i64 a0.Enum.Done)]) (vs := [.int .i64 a0.Enum.Done]) (xs := [a0.Enum.Done]) rfl Try.underlying26 ti3 hO (by decide) (by kernel_rfl) (Els.cons rfl rfl (Els.nil _ _ _) (by simp [mx])) rfl
   obtain ⟨KI, KJ, lF, Eg, Il, BA⟩ := hobt
   refine GoR.op (BA rfl) rfl rfl ?_
   replace bu := bu.ch lF.ch
   replace aa := aa.ch lF.ch
   replace eM := eM.ch lF.ch
   replace bW := bW.ch lF.ch
   replace bO := bO.ch lF.ch
   replace ab := ab.ch lF.ch
   replace bv := bv.ch lF.ch
   replace aQ := aQ.ch lF.ch
   replace aG := aG.ch lF.ch
   replace ac := ac.ch lF.ch
   replace hO := lF.own
   replace bB := bB.ch lF.ch
   replace bC := bC.ch lF.ch
   replace bh := bh.ch lF.ch
   replace eA := eA.ch lF.ch
   replace hB := hB.trans lF.fr
   have hobt := freeze 0 hO rfl Eg
   obtain ⟨hO1, nT, f0, Eh⟩ := hobt
   dsimp only [eS, eZ] at hO1 nT f0
   replace bB := bB.ch nT
   replace bC := bC.ch nT
   replace bh := bh.ch nT
   replace eA := eA.ch nT
   replace bu := bu.ch nT
   replace aa := aa.ch nT
   replace eM := eM.ch nT
   replace bW := bW.ch nT
   replace bO := bO.ch nT
   replace ab := ab.ch nT
   replace bv := bv.ch nT
   replace aQ := aQ.ch nT
   replace aG := aG.ch nT
   replace ac := ac.ch nT
   replace hB := hB.trans (Owns.dropFr _ _ 0)
   dsimp only [eS, eZ] at hB
   replace hO := hO1; clear hO1
   obtain ⟨G6, H⟩ := H
   have hobt := oapp Try.underlying26 ti3 rfl 4 hO rfl bW f0 Eh G6 (by decide)
   obtain ⟨KK, vN, vO, Ei, kw, gG, BB⟩ := hobt
   dsimp only [sS, sZ] at kw gG
   refine GoR.op (BB (by exact rfl) (by exact rfl)) rfl rfl ?_
   replace bu := bu.ch kw.ch
   replace aa := aa.ch kw.ch
   replace eM := eM.ch kw.ch
   replace bO := bO.ch kw.ch
   replace ab := ab.ch kw.ch
   replace bv := bv.ch kw.ch
   replace aQ := aQ.ch kw.ch
   replace aG := aG.ch kw.ch
   replace ac := ac.ch kw.ch
   replace hO := kw.own
   replace bB := bB.ch kw.ch
   replace bC := bC.ch kw.ch
   replace bh := bh.ch kw.ch
   replace eA := eA.ch kw.ch
   replace f0 := f0.ch kw.ch
   replace hB := hB.trans kw.fr
   refine GoR.op ((op_nilCheck rfl) _) rfl rfl ?_
   refine GoR.op ((op_fieldAddr Try.underlying72 rfl ti29 rfl (by decide)) _) rfl rfl ?_
   refine GoR.op ((op_fieldAddr Try.underlying29 rfl ti26 rfl (by decide)) _) rfl rfl ?_
   have hobt := oblkSt2 (v := .slice vN (n27 + 1) vO) (i := 4) (cs' := #[.int .i64 a0.Enum.Points, .bool a0.Enum.Monoid, .slice al ak am, .slice uQ (n21 + 1) uR, .slice vN (n27 + 1) vO, .slice p31 n33 c32, .slice ax aq ay, .slice p37 n39 c38, .int .i64 a0.Enum.Done, .map (some az), .slice p43 n45 c44, .slice p49 n51 c50, .slice bf bc bg]) 1 hO rfl rfl rfl rfl
   obtain ⟨KL, jW, BC⟩ := hobt
   dsimp only [sS, sZ] at jW
   refine GoR.op (BC Try.underlying26 rfl ti26 (by exact rfl) (by exact rfl)) rfl rfl ?_
   replace bu := bu.ch jW.ch
   replace aa := aa.ch jW.ch
   replace eM := eM.ch jW.ch
   replace gG := gG.ch jW.ch
   replace bO := bO.ch jW.ch
   replace ab := ab.ch jW.ch
   replace bv := bv.ch jW.ch
   replace aQ := aQ.ch jW.ch
   replace aG := aG.ch jW.ch
   replace ac := ac.ch jW.ch
   replace hO := jW.own
   replace bB := bB.ch jW.ch
   replace bC := bC.ch jW.ch
   replace bh := bh.ch jW.ch
   replace eA := eA.ch jW.ch
   replace f0 := f0.ch jW.ch
   replace hB := hB.trans jW.fr
   refine GoR.nil ?_
   refine Go1.seq ?_
   refine Go1.region ?_
   refine GoR.op ((op_move rfl) _) rfl rfl ?_
   refine GoR.op ((op_move rfl) _) rfl rfl ?_
   refine GoR.op ((op_nilCheck rfl) _) rfl rfl ?_
   refine GoR.op ((op_fieldAddr Try.underlying72 rfl ti29 rfl (by decide)) _) rfl rfl ?_
   refine GoR.op ((op_fieldAddr Try.underlying29 rfl ti26 rfl (by decide)) _) rfl rfl ?_
   refine GoR.op ((oblk (i := 5) 1 hO rfl rfl Try.underlying26 rfl rfl) _ (Same.refl _)) rfl rfl ?_
   refine GoR.op ((op_move rfl) _) rfl rfl ?_
   have hobt := obuild (r := Rp.int .i64) (n := 1) (parts := [(0, .int .i64 (k1_12 : Int))]) (vs := [.int .i64 (k1_12 : Int)]) (xs := [(k1_12 : Int)]) rfl Try.underlying26 ti3 hO (by decide) (by kernel_rfl) (Els.cons rfl rfl (Els.nil _ _ _) (by simp [mx])) rfl
   obtain ⟨KM, KN, kx, Ej, zR, BD⟩ := hobt
   refine GoR.op (BD rfl) rfl rfl ?_
   replace bu := bu.ch kx.ch
   replace aa := aa.ch kx.ch
   replace eM := eM.ch kx.ch
   replace gG := gG.ch kx.ch
   replace bO := bO.ch kx.ch
   replace ab := ab.ch kx.ch
   replace bv := bv.ch kx.ch
   replace aQ := aQ.ch kx.ch
   replace aG := aG.ch kx.ch
   replace ac := ac.ch kx.ch
   replace hO := kx.own
   replace bB := bB.ch kx.ch
   replace bC := bC.ch kx.ch
   replace bh := bh.ch kx.ch
   replace eA := eA.ch kx.ch
   replace f0 := f0.ch kx.ch
   replace hB := hB.trans kx.fr
   have hobt := freeze 0 hO rfl Ej
   obtain ⟨hO1, mV, i7, Ek⟩ := hobt
   dsimp only [eS, eZ] at hO1 mV i7
   replace bB := bB.ch mV
   replace bC := bC.ch mV
   replace bh := bh.ch mV
   replace eA := eA.ch mV
   replace f0 := f0.ch mV
   replace bu := bu.ch mV
   replace aa := aa.ch mV
   replace eM := eM.ch mV
   replace gG := gG.ch mV
   replace bO := bO.ch mV
   replace ab := ab.ch mV
   replace bv := bv.ch mV
   replace aQ := aQ.ch mV
   replace aG := aG.ch mV
   replace ac := ac.ch mV
   replace hB := hB.trans (Owns.dropFr _ _ 0)
   dsimp only [eS, eZ] at hB
   replace hO := hO1; clear hO1
   obtain ⟨G7, H⟩ := H
   have hobt := oapp Try.underlying26 ti3 rfl 5 hO rfl bO i7 Ek G7 (by decide)
   obtain ⟨KO, wN, wO, El, jX, jO, BE⟩ := hobt
   dsimp only [sS, sZ] at jX jO
   refine GoR.op (BE (by exact rfl) (by exact rfl)) rfl rfl ?_
   replace bu := bu.ch jX.ch
   replace aa := aa.ch jX.ch
   replace eM := eM.ch jX.ch
   replace gG := gG.ch jX.ch
   replace ab := ab.ch jX.ch
   replace bv := bv.ch jX.ch
   replace aQ := aQ.ch jX.ch
   replace aG := aG.ch jX.ch
   replace ac := ac.ch jX.ch
   replace hO := jX.own
   replace bB := bB.ch jX.ch
   replace bC := bC.ch jX.ch
   replace bh := bh.ch jX.ch
   replace eA := eA.ch jX.ch
   replace f0 := f0.ch jX.ch
   replace i7 := i7.ch jX.ch
   replace hB := hB.trans jX.fr
   refine GoR.op ((op_nilCheck rfl) _) rfl rfl ?_
   refine GoR.op ((op_fieldAddr Try.underlying72 rfl ti29 rfl (by decide)) _) rfl rfl ?_
   refine GoR.op ((op_fieldAddr Try.underlying29 rfl ti26 rfl (by decide)) _) rfl rfl ?_
   have hobt := oblkSt2 (v := .slice wN (n33 + 1) wO) (i := 5) (cs' := #[.int .i64 a0.Enum.Points, .bool a0.Enum.Monoid, .slice al ak am, .slice uQ (n21 + 1) uR, .slice vN (n27 + 1) vO, .slice wN (n33 + 1) wO, .slice ax aq ay, .slice p37 n39 c38, .int .i64 a0.Enum.Done, .map (some az), .slice p43 n45 c44, .slice p49 n51 c50, .slice bf bc bg]) 1 hO rfl rfl rfl rfl
   obtain ⟨KP, jr, BG⟩ := hobt
   dsimp only [sS, sZ] at jr
   refine GoR.op (BG Try.underlying26 rfl ti26 (by exact rfl) (by exact rfl)) rfl rfl ?_
   replace bu := bu.ch jr.ch
   replace aa := aa.ch jr.ch
   replace eM := eM.ch jr.ch
   replace gG := gG.ch jr.ch
   replace jO := jO.ch jr.ch
   replace ab := ab.ch jr.ch
   replace bv := bv.ch jr.ch
   replace aQ := aQ.ch jr.ch
   replace aG := aG.ch jr.ch
   replace ac := ac.ch jr.ch
   replace hO := jr.own
   replace bB := bB.ch jr.ch
   replace bC := bC.ch jr.ch
   replace bh := bh.ch jr.ch
   replace eA := eA.ch jr.ch
   replace f0 := f0.ch jr.ch
   replace i7 := i7.ch jr.ch
   replace hB := hB.trans jr.fr
   refine GoR.nil ?_
   refine Go1.seq ?_
   refine Go1.cut [(0, .pointer (some ⟨dp, 0, none⟩)), (4, .string (gstr ((ix d_40 a0.Enum.Done) ++ (chr (IntKind.i32.wrap ((97 : Int) + (k1_12 : Int))))))), (5, .int .i64 (ix a0.single (k1_12 : Int))), (13, .int .i64 (d_16.length : Int))] ⟨rfl, rfl, rfl, rfl, trivial⟩ ?_
   intro σ _
   refine Go1.region ?_
   refine GoR.op ((op_move rfl) _) rfl rfl ?_
   refine GoR.op ((op_move rfl) _) rfl rfl ?_
   refine GoR.op ((op_nilCheck rfl) _) rfl rfl ?_
   refine GoR.op ((op_fieldAddr Try.underlying72 rfl ti70 rfl (by decide)) _) rfl rfl ?_
   refine GoR.op ((oblk (i := 10) 1 hO rfl rfl Try.underlying70 rfl rfl) _ (Same.refl _)) rfl rfl ?_
   refine GoR.op ((op_move rfl) _) rfl rfl ?_
   have hobt := obuild (r := Rp.str) (n := 1) (parts := [(0, .string (gstr ((ix d_40 a0.Enum.Done) ++ (chr (IntKind.i32.wrap ((97 : Int) + (k1_12 : Int)))))))]) (vs := [.string (gstr ((ix d_40 a0.Enum.Done) ++ (chr (IntKind.i32.wrap ((97 : Int) + (k1_12 : Int))))))]) (xs := [(ix d_40 a0.Enum.Done) ++ (chr (IntKind.i32.wrap ((97 : Int) + (k1_12 : Int))))]) rfl Try.underlying70 ti9 hO (by decide) (by kernel_rfl) (Els.cons rfl ⟨rfl, (lenApp zl)⟩ (Els.nil _ _ _) (by simp [mx])) rfl
   obtain ⟨KQ, KR, jY, Em, Im, BH⟩ := hobt
   refine GoR.op (BH rfl) rfl rfl ?_
   replace bu := bu.ch jY.ch
   replace aa := aa.ch jY.ch
   replace eM := eM.ch jY.ch
   replace gG := gG.ch jY.ch
   replace jO := jO.ch jY.ch
   replace ab := ab.ch jY.ch
   replace bv := bv.ch jY.ch
   replace aQ := aQ.ch jY.ch
   replace aG := aG.ch jY.ch
   replace ac := ac.ch jY.ch
   replace hO := jY.own
   replace bB := bB.ch jY.ch
   replace bC := bC.ch jY.ch
   replace bh := bh.ch jY.ch
   replace eA := eA.ch jY.ch
   replace f0 := f0.ch jY.ch
   replace i7 := i7.ch jY.ch
   replace hB := hB.trans jY.fr
   have hobt := freeze 0 hO rfl Em
   obtain ⟨hO1, mD, mW, En⟩ := hobt
   dsimp only [eS, eZ] at hO1 mD mW
   replace bB := bB.ch mD
   replace bC := bC.ch mD
   replace bh := bh.ch mD
   replace eA := eA.ch mD
   replace f0 := f0.ch mD
   replace i7 := i7.ch mD
   replace bu := bu.ch mD
   replace aa := aa.ch mD
   replace eM := eM.ch mD
   replace gG := gG.ch mD
   replace jO := jO.ch mD
   replace ab := ab.ch mD
   replace bv := bv.ch mD
   replace aQ := aQ.ch mD
   replace aG := aG.ch mD
   replace ac := ac.ch mD
   replace hB := hB.trans (Owns.dropFr _ _ 0)
   dsimp only [eS, eZ] at hB
   replace hO := hO1; clear hO1
   obtain ⟨G8, H⟩ := H
   have hobt := oapp Try.underlying70 ti9 rfl 8 hO rfl aQ mW En G8 (by decide)
   obtain ⟨KS, xZ, x2, Eo, jt, po, BI⟩ := hobt
   dsimp only [sS, sZ] at jt po
   refine GoR.op (BI (by exact rfl) (by exact rfl)) rfl rfl ?_
   replace bu := bu.ch jt.ch
   replace aa := aa.ch jt.ch
   replace eM := eM.ch jt.ch
   replace gG := gG.ch jt.ch
   replace jO := jO.ch jt.ch
   replace ab := ab.ch jt.ch
   replace bv := bv.ch jt.ch
   replace aG := aG.ch jt.ch
   replace ac := ac.ch jt.ch
   replace hO := jt.own
   replace bB := bB.ch jt.ch
   replace bC := bC.ch jt.ch
   replace bh := bh.ch jt.ch
   replace eA := eA.ch jt.ch
   replace f0 := f0.ch jt.ch
   replace i7 := i7.ch jt.ch
   replace mW := mW.ch jt.ch
   replace hB := hB.trans jt.fr
   refine GoR.op ((op_nilCheck rfl) _) rfl rfl ?_
   refine GoR.op ((op_fieldAddr Try.underlying72 rfl ti70 rfl (by decide)) _) rfl rfl ?_
   have hobt := oblkSt2 (v := .slice xZ (n45 + 1) x2) (i := 10) (cs' := #[.int .i64 a0.Enum.Points, .bool a0.Enum.Monoid, .slice al ak am, .slice uQ (n21 + 1) uR, .slice vN (n27 + 1) vO, .slice wN (n33 + 1) wO, .slice ax aq ay, .slice p37 n39 c38, .int .i64 a0.Enum.Done, .map (some az), .slice xZ (n45 + 1) x2, .slice p49 n51 c50, .slice bf bc bg]) 1 hO rfl rfl rfl rfl
   obtain ⟨KT, iX, BJ⟩ := hobt
   dsimp only [sS, sZ] at iX
   refine GoR.op (BJ Try.underlying70 rfl ti70 (by exact rfl) (by exact rfl)) rfl rfl ?_
   replace bu := bu.ch iX.ch
   replace aa := aa.ch iX.ch
   replace eM := eM.ch iX.ch
   replace gG := gG.ch iX.ch
   replace jO := jO.ch iX.ch
   replace ab := ab.ch iX.ch
   replace bv := bv.ch iX.ch
   replace po := po.ch iX.ch
   replace aG := aG.ch iX.ch
   replace ac := ac.ch iX.ch
   replace hO := iX.own
   replace bB := bB.ch iX.ch
   replace bC := bC.ch iX.ch
   replace bh := bh.ch iX.ch
   replace eA := eA.ch iX.ch
   replace f0 := f0.ch iX.ch
   replace i7 := i7.ch iX.ch
   replace mW := mW.ch iX.ch
   replace hB := hB.trans iX.fr
   refine GoR.nil ?_
   refine Go1.seq ?_
   refine Go1.region ?_
   refine GoR.op ((op_move rfl) _) rfl rfl ?_
   refine GoR.op ((op_move rfl) _) rfl rfl ?_
   refine GoR.op ((op_nilCheck rfl) _) rfl rfl ?_
   refine GoR.op ((op_fieldAddr Try.underlying72 rfl ti26 rfl (by decide)) _) rfl rfl ?_
   refine GoR.op ((oblk (i := 11) 1 hO rfl rfl Try.underlying26 rfl rfl) _ (Same.refl _)) rfl rfl ?_
   refine GoR.op ((op_move rfl) _) rfl rfl ?_
   have hobt := obuild (r := Rp.int .i64) (n := 1) (parts := [(0, .int .i64 (ix a0.single (k1_12 : Int)))]) (vs := [.int .i64 (ix a0.single (k1_12 : Int))]) (xs := [(ix a0.single (k1_12 : Int))]) rfl Try.underlying26 ti3 hO (by decide) (by kernel_rfl) (Els.cons rfl rfl (Els.nil _ _ _) (by simp [mx])) rfl
   obtain ⟨KU, KV, ju, Ep, Io, BK⟩ := hobt
   refine GoR.op (BK rfl) rfl rfl ?_
   replace bu := bu.ch ju.ch
   replace aa := aa.ch ju.ch
   replace eM := eM.ch ju.ch
   replace gG := gG.ch ju.ch
   replace jO := jO.ch ju.ch
   replace ab := ab.ch ju.ch
   replace bv := bv.ch ju.ch
   replace po := po.ch ju.ch
   replace aG := aG.ch ju.ch
   replace ac := ac.ch ju.ch
   replace hO := ju.own
   replace bB := bB.ch ju.ch
   replace bC := bC.ch ju.ch
   replace bh := bh.ch ju.ch
   replace eA := eA.ch ju.ch
   replace f0 := f0.ch ju.ch
   replace i7 := i7.ch ju.ch
   replace mW := mW.ch ju.ch
   replace hB := hB.trans ju.fr
   have hobt := freeze 0 hO rfl Ep
   obtain ⟨hO1, mm, sN, Er⟩ := hobt
   dsimp only [eS, eZ] at hO1 mm sN
   replace bB := bB.ch mm
   replace bC := bC.ch mm
   replace bh := bh.ch mm
   replace eA := eA.ch mm
   replace f0 := f0.ch mm
   replace i7 := i7.ch mm
   replace mW := mW.ch mm
   replace bu := bu.ch mm
   replace aa := aa.ch mm
   replace eM := eM.ch mm
   replace gG := gG.ch mm
   replace jO := jO.ch mm
   replace ab := ab.ch mm
   replace bv := bv.ch mm
   replace po := po.ch mm
   replace aG := aG.ch mm
   replace ac := ac.ch mm
   replace hB := hB.trans (Owns.dropFr _ _ 0)
   dsimp only [eS, eZ] at hB
   replace hO := hO1; clear hO1
   obtain ⟨G9, H⟩ := H
   have hobt := oapp Try.underlying26 ti3 rfl 9 hO rfl aG sN Er G9 (by decide)
   obtain ⟨KW, zq, zr, Et, iY, uk, BL⟩ := hobt
   dsimp only [sS, sZ] at iY uk
   refine GoR.op (BL (by exact rfl) (by exact rfl)) rfl rfl ?_
   replace bu := bu.ch iY.ch
   replace aa := aa.ch iY.ch
   replace eM := eM.ch iY.ch
   replace gG := gG.ch iY.ch
   replace jO := jO.ch iY.ch
   replace ab := ab.ch iY.ch
   replace bv := bv.ch iY.ch
   replace po := po.ch iY.ch
   replace ac := ac.ch iY.ch
   replace hO := iY.own
   replace bB := bB.ch iY.ch
   replace bC := bC.ch iY.ch
   replace bh := bh.ch iY.ch
   replace eA := eA.ch iY.ch
   replace f0 := f0.ch iY.ch
   replace i7 := i7.ch iY.ch
   replace mW := mW.ch iY.ch
   replace sN := sN.ch iY.ch
   replace hB := hB.trans iY.fr
   refine GoR.op ((op_nilCheck rfl) _) rfl rfl ?_
   refine GoR.op ((op_fieldAddr Try.underlying72 rfl ti26 rfl (by decide)) _) rfl rfl ?_
   have hobt := oblkSt2 (v := .slice zq (n51 + 1) zr) (i := 11) (cs' := #[.int .i64 a0.Enum.Points, .bool a0.Enum.Monoid, .slice al ak am, .slice uQ (n21 + 1) uR, .slice vN (n27 + 1) vO, .slice wN (n33 + 1) wO, .slice ax aq ay, .slice p37 n39 c38, .int .i64 a0.Enum.Done, .map (some az), .slice xZ (n45 + 1) x2, .slice zq (n51 + 1) zr, .slice bf bc bg]) 1 hO rfl rfl rfl rfl
   obtain ⟨KX, ia, BM⟩ := hobt
   dsimp only [sS, sZ] at ia
   refine GoR.op (BM Try.underlying26 rfl ti26 (by exact rfl) (by exact rfl)) rfl rfl ?_
   replace bu := bu.ch ia.ch
   replace aa := aa.ch ia.ch
   replace eM := eM.ch ia.ch
   replace gG := gG.ch ia.ch
   replace jO := jO.ch ia.ch
   replace ab := ab.ch ia.ch
   replace bv := bv.ch ia.ch
   replace po := po.ch ia.ch
   replace uk := uk.ch ia.ch
   replace ac := ac.ch ia.ch
   replace hO := ia.own
   replace bB := bB.ch ia.ch
   replace bC := bC.ch ia.ch
   replace bh := bh.ch ia.ch
   replace eA := eA.ch ia.ch
   replace f0 := f0.ch ia.ch
   replace i7 := i7.ch ia.ch
   replace mW := mW.ch ia.ch
   replace sN := sN.ch ia.ch
   replace hB := hB.trans ia.fr
   refine GoR.nil ?_
   refine Go1.seq ?_
   refine Go1.cut [(13, .int .i64 (d_16.length : Int))] ⟨rfl, trivial⟩ ?_
   intro σ _
   refine Go1.region ?_
   refine GoR.op ((op_move rfl) _) rfl rfl ?_
   refine GoR.op ((op_assign rfl) _) rfl rfl ?_
   refine GoR.nil ?_
   refine Go1.ret1V Try.func65 rfl (show _ = .int .i64 (d_16.length : Int) from rfl) ?_
   refine hR239 _ _ ?_
   refine GoR.op ((op_assign rfl) _) rfl rfl ?_
   refine GoR.nil ?_
   refine Go1.inBlock ?_
   refine Go1.region ?_
   refine GoR.op ((op_move rfl) _) rfl rfl ?_
   refine GoR.op ((op_move rfl) _) rfl rfl ?_
   refine GoR.op ((op_move rfl) _) rfl rfl ?_
   obtain ⟨zt, H⟩ := H
   obtain ⟨zu, H⟩ := H
   refine GoR.op ((op_index Try.underlying26 ti3 rfl rfl zt (ltn (bu.neq hO 0 rfl) zu) (bu.psome hO 0 rfl zt zu)) _) rfl rfl ?_
   have hobt := ost (r := Rp.int .i64) rfl 0 hO rfl bu zt zu (v := .int .i64 (d_16.length : Int)) (u := (d_16.length : Int)) rfl rfl
   obtain ⟨KY, Eu, iZ, zS, BN⟩ := hobt
   dsimp only [sS, sZ] at iZ zS
   refine GoR.op (BN Try.underlying3 rfl ti3 (by exact rfl) (by exact rfl)) rfl rfl ?_
   replace aa := aa.ch iZ.ch
   replace eM := eM.ch iZ.ch
   replace gG := gG.ch iZ.ch
   replace jO := jO.ch iZ.ch
   replace ab := ab.ch iZ.ch
   replace bv := bv.ch iZ.ch
   replace po := po.ch iZ.ch
   replace uk := uk.ch iZ.ch
   replace ac := ac.ch iZ.ch
   replace hO := iZ.own
   replace bB := bB.ch iZ.ch
   replace bC := bC.ch iZ.ch
   replace bh := bh.ch iZ.ch
   replace eA := eA.ch iZ.ch
   replace f0 := f0.ch iZ.ch
   replace i7 := i7.ch iZ.ch
   replace mW := mW.ch iZ.ch
   replace sN := sN.ch iZ.ch
   replace hB := hB.trans iZ.fr
   refine GoR.nil ?_
   refine Go1.inBlock ?_
   refine Go1.region ?_
   refine GoR.op ((op_add rfl rfl (wrap_i64 (natbd h53 aa.bd))) _) rfl rfl ?_
   refine GoR.op ((op_move rfl) _) rfl rfl ?_
   refine GoR.nil ?_
   exact hX1 _ H _ _ ⟨Eu, n21 + 1, uQ, uR, Ef, n27 + 1, vN, vO, Ei, n33 + 1, wN, wO, El, n39, p37, c38, l9, n45 + 1, xZ, x2, Eo, n51 + 1, zq, zr, Et, ⟨rfl, rfl, rfl, rfl, rfl, rfl, trivial⟩, hO, zS, aa, eM, gG, jO, ab, bv, po, uk, ac, hB⟩
  replace H := ifn xY H
  refine GoR.op ((fun w => opB (op_eql rfl rfl w) (decide_eq_false xY)) _) rfl rfl ?_
  refine GoR.nil ?_
  refine Go1.condF rfl rfl ?_
  refine Go1.skip ?_
  refine Go1.seq ?_
  refine Go1.region ?_
  refine GoR.op ((op_move rfl) _) rfl rfl ?_
  refine GoR.op ((op_nilCheck rfl) _) rfl rfl ?_
  refine GoR.op ((op_fieldAddr Try.underlying72 rfl ti29 rfl (by decide)) _) rfl rfl ?_
  refine GoR.op ((op_fieldAddr Try.underlying29 rfl ti22 rfl (by decide)) _) rfl rfl ?_
  refine GoR.op ((oblk (i := 6) 1 hO rfl rfl Try.underlying22 rfl rfl) _ (Same.refl _)) rfl rfl ?_
  refine GoR.op ((op_move rfl) _) rfl rfl ?_
  obtain ⟨zw, H⟩ := H
  obtain ⟨zx, H⟩ := H
  refine GoR.op ((op_index Try.underlying22 ti26 rfl rfl zw (ltn (ab.neq hO 6 rfl) zx) (ab.psome hO 6 rfl zw zx)) _) rfl rfl ?_
  have hobt := oldSl 6 hO rfl ab zw zx
  obtain ⟨KZ, K1, dx, Ev⟩ := hobt
  refine GoR.op ((Ev Try.underlying26 rfl rfl) _ (Same.refl _)) rfl rfl ?_
  refine GoR.op ((op_move rfl) _) rfl rfl ?_
  obtain ⟨zy, H⟩ := H
  obtain ⟨zA, H⟩ := H
  refine GoR.op ((op_index Try.underlying26 ti3 rfl rfl zy zA (dx.some_ zy zA)) _) rfl rfl ?_
  refine GoR.op ((ldInt dx zy zA Try.underlying3 rfl rfl) _ (Same.refl _)) rfl rfl ?_
  refine GoR.op ((op_assign rfl) _) rfl rfl ?_
  refine GoR.nil ?_
  refine Go1.ret1V Try.func66 rfl (show _ = .int .i64 (ix (ix a0.Enum.Right (ix d_46 a0.Enum.Done)) (k1_12 : Int)) from rfl) ?_
  refine hR235 _ _ ?_
  refine GoR.inl (vs := [.pointer (some ⟨dp, 0, none⟩), .slice pV r66.length pW, .int .i64 a0.Enum.Done, .int .i64 (k1_12 : Int), .string (gstr ((ix d_40 a0.Enum.Done) ++ (chr (IntKind.i32.wrap ((97 : Int) + (k1_12 : Int)))))), .int .i64 (ix (ix a0.Enum.Right (ix d_46 a0.Enum.Done)) (k1_12 : Int))]) (caps := []) rfl rfl body65 Try.func65 rfl Try.ntmps65 rfl rfl rfl ?_
  intro RhR377 hR377
  refine Go1.seq ?_
  refine Go1.cut [(0, .pointer (some ⟨dp, 0, none⟩)), (1, .slice pV r66.length pW), (2, .int .i64 a0.Enum.Done), (3, .int .i64 (k1_12 : Int)), (4, .string (gstr ((ix d_40 a0.Enum.Done) ++ (chr (IntKind.i32.wrap ((97 : Int) + (k1_12 : Int))))))), (5, .int .i64 (ix (ix a0.Enum.Right (ix d_46 a0.Enum.Done)) (k1_12 : Int)))] ⟨rfl, rfl, rfl, rfl, rfl, rfl, trivial⟩ ?_
  intro σ _
  refine Go1.region ?_
  refine GoR.op ((op_assign rfl) _) rfl rfl ?_
  refine GoR.nil ?_
  refine Go1.seq ?_
  refine Go1.region ?_
  refine GoR.op ((op_move rfl) _) rfl rfl ?_
  refine GoR.op ((op_nilCheck rfl) _) rfl rfl ?_
  refine GoR.op ((op_fieldAddr Try.underlying72 rfl ti29 rfl (by decide)) _) rfl rfl ?_
  refine GoR.op ((op_fieldAddr Try.underlying29 rfl ti22 rfl (by decide)) _) rfl rfl ?_
  refine GoR.op ((oblk (i := 3) 1 hO rfl rfl Try.underlying22 rfl rfl) _ (Same.refl _)) rfl rfl ?_
  refine GoR.op ((op_lenN Try.underlying22 rfl (cz.neq hO 3 rfl)) _) rfl rfl ?_
  refine GoR.op ((op_assign rfl) _) rfl rfl ?_
  refine GoR.nil ?_
  refine Go1.seq ?_
  refine Go1.drawS 1 [(0, .pure), (1, .pure), (2, .pure), (3, .stable), (4, .pure), (6, .pure), (5, .loud), (7, .last)] mixed (by kernel_rfl) ?_
  intro K2 Ew
  have lG := Stp.same hO Ew
  replace bu := bu.ch lG.ch
  replace aa := aa.ch lG.ch
  replace cz := cz.ch lG.ch
  replace bW := bW.ch lG.ch
  replace bO := bO.ch lG.ch
  replace ab := ab.ch lG.ch
  replace bv := bv.ch lG.ch
  replace aQ := aQ.ch lG.ch
  replace aG := aG.ch lG.ch
  replace ac := ac.ch lG.ch
  replace hO := lG.own
  replace bB := bB.ch lG.ch
  replace bC := bC.ch lG.ch
  replace bh := bh.ch lG.ch
  replace dx := dx.ch lG.ch
  replace hB := hB.trans lG.fr
  refine GoQ.pure rfl (op_move rfl) rfl rfl ?_
  refine GoQ.pure rfl (op_nilCheck rfl) rfl rfl ?_
  refine GoQ.pure rfl (op_fieldAddr Try.underlying72 rfl ti69 rfl (by decide)) rfl rfl ?_
  refine GoQ.stable rfl (oblk (i := 9) 1 hO rfl rfl Try.underlying69 rfl rfl) rfl rfl ?_
  refine GoQ.pure rfl (op_move rfl) rfl rfl ?_
  refine GoQ.pure rfl (op_move rfl) rfl rfl ?_
  refine GoQ.call rfl (op_call body61 rfl (walk_enumerate_text hO.lt bh H)) (fun v w hr => by obtain ⟨_, _, hs, _, _⟩ := hr; assumption) rfl rfl ?_
  rintro K3 K4 ⟨r381, rfl, Ex, HU, H⟩
  have eY := Stp.same hO Ex
  replace bu := bu.ch eY.ch
  replace aa := aa.ch eY.ch
  replace cz := cz.ch eY.ch
  replace bW := bW.ch eY.ch
  replace bO := bO.ch eY.ch
  replace ab := ab.ch eY.ch
  replace bv := bv.ch eY.ch
  replace aQ := aQ.ch eY.ch
  replace aG := aG.ch eY.ch
  replace ac := ac.ch eY.ch
  replace hO := eY.own
  replace bB := bB.ch eY.ch
  replace bC := bC.ch eY.ch
  replace bh := bh.ch eY.ch
  replace dx := dx.ch eY.ch
  replace hB := hB.trans eY.fr
  have hobt := omapUpd (MK.str Try.underlying9) 11 hO rfl Try.underlying69 r381 (d_16.length : Int)
  obtain ⟨K5, eU, BO⟩ := hobt
  dsimp only [sS, sZ] at eU
  refine GoQ.last rfl (BO (by exact rfl) (by exact rfl) (by exact rfl)) rfl rfl ?_
  replace bu := bu.ch eU.ch
  replace aa := aa.ch eU.ch
  replace cz := cz.ch eU.ch
  replace bW := bW.ch eU.ch
  replace bO := bO.ch eU.ch
  replace ab := ab.ch eU.ch
  replace bv := bv.ch eU.ch
  replace aQ := aQ.ch eU.ch
  replace aG := aG.ch eU.ch
  replace ac := ac.ch eU.ch
  replace hO := eU.own
  replace bB := bB.ch eU.ch
  replace bC := bC.ch eU.ch
  replace bh := bh.ch eU.ch
  replace dx := dx.ch eU.ch
  replace hB := hB.trans eU.fr
  refine GoQ.nil ?_
  refine Go1.seq ?_
  refine Go1.region ?_
  refine GoR.op ((op_move rfl) _) rfl rfl ?_
  refine GoR.op ((op_move rfl) _) rfl rfl ?_
  refine GoR.op ((op_nilCheck rfl) _) rfl rfl ?_
  refine GoR.op ((op_fieldAddr Try.underlying72 rfl ti29 rfl (by decide)) _) rfl rfl ?_
  refine GoR.op ((op_fieldAddr Try.underlying29 rfl ti22 rfl (by decide)) _) rfl rfl ?_
  refine GoR.op ((oblk (i := 3) 1 hO rfl rfl Try.underlying22 rfl rfl) _ (Same.refl _)) rfl rfl ?_
  refine GoR.op ((op_move rfl) _) rfl rfl ?_
  have hobt := obuild (r := Rp.sl (Rp.int .i64)) (n := 1) (parts := [(0, .slice pV r66.length pW)]) (vs := [.slice pV r66.length pW]) (xs := [r66]) rfl Try.underlying22 ti26 hO (by decide) (by kernel_rfl) (Els.cons rfl ⟨pV, pW, rfl, bh⟩ (Els.nil _ _ _) (by simp [mx])) rfl
  obtain ⟨K6, K7, e8, Ey, Ip, BP⟩ := hobt
  refine GoR.op (BP rfl) rfl rfl ?_
  replace bu := bu.ch e8.ch
  replace aa := aa.ch e8.ch
  replace cz := cz.ch e8.ch
  replace bW := bW.ch e8.ch
  replace bO := bO.ch e8.ch
  replace ab := ab.ch e8.ch
  replace bv := bv.ch e8.ch
  replace aQ := aQ.ch e8.ch
  replace aG := aG.ch e8.ch
  replace ac := ac.ch e8.ch
  replace hO := e8.own
  replace bB := bB.ch e8.ch
  replace bC := bC.ch e8.ch
  replace bh := bh.ch e8.ch
  replace dx := dx.ch e8.ch
  replace hB := hB.trans e8.fr
  have hobt := freeze 0 hO rfl Ey
  obtain ⟨hO1, nU, eB, Ez⟩ := hobt
  dsimp only [eS, eZ] at hO1 nU eB
  replace bB := bB.ch nU
  replace bC := bC.ch nU
  replace bh := bh.ch nU
  replace dx := dx.ch nU
  replace bu := bu.ch nU
  replace aa := aa.ch nU
  replace cz := cz.ch nU
  replace bW := bW.ch nU
  replace bO := bO.ch nU
  replace ab := ab.ch nU
  replace bv := bv.ch nU
  replace aQ := aQ.ch nU
  replace aG := aG.ch nU
  replace ac := ac.ch nU
  replace hB := hB.trans (Owns.dropFr _ _ 0)
  dsimp only [eS, eZ] at hB
  replace hO := hO1; clear hO1
  obtain ⟨Ha, H⟩ := H
  have hobt := oapp Try.underlying22 ti26 rfl 3 hO rfl cz eB Ez Ha (by decide)
  obtain ⟨K8, uS, uT, EA, kz, eN, BQ⟩ := hobt
  dsimp only [sS, sZ] at kz eN
  refine GoR.op (BQ (by exact rfl) (by exact rfl)) rfl rfl ?_
  replace bu := bu.ch kz.ch
  replace aa := aa.ch kz.ch
  replace bW := bW.ch kz.ch
  replace bO := bO.ch kz.ch
  replace ab := ab.ch kz.ch
  replace bv := bv.ch kz.ch
  replace aQ := aQ.ch kz.ch
  replace aG := aG.ch kz.ch
  replace ac := ac.ch kz.ch
  replace hO := kz.own
  replace bB := bB.ch kz.ch
  replace bC := bC.ch kz.ch
  replace bh := bh.ch kz.ch
  replace dx := dx.ch kz.ch
  replace eB := eB.ch kz.ch
  replace hB := hB.trans kz.fr
  refine GoR.op ((op_nilCheck rfl) _) rfl rfl ?_
  refine GoR.op ((op_fieldAddr Try.underlying72 rfl ti29 rfl (by decide)) _) rfl rfl ?_
  refine GoR.op ((op_fieldAddr Try.underlying29 rfl ti22 rfl (by decide)) _) rfl rfl ?_
  have hobt := oblkSt2 (v := .slice uS (n21 + 1) uT) (i := 3) (cs' := #[.int .i64 a0.Enum.Points, .bool a0.Enum.Monoid, .slice al ak am, .slice uS (n21 + 1) uT, .slice p25 n27 c26, .slice p31 n33 c32, .slice ax aq ay, .slice p37 n39 c38, .int .i64 a0.Enum.Done, .map (some az), .slice p43 n45 c44, .slice p49 n51 c50, .slice bf bc bg]) 1 hO rfl rfl rfl rfl
  obtain ⟨K9, jZ, BR⟩ := hobt
  dsimp only [sS, sZ] at jZ
  refine GoR.op (BR Try.underlying22 rfl ti22 (by exact rfl) (by exact rfl)) rfl rfl ?_
  replace bu := bu.ch jZ.ch
  replace aa := aa.ch jZ.ch
  replace eN := eN.ch jZ.ch
  replace bW := bW.ch jZ.ch
  replace bO := bO.ch jZ.ch
  replace ab := ab.ch jZ.ch
  replace bv := bv.ch jZ.ch
  replace aQ := aQ.ch jZ.ch
  replace aG := aG.ch jZ.ch
  replace ac := ac.ch jZ.ch
  replace hO := jZ.own
  replace bB := bB.ch jZ.ch
  replace bC := bC.ch jZ.ch
  replace bh := bh.ch jZ.ch
  replace dx := dx.ch jZ.ch
  replace eB := eB.ch jZ.ch
  replace hB := hB.trans jZ.fr
  refine GoR.nil ?_
  refine Go1.seq ?_
  refine Go1.cut [(0, .pointer (some ⟨dp, 0, none⟩)), (2, .int .i64 a0.Enum.Done), (3, .int .i64 (k1_12 : Int)), (4, .string (gstr ((ix d_40 a0.Enum.Done) ++ (chr (IntKind.i32.wrap ((97 : Int) + (k1_12 : Int))))))), (5, .int .i64 (ix (ix a0.Enum.Right (ix d_46 a0.Enum.Done)) (k1_12 : Int))), (13, .int .i64 (d_16.length : Int))] ⟨rfl, rfl, rfl, rfl, rfl, rfl, trivial⟩ ?_
  intro σ _
  refine Go1.region ?_
  refine GoR.op ((op_move rfl) _) rfl rfl ?_
  refine GoR.op ((op_move rfl) _) rfl rfl ?_
  refine GoR.op ((op_nilCheck rfl) _) rfl rfl ?_
  refine GoR.op ((op_fieldAddr Try.underlying72 rfl ti29 rfl (by decide)) _) rfl rfl ?_
  refine GoR.op ((op_fieldAddr Try.underlying29 rfl ti26 rfl (by decide)) _) rfl rfl ?_
  refine GoR.op ((oblk (i := 4) 1 hO rfl rfl Try.underlying26 rfl rfl) _ (Same.refl _)) rfl rfl ?_
  refine GoR.op ((op_move rfl) _) rfl rfl ?_
  have hobt := obuild (r := Rp.int .i64) (n := 1) (parts := [(0, .int .i64 a0.Enum.Done)]) (vs := [.int .i64 a0.Enum.Done]) (xs := [a0.Enum.Done]) rfl Try.underlying26 ti3 hO (by decide) (by kernel_rfl) (Els.cons rfl rfl (Els.nil _ _ _) (by simp [mx])) rfl
  obtain ⟨La, Lb, gV, EB, Iq, BS⟩ := hobt
  refine GoR.op (BS rfl) rfl rfl ?_
  replace bu := bu.ch gV.ch
  replace aa := aa.ch gV.ch
  replace eN := eN.ch gV.ch
  replace bW := bW.ch gV.ch
  replace bO := bO.ch gV.ch
  replace ab := ab.ch gV.ch
  replace bv := bv.ch gV.ch
  replace aQ := aQ.ch gV.ch
  replace aG := aG.ch gV.ch
  replace ac := ac.ch gV.ch
  replace hO := gV.own
  replace bB := bB.ch gV.ch
  replace bC := bC.ch gV.ch
  replace bh := bh.ch gV.ch
  replace dx := dx.ch gV.ch
  replace eB := eB.ch gV.ch
  replace hB := hB.trans gV.fr
  have hobt := freeze 0 hO rfl EB
  obtain ⟨hO1, mX, f5, EC⟩ := hobt
  dsimp only [eS, eZ] at hO1 mX f5
  replace bB := bB.ch mX
  replace bC := bC.ch mX
  replace bh := bh.ch mX
  replace dx := dx.ch mX
  replace eB := eB.ch mX
  replace bu := bu.ch mX
  replace aa := aa.ch mX
  replace eN := eN.ch mX
  replace bW := bW.ch mX
  replace bO := bO.ch mX
  replace ab := ab.ch mX
  replace bv := bv.ch mX
  replace aQ := aQ.ch mX
  replace aG := aG.ch mX
  replace ac := ac.ch mX
  replace hB := hB.trans (Owns.dropFr _ _ 0)
  dsimp only [eS, eZ] at hB
  replace hO := hO1; clear hO1
  obtain ⟨Hb, H⟩ := H
  have hobt := oapp Try.underlying26 ti3 rfl 4 hO rfl bW f5 EC Hb (by decide)
  obtain ⟨Lc, vP, vQ, ED, gC, fY, BT⟩ := hobt
  dsimp only [sS, sZ] at gC fY
  refine GoR.op (BT (by exact rfl) (by exact rfl)) rfl rfl ?_
  replace bu := bu.ch gC.ch
  replace aa := aa.ch gC.ch
  replace eN := eN.ch gC.ch
  replace bO := bO.ch gC.ch
  replace ab := ab.ch gC.ch
  replace bv := bv.ch gC.ch
  replace aQ := aQ.ch gC.ch
  replace aG := aG.ch gC.ch
  replace ac := ac.ch gC.ch
  replace hO := gC.own
  replace bB := bB.ch gC.ch
  replace bC := bC.ch gC.ch
  replace bh := bh.ch gC.ch
  replace dx := dx.ch gC.ch
  replace eB := eB.ch gC.ch
  replace f5 := f5.ch gC.ch
  replace hB := hB.trans gC.fr
  refine GoR.op ((op_nilCheck rfl) _) rfl rfl ?_
  refine GoR.op ((op_fieldAddr Try.underlying72 rfl ti29 rfl (by decide)) _) rfl rfl ?_
  refine GoR.op ((op_fieldAddr Try.underlying29 rfl ti26 rfl (by decide)) _) rfl rfl ?_
  have hobt := oblkSt2 (v := .slice vP (n27 + 1) vQ) (i := 4) (cs' := #[.int .i64 a0.Enum.Points, .bool a0.Enum.Monoid, .slice al ak am, .slice uS (n21 + 1) uT, .slice vP (n27 + 1) vQ, .slice p31 n33 c32, .slice ax aq ay, .slice p37 n39 c38, .int .i64 a0.Enum.Done, .map (some az), .slice p43 n45 c44, .slice p49 n51 c50, .slice bf bc bg]) 1 hO rfl rfl rfl rfl
  obtain ⟨Ld, jv, BU⟩ := hobt
  dsimp only [sS, sZ] at jv
  refine GoR.op (BU Try.underlying26 rfl ti26 (by exact rfl) (by exact rfl)) rfl rfl ?_
  replace bu := bu.ch jv.ch
  replace aa := aa.ch jv.ch
  replace eN := eN.ch jv.ch
  replace fY := fY.ch jv.ch
  replace bO := bO.ch jv.ch
  replace ab := ab.ch jv.ch
  replace bv := bv.ch jv.ch
  replace aQ := aQ.ch jv.ch
  replace aG := aG.ch jv.ch
  replace ac := ac.ch jv.ch
  replace hO := jv.own
  replace bB := bB.ch jv.ch
  replace bC := bC.ch jv.ch
  replace bh := bh.ch jv.ch
  replace dx := dx.ch jv.ch
  replace eB := eB.ch jv.ch
  replace f5 := f5.ch jv.ch
  replace hB := hB.trans jv.fr
  refine GoR.nil ?_
  refine Go1.seq ?_
  refine Go1.region ?_
  refine GoR.op ((op_move rfl) _) rfl rfl ?_
  refine GoR.op ((op_move rfl) _) rfl rfl ?_
  refine GoR.op ((op_nilCheck rfl) _) rfl rfl ?_
  refine GoR.op ((op_fieldAddr Try.underlying72 rfl ti29 rfl (by decide)) _) rfl rfl ?_
  refine GoR.op ((op_fieldAddr Try.underlying29 rfl ti26 rfl (by decide)) _) rfl rfl ?_
  refine GoR.op ((oblk (i := 5) 1 hO rfl rfl Try.underlying26 rfl rfl) _ (Same.refl _)) rfl rfl ?_
  refine GoR.op ((op_move rfl) _) rfl rfl ?_
  have hobt := obuild (r := Rp.int .i64) (n := 1) (parts := [(0, .int .i64 (k1_12 : Int))]) (vs := [.int .i64 (k1_12 : Int)]) (xs := [(k1_12 : Int)]) rfl Try.underlying26 ti3 hO (by decide) (by kernel_rfl) (Els.cons rfl rfl (Els.nil _ _ _) (by simp [mx])) rfl
  obtain ⟨Le, Lf, j3, EE, Ir, BV⟩ := hobt
  refine GoR.op (BV rfl) rfl rfl ?_
  replace bu := bu.ch j3.ch
  replace aa := aa.ch j3.ch
  replace eN := eN.ch j3.ch
  replace fY := fY.ch j3.ch
  replace bO := bO.ch j3.ch
  replace ab := ab.ch j3.ch
  replace bv := bv.ch j3.ch
  replace aQ := aQ.ch j3.ch
  replace aG := aG.ch j3.ch
  replace ac := ac.ch j3.ch
  replace hO := j3.own
  replace bB := bB.ch j3.ch
  replace bC := bC.ch j3.ch
  replace bh := bh.ch j3.ch
  replace dx := dx.ch j3.ch
  replace eB := eB.ch j3.ch
  replace f5 := f5.ch j3.ch
  replace hB := hB.trans j3.fr
  have hobt := freeze 0 hO rfl EE
  obtain ⟨hO1, mE, i8, EF⟩ := hobt
  dsimp only [eS, eZ] at hO1 mE i8
  replace bB := bB.ch mE
  replace bC := bC.ch mE
  replace bh := bh.ch mE
  replace dx := dx.ch mE
  replace eB := eB.ch mE
  replace f5 := f5.ch mE
  replace bu := bu.ch mE
  replace aa := aa.ch mE
  replace eN := eN.ch mE
  replace fY := fY.ch mE
  replace bO := bO.ch mE
  replace ab := ab.ch mE
  replace bv := bv.ch mE
  replace aQ := aQ.ch mE
  replace aG := aG.ch mE
  replace ac := ac.ch mE
  replace hB := hB.trans (Owns.dropFr _ _ 0)
  dsimp only [eS, eZ] at hB
  replace hO := hO1; clear hO1
  obtain ⟨Hc, H⟩ := H
  have hobt := oapp Try.underlying26 ti3 rfl 5 hO rfl bO i8 EF Hc (by decide)
  obtain ⟨Lg, wP, wQ, EG, jw, jP, BW⟩ := hobt
  dsimp only [sS, sZ] at jw jP
  refine GoR.op (BW (by exact rfl) (by exact rfl)) rfl rfl ?_
  replace bu := bu.ch jw.ch
  replace aa := aa.ch jw.ch
  replace eN := eN.ch jw.ch
  replace fY := fY.ch jw.ch
  replace ab := ab.ch jw.ch
  replace bv := bv.ch jw.ch
  replace aQ := aQ.ch jw.ch
  replace aG := aG.ch jw.ch
  replace ac := ac.ch jw.ch
  replace hO := jw.own
  replace bB := bB.ch jw.ch
  replace bC := bC.ch jw.ch
  replace bh := bh.ch jw.ch
  replace dx := dx.ch jw.ch
  replace eB := eB.ch jw.ch
  replace f5 := f5.ch jw.ch
  replace i8 := i8.ch jw.ch
  replace hB := hB.trans jw.fr
  refine GoR.op ((op_nilCheck rfl) _) rfl rfl ?_
  refine GoR.op ((op_fieldAddr Try.underlying72 rfl ti29 rfl (by decide)) _) rfl rfl ?_
  refine GoR.op ((op_fieldAddr Try.underlying29 rfl ti26 rfl (by decide)) _) rfl rfl ?_
  have hobt := oblkSt2 (v := .slice wP (n33 + 1) wQ) (i := 5) (cs' := #[.int .i64 a0.Enum.Points, .bool a0.Enum.Monoid, .slice al ak am, .slice uS (n21 + 1) uT, .slice vP (n27 + 1) vQ, .slice wP (n33 + 1) wQ, .slice ax aq ay, .slice p37 n39 c38, .int .i64 a0.Enum.Done, .map (some az), .slice p43 n45 c44, .slice p49 n51 c50, .slice bf bc bg]) 1 hO rfl rfl rfl rfl
  obtain ⟨Lh, i4, BX⟩ := hobt
  dsimp only [sS, sZ] at i4
  refine GoR.op (BX Try.underlying26 rfl ti26 (by exact rfl) (by exact rfl)) rfl rfl ?_
  replace bu := bu.ch i4.ch
  replace aa := aa.ch i4.ch
  replace eN := eN.ch i4.ch
  replace fY := fY.ch i4.ch
  replace jP := jP.ch i4.ch
  replace ab := ab.ch i4.ch
  replace bv := bv.ch i4.ch
  replace aQ := aQ.ch i4.ch
  replace aG := aG.ch i4.ch
  replace ac := ac.ch i4.ch
  replace hO := i4.own
  replace bB := bB.ch i4.ch
  replace bC := bC.ch i4.ch
  replace bh := bh.ch i4.ch
  replace dx := dx.ch i4.ch
  replace eB := eB.ch i4.ch
  replace f5 := f5.ch i4.ch
  replace i8 := i8.ch i4.ch
  replace hB := hB.trans i4.fr
  refine GoR.nil ?_
  refine Go1.seq ?_
  refine Go1.cut [(0, .pointer (some ⟨dp, 0, none⟩)), (4, .string (gstr ((ix d_40 a0.Enum.Done) ++ (chr (IntKind.i32.wrap ((97 : Int) + (k1_12 : Int))))))), (5, .int .i64 (ix (ix a0.Enum.Right (ix d_46 a0.Enum.Done)) (k1_12 : Int))), (13, .int .i64 (d_16.length : Int))] ⟨rfl, rfl, rfl, rfl, trivial⟩ ?_
  intro σ _
  refine Go1.region ?_
  refine GoR.op ((op_move rfl) _) rfl rfl ?_
  refine GoR.op ((op_move rfl) _) rfl rfl ?_
  refine GoR.op ((op_nilCheck rfl) _) rfl rfl ?_
  refine GoR.op ((op_fieldAddr Try.underlying72 rfl ti70 rfl (by decide)) _) rfl rfl ?_
  refine GoR.op ((oblk (i := 10) 1 hO rfl rfl Try.underlying70 rfl rfl) _ (Same.refl _)) rfl rfl ?_
  refine GoR.op ((op_move rfl) _) rfl rfl ?_
  have hobt := obuild (r := Rp.str) (n := 1) (parts := [(0, .string (gstr ((ix d_40 a0.Enum.Done) ++ (chr (IntKind.i32.wrap ((97 : Int) + (k1_12 : Int)))))))]) (vs := [.string (gstr ((ix d_40 a0.Enum.Done) ++ (chr (IntKind.i32.wrap ((97 : Int) + (k1_12 : Int))))))]) (xs := [(ix d_40 a0.Enum.Done) ++ (chr (IntKind.i32.wrap ((97 : Int) + (k1_12 : Int))))]) rfl Try.underlying70 ti9 hO (by decide) (by kernel_rfl) (Els.cons rfl ⟨rfl, (lenApp zl)⟩ (Els.nil _ _ _) (by simp [mx])) rfl
  obtain ⟨Li, Lj, jx, EH, It, wI⟩ := hobt
  refine GoR.op (wI rfl) rfl rfl ?_
  replace bu := bu.ch jx.ch
  replace aa := aa.ch jx.ch
  replace eN := eN.ch jx.ch
  replace fY := fY.ch jx.ch
  replace jP := jP.ch jx.ch
  replace ab := ab.ch jx.ch
  replace bv := bv.ch jx.ch
  replace aQ := aQ.ch jx.ch
  replace aG := aG.ch jx.ch
  replace ac := ac.ch jx.ch
  replace hO := jx.own
  replace bB := bB.ch jx.ch
  replace bC := bC.ch jx.ch
  replace bh := bh.ch jx.ch
  replace dx := dx.ch jx.ch
  replace eB := eB.ch jx.ch
  replace f5 := f5.ch jx.ch
  replace i8 := i8.ch jx.ch
  replace hB := hB.trans jx.fr
  have hobt := freeze 0 hO rfl EH
  obtain ⟨hO1, mo, mY, EI⟩ := hobt
  dsimp only [eS, eZ] at hO1 mo mY
  replace bB := bB.ch mo
  replace bC := bC.ch mo
  replace bh := bh.ch mo
  replace dx := dx.ch mo
  replace eB := eB.ch mo
  replace f5 := f5.ch mo
  replace i8 := i8.ch mo
  replace bu := bu.ch mo
  replace aa := aa.ch mo
  replace eN := eN.ch mo
  replace fY := fY.ch mo
  replace jP := jP.ch mo
  replace ab := ab.ch mo
  replace bv := bv.ch mo
  replace aQ := aQ.ch mo
  replace aG := aG.ch mo
  replace ac := ac.ch mo
  replace hB := hB.trans (Owns.dropFr _ _ 0)
  dsimp only [eS, eZ] at hB
  replace hO := hO1; clear hO1
  obtain ⟨He, H⟩ := H
  have hobt := oapp Try.underlying70 ti9 rfl 8 hO rfl aQ mY EI He (by decide)
  obtain ⟨Lk, x3, x4, EJ, i5, pp, BY⟩ := hobt
  dsimp only [sS, sZ] at i5 pp
  refine GoR.op (BY (by exact rfl) (by exact rfl)) rfl rfl ?_
  replace bu := bu.ch i5.ch
  replace aa := aa.ch i5.ch
  replace eN := eN.ch i5.ch
  replace fY := fY.ch i5.ch
  replace jP := jP.ch i5.ch
  replace ab := ab.ch i5.ch
  replace bv := bv.ch i5.ch
  replace aG := aG.ch i5.ch
  replace ac := ac.ch i5.ch
  replace hO := i5.own
  replace bB := bB.ch i5.ch
  replace bC := bC.ch i5.ch
  replace bh := bh.ch i5.ch
  replace dx := dx.ch i5.ch
  replace eB := eB.ch i5.ch
  replace f5 := f5.ch i5.ch
  replace i8 := i8.ch i5.ch
  replace mY := mY.ch i5.ch
  replace hB := hB.trans i5.fr
  refine GoR.op ((op_nilCheck rfl) _) rfl rfl ?_
  refine GoR.op ((op_fieldAddr Try.underlying72 rfl ti70 rfl (by decide)) _) rfl rfl ?_
  have hobt := oblkSt2 (v := .slice x3 (n45 + 1) x4) (i := 10) (cs' := #[.int .i64 a0.Enum.Points, .bool a0.Enum.Monoid, .slice al ak am, .slice uS (n21 + 1) uT, .slice vP (n27 + 1) vQ, .slice wP (n33 + 1) wQ, .slice ax aq ay, .slice p37 n39 c38, .int .i64 a0.Enum.Done, .map (some az), .slice x3 (n45 + 1) x4, .slice p49 n51 c50, .slice bf bc bg]) 1 hO rfl rfl rfl rfl
  obtain ⟨Ll, ib, BZ⟩ := hobt
  dsimp only [sS, sZ] at ib
  refine GoR.op (BZ Try.underlying70 rfl ti70 (by exact rfl) (by exact rfl)) rfl rfl ?_
  replace bu := bu.ch ib.ch
  replace aa := aa.ch ib.ch
  replace eN := eN.ch ib.ch
  replace fY := fY.ch ib.ch
  replace jP := jP.ch ib.ch
  replace ab := ab.ch ib.ch
  replace bv := bv.ch ib.ch
  replace pp := pp.ch ib.ch
  replace aG := aG.ch ib.ch
  replace ac := ac.ch ib.ch
  replace hO := ib.own
  replace bB := bB.ch ib.ch
  replace bC := bC.ch ib.ch
  replace bh := bh.ch ib.ch
  replace dx := dx.ch ib.ch
  replace eB := eB.ch ib.ch
  replace f5 := f5.ch ib.ch
  replace i8 := i8.ch ib.ch
  replace mY := mY.ch ib.ch
  replace hB := hB.trans ib.fr
  refine GoR.nil ?_
  refine Go1.seq ?_
  refine Go1.region ?_
  refine GoR.op ((op_move rfl) _) rfl rfl ?_
  refine GoR.op ((op_move rfl) _) rfl rfl ?_
  refine GoR.op ((op_nilCheck rfl) _) rfl rfl ?_
  refine GoR.op ((op_fieldAddr Try.underlying72 rfl ti26 rfl (by decide)) _) rfl rfl ?_
  refine GoR.op ((oblk (i := 11) 1 hO rfl rfl Try.underlying26 rfl rfl) _ (Same.refl _)) rfl rfl ?_
  refine GoR.op ((op_move rfl) _) rfl rfl ?_
  have hobt := obuild (r := Rp.int .i64) (n := 1) (parts := [(0, .int .i64 (ix (ix a0.Enum.Right (ix d_46 a0.Enum.Done)) (k1_12 : Int)))]) (vs := [.int .i64 (ix (ix a0.Enum.Right (ix d_46 a0.Enum.Done)) (k1_12 : Int))]) (xs := [(ix (ix a0.Enum.Right (ix d_46 a0.Enum.Done)) (k1_12 : Int))]) rfl Try.underlying26 ti3 hO (by decide) (by kernel_rfl) (Els.cons rfl rfl (Els.nil _ _ _) (by simp [mx])) rfl
  obtain ⟨Lm, Ln, i6, EK, Iu, B0⟩ := hobt
  refine GoR.op (B0 rfl) rfl rfl ?_
  replace bu := bu.ch i6.ch
  replace aa := aa.ch i6.ch
  replace eN := eN.ch i6.ch
  replace fY := fY.ch i6.ch
  replace jP := jP.ch i6.ch
  replace ab := ab.ch i6.ch
  replace bv := bv.ch i6.ch
  replace pp := pp.ch i6.ch
  replace aG := aG.ch i6.ch
  replace ac := ac.ch i6.ch
  replace hO := i6.own
  replace bB := bB.ch i6.ch
  replace bC := bC.ch i6.ch
  replace bh := bh.ch i6.ch
  replace dx := dx.ch i6.ch
  replace eB := eB.ch i6.ch
  replace f5 := f5.ch i6.ch
  replace i8 := i8.ch i6.ch
  replace mY := mY.ch i6.ch
  replace hB := hB.trans i6.fr
  have hobt := freeze 0 hO rfl EK
  obtain ⟨hO1, lP, sO, EL⟩ := hobt
  dsimp only [eS, eZ] at hO1 lP sO
  replace bB := bB.ch lP
  replace bC := bC.ch lP
  replace bh := bh.ch lP
  replace dx := dx.ch lP
  replace eB := eB.ch lP
  replace f5 := f5.ch lP
  replace i8 := i8.ch lP
  replace mY := mY.ch lP
  replace bu := bu.ch lP
  replace aa := aa.ch lP
  replace eN := eN.ch lP
  replace fY := fY.ch lP
  replace jP := jP.ch lP
  replace ab := ab.ch lP
  replace bv := bv.ch lP
  replace pp := pp.ch lP
  replace aG := aG.ch lP
  replace ac := ac.ch lP
  replace hB := hB.trans (Owns.dropFr _ _ 0)
  dsimp only [eS, eZ] at hB
  replace hO := hO1; clear hO1
  obtain ⟨Hf, H⟩ := H
  have hobt := oapp Try.underlying26 ti3 rfl 9 hO rfl aG sO EL Hf (by decide)
  obtain ⟨Lo, zB, zC, EM, eC, sJ, B1⟩ := hobt
  dsimp only [sS, sZ] at eC sJ
  refine GoR.op (B1 (by exact rfl) (by exact rfl)) rfl rfl ?_
  replace bu := bu.ch eC.ch
  replace aa := aa.ch eC.ch
  replace eN := eN.ch eC.ch
  replace fY := fY.ch eC.ch
  replace jP := jP.ch eC.ch
  replace ab := ab.ch eC.ch
  replace bv := bv.ch eC.ch
  replace pp := pp.ch eC.ch
  replace ac := ac.ch eC.ch
  replace hO := eC.own
  replace bB := bB.ch eC.ch
  replace bC := bC.ch eC.ch
  replace bh := bh.ch eC.ch
  replace dx := dx.ch eC.ch
  replace eB := eB.ch eC.ch
  replace f5 := f5.ch eC.ch
  replace i8 := i8.ch eC.ch
  replace mY := mY.ch eC.ch
  replace sO := sO.ch eC.ch
  replace hB := hB.trans eC.fr
  refine GoR.op ((op_nilCheck rfl) _) rfl rfl ?_
  refine GoR.op ((op_fieldAddr Try.underlying72 rfl ti26 rfl (by decide)) _) rfl rfl ?_
  have hobt := oblkSt2 (v := .slice zB (n51 + 1) zC) (i := 11) (cs' := #[.int .i64 a0.Enum.Points, .bool a0.Enum.Monoid, .slice al ak am, .slice uS (n21 + 1) uT, .slice vP (n27 + 1) vQ, .slice wP (n33 + 1) wQ, .slice ax aq ay, .slice p37 n39 c38, .int .i64 a0.Enum.Done, .map (some az), .slice x3 (n45 + 1) x4, .slice zB (n51 + 1) zC, .slice bf bc bg]) 1 hO rfl rfl rfl rfl
  obtain ⟨Lp, g8, B3⟩ := hobt
  dsimp only [sS, sZ] at g8
  refine GoR.op (B3 Try.underlying26 rfl ti26 (by exact rfl) (by exact rfl)) rfl rfl ?_
  replace bu := bu.ch g8.ch
  replace aa := aa.ch g8.ch
  replace eN := eN.ch g8.ch
  replace fY := fY.ch g8.ch
  replace jP := jP.ch g8.ch
  replace ab := ab.ch g8.ch
  replace bv := bv.ch g8.ch
  replace pp := pp.ch g8.ch
  replace sJ := sJ.ch g8.ch
  replace ac := ac.ch g8.ch
  replace hO := g8.own
  replace bB := bB.ch g8.ch
  replace bC := bC.ch g8.ch
  replace bh := bh.ch g8.ch
  replace dx := dx.ch g8.ch
  replace eB := eB.ch g8.ch
  replace f5 := f5.ch g8.ch
  replace i8 := i8.ch g8.ch
  replace mY := mY.ch g8.ch
  replace sO := sO.ch g8.ch
  replace hB := hB.trans g8.fr
  refine GoR.nil ?_
  refine Go1.seq ?_
  refine Go1.cut [(13, .int .i64 (d_16.length : Int))] ⟨rfl, trivial⟩ ?_
  intro σ _
  refine Go1.region ?_
  refine GoR.op ((op_move rfl) _) rfl rfl ?_
  refine GoR.op ((op_assign rfl) _) rfl rfl ?_
  refine GoR.nil ?_
  refine Go1.ret1V Try.func65 rfl (show _ = .int .i64 (d_16.length : Int) from rfl) ?_
  refine hR377 _ _ ?_
  refine GoR.op ((op_assign rfl) _) rfl rfl ?_
  refine GoR.nil ?_
  refine Go1.inBlock ?_
  refine Go1.region ?_
  refine GoR.op ((op_move rfl) _) rfl rfl ?_
  refine GoR.op ((op_move rfl) _) rfl rfl ?_
  refine GoR.op ((op_move rfl) _) rfl rfl ?_
  obtain ⟨zD, H⟩ := H
  obtain ⟨zE, H⟩ := H
  refine GoR.op ((op_index Try.underlying26 ti3 rfl rfl zD (ltn (bu.neq hO 0 rfl) zE) (bu.psome hO 0 rfl zD zE)) _) rfl rfl ?_
  have hobt := ost (r := Rp.int .i64) rfl 0 hO rfl bu zD zE (v := .int .i64 (d_16.length : Int)) (u := (d_16.length : Int)) rfl rfl
  obtain ⟨Lr, EO, ic, zT, B5⟩ := hobt
  dsimp only [sS, sZ] at ic zT
  refine GoR.op (B5 Try.underlying3 rfl ti3 (by exact rfl) (by exact rfl)) rfl rfl ?_
  replace aa := aa.ch ic.ch
  replace eN := eN.ch ic.ch
  replace fY := fY.ch ic.ch
  replace jP := jP.ch ic.ch
  replace ab := ab.ch ic.ch
  replace bv := bv.ch ic.ch
  replace pp := pp.ch ic.ch
  replace sJ := sJ.ch ic.ch
  replace ac := ac.ch ic.ch
  replace hO := ic.own
  replace bB := bB.ch ic.ch
  replace bC := bC.ch ic.ch
  replace bh := bh.ch ic.ch
  replace dx := dx.ch ic.ch
  replace eB := eB.ch ic.ch
  replace f5 := f5.ch ic.ch
  replace i8 := i8.ch ic.ch
  replace mY := mY.ch ic.ch
  replace sO := sO.ch ic.ch
  replace hB := hB.trans ic.fr
  refine GoR.nil ?_
  refine Go1.inBlock ?_
  refine Go1.region ?_
  refine GoR.op ((op_add rfl rfl (wrap_i64 (natbd h53 aa.bd))) _) rfl rfl ?_
  refine GoR.op ((op_move rfl) _) rfl rfl ?_
  refine GoR.nil ?_
  exact hX1 _ H _ _ ⟨EO, n21 + 1, uS, uT, EA, n27 + 1, vP, vQ, ED, n33 + 1, wP, wQ, EG, n39, p37, c38, l9, n45 + 1, x3, x4, EJ, n51 + 1, zB, zC, EM, ⟨rfl, rfl, rfl, rfl, rfl, rfl, trivial⟩, hO, zT, aa, eN, fY, jP, ab, bv, pp, sJ, ac, hB⟩
 replace H := ifn h53 H
 refine GoR.op ((fun w => opB (op_lss rfl rfl w) (decide_eq_false h53)) _) rfl rfl ?_
 refine GoR.nil ?_
 refine Go1.seq ?_
 refine Go1.condF rfl rfl ?_
 refine Go1.exit rfl ?_
 refine Go1.seq ?_
 refine Go1.region ?_
 refine GoR.op ((op_move rfl) _) rfl rfl ?_
 refine GoR.op ((op_move rfl) _) rfl rfl ?_
 refine GoR.op ((op_nilCheck rfl) _) rfl rfl ?_
 refine GoR.op ((op_fieldAddr Try.underlying72 rfl ti29 rfl (by decide)) _) rfl rfl ?_
 refine GoR.op ((op_fieldAddr Try.underlying29 rfl ti22 rfl (by decide)) _) rfl rfl ?_
 refine GoR.op ((oblk (i := 6) 1 hO rfl rfl Try.underlying22 rfl rfl) _ (Same.refl _)) rfl rfl ?_
 refine GoR.op ((op_move rfl) _) rfl rfl ?_
 have hobt := freeze 0 hO rfl bu
 obtain ⟨hO1, rO, qu, EP⟩ := hobt
 dsimp only [eS, eZ] at hO1 rO qu
 replace aa := aa.ch rO
 replace cz := cz.ch rO
 replace bW := bW.ch rO
 replace bO := bO.ch rO
 replace ab := ab.ch rO
 replace bv := bv.ch rO
 replace aQ := aQ.ch rO
 replace aG := aG.ch rO
 replace ac := ac.ch rO
 replace hB := hB.trans (Owns.dropFr _ _ 0)
 dsimp only [eS, eZ] at hB
 replace hO := hO1; clear hO1
 have hobt := obuild (r := Rp.sl (Rp.int .i64)) (n := 1) (parts := [(0, .slice p2 a0.Enum.Gens.length a0.Enum.Gens.length)]) (vs := [.slice p2 a0.Enum.Gens.length a0.Enum.Gens.length]) (xs := [d_13]) rfl Try.underlying22 ti26 hO (by decide) (by kernel_rfl) (Els.cons rfl ⟨p2, a0.Enum.Gens.length, congrArg some (congrArg (fun nn => Value.slice p2 nn a0.Enum.Gens.length) EP), qu⟩ (Els.nil _ _ _) (by simp [mx])) rfl
 obtain ⟨Ls, Lt, oN, EQ, Iv, wJ⟩ := hobt
 refine GoR.op (wJ rfl) rfl rfl ?_
 replace aa := aa.ch oN.ch
 replace cz := cz.ch oN.ch
 replace bW := bW.ch oN.ch
 replace bO := bO.ch oN.ch
 replace ab := ab.ch oN.ch
 replace bv := bv.ch oN.ch
 replace aQ := aQ.ch oN.ch
 replace aG := aG.ch oN.ch
 replace ac := ac.ch oN.ch
 replace hO := oN.own
 replace qu := qu.ch oN.ch
 replace hB := hB.trans oN.fr
 have hobt := freeze 0 hO rfl EQ
 obtain ⟨hO1, qO, sP, ER⟩ := hobt
 dsimp only [eS, eZ] at hO1 qO sP
 replace qu := qu.ch qO
 replace aa := aa.ch qO
 replace cz := cz.ch qO
 replace bW := bW.ch qO
 replace bO := bO.ch qO
 replace ab := ab.ch qO
 replace bv := bv.ch qO
 replace aQ := aQ.ch qO
 replace aG := aG.ch qO
 replace ac := ac.ch qO
 replace hB := hB.trans (Owns.dropFr _ _ 0)
 dsimp only [eS, eZ] at hB
 replace hO := hO1; clear hO1
 obtain ⟨Hg, H⟩ := H
 have hobt := oapp Try.underlying22 ti26 rfl 5 hO rfl ab sP ER Hg (by decide)
 obtain ⟨Lu, x5, x6, ES, nj, ul, B6⟩ := hobt
 dsimp only [sS, sZ] at nj ul
 refine GoR.op (B6 (by exact rfl) (by exact rfl)) rfl rfl ?_
 replace aa := aa.ch nj.ch
 replace cz := cz.ch nj.ch
 replace bW := bW.ch nj.ch
 replace bO := bO.ch nj.ch
 replace bv := bv.ch nj.ch
 replace aQ := aQ.ch nj.ch
 replace aG := aG.ch nj.ch
 replace ac := ac.ch nj.ch
 replace hO := nj.own
 replace qu := qu.ch nj.ch
 replace sP := sP.ch nj.ch
 replace hB := hB.trans nj.fr
 refine GoR.op ((op_nilCheck rfl) _) rfl rfl ?_
 refine GoR.op ((op_fieldAddr Try.underlying72 rfl ti29 rfl (by decide)) _) rfl rfl ?_
 refine GoR.op ((op_fieldAddr Try.underlying29 rfl ti22 rfl (by decide)) _) rfl rfl ?_
 have hobt := oblkSt2 (v := .slice x5 (aq + 1) x6) (i := 6) (cs' := #[.int .i64 a0.Enum.Points, .bool a0.Enum.Monoid, .slice al ak am, .slice p19 n21 c20, .slice p25 n27 c26, .slice p31 n33 c32, .slice x5 (aq + 1) x6, .slice p37 n39 c38, .int .i64 a0.Enum.Done, .map (some az), .slice p43 n45 c44, .slice p49 n51 c50, .slice bf bc bg]) 0 hO rfl rfl rfl rfl
 obtain ⟨Lv, mF, B7⟩ := hobt
 dsimp only [sS, sZ] at mF
 refine GoR.op (B7 Try.underlying22 rfl ti22 (by exact rfl) (by exact rfl)) rfl rfl ?_
 replace aa := aa.ch mF.ch
 replace cz := cz.ch mF.ch
 replace bW := bW.ch mF.ch
 replace bO := bO.ch mF.ch
 replace ul := ul.ch mF.ch
 replace bv := bv.ch mF.ch
 replace aQ := aQ.ch mF.ch
 replace aG := aG.ch mF.ch
 replace ac := ac.ch mF.ch
 replace hO := mF.own
 replace qu := qu.ch mF.ch
 replace sP := sP.ch mF.ch
 replace hB := hB.trans mF.fr
 refine GoR.nil ?_
 refine Go1.seq ?_
 refine Go1.cut [(0, .pointer (some ⟨dp, 0, none⟩))] ⟨rfl, trivial⟩ ?_
 intro σ _
 refine Go1.region ?_
 refine GoR.op ((op_move rfl) _) rfl rfl ?_
 refine GoR.op ((op_nilCheck rfl) _) rfl rfl ?_
 refine GoR.op ((op_fieldAddr Try.underlying72 rfl ti29 rfl (by decide)) _) rfl rfl ?_
 refine GoR.op ((op_fieldAddr Try.underlying29 rfl ti3 rfl (by decide)) _) rfl rfl ?_
 refine GoR.op ((oblk (i := 8) 0 hO rfl rfl Try.underlying3 rfl rfl) _ (Same.refl _)) rfl rfl ?_
 obtain ⟨Hh, H⟩ := H
 refine GoR.op ((op_add rfl rfl (wrap_i64 Hh)) _) rfl rfl ?_
 refine GoR.op ((op_nilCheck rfl) _) rfl rfl ?_
 refine GoR.op ((op_fieldAddr Try.underlying72 rfl ti29 rfl (by decide)) _) rfl rfl ?_
 refine GoR.op ((op_fieldAddr Try.underlying29 rfl ti3 rfl (by decide)) _) rfl rfl ?_
 have hobt := oblkSt2 (v := .int .i64 (a0.Enum.Done + (1 : Int))) (i := 8) (cs' := #[.int .i64 a0.Enum.Points, .bool a0.Enum.Monoid, .slice al ak am, .slice p19 n21 c20, .slice p25 n27 c26, .slice p31 n33 c32, .slice x5 (aq + 1) x6, .slice p37 n39 c38, .int .i64 (a0.Enum.Done + (1 : Int)), .map (some az), .slice p43 n45 c44, .slice p49 n51 c50, .slice bf bc bg]) 0 hO rfl rfl rfl rfl
 obtain ⟨Lw, eV, B8⟩ := hobt
 dsimp only [sS, sZ] at eV
 refine GoR.op (B8 Try.underlying3 rfl ti3 (by exact rfl) (by exact rfl)) rfl rfl ?_
 replace aa := aa.ch eV.ch
 replace cz := cz.ch eV.ch
 replace bW := bW.ch eV.ch
 replace bO := bO.ch eV.ch
 replace ul := ul.ch eV.ch
 replace bv := bv.ch eV.ch
 replace aQ := aQ.ch eV.ch
 replace aG := aG.ch eV.ch
 replace ac := ac.ch eV.ch
 replace hO := eV.own
 replace qu := qu.ch eV.ch
 replace sP := sP.ch eV.ch
 replace hB := hB.trans eV.fr
 refine GoR.nil ?_
 refine Go1.seq ?_
 refine Go1.region ?_
 refine GoR.op ((op_assign rfl) _) rfl rfl ?_
 refine GoR.nil ?_
 refine Go1.ret1 Try.func51 rfl ?_
 exact ⟨((0 : Int)), (⟨(⟨a0.Enum.Points, a0.Enum.Monoid, a0.Enum.Gens, d_16, d_22, d_28, a0.Enum.Right ++ ([d_13]), d_34, (a0.Enum.Done + (1 : Int))⟩ : Enum), m1_52, d_40, d_46, a0.single⟩ : run), ak, al, am, bZ, n21, p19, c20, lk, n27, p25, c26, l7, n33, p31, c32, l8, (aq + 1), x5, x6, ES, n39, p37, c38, l9, n45, p43, c44, dH, n51, p49, c50, dI, bc, bf, bg, cE, rfl, hO, aa, cz, bW, bO, ul, bv, aQ, aG, ac, hB, H⟩
theorem body50 : Body Try.prog 50 := ⟨Try.f50, Try.func50, rfl, by kernel_rfl⟩
theorem body17 : Body Try.prog 17 := ⟨Try.f17, Try.func17, rfl, by kernel_rfl⟩
theorem walk_enumerate_Build {A : List Nat} {w0 : World} {eF : Option Addr} {eG : Nat} {gens : List (List Int)} {monoid : Bool} (hA : ∀ b ∈ A, b < w0.heap.size) (ck : ISl (Rp.sl (Rp.int .i64)) A w0 eF eG gens) {K : Enum → Int → Prop} (H : enumerate_Build gens monoid K) :
    CallsV Try.prog 17 #[.slice eF gens.length eG, .bool monoid] w0 (fun v w' => ∃ (r0 : Enum), ∃ (r1 : Int), ∃ (v7 : Option Addr), ∃ (v8 : Nat), ∃ (vi : Option Addr), ∃ (vj : Nat), ∃ (uC : Option Addr), ∃ (uD : Nat), ∃ (wa : Option Addr), ∃ (wb : Nat), ∃ (vk : Option Addr), ∃ (vl : Nat), ∃ (vm : Option Addr), ∃ (vn : Nat), v = .tuple #[.agg #[.int .i64 r0.Points, .bool r0.Monoid, .slice v7 r0.Gens.length v8, .slice vi r0.Elems.length vj, .slice uC r0.Prefix.length uD, .slice wa r0.Last.length wb, .slice vk r0.Right.length vl, .slice vm r0.Rules.length vn, .int .i64 r0.Done], .int .i64 r1] ∧ Same w0 w' ∧ ISl (Rp.sl (Rp.int .i64)) A w' v7 v8 r0.Gens ∧ ISl (Rp.sl (Rp.int .i64)) A w' vi vj r0.Elems ∧ ISl (Rp.int .i64) A w' uC uD r0.Prefix ∧ ISl (Rp.int .i64) A w' wa wb r0.Last ∧ ISl (Rp.sl (Rp.int .i64)) A w' vk vl r0.Right ∧ ISl (rpRule) A w' vm vn r0.Rules ∧ K r0 r1) := by
 refine CallsV.of (l := [.slice eF gens.length eG, .bool monoid]) Try.func17 rfl Try.ntmps17 rfl ?_
 have hO := Owns.start hA
 have hB := Fr.refl (bl []) w0
 unfold enumerate_Build at H
 replace ck := ck.ch (Ch.start A w0)
 refine Go1.seq ?_
 refine Go1.region ?_
 have hobt := oalloc (t := 29) (cs := #[.int .i64 (0 : Int), .bool false, .slice none 0 0, .slice none 0 0, .slice none 0 0, .slice none 0 0, .slice none 0 0, .slice none 0 0, .int .i64 (0 : Int)]) ti29 hO rfl
 obtain ⟨w1, B2, g6, hs4, uU⟩ := hobt
 refine GoR.op uU rfl rfl ?_
 replace hO := g6.own
 replace ck := ck.ch g6.ch
 replace hB := hB.trans g6.fr
 refine GoR.op ((op_assign rfl) _) rfl rfl ?_
 refine GoR.nil ?_
 refine Go1.seq ?_
 refine Go1.region ?_
 refine GoR.op ((op_move rfl) _) rfl rfl ?_
 refine GoR.op ((op_move rfl) _) rfl rfl ?_
 refine GoR.call (op_call body49 rfl (walk_enumerate_begin hO.lt ck H)) rfl rfl ?_
 intro v9 w10 hcase13
 refine Or.elim hcase13 ?_ ?_
 ·refine exE fun r8 => andE fun hv14 => andE fun sD => fun H => ?_
  subst hv14
  clear hcase13
  replace H := oElimN H
  have jQ := Stp.same hO sD
  replace hO := jQ.own
  replace ck := ck.ch jQ.ch
  replace hB := hB.trans jQ.fr
  refine GoR.op ((op_move rfl) _) rfl rfl ?_
  refine GoR.op ((op_extract rfl rfl) _) rfl rfl ?_
  refine GoR.op ((op_extract rfl rfl) _) rfl rfl ?_
  refine GoR.op ((op_assign rfl) _) rfl rfl ?_
  refine GoR.op ((op_assign rfl) _) rfl rfl ?_
  refine GoR.nil ?_
  refine Go1.seq ?_
  refine Go1.seq ?_
  refine Go1.region ?_
  refine GoR.op ((op_move rfl) _) rfl rfl ?_
  by_cases h16 : r8 = (0 : Int)
  ·replace H := ifp h16 H
   refine GoR.op ((fun w => opB (op_neq rfl rfl w) (ndT h16)) _) rfl rfl ?_
   refine GoR.nil ?_
   refine Go1.condF rfl rfl ?_
   refine Go1.skip ?_
   refine Go1.seq ?_
   refine Go1.block ?_
   refine Go1.loopW (S := Unit) (fun s σ w => agrees σ [(4, .pointer (some ⟨B2, 0, none⟩)), (6, .pointer none)] ∧ Owns w0.heap.size w [.blk B2 (.cells #[.int .i64 (0 : Int), .bool false, .slice none 0 0, .slice none 0 0, .slice none 0 0, .slice none 0 0, .slice none 0 0, .slice none 0 0, .int .i64 (0 : Int)] 29 (0, 0))] A ∧ Fr (bl []) w0 (bl [.blk B2 (.cells #[.int .i64 (0 : Int), .bool false, .slice none 0 0, .slice none 0 0, .slice none 0 0, .slice none 0 0, .slice none 0 0, .slice none 0 0, .int .i64 (0 : Int)] 29 (0, 0))]) w) H ⟨⟨rfl, rfl, trivial⟩, hO, hB⟩ ?_
   intro X1 _
   intro H hX1 σ w17
   refine andE fun hag => andE fun hO => fun hB => ?_
   refine Go1.keep [(4, .pointer (some ⟨B2, 0, none⟩)), (6, .pointer none)] hag ?_
   refine Go1.seq ?_
   refine Go1.seq ?_
   refine Go1.region ?_
   refine GoR.op ((op_move rfl) _) rfl rfl ?_
   refine GoR.inl (vs := [.pointer none]) (caps := []) rfl rfl body50 Try.func50 rfl Try.ntmps50 rfl rfl rfl ?_
   intro RhR18 hR18
   refine Go1.seq ?_
   refine Go1.region ?_
   refine GoR.op ((op_assign rfl) _) rfl rfl ?_
   refine GoR.nil ?_
   refine Go1.seq ?_
   refine Go1.drawS 0 [(0, .pure), (1, .pure), (2, .pure), (3, .pure), (4, .stable), (5, .pure), (6, .pure), (7, .pure), (8, .pure), (9, .stable), (10, .pure), (11, .pure), (12, .pure)] mixed (by kernel_rfl) ?_
   intro w19 zF
   have kg := Stp.same hO zF
   replace hO := kg.own
   replace hB := hB.trans kg.fr
   refine GoQ.pure rfl (op_move rfl) rfl rfl ?_
   exact H.elim
  replace H := ifn h16 H
  refine GoR.op ((fun w => opB (op_neq rfl rfl w) (ndF h16)) _) rfl rfl ?_
  refine GoR.nil ?_
  refine Go1.condT rfl rfl ?_
  refine Go1.seq ?_
  refine Go1.region ?_
  refine GoR.op ((op_build Try.underlying29 ti29 (pl := [(0, 1), (1, 1), (2, 1), (3, 1), (4, 1), (5, 1), (6, 1), (7, 1), (8, 1)]) (vs := []) (cs := #[.int .i64 (0 : Int), .bool false, .slice none 0 0, .slice none 0 0, .slice none 0 0, .slice none 0 0, .slice none 0 0, .slice none 0 0, .int .i64 (0 : Int)]) (by kernel_rfl) rfl (by kernel_rfl)) _) rfl rfl ?_
  refine GoR.op ((op_move rfl) _) rfl rfl ?_
  have hobt := oblkStAgg (us := [.int .i64 (0 : Int), .bool false, .slice none 0 0, .slice none 0 0, .slice none 0 0, .slice none 0 0, .slice none 0 0, .slice none 0 0, .int .i64 (0 : Int)]) (o := 0) (cs' := #[.int .i64 (0 : Int), .bool false, .slice none 0 0, .slice none 0 0, .slice none 0 0, .slice none 0 0, .slice none 0 0, .slice none 0 0, .int .i64 (0 : Int)]) 0 hO rfl rfl (Nat.le_of_ble_eq_true rfl) rfl
  obtain ⟨w22, ie, x7⟩ := hobt
  refine GoR.op (x7 ti29 (by exact rfl) (by exact rfl) rfl) rfl rfl ?_
  replace hO := ie.own
  replace ck := ck.ch ie.ch
  replace hB := hB.trans ie.fr
  refine GoR.op ((op_assign rfl) _) rfl rfl ?_
  refine GoR.nil ?_
  refine Go1.retC2 Try.func17 rfl rfl (run_loadBlk (vs := [.int .i64 (0 : Int), .bool false, .slice none 0 0, .slice none 0 0, .slice none 0 0, .slice none 0 0, .slice none 0 0, .slice none 0 0, .int .i64 (0 : Int)]) 0 hO rfl rfl Try.underlying29 rfl ti29) ?_
  exact ⟨(⟨(0 : Int), false, ([] : List (List Int)), ([] : List (List Int)), ([] : List Int), ([] : List Int), ([] : List (List Int)), ([] : List Rule), (0 : Int)⟩ : Enum), r8, none, 0, none, 0, none, 0, none, 0, none, 0, none, 0, rfl, hB.same, (ISl.null _ _ _), (ISl.null _ _ _), (ISl.null _ _ _), (ISl.null _ _ _), (ISl.null _ _ _), (ISl.null _ _ _), H⟩
 ·refine exE fun r7 => exE fun r8 => exE fun kd => exE fun rs => exE fun ru => exE fun rv => exE fun qP => exE fun qQ => exE fun qR => exE fun qS => exE fun qB => exE fun qC => exE fun qD => exE fun qE => exE fun qb => exE fun ry => exE fun rz => exE fun rB => exE fun qT => exE fun qU => exE fun qV => exE fun qW => exE fun qF => exE fun qX => exE fun qY => exE fun qZ => exE fun qG => exE fun bU => exE fun tC => exE fun tD => exE fun tE => exE fun sY => exE fun ta => exE fun tc => exE fun te => exE fun sE => exE fun tf => exE fun tg => exE fun th => exE fun sF => andE fun hv25 => andE fun sD => andE fun hN12 => andE fun cZ => andE fun cH => andE fun cF => andE fun c5 => andE fun cU => andE fun cV => andE fun dm => andE fun dy => andE fun dz => fun H => ?_
  subst hv25
  clear hcase13
  replace H := oElimS H
  have nV := Stp.more hO sD hN12
  dsimp only [List.cons_append, List.nil_append] at nV
  replace hO := nV.own
  replace ck := ck.ch nV.ch
  replace hB := hB.trans nV.fr
  replace cZ := cZ.ch (Ch.assoc _ _ _ _)
  dsimp only [List.cons_append, List.nil_append] at cZ
  replace cH := cH.ch (Ch.assoc _ _ _ _)
  dsimp only [List.cons_append, List.nil_append] at cH
  replace cF := cF.ch (Ch.assoc _ _ _ _)
  dsimp only [List.cons_append, List.nil_append] at cF
  replace c5 := c5.ch (Ch.assoc _ _ _ _)
  dsimp only [List.cons_append, List.nil_append] at c5
  replace cU := cU.ch (Ch.assoc _ _ _ _)
  dsimp only [List.cons_append, List.nil_append] at cU
  replace cV := cV.ch (Ch.assoc _ _ _ _)
  dsimp only [List.cons_append, List.nil_append] at cV
  replace dm := dm.ch (Ch.assoc _ _ _ _)
  dsimp only [List.cons_append, List.nil_append] at dm
  replace dy := dy.ch (Ch.assoc _ _ _ _)
  dsimp only [List.cons_append, List.nil_append] at dy
  replace dz := dz.ch (Ch.assoc _ _ _ _)
  dsimp only [List.cons_append, List.nil_append] at dz
  refine GoR.op ((op_move rfl) _) rfl rfl ?_
  refine GoR.op ((op_extract rfl rfl) _) rfl rfl ?_
  refine GoR.op ((op_extract rfl rfl) _) rfl rfl ?_
  refine GoR.op ((op_assign rfl) _) rfl rfl ?_
  refine GoR.op ((op_assign rfl) _) rfl rfl ?_
  refine GoR.nil ?_
  refine Go1.seq ?_
  refine Go1.seq ?_
  refine Go1.region ?_
  refine GoR.op ((op_move rfl) _) rfl rfl ?_
  by_cases h38 : r8 = (0 : Int)
  ·replace H := ifp h38 H
   refine GoR.op ((fun w => opB (op_neq rfl rfl w) (ndT h38)) _) rfl rfl ?_
   refine GoR.nil ?_
   refine Go1.condF rfl rfl ?_
   refine Go1.skip ?_
   refine Go1.seq ?_
   refine Go1.block ?_
   refine Go1.loopW (S := Int × Bool × Int × List (List Int) × List (List Int) × List Int × List Int × List (List Int) × List Rule × List Str × List Int × List Int × (List (Str × Int))) (fun s σ w => match s with | (k2_40, b2_41, k2_42, d_43, d_49, d_55, d_61, d_67, d_73, d_79, d_85, d_91, m2_97) => ∃ (n48 : Nat), ∃ (p46 : Option Addr), ∃ (c47 : Nat), ∃ (oT : List Value), ∃ (n54 : Nat), ∃ (p52 : Option Addr), ∃ (c53 : Nat), ∃ (oU : List Value), ∃ (n60 : Nat), ∃ (p58 : Option Addr), ∃ (c59 : Nat), ∃ (oV : List Value), ∃ (n66 : Nat), ∃ (p64 : Option Addr), ∃ (c65 : Nat), ∃ (oW : List Value), ∃ (n72 : Nat), ∃ (p70 : Option Addr), ∃ (c71 : Nat), ∃ (oX : List Value), ∃ (n78 : Nat), ∃ (p76 : Option Addr), ∃ (c77 : Nat), ∃ (oY : List Value), ∃ (n84 : Nat), ∃ (p82 : Option Addr), ∃ (c83 : Nat), ∃ (m5 : List Value), ∃ (n90 : Nat), ∃ (p88 : Option Addr), ∃ (c89 : Nat), ∃ (oZ : List Value), ∃ (n96 : Nat), ∃ (p94 : Option Addr), ∃ (c95 : Nat), ∃ (o0 : List Value), agrees σ [(4, .pointer (some ⟨B2, 0, none⟩)), (6, .pointer (some ⟨kd, 0, none⟩))] ∧ Owns w0.heap.size w [.blk kd (.cells #[.int .i64 k2_40, .bool b2_41, .slice p46 n48 c47, .slice p52 n54 c53, .slice p58 n60 c59, .slice p64 n66 c65, .slice p70 n72 c71, .slice p76 n78 c77, .int .i64 k2_42, .map (some bU), .slice p82 n84 c83, .slice p88 n90 c89, .slice p94 n96 c95] 72 (0, 0)), .row 26 1 p46 n48 c47 oT, .row 26 1 p52 n54 c53 oU, .row 3 1 p58 n60 c59 oV, .row 3 1 p64 n66 c65 oW, .row 26 1 p70 n72 c71 oX, .row 39 2 p76 n78 c77 oY, .row 9 1 p82 n84 c83 m5, .row 3 1 p88 n90 c89 oZ, .row 3 1 p94 n96 c95 o0, .any (mapE (fun a : List UInt8 => Value.string (gstr a)) (fun a : Int => Value.int .i64 a) bU m2_97), .blk B2 (.cells #[.int .i64 (0 : Int), .bool false, .slice none 0 0, .slice none 0 0, .slice none 0 0, .slice none 0 0, .slice none 0 0, .slice none 0 0, .int .i64 (0 : Int)] 29 (0, 0))] A ∧ Els (Rp.sl (Rp.int .i64)) (bl [.blk kd (.cells #[.int .i64 k2_40, .bool b2_41, .slice p46 n48 c47, .slice p52 n54 c53, .slice p58 n60 c59, .slice p64 n66 c65, .slice p70 n72 c71, .slice p76 n78 c77, .int .i64 k2_42, .map (some bU), .slice p82 n84 c83, .slice p88 n90 c89, .slice p94 n96 c95] 72 (0, 0)), .row 26 1 p46 n48 c47 oT, .row 26 1 p52 n54 c53 oU, .row 3 1 p58 n60 c59 oV, .row 3 1 p64 n66 c65 oW, .row 26 1 p70 n72 c71 oX, .row 39 2 p76 n78 c77 oY, .row 9 1 p82 n84 c83 m5, .row 3 1 p88 n90 c89 oZ, .row 3 1 p94 n96 c95 o0, .any (mapE (fun a : List UInt8 => Value.string (gstr a)) (fun a : Int => Value.int .i64 a) bU m2_97), .blk B2 (.cells #[.int .i64 (0 : Int), .bool false, .slice none 0 0, .slice none 0 0, .slice none 0 0, .slice none 0 0, .slice none 0 0, .slice none 0 0, .int .i64 (0 : Int)] 29 (0, 0))] ++ A) w oT d_43 ∧ Els (Rp.sl (Rp.int .i64)) (bl [.blk kd (.cells #[.int .i64 k2_40, .bool b2_41, .slice p46 n48 c47, .slice p52 n54 c53, .slice p58 n60 c59, .slice p64 n66 c65, .slice p70 n72 c71, .slice p76 n78 c77, .int .i64 k2_42, .map (some bU), .slice p82 n84 c83, .slice p88 n90 c89, .slice p94 n96 c95] 72 (0, 0)), .row 26 1 p46 n48 c47 oT, .row 26 1 p52 n54 c53 oU, .row 3 1 p58 n60 c59 oV, .row 3 1 p64 n66 c65 oW, .row 26 1 p70 n72 c71 oX, .row 39 2 p76 n78 c77 oY, .row 9 1 p82 n84 c83 m5, .row 3 1 p88 n90 c89 oZ, .row 3 1 p94 n96 c95 o0, .any (mapE (fun a : List UInt8 => Value.string (gstr a)) (fun a : Int => Value.int .i64 a) bU m2_97), .blk B2 (.cells #[.int .i64 (0 : Int), .bool false, .slice none 0 0, .slice none 0 0, .slice none 0 0, .slice none 0 0, .slice none 0 0, .slice none 0 0, .int .i64 (0 : Int)] 29 (0, 0))] ++ A) w oU d_49 ∧ Els (Rp.int .i64) (bl [.blk kd (.cells #[.int .i64 k2_40, .bool b2_41, .slice p46 n48 c47, .slice p52 n54 c53, .slice p58 n60 c59, .slice p64 n66 c65, .slice p70 n72 c71, .slice p76 n78 c77, .int .i64 k2_42, .map (some bU), .slice p82 n84 c83, .slice p88 n90 c89, .slice p94 n96 c95] 72 (0, 0)), .row 26 1 p46 n48 c47 oT, .row 26 1 p52 n54 c53 oU, .row 3 1 p58 n60 c59 oV, .row 3 1 p64 n66 c65 oW, .row 26 1 p70 n72 c71 oX, .row 39 2 p76 n78 c77 oY, .row 9 1 p82 n84 c83 m5, .row 3 1 p88 n90 c89 oZ, .row 3 1 p94 n96 c95 o0, .any (mapE (fun a : List UInt8 => Value.string (gstr a)) (fun a : Int => Value.int .i64 a) bU m2_97), .blk B2 (.cells #[.int .i64 (0 : Int), .bool false, .slice none 0 0, .slice none 0 0, .slice none 0 0, .slice none 0 0, .slice none 0 0, .slice none 0 0, .int .i64 (0 : Int)] 29 (0, 0))] ++ A) w oV d_55 ∧ Els (Rp.int .i64) (bl [.blk kd (.cells #[.int .i64 k2_40, .bool b2_41, .slice p46 n48 c47, .slice p52 n54 c53, .slice p58 n60 c59, .slice p64 n66 c65, .slice p70 n72 c71, .slice p76 n78 c77, .int .i64 k2_42, .map (some bU), .slice p82 n84 c83, .slice p88 n90 c89, .slice p94 n96 c95] 72 (0, 0)), .row 26 1 p46 n48 c47 oT, .row 26 1 p52 n54 c53 oU, .row 3 1 p58 n60 c59 oV, .row 3 1 p64 n66 c65 oW, .row 26 1 p70 n72 c71 oX, .row 39 2 p76 n78 c77 oY, .row 9 1 p82 n84 c83 m5, .row 3 1 p88 n90 c89 oZ, .row 3 1 p94 n96 c95 o0, .any (mapE (fun a : List UInt8 => Value.string (gstr a)) (fun a : Int => Value.int .i64 a) bU m2_97), .blk B2 (.cells #[.int .i64 (0 : Int), .bool false, .slice none 0 0, .slice none 0 0, .slice none 0 0, .slice none 0 0, .slice none 0 0, .slice none 0 0, .int .i64 (0 : Int)] 29 (0, 0))] ++ A) w oW d_61 ∧ Els (Rp.sl (Rp.int .i64)) (bl [.blk kd (.cells #[.int .i64 k2_40, .bool b2_41, .slice p46 n48 c47, .slice p52 n54 c53, .slice p58 n60 c59, .slice p64 n66 c65, .slice p70 n72 c71, .slice p76 n78 c77, .int .i64 k2_42, .map (some bU), .slice p82 n84 c83, .slice p88 n90 c89, .slice p94 n96 c95] 72 (0, 0)), .row 26 1 p46 n48 c47 oT, .row 26 1 p52 n54 c53 oU, .row 3 1 p58 n60 c59 oV, .row 3 1 p64 n66 c65 oW, .row 26 1 p70 n72 c71 oX, .row 39 2 p76 n78 c77 oY, .row 9 1 p82 n84 c83 m5, .row 3 1 p88 n90 c89 oZ, .row 3 1 p94 n96 c95 o0, .any (mapE (fun a : List UInt8 => Value.string (gstr a)) (fun a : Int => Value.int .i64 a) bU m2_97), .blk B2 (.cells #[.int .i64 (0 : Int), .bool false, .slice none 0 0, .slice none 0 0, .slice none 0 0, .slice none 0 0, .slice none 0 0, .slice none 0 0, .int .i64 (0 : Int)] 29 (0, 0))] ++ A) w oX d_67 ∧ Els (rpRule) (bl [.blk kd (.cells #[.int .i64 k2_40, .bool b2_41, .slice p46 n48 c47, .slice p52 n54 c53, .slice p58 n60 c59, .slice p64 n66 c65, .slice p70 n72 c71, .slice p76 n78 c77, .int .i64 k2_42, .map (some bU), .slice p82 n84 c83, .slice p88 n90 c89, .slice p94 n96 c95] 72 (0, 0)), .row 26 1 p46 n48 c47 oT, .row 26 1 p52 n54 c53 oU, .row 3 1 p58 n60 c59 oV, .row 3 1 p64 n66 c65 oW, .row 26 1 p70 n72 c71 oX, .row 39 2 p76 n78 c77 oY, .row 9 1 p82 n84 c83 m5, .row 3 1 p88 n90 c89 oZ, .row 3 1 p94 n96 c95 o0, .any (mapE (fun a : List UInt8 => Value.string (gstr a)) (fun a : Int => Value.int .i64 a) bU m2_97), .blk B2 (.cells #[.int .i64 (0 : Int), .bool false, .slice none 0 0, .slice none 0 0, .slice none 0 0, .slice none 0 0, .slice none 0 0, .slice none 0 0, .int .i64 (0 : Int)] 29 (0, 0))] ++ A) w oY d_73 ∧ Els (Rp.str) (bl [.blk kd (.cells #[.int .i64 k2_40, .bool b2_41, .slice p46 n48 c47, .slice p52 n54 c53, .slice p58 n60 c59, .slice p64 n66 c65, .slice p70 n72 c71, .slice p76 n78 c77, .int .i64 k2_42, .map (some bU), .slice p82 n84 c83, .slice p88 n90 c89, .slice p94 n96 c95] 72 (0, 0)), .row 26 1 p46 n48 c47 oT, .row 26 1 p52 n54 c53 oU, .row 3 1 p58 n60 c59 oV, .row 3 1 p64 n66 c65 oW, .row 26 1 p70 n72 c71 oX, .row 39 2 p76 n78 c77 oY, .row 9 1 p82 n84 c83 m5, .row 3 1 p88 n90 c89 oZ, .row 3 1 p94 n96 c95 o0, .any (mapE (fun a : List UInt8 => Value.string (gstr a)) (fun a : Int => Value.int .i64 a) bU m2_97), .blk B2 (.cells #[.int .i64 (0 : Int), .bool false, .slice none 0 0, .slice none 0 0, .slice none 0 0, .slice none 0 0, .slice none 0 0, .slice none 0 0, .int .i64 (0 : Int)] 29 (0, 0))] ++ A) w m5 d_79 ∧ Els (Rp.int .i64) (bl [.blk kd (.cells #[.int .i64 k2_40, .bool b2_41, .slice p46 n48 c47, .slice p52 n54 c53, .slice p58 n60 c59, .slice p64 n66 c65, .slice p70 n72 c71, .slice p76 n78 c77, .int .i64 k2_42, .map (some bU), .slice p82 n84 c83, .slice p88 n90 c89, .slice p94 n96 c95] 72 (0, 0)), .row 26 1 p46 n48 c47 oT, .row 26 1 p52 n54 c53 oU, .row 3 1 p58 n60 c59 oV, .row 3 1 p64 n66 c65 oW, .row 26 1 p70 n72 c71 oX, .row 39 2 p76 n78 c77 oY, .row 9 1 p82 n84 c83 m5, .row 3 1 p88 n90 c89 oZ, .row 3 1 p94 n96 c95 o0, .any (mapE (fun a : List UInt8 => Value.string (gstr a)) (fun a : Int => Value.int .i64 a) bU m2_97), .blk B2 (.cells #[.int .i64 (0 : Int), .bool false, .slice none 0 0, .slice none 0 0, .slice none 0 0, .slice none 0 0, .slice none 0 0, .slice none 0 0, .int .i64 (0 : Int)] 29 (0, 0))] ++ A) w oZ d_85 ∧ Els (Rp.int .i64) (bl [.blk kd (.cells #[.int .i64 k2_40, .bool b2_41, .slice p46 n48 c47, .slice p52 n54 c53, .slice p58 n60 c59, .slice p64 n66 c65, .slice p70 n72 c71, .slice p76 n78 c77, .int .i64 k2_42, .map (some bU), .slice p82 n84 c83, .slice p88 n90 c89, .slice p94 n96 c95] 72 (0, 0)), .row 26 1 p46 n48 c47 oT, .row 26 1 p52 n54 c53 oU, .row 3 1 p58 n60 c59 oV, .row 3 1 p64 n66 c65 oW, .row 26 1 p70 n72 c71 oX, .row 39 2 p76 n78 c77 oY, .row 9 1 p82 n84 c83 m5, .row 3 1 p88 n90 c89 oZ, .row 3 1 p94 n96 c95 o0, .any (mapE (fun a : List UInt8 => Value.string (gstr a)) (fun a : Int => Value.int .i64 a) bU m2_97), .blk B2 (.cells #[.int .i64 (0 : Int), .bool false, .slice none 0 0, .slice none 0 0, .slice none 0 0, .slice none 0 0, .slice none 0 0, .slice none 0 0, .int .i64 (0 : Int)] 29 (0, 0))] ++ A) w o0 d_91 ∧ Fr (bl []) w0 (bl [.blk kd (.cells #[.int .i64 k2_40, .bool b2_41, .slice p46 n48 c47, .slice p52 n54 c53, .slice p58 n60 c59, .slice p64 n66 c65, .slice p70 n72 c71, .slice p76 n78 c77, .int .i64 k2_42, .map (some bU), .slice p82 n84 c83, .slice p88 n90 c89, .slice p94 n96 c95] 72 (0, 0)), .row 26 1 p46 n48 c47 oT, .row 26 1 p52 n54 c53 oU, .row 3 1 p58 n60 c59 oV, .row 3 1 p64 n66 c65 oW, .row 26 1 p70 n72 c71 oX, .row 39 2 p76 n78 c77 oY, .row 9 1 p82 n84 c83 m5, .row 3 1 p88 n90 c89 oZ, .row 3 1 p94 n96 c95 o0, .any (mapE (fun a : List UInt8 => Value.string (gstr a)) (fun a : Int => Value.int .i64 a) bU m2_97), .blk B2 (.cells #[.int .i64 (0 : Int), .bool false, .slice none 0 0, .slice none 0 0, .slice none 0 0, .slice none 0 0, .slice none 0 0, .slice none 0 0, .int .i64 (0 : Int)] 29 (0, 0))]) w) H ⟨rs, ru, rv, qP, qQ, qR, qS, qB, qC, qD, qE, qb, ry, rz, rB, qT, qU, qV, qW, qF, qX, qY, qZ, qG, tC, tD, tE, sY, ta, tc, te, sE, tf, tg, th, sF, ⟨rfl, rfl, trivial⟩, hO, cZ, cH, cF, c5, cU, cV, dm, dy, dz, hB⟩ ?_
   intro X2
   refine prE fun k2_40 => prE fun b2_41 => prE fun k2_42 => prE fun d_43 => prE fun d_49 => prE fun d_55 => prE fun d_61 => prE fun d_67 => prE fun d_73 => prE fun d_79 => prE fun d_85 => prE fun d_91 => fun m2_97 => ?_
   intro H hX2 σ w39
   refine exE fun n48 => exE fun p46 => exE fun c47 => exE fun oT => exE fun n54 => exE fun p52 => exE fun c53 => exE fun oU => exE fun n60 => exE fun p58 => exE fun c59 => exE fun oV => exE fun n66 => exE fun p64 => exE fun c65 => exE fun oW => exE fun n72 => exE fun p70 => exE fun c71 => exE fun oX => exE fun n78 => exE fun p76 => exE fun c77 => exE fun oY => exE fun n84 => exE fun p82 => exE fun c83 => exE fun m5 => exE fun n90 => exE fun p88 => exE fun c89 => exE fun oZ => exE fun n96 => exE fun p94 => exE fun c95 => exE fun o0 => andE fun hag => andE fun hO => andE fun vR => andE fun tF => andE fun tj => andE fun sf => andE fun pZ => andE fun qc => andE fun pG => andE fun pI => andE fun jh => fun hB => ?_
   dsimp only at H
   refine Go1.keep [(4, .pointer (some ⟨B2, 0, none⟩)), (6, .pointer (some ⟨kd, 0, none⟩))] hag ?_
   refine Go1.seq ?_
   refine Go1.seq ?_
   refine Go1.region ?_
   refine GoR.op ((op_move rfl) _) rfl rfl ?_
   refine GoR.inl (vs := [.pointer (some ⟨kd, 0, none⟩)]) (caps := []) rfl rfl body50 Try.func50 rfl Try.ntmps50 rfl rfl rfl ?_
   intro RhR98 hR98
   refine Go1.seq ?_
   refine Go1.region ?_
   refine GoR.op ((op_assign rfl) _) rfl rfl ?_
   refine GoR.nil ?_
   refine Go1.seq ?_
   refine Go1.drawS 0 [(0, .pure), (1, .pure), (2, .pure), (3, .pure), (4, .stable), (5, .pure), (6, .pure), (7, .pure), (8, .pure), (9, .stable), (10, .pure), (11, .pure), (12, .pure)] mixed (by kernel_rfl) ?_
   intro w99 ET
   have iV := Stp.same hO ET
   replace vR := vR.ch iV.ch
   replace tF := tF.ch iV.ch
   replace tj := tj.ch iV.ch
   replace sf := sf.ch iV.ch
   replace pZ := pZ.ch iV.ch
   replace qc := qc.ch iV.ch
   replace pG := pG.ch iV.ch
   replace pI := pI.ch iV.ch
   replace jh := jh.ch iV.ch
   replace hO := iV.own
   replace hB := hB.trans iV.fr
   refine GoQ.pure rfl (op_move rfl) rfl rfl ?_
   refine GoQ.pure rfl (op_nilCheck rfl) rfl rfl ?_
   refine GoQ.pure rfl (op_fieldAddr Try.underlying72 rfl ti29 rfl (by decide)) rfl rfl ?_
   refine GoQ.pure rfl (op_fieldAddr Try.underlying29 rfl ti3 rfl (by decide)) rfl rfl ?_
   refine GoQ.stable rfl (oblk (i := 8) 0 hO rfl rfl Try.underlying3 rfl rfl) rfl rfl ?_
   refine GoQ.pure rfl (op_move rfl) rfl rfl ?_
   refine GoQ.pure rfl (op_nilCheck rfl) rfl rfl ?_
   refine GoQ.pure rfl (op_fieldAddr Try.underlying72 rfl ti29 rfl (by decide)) rfl rfl ?_
   refine GoQ.pure rfl (op_fieldAddr Try.underlying29 rfl ti22 rfl (by decide)) rfl rfl ?_
   refine GoQ.stable rfl (oblk (i := 3) 0 hO rfl rfl Try.underlying22 rfl rfl) rfl rfl ?_
   refine GoQ.pure rfl (op_lenN Try.underlying22 rfl (tF.neq hO 2 rfl)) rfl rfl ?_
   by_cases x8 : k2_42 = (d_49.length : Int)
   ·replace H := ifp x8 H
    refine GoQ.pure rfl (fun w => opB (op_eql rfl rfl w) (decide_eq_true x8)) rfl rfl ?_
    refine GoQ.pure rfl (op_assign rfl) rfl rfl ?_
    refine GoQ.nil ?_
    refine Go1.ret1V Try.func50 rfl (show _ = .bool true from rfl) ?_
    refine hR98 _ _ ?_
    refine GoR.op ((op_not rfl) _) rfl rfl ?_
    refine GoR.nil ?_
    refine Go1.condF rfl rfl ?_
    refine Go1.exit rfl ?_
    refine Go1.seq ?_
    refine Go1.region ?_
    refine GoR.op ((op_move rfl) _) rfl rfl ?_
    refine GoR.op ((op_nilCheck rfl) _) rfl rfl ?_
    refine GoR.op ((op_fieldAddr Try.underlying72 rfl ti29 rfl (by decide)) _) rfl rfl ?_
    refine GoR.op ((oblkAgg (vs := [.int .i64 k2_40, .bool b2_41, .slice p46 n48 c47, .slice p52 n54 c53, .slice p58 n60 c59, .slice p64 n66 c65, .slice p70 n72 c71, .slice p76 n78 c77, .int .i64 k2_42]) (i := 0) 0 hO rfl rfl Try.underlying29 rfl ti29 rfl) _ (Same.refl _)) rfl rfl ?_
    have hobt := oblkStAgg (us := [.int .i64 k2_40, .bool b2_41, .slice p46 n48 c47, .slice p52 n54 c53, .slice p58 n60 c59, .slice p64 n66 c65, .slice p70 n72 c71, .slice p76 n78 c77, .int .i64 k2_42]) (o := 0) (cs' := #[.int .i64 k2_40, .bool b2_41, .slice p46 n48 c47, .slice p52 n54 c53, .slice p58 n60 c59, .slice p64 n66 c65, .slice p70 n72 c71, .slice p76 n78 c77, .int .i64 k2_42]) 11 hO rfl rfl (Nat.le_of_ble_eq_true rfl) rfl
    obtain ⟨Lx, g7, B9⟩ := hobt
    dsimp only [sS, sZ] at g7
    refine GoR.op (B9 ti29 (by exact rfl) (by exact rfl) rfl) rfl rfl ?_
    replace vR := vR.ch g7.ch
    replace tF := tF.ch g7.ch
    replace tj := tj.ch g7.ch
    replace sf := sf.ch g7.ch
    replace pZ := pZ.ch g7.ch
    replace qc := qc.ch g7.ch
    replace pG := pG.ch g7.ch
    replace pI := pI.ch g7.ch
    replace jh := jh.ch g7.ch
    replace hO := g7.own
    replace hB := hB.trans g7.fr
    refine GoR.op ((op_assign rfl) _) rfl rfl ?_
    refine GoR.nil ?_
    have hobt := freeze 1 hO rfl vR
    obtain ⟨hO1, sk, qv, EU⟩ := hobt
    dsimp only [eS, eZ] at hO1 sk qv
    replace tF := tF.ch sk
    replace tj := tj.ch sk
    replace sf := sf.ch sk
    replace pZ := pZ.ch sk
    replace qc := qc.ch sk
    replace pG := pG.ch sk
    replace pI := pI.ch sk
    replace jh := jh.ch sk
    replace hB := hB.trans (Owns.dropFr _ _ 1)
    dsimp only [eS, eZ] at hB
    replace hO := hO1; clear hO1
    have hobt := freeze 1 hO rfl tF
    obtain ⟨hO1, sm, rP, EV⟩ := hobt
    dsimp only [eS, eZ] at hO1 sm rP
    replace qv := qv.ch sm
    replace tj := tj.ch sm
    replace sf := sf.ch sm
    replace pZ := pZ.ch sm
    replace qc := qc.ch sm
    replace pG := pG.ch sm
    replace pI := pI.ch sm
    replace jh := jh.ch sm
    replace hB := hB.trans (Owns.dropFr _ _ 1)
    dsimp only [eS, eZ] at hB
    replace hO := hO1; clear hO1
    have hobt := freeze 1 hO rfl tj
    obtain ⟨hO1, sn, sQ, EW⟩ := hobt
    dsimp only [eS, eZ] at hO1 sn sQ
    replace qv := qv.ch sn
    replace rP := rP.ch sn
    replace sf := sf.ch sn
    replace pZ := pZ.ch sn
    replace qc := qc.ch sn
    replace pG := pG.ch sn
    replace pI := pI.ch sn
    replace jh := jh.ch sn
    replace hB := hB.trans (Owns.dropFr _ _ 1)
    dsimp only [eS, eZ] at hB
    replace hO := hO1; clear hO1
    have hobt := freeze 1 hO rfl sf
    obtain ⟨hO1, sq, um, EX⟩ := hobt
    dsimp only [eS, eZ] at hO1 sq um
    replace qv := qv.ch sq
    replace rP := rP.ch sq
    replace sQ := sQ.ch sq
    replace pZ := pZ.ch sq
    replace qc := qc.ch sq
    replace pG := pG.ch sq
    replace pI := pI.ch sq
    replace jh := jh.ch sq
    replace hB := hB.trans (Owns.dropFr _ _ 1)
    dsimp only [eS, eZ] at hB
    replace hO := hO1; clear hO1
    have hobt := freeze 1 hO rfl pZ
    obtain ⟨hO1, sr, wx, EY⟩ := hobt
    dsimp only [eS, eZ] at hO1 sr wx
    replace qv := qv.ch sr
    replace rP := rP.ch sr
    replace sQ := sQ.ch sr
    replace um := um.ch sr
    replace qc := qc.ch sr
    replace pG := pG.ch sr
    replace pI := pI.ch sr
    replace jh := jh.ch sr
    replace hB := hB.trans (Owns.dropFr _ _ 1)
    dsimp only [eS, eZ] at hB
    replace hO := hO1; clear hO1
    have hobt := freeze 1 hO rfl qc
    obtain ⟨hO1, ss, zU, EZ⟩ := hobt
    dsimp only [eS, eZ] at hO1 ss zU
    replace qv := qv.ch ss
    replace rP := rP.ch ss
    replace sQ := sQ.ch ss
    replace um := um.ch ss
    replace wx := wx.ch ss
    replace pG := pG.ch ss
    replace pI := pI.ch ss
    replace jh := jh.ch ss
    replace hB := hB.trans (Owns.dropFr _ _ 1)
    dsimp only [eS, eZ] at hB
    replace hO := hO1; clear hO1
    refine Go1.retC2 Try.func17 rfl rfl (run_loadBlk (vs := [.int .i64 k2_40, .bool b2_41, .slice p46 n48 c47, .slice p52 n54 c53, .slice p58 n60 c59, .slice p64 n66 c65, .slice p70 n72 c71, .slice p76 n78 c77, .int .i64 k2_42]) 5 hO rfl rfl Try.underlying29 rfl ti29) ?_
    exact ⟨(⟨k2_40, b2_41, d_43, d_49, d_55, d_61, d_67, d_73, k2_42⟩ : Enum), (0 : Int), p46, c47, p52, c53, p58, c59, p64, c65, p70, c71, p76, c77, (congrArg (fun l => Value.tuple (List.toArray l)) (cons_eq (congrArg (fun l => Value.agg (List.toArray l)) (cons_eq rfl (cons_eq rfl (cons_eq (congrArg (fun nn => Value.slice p46 nn c47) EU) (cons_eq (congrArg (fun nn => Value.slice p52 nn c53) EV) (cons_eq (congrArg (fun nn => Value.slice p58 nn c59) EW) (cons_eq (congrArg (fun nn => Value.slice p64 nn c65) EX) (cons_eq (congrArg (fun nn => Value.slice p70 nn c71) EY) (cons_eq (congrArg (fun nn => Value.slice p76 nn c77) EZ) (cons_eq rfl rfl)))))))))) (cons_eq rfl rfl))), hB.same, (qv.ch (Ch.weak _ _ _)), (rP.ch (Ch.weak _ _ _)), (sQ.ch (Ch.weak _ _ _)), (um.ch (Ch.weak _ _ _)), (wx.ch (Ch.weak _ _ _)), (zU.ch (Ch.weak _ _ _)), H⟩
   replace H := ifn x8 H
   refine GoQ.pure rfl (fun w => opB (op_eql rfl rfl w) (decide_eq_false x8)) rfl rfl ?_
   refine GoQ.pure rfl (op_assign rfl) rfl rfl ?_
   refine GoQ.nil ?_
   refine Go1.ret1V Try.func50 rfl (show _ = .bool false from rfl) ?_
   refine hR98 _ _ ?_
   refine GoR.op ((op_not rfl) _) rfl rfl ?_
   refine GoR.nil ?_
   refine Go1.condT rfl rfl ?_
   refine Go1.skip ?_
   refine Go1.block ?_
   refine Go1.seq ?_
   refine Go1.cut [(4, .pointer (some ⟨B2, 0, none⟩)), (6, .pointer (some ⟨kd, 0, none⟩))] ⟨rfl, rfl, trivial⟩ ?_
   intro σ _
   refine Go1.region ?_
   refine GoR.op ((op_move rfl) _) rfl rfl ?_
   have zV : Owns w0.heap.size w99 ([.blk kd (.cells #[.int .i64 k2_40, .bool b2_41, .slice p46 n48 c47, .slice p52 n54 c53, .slice p58 n60 c59, .slice p64 n66 c65, .slice p70 n72 c71, .slice p76 n78 c77, .int .i64 k2_42, .map (some bU), .slice p82 n84 c83, .slice p88 n90 c89, .slice p94 n96 c95] 72 (0, 0)), .row 26 1 p46 n48 c47 oT, .row 26 1 p52 n54 c53 oU, .row 3 1 p58 n60 c59 oV, .row 3 1 p64 n66 c65 oW, .row 26 1 p70 n72 c71 oX, .row 39 2 p76 n78 c77 oY, .row 9 1 p82 n84 c83 m5, .row 3 1 p88 n90 c89 oZ, .row 3 1 p94 n96 c95 o0, .any (mapE (fun a : List UInt8 => Value.string (gstr a)) (fun a : Int => Value.int .i64 a) bU m2_97)] ++ [.blk B2 (.cells #[.int .i64 (0 : Int), .bool false, .slice none 0 0, .slice none 0 0, .slice none 0 0, .slice none 0 0, .slice none 0 0, .slice none 0 0, .int .i64 (0 : Int)] 29 (0, 0))]) A := hO
   have E0 := Owns.split zV
   have hca126 : Ch (bl [.blk kd (.cells #[.int .i64 k2_40, .bool b2_41, .slice p46 n48 c47, .slice p52 n54 c53, .slice p58 n60 c59, .slice p64 n66 c65, .slice p70 n72 c71, .slice p76 n78 c77, .int .i64 k2_42, .map (some bU), .slice p82 n84 c83, .slice p88 n90 c89, .slice p94 n96 c95] 72 (0, 0)), .row 26 1 p46 n48 c47 oT, .row 26 1 p52 n54 c53 oU, .row 3 1 p58 n60 c59 oV, .row 3 1 p64 n66 c65 oW, .row 26 1 p70 n72 c71 oX, .row 39 2 p76 n78 c77 oY, .row 9 1 p82 n84 c83 m5, .row 3 1 p88 n90 c89 oZ, .row 3 1 p94 n96 c95 o0, .any (mapE (fun a : List UInt8 => Value.string (gstr a)) (fun a : Int => Value.int .i64 a) bU m2_97), .blk B2 (.cells #[.int .i64 (0 : Int), .bool false, .slice none 0 0, .slice none 0 0, .slice none 0 0, .slice none 0 0, .slice none 0 0, .slice none 0 0, .int .i64 (0 : Int)] 29 (0, 0))] ++ A) w99 (bl [.blk kd (.cells #[.int .i64 k2_40, .bool b2_41, .slice p46 n48 c47, .slice p52 n54 c53, .slice p58 n60 c59, .slice p64 n66 c65, .slice p70 n72 c71, .slice p76 n78 c77, .int .i64 k2_42, .map (some bU), .slice p82 n84 c83, .slice p88 n90 c89, .slice p94 n96 c95] 72 (0, 0)), .row 26 1 p46 n48 c47 oT, .row 26 1 p52 n54 c53 oU, .row 3 1 p58 n60 c59 oV, .row 3 1 p64 n66 c65 oW, .row 26 1 p70 n72 c71 oX, .row 39 2 p76 n78 c77 oY, .row 9 1 p82 n84 c83 m5, .row 3 1 p88 n90 c89 oZ, .row 3 1 p94 n96 c95 o0, .any (mapE (fun a : List UInt8 => Value.string (gstr a)) (fun a : Int => Value.int .i64 a) bU m2_97)] ++ (bl [.blk B2 (.cells #[.int .i64 (0 : Int), .bool false, .slice none 0 0, .slice none 0 0, .slice none 0 0, .slice none 0 0, .slice none 0 0, .slice none 0 0, .int .i64 (0 : Int)] 29 (0, 0))] ++ A)) w99 := Ch.assoc' [.blk kd (.cells #[.int .i64 k2_40, .bool b2_41, .slice p46 n48 c47, .slice p52 n54 c53, .slice p58 n60 c59, .slice p64 n66 c65, .slice p70 n72 c71, .slice p76 n78 c77, .int .i64 k2_42, .map (some bU), .slice p82 n84 c83, .slice p88 n90 c89, .slice p94 n96 c95] 72 (0, 0)), .row 26 1 p46 n48 c47 oT, .row 26 1 p52 n54 c53 oU, .row 3 1 p58 n60 c59 oV, .row 3 1 p64 n66 c65 oW, .row 26 1 p70 n72 c71 oX, .row 39 2 p76 n78 c77 oY, .row 9 1 p82 n84 c83 m5, .row 3 1 p88 n90 c89 oZ, .row 3 1 p94 n96 c95 o0, .any (mapE (fun a : List UInt8 => Value.string (gstr a)) (fun a : Int => Value.int .i64 a) bU m2_97)] [.blk B2 (.cells #[.int .i64 (0 : Int), .bool false, .slice none 0 0, .slice none 0 0, .slice none 0 0, .slice none 0 0, .slice none 0 0, .slice none 0 0, .int .i64 (0 : Int)] 29 (0, 0))] A w99
   refine GoR.call (op_call body51 rfl (walk_enumerate_run_process (a0 := (⟨(⟨k2_40, b2_41, d_43, d_49, d_55, d_61, d_67, d_73, k2_42⟩ : Enum), m2_97, d_79, d_85, d_91⟩ : run)) E0 (vR.ch hca126) (tF.ch hca126) (tj.ch hca126) (sf.ch hca126) (pZ.ch hca126) (qc.ch hca126) (pG.ch hca126) (pI.ch hca126) (jh.ch hca126) H)) rfl rfl ?_
   intro Ly x9
   refine exE fun r127 => exE fun q128 => exE fun f6 => exE fun f7 => exE fun f8 => exE fun lH => exE fun fw => exE fun fx => exE fun fy => exE fun kA => exE fun e9 => exE fun fd => exE fun fe => exE fun j4 => exE fun f9 => exE fun gc => exE fun gf => exE fun lI => exE fun fA => exE fun fB => exE fun fC => exE fun kB => exE fun fD => exE fun fE => exE fun fF => exE fun kC => exE fun jy => exE fun jz => exE fun jA => exE fun oO => exE fun ig => exE fun ii => exE fun ik => exE fun nk => exE fun il => exE fun io => exE fun ip => exE fun nl => andE fun hv134 => andE fun hN131 => andE fun lJ => andE fun kD => andE fun j5 => andE fun lK => andE fun kE => andE fun kF => andE fun oP => andE fun nm => andE fun np => andE fun hF132 => fun H => ?_
   subst hv134
   have yB : Stp w0.heap.size A w99 [.blk kd (.cells #[.int .i64 k2_40, .bool b2_41, .slice p46 n48 c47, .slice p52 n54 c53, .slice p58 n60 c59, .slice p64 n66 c65, .slice p70 n72 c71, .slice p76 n78 c77, .int .i64 k2_42, .map (some bU), .slice p82 n84 c83, .slice p88 n90 c89, .slice p94 n96 c95] 72 (0, 0)), .row 26 1 p46 n48 c47 oT, .row 26 1 p52 n54 c53 oU, .row 3 1 p58 n60 c59 oV, .row 3 1 p64 n66 c65 oW, .row 26 1 p70 n72 c71 oX, .row 39 2 p76 n78 c77 oY, .row 9 1 p82 n84 c83 m5, .row 3 1 p88 n90 c89 oZ, .row 3 1 p94 n96 c95 o0, .any (mapE (fun a : List UInt8 => Value.string (gstr a)) (fun a : Int => Value.int .i64 a) bU m2_97), .blk B2 (.cells #[.int .i64 (0 : Int), .bool false, .slice none 0 0, .slice none 0 0, .slice none 0 0, .slice none 0 0, .slice none 0 0, .slice none 0 0, .int .i64 (0 : Int)] 29 (0, 0))] x9 [.blk kd (.cells #[.int .i64 q128.Enum.Points, .bool q128.Enum.Monoid, .slice f7 f6 f8, .slice fx fw fy, .slice fd e9 fe, .slice gc f9 gf, .slice fB fA fC, .slice fE fD fF, .int .i64 q128.Enum.Done, .map (some bU), .slice jz jy jA, .slice ii ig ik, .slice io il ip] 72 (0, 0)), .row 26 1 f7 f6 f8 lH, .row 26 1 fx fw fy kA, .row 3 1 fd e9 fe j4, .row 3 1 gc f9 gf lI, .row 26 1 fB fA fC kB, .row 39 2 fE fD fF kC, .row 9 1 jz jy jA oO, .row 3 1 ii ig ik nk, .row 3 1 io il ip nl, .any (mapE (fun a : List UInt8 => Value.string (gstr a)) (fun a : Int => Value.int .i64 a) bU q128.number), .blk B2 (.cells #[.int .i64 (0 : Int), .bool false, .slice none 0 0, .slice none 0 0, .slice none 0 0, .slice none 0 0, .slice none 0 0, .slice none 0 0, .int .i64 (0 : Int)] 29 (0, 0))] := Stp.join zV hN131 hF132
   replace hO := yB.own
   replace hB := hB.trans yB.fr
   have hca135 : Ch (bl [.blk kd (.cells #[.int .i64 q128.Enum.Points, .bool q128.Enum.Monoid, .slice f7 f6 f8, .slice fx fw fy, .slice fd e9 fe, .slice gc f9 gf, .slice fB fA fC, .slice fE fD fF, .int .i64 q128.Enum.Done, .map (some bU), .slice jz jy jA, .slice ii ig ik, .slice io il ip] 72 (0, 0)), .row 26 1 f7 f6 f8 lH, .row 26 1 fx fw fy kA, .row 3 1 fd e9 fe j4, .row 3 1 gc f9 gf lI, .row 26 1 fB fA fC kB, .row 39 2 fE fD fF kC, .row 9 1 jz jy jA oO, .row 3 1 ii ig ik nk, .row 3 1 io il ip nl, .any (mapE (fun a : List UInt8 => Value.string (gstr a)) (fun a : Int => Value.int .i64 a) bU q128.number)] ++ (bl [.blk B2 (.cells #[.int .i64 (0 : Int), .bool false, .slice none 0 0, .slice none 0 0, .slice none 0 0, .slice none 0 0, .slice none 0 0, .slice none 0 0, .int .i64 (0 : Int)] 29 (0, 0))] ++ A)) x9 (bl [.blk kd (.cells #[.int .i64 q128.Enum.Points, .bool q128.Enum.Monoid, .slice f7 f6 f8, .slice fx fw fy, .slice fd e9 fe, .slice gc f9 gf, .slice fB fA fC, .slice fE fD fF, .int .i64 q128.Enum.Done, .map (some bU), .slice jz jy jA, .slice ii ig ik, .slice io il ip] 72 (0, 0)), .row 26 1 f7 f6 f8 lH, .row 26 1 fx fw fy kA, .row 3 1 fd e9 fe j4, .row 3 1 gc f9 gf lI, .row 26 1 fB fA fC kB, .row 39 2 fE fD fF kC, .row 9 1 jz jy jA oO, .row 3 1 ii ig ik nk, .row 3 1 io il ip nl, .any (mapE (fun a : List UInt8 => Value.string (gstr a)) (fun a : Int => Value.int .i64 a) bU q128.number), .blk B2 (.cells #[.int .i64 (0 : Int), .bool false, .slice none 0 0, .slice none 0 0, .slice none 0 0, .slice none 0 0, .slice none 0 0, .slice none 0 0, .int .i64 (0 : Int)] 29 (0, 0))] ++ A) x9 := Ch.assoc [.blk kd (.cells #[.int .i64 q128.Enum.Points, .bool q128.Enum.Monoid, .slice f7 f6 f8, .slice fx fw fy, .slice fd e9 fe, .slice gc f9 gf, .slice fB fA fC, .slice fE fD fF, .int .i64 q128.Enum.Done, .map (some bU), .slice jz jy jA, .slice ii ig ik, .slice io il ip] 72 (0, 0)), .row 26 1 f7 f6 f8 lH, .row 26 1 fx fw fy kA, .row 3 1 fd e9 fe j4, .row 3 1 gc f9 gf lI, .row 26 1 fB fA fC kB, .row 39 2 fE fD fF kC, .row 9 1 jz jy jA oO, .row 3 1 ii ig ik nk, .row 3 1 io il ip nl, .any (mapE (fun a : List UInt8 => Value.string (gstr a)) (fun a : Int => Value.int .i64 a) bU q128.number)] [.blk B2 (.cells #[.int .i64 (0 : Int), .bool false, .slice none 0 0, .slice none 0 0, .slice none 0 0, .slice none 0 0, .slice none 0 0, .slice none 0 0, .int .i64 (0 : Int)] 29 (0, 0))] A x9
   replace lJ := lJ.ch hca135
   replace kD := kD.ch hca135
   replace j5 := j5.ch hca135
   replace lK := lK.ch hca135
   replace kE := kE.ch hca135
   replace kF := kF.ch hca135
   replace oP := oP.ch hca135
   replace nm := nm.ch hca135
   replace np := np.ch hca135
   refine GoR.op ((op_assign rfl) _) rfl rfl ?_
   refine GoR.nil ?_
   refine Go1.seq ?_
   refine Go1.region ?_
   refine GoR.op ((op_move rfl) _) rfl rfl ?_
   by_cases ya : r127 = (0 : Int)
   ·replace H := ifp ya H
    refine GoR.op ((fun w => opB (op_neq rfl rfl w) (ndT ya)) _) rfl rfl ?_
    refine GoR.nil ?_
    refine Go1.condF rfl rfl ?_
    refine Go1.skip ?_
    refine Go1.inBlock ?_
    exact hX2 _ H _ _ ⟨f6, f7, f8, lH, fw, fx, fy, kA, e9, fd, fe, j4, f9, gc, gf, lI, fA, fB, fC, kB, fD, fE, fF, kC, jy, jz, jA, oO, ig, ii, ik, nk, il, io, ip, nl, ⟨rfl, rfl, trivial⟩, hO, lJ, kD, j5, lK, kE, kF, oP, nm, np, hB⟩
   replace H := ifn ya H
   refine GoR.op ((fun w => opB (op_neq rfl rfl w) (ndF ya)) _) rfl rfl ?_
   refine GoR.nil ?_
   refine Go1.condT rfl rfl ?_
   refine Go1.seq ?_
   refine Go1.region ?_
   refine GoR.op ((op_build Try.underlying29 ti29 (pl := [(0, 1), (1, 1), (2, 1), (3, 1), (4, 1), (5, 1), (6, 1), (7, 1), (8, 1)]) (vs := []) (cs := #[.int .i64 (0 : Int), .bool false, .slice none 0 0, .slice none 0 0, .slice none 0 0, .slice none 0 0, .slice none 0 0, .slice none 0 0, .int .i64 (0 : Int)]) (by kernel_rfl) rfl (by kernel_rfl)) _) rfl rfl ?_
   refine GoR.op ((op_move rfl) _) rfl rfl ?_
   have hobt := oblkStAgg (us := [.int .i64 (0 : Int), .bool false, .slice none 0 0, .slice none 0 0, .slice none 0 0, .slice none 0 0, .slice none 0 0, .slice none 0 0, .int .i64 (0 : Int)]) (o := 0) (cs' := #[.int .i64 (0 : Int), .bool false, .slice none 0 0, .slice none 0 0, .slice none 0 0, .slice none 0 0, .slice none 0 0, .slice none 0 0, .int .i64 (0 : Int)]) 11 hO rfl rfl (Nat.le_of_ble_eq_true rfl) rfl
   obtain ⟨Lz, g9, Ca⟩ := hobt
   dsimp only [sS, sZ] at g9
   refine GoR.op (Ca ti29 (by exact rfl) (by exact rfl) rfl) rfl rfl ?_
   replace lJ := lJ.ch g9.ch
   replace kD := kD.ch g9.ch
   replace j5 := j5.ch g9.ch
   replace lK := lK.ch g9.ch
   replace kE := kE.ch g9.ch
   replace kF := kF.ch g9.ch
   replace oP := oP.ch g9.ch
   replace nm := nm.ch g9.ch
   replace np := np.ch g9.ch
   replace hO := g9.own
   replace hB := hB.trans g9.fr
   refine GoR.op ((op_assign rfl) _) rfl rfl ?_
   refine GoR.nil ?_
   refine Go1.retC2 Try.func17 rfl rfl (run_loadBlk (vs := [.int .i64 (0 : Int), .bool false, .slice none 0 0, .slice none 0 0, .slice none 0 0, .slice none 0 0, .slice none 0 0, .slice none 0 0, .int .i64 (0 : Int)]) 11 hO rfl rfl Try.underlying29 rfl ti29) ?_
   exact ⟨(⟨(0 : Int), false, ([] : List (List Int)), ([] : List (List Int)), ([] : List Int), ([] : List Int), ([] : List (List Int)), ([] : List Rule), (0 : Int)⟩ : Enum), r127, none, 0, none, 0, none, 0, none, 0, none, 0, none, 0, rfl, hB.same, (ISl.null _ _ _), (ISl.null _ _ _), (ISl.null _ _ _), (ISl.null _ _ _), (ISl.null _ _ _), (ISl.null _ _ _), H⟩
  replace H := ifn h38 H
  refine GoR.op ((fun w => opB (op_neq rfl rfl w) (ndF h38)) _) rfl rfl ?_
  refine GoR.nil ?_
  refine Go1.condT rfl rfl ?_
  refine Go1.seq ?_
  refine Go1.region ?_
  refine GoR.op ((op_build Try.underlying29 ti29 (pl := [(0, 1), (1, 1), (2, 1), (3, 1), (4, 1), (5, 1), (6, 1), (7, 1), (8, 1)]) (vs := []) (cs := #[.int .i64 (0 : Int), .bool false, .slice none 0 0, .slice none 0 0, .slice none 0 0, .slice none 0 0, .slice none 0 0, .slice none 0 0, .int .i64 (0 : Int)]) (by kernel_rfl) rfl (by kernel_rfl)) _) rfl rfl ?_
  refine GoR.op ((op_move rfl) _) rfl rfl ?_
  have hobt := oblkStAgg (us := [.int .i64 (0 : Int), .bool false, .slice none 0 0, .slice none 0 0, .slice none 0 0, .slice none 0 0, .slice none 0 0, .slice none 0 0, .int .i64 (0 : Int)]) (o := 0) (cs' := #[.int .i64 (0 : Int), .bool false, .slice none 0 0, .slice none 0 0, .slice none 0 0, .slice none 0 0, .slice none 0 0, .slice none 0 0, .int .i64 (0 : Int)]) 11 hO rfl rfl (Nat.le_of_ble_eq_true rfl) rfl
  obtain ⟨LA, nq, Cb⟩ := hobt
  dsimp only [sS, sZ] at nq
  refine GoR.op (Cb ti29 (by exact rfl) (by exact rfl) rfl) rfl rfl ?_
  replace cZ := cZ.ch nq.ch
  replace cH := cH.ch nq.ch
  replace cF := cF.ch nq.ch
  replace c5 := c5.ch nq.ch
  replace cU := cU.ch nq.ch
  replace cV := cV.ch nq.ch
  replace dm := dm.ch nq.ch
  replace dy := dy.ch nq.ch
  replace dz := dz.ch nq.ch
  replace hO := nq.own
  replace ck := ck.ch nq.ch
  replace hB := hB.trans nq.fr
  refine GoR.op ((op_assign rfl) _) rfl rfl ?_
  refine GoR.nil ?_
  refine Go1.retC2 Try.func17 rfl rfl (run_loadBlk (vs := [.int .i64 (0 : Int), .bool false, .slice none 0 0, .slice none 0 0, .slice none 0 0, .slice none 0 0, .slice none 0 0, .slice none 0 0, .int .i64 (0 : Int)]) 11 hO rfl rfl Try.underlying29 rfl ti29) ?_
  exact ⟨(⟨(0 : Int), false, ([] : List (List Int)), ([] : List (List Int)), ([] : List Int), ([] : List Int), ([] : List (List Int)), ([] : List Rule), (0 : Int)⟩ : Enum), r8, none, 0, none, 0, none, 0, none, 0, none, 0, none, 0, rfl, hB.same, (ISl.null _ _ _), (ISl.null _ _ _), (ISl.null _ _ _), (ISl.null _ _ _), (ISl.null _ _ _), (ISl.null _ _ _), H⟩
theorem body70 : Body Try.prog 70 := ⟨Try.f70, Try.func70, rfl, by kernel_rfl⟩
theorem walk_slices_Equal_int {A : List Nat} {w0 : World} {mM : Option Addr} {mO : Nat} {mP : Option Addr} {mQ : Nat} {s1 : List Int} {s2 : List Int} (hA : ∀ b ∈ A, b < w0.heap.size) (gK : ISl (Rp.int .i64) A w0 mM mO s1) (hV : ISl (Rp.int .i64) A w0 mP mQ s2) {K : Bool → Prop} (H : slices_Equal_int s1 s2 K) :
    CallsV Try.prog 70 #[.slice mM s1.length mO, .slice mP s2.length mQ] w0 (fun v w' => ∃ (r0 : Bool), v = .bool r0 ∧ Same w0 w' ∧ K r0) := by
 refine CallsV.of (l := [.slice mM s1.length mO, .slice mP s2.length mQ]) Try.func70 rfl Try.ntmps70 rfl ?_
 have hO := Owns.start hA
 have hB := Fr.refl (bl []) w0
 unfold slices_Equal_int at H
 replace gK := gK.ch (Ch.start A w0)
 replace hV := hV.ch (Ch.start A w0)
 refine Go1.seq ?_
 refine Go1.region ?_
 refine GoR.op ((op_assign rfl) _) rfl rfl ?_
 refine GoR.nil ?_
 refine Go1.seq ?_
 refine Go1.seq ?_
 refine Go1.region ?_
 refine GoR.op ((op_move rfl) _) rfl rfl ?_
 refine GoR.op ((op_len Try.underlying26 rfl) _) rfl rfl ?_
 replace H := H gK.bd
 refine GoR.op ((op_move rfl) _) rfl rfl ?_
 refine GoR.op ((op_len Try.underlying26 rfl) _) rfl rfl ?_
 replace H := H hV.bd
 by_cases h1 : (s1.length : Int) = (s2.length : Int)
 ·replace H := ifp h1 H
  refine GoR.op ((fun w => opB (op_neq rfl rfl w) (ndT h1)) _) rfl rfl ?_
  refine GoR.nil ?_
  refine Go1.condF rfl rfl ?_
  refine Go1.skip ?_
  refine Go1.seq ?_
  refine Go1.seq ?_
  refine Go1.region ?_
  refine GoR.op ((op_move rfl) _) rfl rfl ?_
  refine GoR.op ((op_len Try.underlying26 rfl) _) rfl rfl ?_
  refine GoR.op ((op_move rfl) _) rfl rfl ?_
  refine GoR.nil ?_
  refine Go1.block ?_
  refine Go1.loopW (S := Nat) (fun s σ w => agrees σ [(0, .slice mM s1.length mO), (1, .slice mP s2.length mQ), (12, .int .i64 (s1.length : Int)), (13, .int .i64 (s : Int))] ∧ Owns w0.heap.size w [] A ∧ ISl (Rp.int .i64) (bl [] ++ A) w mM mO s1 ∧ ISl (Rp.int .i64) (bl [] ++ A) w mP mQ s2 ∧ Fr (bl []) w0 (bl []) w) H ⟨⟨rfl, rfl, rfl, rfl, trivial⟩, hO, gK, hV, hB⟩ ?_
  intro X1 k1_3
  intro H hX1 σ w2
  refine andE fun hag => andE fun hO => andE fun gK => andE fun hV => fun hB => ?_
  refine Go1.keep [(0, .slice mM s1.length mO), (1, .slice mP s2.length mQ), (12, .int .i64 (s1.length : Int)), (13, .int .i64 (k1_3 : Int))] hag ?_
  refine Go1.seq ?_
  refine Go1.region ?_
  by_cases h4 : (k1_3 : Int) < (s1.length : Int)
  ·replace H := ifp h4 H
   refine GoR.op ((fun w => opB (op_lss rfl rfl w) (decide_eq_true h4)) _) rfl rfl ?_
   refine GoR.nil ?_
   refine Go1.seq ?_
   refine Go1.condT rfl rfl ?_
   refine Go1.skip ?_
   refine Go1.seq ?_
   refine Go1.block ?_
   refine Go1.seq ?_
   refine Go1.region ?_
   refine GoR.op ((op_move rfl) _) rfl rfl ?_
   refine GoR.op ((op_assign rfl) _) rfl rfl ?_
   refine GoR.nil ?_
   refine Go1.seq ?_
   refine Go1.drawS 0 [(0, .pure), (1, .pure), (2, .pure), (3, .stable), (4, .pure), (5, .pure), (6, .pure), (7, .stable), (8, .pure)] mixed (by kernel_rfl) ?_
   intro w5 hs6
   have l5 := Stp.same hO hs6
   replace hO := l5.own
   replace gK := gK.ch l5.ch
   replace hV := hV.ch l5.ch
   replace hB := hB.trans l5.fr
   refine GoQ.pure rfl (op_move rfl) rfl rfl ?_
   refine GoQ.pure rfl (op_move rfl) rfl rfl ?_
   obtain ⟨h8, H⟩ := H
   obtain ⟨h9, H⟩ := H
   refine GoQ.pure rfl (op_index Try.underlying26 ti3 rfl rfl h8 h9 (gK.some_ h8 h9)) rfl rfl ?_
   refine GoQ.stable rfl (ldInt gK h8 h9 Try.underlying3 rfl rfl) rfl rfl ?_
   refine GoQ.pure rfl (op_move rfl) rfl rfl ?_
   refine GoQ.pure rfl (op_move rfl) rfl rfl ?_
   obtain ⟨h10, H⟩ := H
   obtain ⟨h11, H⟩ := H
   refine GoQ.pure rfl (op_index Try.underlying26 ti3 rfl rfl h10 h11 (hV.some_ h10 h11)) rfl rfl ?_
   refine GoQ.stable rfl (ldInt hV h10 h11 Try.underlying3 rfl rfl) rfl rfl ?_
   by_cases h12 : (ix s1 (k1_3 : Int)) = (ix s2 (k1_3 : Int))
   ·replace H := ifp h12 H
    refine GoQ.pure rfl (fun w => opB (op_neq rfl rfl w) (ndT h12)) rfl rfl ?_
    refine GoQ.nil ?_
    refine Go1.condF rfl rfl ?_
    refine Go1.skip ?_
    refine Go1.inBlock ?_
    refine Go1.region ?_
    refine GoR.op ((op_add rfl rfl (wrap_i64 (natbd h4 gK.bd))) _) rfl rfl ?_
    refine GoR.op ((op_move rfl) _) rfl rfl ?_
    refine GoR.nil ?_
    exact hX1 _ H _ _ ⟨⟨rfl, rfl, rfl, rfl, trivial⟩, hO, gK, hV, hB⟩
   replace H := ifn h12 H
   refine GoQ.pure rfl (fun w => opB (op_neq rfl rfl w) (ndF h12)) rfl rfl ?_
   refine GoQ.nil ?_
   refine Go1.condT rfl rfl ?_
   refine Go1.seq ?_
   refine Go1.region ?_
   refine GoR.op ((op_assign rfl) _) rfl rfl ?_
   refine GoR.nil ?_
   refine Go1.ret1 Try.func70 rfl ?_
   exact ⟨false, rfl, hB.same, H⟩
  replace H := ifn h4 H
  refine GoR.op ((fun w => opB (op_lss rfl rfl w) (decide_eq_false h4)) _) rfl rfl ?_
  refine GoR.nil ?_
  refine Go1.seq ?_
  refine Go1.condF rfl rfl ?_
  refine Go1.exit rfl ?_
  refine Go1.seq ?_
  refine Go1.region ?_
  refine GoR.op ((op_assign rfl) _) rfl rfl ?_
  refine GoR.nil ?_
  refine Go1.ret1 Try.func70 rfl ?_
  exact ⟨true, rfl, hB.same, H⟩
 replace H := ifn h1 H
 refine GoR.op ((fun w => opB (op_neq rfl rfl w) (ndF h1)) _) rfl rfl ?_
 refine GoR.nil ?_
 refine Go1.condT rfl rfl ?_
 refine Go1.seq ?_
 refine Go1.region ?_
 refine GoR.op ((op_assign rfl) _) rfl rfl ?_
 refine GoR.nil ?_
 refine Go1.ret1 Try.func70 rfl ?_
 exact ⟨false, rfl, hB.same, H⟩
theorem body69 : Body Try.prog 69 := ⟨Try.f69, Try.func69, rfl, by kernel_rfl⟩
theorem walk_slices_EqualFunc_int {A : List Nat} {w0 : World} {mM : Option Addr} {mO : Nat} {mP : Option Addr} {mQ : Nat} {s1 : List (List Int)} {s2 : List (List Int)} (hA : ∀ b ∈ A, b < w0.heap.size) (gK : ISl (Rp.sl (Rp.int .i64)) A w0 mM mO s1) (hV : ISl (Rp.sl (Rp.int .i64)) A w0 mP mQ s2) {K : Bool → Prop} (H : slices_EqualFunc_int s1 s2 K) :
    CallsV Try.prog 69 #[.slice mM s1.length mO, .slice mP s2.length mQ, .func (.func 70) #[] #[]] w0 (fun v w' => ∃ (r0 : Bool), v = .bool r0 ∧ Same w0 w' ∧ K r0) := by
 refine CallsV.of (l := [.slice mM s1.length mO, .slice mP s2.length mQ, .func (.func 70) #[] #[]]) Try.func69 rfl Try.ntmps69 rfl ?_
 have hO := Owns.start hA
 have hB := Fr.refl (bl []) w0
 unfold slices_EqualFunc_int at H
 replace gK := gK.ch (Ch.start A w0)
 replace hV := hV.ch (Ch.start A w0)
 refine Go1.seq ?_
 refine Go1.region ?_
 refine GoR.op ((op_assign rfl) _) rfl rfl ?_
 refine GoR.nil ?_
 refine Go1.seq ?_
 refine Go1.seq ?_
 refine Go1.region ?_
 refine GoR.op ((op_move rfl) _) rfl rfl ?_
 refine GoR.op ((op_len Try.underlying22 rfl) _) rfl rfl ?_
 replace H := H gK.bd
 refine GoR.op ((op_move rfl) _) rfl rfl ?_
 refine GoR.op ((op_len Try.underlying22 rfl) _) rfl rfl ?_
 replace H := H hV.bd
 by_cases h1 : (s1.length : Int) = (s2.length : Int)
 ·replace H := ifp h1 H
  refine GoR.op ((fun w => opB (op_neq rfl rfl w) (ndT h1)) _) rfl rfl ?_
  refine GoR.nil ?_
  refine Go1.condF rfl rfl ?_
  refine Go1.skip ?_
  refine Go1.seq ?_
  refine Go1.seq ?_
  refine Go1.region ?_
  refine GoR.op ((op_move rfl) _) rfl rfl ?_
  refine GoR.op ((op_len Try.underlying22 rfl) _) rfl rfl ?_
  refine GoR.op ((op_move rfl) _) rfl rfl ?_
  refine GoR.nil ?_
  refine Go1.block ?_
  refine Go1.loopW (S := Nat) (fun s σ w => agrees σ [(1, .slice mP s2.length mQ), (2, .func (.func 70) #[] #[]), (15, .slice mM s1.length mO), (16, .int .i64 (s1.length : Int)), (17, .int .i64 (s : Int))] ∧ Owns w0.heap.size w [] A ∧ ISl (Rp.sl (Rp.int .i64)) (bl [] ++ A) w mM mO s1 ∧ ISl (Rp.sl (Rp.int .i64)) (bl [] ++ A) w mP mQ s2 ∧ Fr (bl []) w0 (bl []) w) H ⟨⟨rfl, rfl, rfl, rfl, rfl, trivial⟩, hO, gK, hV, hB⟩ ?_
  intro X1 k1_3
  intro H hX1 σ w2
  refine andE fun hag => andE fun hO => andE fun gK => andE fun hV => fun hB => ?_
  refine Go1.keep [(1, .slice mP s2.length mQ), (2, .func (.func 70) #[] #[]), (15, .slice mM s1.length mO), (16, .int .i64 (s1.length : Int)), (17, .int .i64 (k1_3 : Int))] hag ?_
  refine Go1.seq ?_
  refine Go1.region ?_
  by_cases h4 : (k1_3 : Int) < (s1.length : Int)
  ·replace H := ifp h4 H
   refine GoR.op ((fun w => opB (op_lss rfl rfl w) (decide_eq_true h4)) _) rfl rfl ?_
   refine GoR.nil ?_
   refine Go1.seq ?_
   refine Go1.condT rfl rfl ?_
   refine Go1.skip ?_
   refine Go1.seq ?_
   refine Go1.block ?_
   refine Go1.seq ?_
   refine Go1.region ?_
   refine GoR.op ((op_move rfl) _) rfl rfl ?_
   obtain ⟨h5, H⟩ := H
   obtain ⟨h6, H⟩ := H
   refine GoR.op ((op_index Try.underlying22 ti26 rfl rfl h5 h6 (gK.some_ h5 h6)) _) rfl rfl ?_
   have hobt := ldSl gK h5 h6
   obtain ⟨p7, c8, hi9, Hi⟩ := hobt
   refine GoR.op ((Hi Try.underlying26 rfl rfl) _ (Same.refl _)) rfl rfl ?_
   refine GoR.op ((op_assign rfl) _) rfl rfl ?_
   refine GoR.op ((op_assign rfl) _) rfl rfl ?_
   refine GoR.nil ?_
   refine Go1.seq ?_
   refine Go1.region ?_
   refine GoR.op ((op_move rfl) _) rfl rfl ?_
   refine GoR.op ((op_move rfl) _) rfl rfl ?_
   obtain ⟨h11, H⟩ := H
   obtain ⟨h12, H⟩ := H
   refine GoR.op ((op_index Try.underlying22 ti26 rfl rfl h11 h12 (hV.some_ h11 h12)) _) rfl rfl ?_
   have hobt := ldSl hV h11 h12
   obtain ⟨p13, c14, lQ, zG⟩ := hobt
   refine GoR.op ((zG Try.underlying26 rfl rfl) _ (Same.refl _)) rfl rfl ?_
   refine GoR.op ((op_assign rfl) _) rfl rfl ?_
   refine GoR.nil ?_
   refine Go1.seq ?_
   refine Go1.region ?_
   refine GoR.op ((op_move rfl) _) rfl rfl ?_
   refine GoR.op ((op_move rfl) _) rfl rfl ?_
   refine GoR.op ((op_move rfl) _) rfl rfl ?_
   refine GoR.call (op_callV (caps := []) body70 rfl rfl (walk_slices_Equal_int hO.lt hi9 lQ H)) rfl rfl ?_
   rintro v21 w18 ⟨r17, rfl, Bi, H⟩
   have ke := Stp.same hO Bi
   replace hO := ke.own
   replace gK := gK.ch ke.ch
   replace hV := hV.ch ke.ch
   replace hi9 := hi9.ch ke.ch
   replace lQ := lQ.ch ke.ch
   replace hB := hB.trans ke.fr
   cases r17
   ·replace H := ifn Bool.false_ne_true H
    refine GoR.op ((op_not rfl) _) rfl rfl ?_
    refine GoR.nil ?_
    refine Go1.condT rfl rfl ?_
    refine Go1.seq ?_
    refine Go1.region ?_
    refine GoR.op ((op_assign rfl) _) rfl rfl ?_
    refine GoR.nil ?_
    refine Go1.ret1 Try.func69 rfl ?_
    exact ⟨false, rfl, hB.same, H⟩
   replace H := ifp rfl H
   refine GoR.op ((op_not rfl) _) rfl rfl ?_
   refine GoR.nil ?_
   refine Go1.condF rfl rfl ?_
   refine Go1.skip ?_
   refine Go1.inBlock ?_
   refine Go1.cut [(1, .slice mP s2.length mQ), (2, .func (.func 70) #[] #[]), (15, .slice mM s1.length mO), (16, .int .i64 (s1.length : Int)), (17, .int .i64 (k1_3 : Int))] ⟨rfl, rfl, rfl, rfl, rfl, trivial⟩ ?_
   intro σ _
   refine Go1.region ?_
   refine GoR.op ((op_add rfl rfl (wrap_i64 (natbd h4 gK.bd))) _) rfl rfl ?_
   refine GoR.op ((op_move rfl) _) rfl rfl ?_
   refine GoR.nil ?_
   exact hX1 _ H _ _ ⟨⟨rfl, rfl, rfl, rfl, rfl, trivial⟩, hO, gK, hV, hB⟩
  replace H := ifn h4 H
  refine GoR.op ((fun w => opB (op_lss rfl rfl w) (decide_eq_false h4)) _) rfl rfl ?_
  refine GoR.nil ?_
  refine Go1.seq ?_
  refine Go1.condF rfl rfl ?_
  refine Go1.exit rfl ?_
  refine Go1.seq ?_
  refine Go1.region ?_
  refine GoR.op ((op_assign rfl) _) rfl rfl ?_
  refine GoR.nil ?_
  refine Go1.ret1 Try.func69 rfl ?_
  exact ⟨true, rfl, hB.same, H⟩
 replace H := ifn h1 H
 refine GoR.op ((fun w => opB (op_neq rfl rfl w) (ndF h1)) _) rfl rfl ?_
 refine GoR.nil ?_
 refine Go1.condT rfl rfl ?_
 refine Go1.seq ?_
 refine Go1.region ?_
 refine GoR.op ((op_assign rfl) _) rfl rfl ?_
 refine GoR.nil ?_
 refine Go1.ret1 Try.func69 rfl ?_
 exact ⟨false, rfl, hB.same, H⟩
theorem body71 : Body Try.prog 71 := ⟨Try.f71, Try.func71, rfl, by kernel_rfl⟩
theorem walk_slices_Equal_api_Rule {A : List Nat} {w0 : World} {mM : Option Addr} {mO : Nat} {mP : Option Addr} {mQ : Nat} {s1 : List Rule} {s2 : List Rule} (hA : ∀ b ∈ A, b < w0.heap.size) (gK : ISl (rpRule) A w0 mM mO s1) (hV : ISl (rpRule) A w0 mP mQ s2) {K : Bool → Prop} (H : slices_Equal_api_Rule s1 s2 K) :
    CallsV Try.prog 71 #[.slice mM s1.length mO, .slice mP s2.length mQ] w0 (fun v w' => ∃ (r0 : Bool), v = .bool r0 ∧ Same w0 w' ∧ K r0) := by
 refine CallsV.of (l := [.slice mM s1.length mO, .slice mP s2.length mQ]) Try.func71 rfl Try.ntmps71 rfl ?_
 have hO := Owns.start hA
 have hB := Fr.refl (bl []) w0
 unfold slices_Equal_api_Rule at H
 replace gK := gK.ch (Ch.start A w0)
 replace hV := hV.ch (Ch.start A w0)
 refine Go1.seq ?_
 refine Go1.region ?_
 refine GoR.op ((op_assign rfl) _) rfl rfl ?_
 refine GoR.nil ?_
 refine Go1.seq ?_
 refine Go1.seq ?_
 refine Go1.region ?_
 refine GoR.op ((op_move rfl) _) rfl rfl ?_
 refine GoR.op ((op_len Try.underlying27 rfl) _) rfl rfl ?_
 replace H := H gK.bd
 refine GoR.op ((op_move rfl) _) rfl rfl ?_
 refine GoR.op ((op_len Try.underlying27 rfl) _) rfl rfl ?_
 replace H := H hV.bd
 by_cases h1 : (s1.length : Int) = (s2.length : Int)
 ·replace H := ifp h1 H
  refine GoR.op ((fun w => opB (op_neq rfl rfl w) (ndT h1)) _) rfl rfl ?_
  refine GoR.nil ?_
  refine Go1.condF rfl rfl ?_
  refine Go1.skip ?_
  refine Go1.seq ?_
  refine Go1.seq ?_
  refine Go1.region ?_
  refine GoR.op ((op_move rfl) _) rfl rfl ?_
  refine GoR.op ((op_len Try.underlying27 rfl) _) rfl rfl ?_
  refine GoR.op ((op_move rfl) _) rfl rfl ?_
  refine GoR.nil ?_
  refine Go1.block ?_
  refine Go1.loopW (S := Nat) (fun s σ w => agrees σ [(0, .slice mM s1.length mO), (1, .slice mP s2.length mQ), (12, .int .i64 (s1.length : Int)), (13, .int .i64 (s : Int))] ∧ Owns w0.heap.size w [] A ∧ ISl (rpRule) (bl [] ++ A) w mM mO s1 ∧ ISl (rpRule) (bl [] ++ A) w mP mQ s2 ∧ Fr (bl []) w0 (bl []) w) H ⟨⟨rfl, rfl, rfl, rfl, trivial⟩, hO, gK, hV, hB⟩ ?_
  intro X1 k1_3
  intro H hX1 σ w2
  refine andE fun hag => andE fun hO => andE fun gK => andE fun hV => fun hB => ?_
  refine Go1.keep [(0, .slice mM s1.length mO), (1, .slice mP s2.length mQ), (12, .int .i64 (s1.length : Int)), (13, .int .i64 (k1_3 : Int))] hag ?_
  refine Go1.seq ?_
  refine Go1.region ?_
  by_cases h4 : (k1_3 : Int) < (s1.length : Int)
  ·replace H := ifp h4 H
   refine GoR.op ((fun w => opB (op_lss rfl rfl w) (decide_eq_true h4)) _) rfl rfl ?_
   refine GoR.nil ?_
   refine Go1.seq ?_
   refine Go1.condT rfl rfl ?_
   refine Go1.skip ?_
   refine Go1.seq ?_
   refine Go1.block ?_
   refine Go1.seq ?_
   refine Go1.region ?_
   refine GoR.op ((op_move rfl) _) rfl rfl ?_
   refine GoR.op ((op_assign rfl) _) rfl rfl ?_
   refine GoR.nil ?_
   refine Go1.seq ?_
   refine Go1.drawS 0 [(0, .pure), (1, .pure), (2, .pure), (3, .stable), (4, .pure), (5, .pure), (6, .pure), (7, .stable), (8, .pure)] mixed (by kernel_rfl) ?_
   intro w5 hs6
   have l5 := Stp.same hO hs6
   replace hO := l5.own
   replace gK := gK.ch l5.ch
   replace hV := hV.ch l5.ch
   replace hB := hB.trans l5.fr
   refine GoQ.pure rfl (op_move rfl) rfl rfl ?_
   refine GoQ.pure rfl (op_move rfl) rfl rfl ?_
   obtain ⟨h8, H⟩ := H
   obtain ⟨h9, H⟩ := H
   refine GoQ.pure rfl (op_index Try.underlying27 ti39 rfl rfl h8 h9 (gK.some_ h8 h9)) rfl rfl ?_
   have hok10 := ldFlatOk gK h8 h9
   refine GoQ.stable rfl (ldFlat gK h8 h9 Try.underlying39 rfl ti39 rfl) rfl rfl ?_
   refine GoQ.pure rfl (op_move rfl) rfl rfl ?_
   refine GoQ.pure rfl (op_move rfl) rfl rfl ?_
   obtain ⟨h11, H⟩ := H
   obtain ⟨h12, H⟩ := H
   refine GoQ.pure rfl (op_index Try.underlying27 ti39 rfl rfl h11 h12 (hV.some_ h11 h12)) rfl rfl ?_
   have hok13 := ldFlatOk hV h11 h12
   refine GoQ.stable rfl (ldFlat hV h11 h12 Try.underlying39 rfl ti39 rfl) rfl rfl ?_
   by_cases h14 : (((ix s1 (k1_3 : Int)).Left) = ((ix s2 (k1_3 : Int)).Left) ∧ ((ix s1 (k1_3 : Int)).Right) = ((ix s2 (k1_3 : Int)).Right))
   ·replace H := ifp h14 H
    refine GoQ.pure rfl (fun w => opB (op_neqSS Try.underlying39 eqh39 eqg39 (by decide) (by decide) rfl rfl Try.underlying9 Try.underlying9 rfl rfl w) (ndT h14)) rfl rfl ?_
    refine GoQ.nil ?_
    refine Go1.condF rfl rfl ?_
    refine Go1.skip ?_
    refine Go1.inBlock ?_
    refine Go1.region ?_
    refine GoR.op ((op_add rfl rfl (wrap_i64 (natbd h4 gK.bd))) _) rfl rfl ?_
    refine GoR.op ((op_move rfl) _) rfl rfl ?_
    refine GoR.nil ?_
    exact hX1 _ H _ _ ⟨⟨rfl, rfl, rfl, rfl, trivial⟩, hO, gK, hV, hB⟩
   replace H := ifn h14 H
   refine GoQ.pure rfl (fun w => opB (op_neqSS Try.underlying39 eqh39 eqg39 (by decide) (by decide) rfl rfl Try.underlying9 Try.underlying9 rfl rfl w) (ndF h14)) rfl rfl ?_
   refine GoQ.nil ?_
   refine Go1.condT rfl rfl ?_
   refine Go1.seq ?_
   refine Go1.region ?_
   refine GoR.op ((op_assign rfl) _) rfl rfl ?_
   refine GoR.nil ?_
   refine Go1.ret1 Try.func71 rfl ?_
   exact ⟨false, rfl, hB.same, H⟩
  replace H := ifn h4 H
  refine GoR.op ((fun w => opB (op_lss rfl rfl w) (decide_eq_false h4)) _) rfl rfl ?_
  refine GoR.nil ?_
  refine Go1.seq ?_
  refine Go1.condF rfl rfl ?_
  refine Go1.exit rfl ?_
  refine Go1.seq ?_
  refine Go1.region ?_
  refine GoR.op ((op_assign rfl) _) rfl rfl ?_
  refine GoR.nil ?_
  refine Go1.ret1 Try.func71 rfl ?_
  exact ⟨true, rfl, hB.same, H⟩
 replace H := ifn h1 H
 refine GoR.op ((fun w => opB (op_neq rfl rfl w) (ndF h1)) _) rfl rfl ?_
 refine GoR.nil ?_
 refine Go1.condT rfl rfl ?_
 refine Go1.seq ?_
 refine Go1.region ?_
 refine GoR.op ((op_assign rfl) _) rfl rfl ?_
 refine GoR.nil ?_
 refine Go1.ret1 Try.func71 rfl ?_
 exact ⟨false, rfl, hB.same, H⟩
end Sg
