/- The walks: each call keeps to its plain transformer. Printed by walkgen.py. -/
import Derived.Test.YtjegjjdfgefkoaaTi
import Derived.Test.YtjegjjdfgefkoaaWEnumerateBuilds
namespace Sg
open Go Go.RowKit Go.Proofs
set_option linter.unusedVariables false
set_option linter.unusedSimpArgs false
set_option maxRecDepth 100000
set_option maxHeartbeats 4000000
theorem body66 : Body Try.prog 66 := ⟨Try.f66, Try.func66, rfl, by kernel_rfl⟩
theorem body67 : Body Try.prog 67 := ⟨Try.f67, Try.func67, rfl, by kernel_rfl⟩
theorem body51 : Body Try.prog 51 := ⟨Try.f51, Try.func51, rfl, by kernel_rfl⟩
theorem walk_enumerate_run_process {A : List Nat} {n0 : Nat} {w0 : World} {d7 : Nat} {ak : Nat} {al : Option Addr} {am : Nat} {bZ : List Value} {cj : Nat} {ck : Option Addr} {cl : Nat} {d9 : List Value} {b5 : Nat} {b6 : Option Addr} {b7 : Nat} {d6 : List Value} {cD : Nat} {cE : Option Addr} {cF : Nat} {eC : List Value} {aq : Nat} {aw : Option Addr} {ax : Nat} {bV : List Value} {co : Nat} {cp : Option Addr} {cq : Nat} {eg : List Value} {ay : Nat} {dQ : Nat} {dR : Option Addr} {dS : Nat} {gQ : List Value} {dK : Nat} {dM : Option Addr} {dN : Nat} {gn : List Value} {a6 : Nat} {a7 : Option Addr} {a8 : Nat} {cX : List Value} {a0 : run} (hO : Owns n0 w0 [.blk d7 (.cells #[.int .i64 a0.Enum.Points, .bool a0.Enum.Monoid, .slice al ak am, .slice ck cj cl, .slice b6 b5 b7, .slice cE cD cF, .slice aw aq ax, .slice cp co cq, .int .i64 a0.Enum.Done, .map (some ay), .slice dR dQ dS, .slice dM dK dN, .slice a7 a6 a8] 72 (0, 0)), .row 26 1 al ak am bZ, .row 26 1 ck cj cl d9, .row 3 1 b6 b5 b7 d6, .row 3 1 cE cD cF eC, .row 26 1 aw aq ax bV, .row 39 2 cp co cq eg, .row 9 1 dR dQ dS gQ, .row 3 1 dM dK dN gn, .row 3 1 a7 a6 a8 cX, .any (mapE (fun a : List UInt8 => Value.string (gstr a)) (fun a : Int => Value.int .i64 a) ay a0.number)] A) (aa : Els (Rp.sl (Rp.int .i64)) (bl [.blk d7 (.cells #[.int .i64 a0.Enum.Points, .bool a0.Enum.Monoid, .slice al ak am, .slice ck cj cl, .slice b6 b5 b7, .slice cE cD cF, .slice aw aq ax, .slice cp co cq, .int .i64 a0.Enum.Done, .map (some ay), .slice dR dQ dS, .slice dM dK dN, .slice a7 a6 a8] 72 (0, 0)), .row 26 1 al ak am bZ, .row 26 1 ck cj cl d9, .row 3 1 b6 b5 b7 d6, .row 3 1 cE cD cF eC, .row 26 1 aw aq ax bV, .row 39 2 cp co cq eg, .row 9 1 dR dQ dS gQ, .row 3 1 dM dK dN gn, .row 3 1 a7 a6 a8 cX, .any (mapE (fun a : List UInt8 => Value.string (gstr a)) (fun a : Int => Value.int .i64 a) ay a0.number)] ++ A) w0 bZ a0.Enum.Gens) (uE : Els (Rp.sl (Rp.int .i64)) (bl [.blk d7 (.cells #[.int .i64 a0.Enum.Points, .bool a0.Enum.Monoid, .slice al ak am, .slice ck cj cl, .slice b6 b5 b7, .slice cE cD cF, .slice aw aq ax, .slice cp co cq, .int .i64 a0.Enum.Done, .map (some ay), .slice dR dQ dS, .slice dM dK dN, .slice a7 a6 a8] 72 (0, 0)), .row 26 1 al ak am bZ, .row 26 1 ck cj cl d9, .row 3 1 b6 b5 b7 d6, .row 3 1 cE cD cF eC, .row 26 1 aw aq ax bV, .row 39 2 cp co cq eg, .row 9 1 dR dQ dS gQ, .row 3 1 dM dK dN gn, .row 3 1 a7 a6 a8 cX, .any (mapE (fun a : List UInt8 => Value.string (gstr a)) (fun a : Int => Value.int .i64 a) ay a0.number)] ++ A) w0 d9 a0.Enum.Elems) (ue : Els (Rp.int .i64) (bl [.blk d7 (.cells #[.int .i64 a0.Enum.Points, .bool a0.Enum.Monoid, .slice al ak am, .slice ck cj cl, .slice b6 b5 b7, .slice cE cD cF, .slice aw aq ax, .slice cp co cq, .int .i64 a0.Enum.Done, .map (some ay), .slice dR dQ dS, .slice dM dK dN, .slice a7 a6 a8] 72 (0, 0)), .row 26 1 al ak am bZ, .row 26 1 ck cj cl d9, .row 3 1 b6 b5 b7 d6, .row 3 1 cE cD cF eC, .row 26 1 aw aq ax bV, .row 39 2 cp co cq eg, .row 9 1 dR dQ dS gQ, .row 3 1 dM dK dN gn, .row 3 1 a7 a6 a8 cX, .any (mapE (fun a : List UInt8 => Value.string (gstr a)) (fun a : Int => Value.int .i64 a) ay a0.number)] ++ A) w0 d6 a0.Enum.Prefix) (uQ : Els (Rp.int .i64) (bl [.blk d7 (.cells #[.int .i64 a0.Enum.Points, .bool a0.Enum.Monoid, .slice al ak am, .slice ck cj cl, .slice b6 b5 b7, .slice cE cD cF, .slice aw aq ax, .slice cp co cq, .int .i64 a0.Enum.Done, .map (some ay), .slice dR dQ dS, .slice dM dK dN, .slice a7 a6 a8] 72 (0, 0)), .row 26 1 al ak am bZ, .row 26 1 ck cj cl d9, .row 3 1 b6 b5 b7 d6, .row 3 1 cE cD cF eC, .row 26 1 aw aq ax bV, .row 39 2 cp co cq eg, .row 9 1 dR dQ dS gQ, .row 3 1 dM dK dN gn, .row 3 1 a7 a6 a8 cX, .any (mapE (fun a : List UInt8 => Value.string (gstr a)) (fun a : Int => Value.int .i64 a) ay a0.number)] ++ A) w0 eC a0.Enum.Last) (ab : Els (Rp.sl (Rp.int .i64)) (bl [.blk d7 (.cells #[.int .i64 a0.Enum.Points, .bool a0.Enum.Monoid, .slice al ak am, .slice ck cj cl, .slice b6 b5 b7, .slice cE cD cF, .slice aw aq ax, .slice cp co cq, .int .i64 a0.Enum.Done, .map (some ay), .slice dR dQ dS, .slice dM dK dN, .slice a7 a6 a8] 72 (0, 0)), .row 26 1 al ak am bZ, .row 26 1 ck cj cl d9, .row 3 1 b6 b5 b7 d6, .row 3 1 cE cD cF eC, .row 26 1 aw aq ax bV, .row 39 2 cp co cq eg, .row 9 1 dR dQ dS gQ, .row 3 1 dM dK dN gn, .row 3 1 a7 a6 a8 cX, .any (mapE (fun a : List UInt8 => Value.string (gstr a)) (fun a : Int => Value.int .i64 a) ay a0.number)] ++ A) w0 bV a0.Enum.Right) (uF : Els (rpRule) (bl [.blk d7 (.cells #[.int .i64 a0.Enum.Points, .bool a0.Enum.Monoid, .slice al ak am, .slice ck cj cl, .slice b6 b5 b7, .slice cE cD cF, .slice aw aq ax, .slice cp co cq, .int .i64 a0.Enum.Done, .map (some ay), .slice dR dQ dS, .slice dM dK dN, .slice a7 a6 a8] 72 (0, 0)), .row 26 1 al ak am bZ, .row 26 1 ck cj cl d9, .row 3 1 b6 b5 b7 d6, .row 3 1 cE cD cF eC, .row 26 1 aw aq ax bV, .row 39 2 cp co cq eg, .row 9 1 dR dQ dS gQ, .row 3 1 dM dK dN gn, .row 3 1 a7 a6 a8 cX, .any (mapE (fun a : List UInt8 => Value.string (gstr a)) (fun a : Int => Value.int .i64 a) ay a0.number)] ++ A) w0 eg a0.Enum.Rules) (wL : Els (Rp.str) (bl [.blk d7 (.cells #[.int .i64 a0.Enum.Points, .bool a0.Enum.Monoid, .slice al ak am, .slice ck cj cl, .slice b6 b5 b7, .slice cE cD cF, .slice aw aq ax, .slice cp co cq, .int .i64 a0.Enum.Done, .map (some ay), .slice dR dQ dS, .slice dM dK dN, .slice a7 a6 a8] 72 (0, 0)), .row 26 1 al ak am bZ, .row 26 1 ck cj cl d9, .row 3 1 b6 b5 b7 d6, .row 3 1 cE cD cF eC, .row 26 1 aw aq ax bV, .row 39 2 cp co cq eg, .row 9 1 dR dQ dS gQ, .row 3 1 dM dK dN gn, .row 3 1 a7 a6 a8 cX, .any (mapE (fun a : List UInt8 => Value.string (gstr a)) (fun a : Int => Value.int .i64 a) ay a0.number)] ++ A) w0 gQ a0.words) (wa : Els (Rp.int .i64) (bl [.blk d7 (.cells #[.int .i64 a0.Enum.Points, .bool a0.Enum.Monoid, .slice al ak am, .slice ck cj cl, .slice b6 b5 b7, .slice cE cD cF, .slice aw aq ax, .slice cp co cq, .int .i64 a0.Enum.Done, .map (some ay), .slice dR dQ dS, .slice dM dK dN, .slice a7 a6 a8] 72 (0, 0)), .row 26 1 al ak am bZ, .row 26 1 ck cj cl d9, .row 3 1 b6 b5 b7 d6, .row 3 1 cE cD cF eC, .row 26 1 aw aq ax bV, .row 39 2 cp co cq eg, .row 9 1 dR dQ dS gQ, .row 3 1 dM dK dN gn, .row 3 1 a7 a6 a8 cX, .any (mapE (fun a : List UInt8 => Value.string (gstr a)) (fun a : Int => Value.int .i64 a) ay a0.number)] ++ A) w0 gn a0.behind) (ac : Els (Rp.int .i64) (bl [.blk d7 (.cells #[.int .i64 a0.Enum.Points, .bool a0.Enum.Monoid, .slice al ak am, .slice ck cj cl, .slice b6 b5 b7, .slice cE cD cF, .slice aw aq ax, .slice cp co cq, .int .i64 a0.Enum.Done, .map (some ay), .slice dR dQ dS, .slice dM dK dN, .slice a7 a6 a8] 72 (0, 0)), .row 26 1 al ak am bZ, .row 26 1 ck cj cl d9, .row 3 1 b6 b5 b7 d6, .row 3 1 cE cD cF eC, .row 26 1 aw aq ax bV, .row 39 2 cp co cq eg, .row 9 1 dR dQ dS gQ, .row 3 1 dM dK dN gn, .row 3 1 a7 a6 a8 cX, .any (mapE (fun a : List UInt8 => Value.string (gstr a)) (fun a : Int => Value.int .i64 a) ay a0.number)] ++ A) w0 cX a0.single) {K : Int → run → Prop} (H : enumerate_run_process a0 K) :
    CallsV Try.prog 51 #[.pointer (some ⟨d7, 0, none⟩)] w0 (fun v w' => ∃ (r0 : Int), ∃ (q : run), ∃ (aQ : Nat), ∃ (aR : Option Addr), ∃ (aS : Nat), ∃ (bA : List Value), ∃ (aG : Nat), ∃ (aH : Option Addr), ∃ (aI : Nat), ∃ (bw : List Value), ∃ (ar : Nat), ∃ (au : Option Addr), ∃ (av : Nat), ∃ (bo : List Value), ∃ (aT : Nat), ∃ (aU : Option Addr), ∃ (aV : Nat), ∃ (bB : List Value), ∃ (aJ : Nat), ∃ (aK : Option Addr), ∃ (aL : Nat), ∃ (bx : List Value), ∃ (aM : Nat), ∃ (aN : Option Addr), ∃ (aO : Nat), ∃ (bz : List Value), ∃ (bp : Nat), ∃ (bq : Option Addr), ∃ (bt : Nat), ∃ (cT : List Value), ∃ (bc : Nat), ∃ (bf : Option Addr), ∃ (bg : Nat), ∃ (cv : List Value), ∃ (bh : Nat), ∃ (bi : Option Addr), ∃ (bj : Nat), ∃ (cw : List Value), v = .int .i64 r0 ∧ Owns n0 w' [.blk d7 (.cells #[.int .i64 q.Enum.Points, .bool q.Enum.Monoid, .slice aR aQ aS, .slice aH aG aI, .slice au ar av, .slice aU aT aV, .slice aK aJ aL, .slice aN aM aO, .int .i64 q.Enum.Done, .map (some ay), .slice bq bp bt, .slice bf bc bg, .slice bi bh bj] 72 (0, 0)), .row 26 1 aR aQ aS bA, .row 26 1 aH aG aI bw, .row 3 1 au ar av bo, .row 3 1 aU aT aV bB, .row 26 1 aK aJ aL bx, .row 39 2 aN aM aO bz, .row 9 1 bq bp bt cT, .row 3 1 bf bc bg cv, .row 3 1 bi bh bj cw, .any (mapE (fun a : List UInt8 => Value.string (gstr a)) (fun a : Int => Value.int .i64 a) ay q.number)] A ∧ Els (Rp.sl (Rp.int .i64)) (bl [.blk d7 (.cells #[.int .i64 q.Enum.Points, .bool q.Enum.Monoid, .slice aR aQ aS, .slice aH aG aI, .slice au ar av, .slice aU aT aV, .slice aK aJ aL, .slice aN aM aO, .int .i64 q.Enum.Done, .map (some ay), .slice bq bp bt, .slice bf bc bg, .slice bi bh bj] 72 (0, 0)), .row 26 1 aR aQ aS bA, .row 26 1 aH aG aI bw, .row 3 1 au ar av bo, .row 3 1 aU aT aV bB, .row 26 1 aK aJ aL bx, .row 39 2 aN aM aO bz, .row 9 1 bq bp bt cT, .row 3 1 bf bc bg cv, .row 3 1 bi bh bj cw, .any (mapE (fun a : List UInt8 => Value.string (gstr a)) (fun a : Int => Value.int .i64 a) ay q.number)] ++ A) w' bA q.Enum.Gens ∧ Els (Rp.sl (Rp.int .i64)) (bl [.blk d7 (.cells #[.int .i64 q.Enum.Points, .bool q.Enum.Monoid, .slice aR aQ aS, .slice aH aG aI, .slice au ar av, .slice aU aT aV, .slice aK aJ aL, .slice aN aM aO, .int .i64 q.Enum.Done, .map (some ay), .slice bq bp bt, .slice bf bc bg, .slice bi bh bj] 72 (0, 0)), .row 26 1 aR aQ aS bA, .row 26 1 aH aG aI bw, .row 3 1 au ar av bo, .row 3 1 aU aT aV bB, .row 26 1 aK aJ aL bx, .row 39 2 aN aM aO bz, .row 9 1 bq bp bt cT, .row 3 1 bf bc bg cv, .row 3 1 bi bh bj cw, .any (mapE (fun a : List UInt8 => Value.string (gstr a)) (fun a : Int => Value.int .i64 a) ay q.number)] ++ A) w' bw q.Enum.Elems ∧ Els (Rp.int .i64) (bl [.blk d7 (.cells #[.int .i64 q.Enum.Points, .bool q.Enum.Monoid, .slice aR aQ aS, .slice aH aG aI, .slice au ar av, .slice aU aT aV, .slice aK aJ aL, .slice aN aM aO, .int .i64 q.Enum.Done, .map (some ay), .slice bq bp bt, .slice bf bc bg, .slice bi bh bj] 72 (0, 0)), .row 26 1 aR aQ aS bA, .row 26 1 aH aG aI bw, .row 3 1 au ar av bo, .row 3 1 aU aT aV bB, .row 26 1 aK aJ aL bx, .row 39 2 aN aM aO bz, .row 9 1 bq bp bt cT, .row 3 1 bf bc bg cv, .row 3 1 bi bh bj cw, .any (mapE (fun a : List UInt8 => Value.string (gstr a)) (fun a : Int => Value.int .i64 a) ay q.number)] ++ A) w' bo q.Enum.Prefix ∧ Els (Rp.int .i64) (bl [.blk d7 (.cells #[.int .i64 q.Enum.Points, .bool q.Enum.Monoid, .slice aR aQ aS, .slice aH aG aI, .slice au ar av, .slice aU aT aV, .slice aK aJ aL, .slice aN aM aO, .int .i64 q.Enum.Done, .map (some ay), .slice bq bp bt, .slice bf bc bg, .slice bi bh bj] 72 (0, 0)), .row 26 1 aR aQ aS bA, .row 26 1 aH aG aI bw, .row 3 1 au ar av bo, .row 3 1 aU aT aV bB, .row 26 1 aK aJ aL bx, .row 39 2 aN aM aO bz, .row 9 1 bq bp bt cT, .row 3 1 bf bc bg cv, .row 3 1 bi bh bj cw, .any (mapE (fun a : List UInt8 => Value.string (gstr a)) (fun a : Int => Value.int .i64 a) ay q.number)] ++ A) w' bB q.Enum.Last ∧ Els (Rp.sl (Rp.int .i64)) (bl [.blk d7 (.cells #[.int .i64 q.Enum.Points, .bool q.Enum.Monoid, .slice aR aQ aS, .slice aH aG aI, .slice au ar av, .slice aU aT aV, .slice aK aJ aL, .slice aN aM aO, .int .i64 q.Enum.Done, .map (some ay), .slice bq bp bt, .slice bf bc bg, .slice bi bh bj] 72 (0, 0)), .row 26 1 aR aQ aS bA, .row 26 1 aH aG aI bw, .row 3 1 au ar av bo, .row 3 1 aU aT aV bB, .row 26 1 aK aJ aL bx, .row 39 2 aN aM aO bz, .row 9 1 bq bp bt cT, .row 3 1 bf bc bg cv, .row 3 1 bi bh bj cw, .any (mapE (fun a : List UInt8 => Value.string (gstr a)) (fun a : Int => Value.int .i64 a) ay q.number)] ++ A) w' bx q.Enum.Right ∧ Els (rpRule) (bl [.blk d7 (.cells #[.int .i64 q.Enum.Points, .bool q.Enum.Monoid, .slice aR aQ aS, .slice aH aG aI, .slice au ar av, .slice aU aT aV, .slice aK aJ aL, .slice aN aM aO, .int .i64 q.Enum.Done, .map (some ay), .slice bq bp bt, .slice bf bc bg, .slice bi bh bj] 72 (0, 0)), .row 26 1 aR aQ aS bA, .row 26 1 aH aG aI bw, .row 3 1 au ar av bo, .row 3 1 aU aT aV bB, .row 26 1 aK aJ aL bx, .row 39 2 aN aM aO bz, .row 9 1 bq bp bt cT, .row 3 1 bf bc bg cv, .row 3 1 bi bh bj cw, .any (mapE (fun a : List UInt8 => Value.string (gstr a)) (fun a : Int => Value.int .i64 a) ay q.number)] ++ A) w' bz q.Enum.Rules ∧ Els (Rp.str) (bl [.blk d7 (.cells #[.int .i64 q.Enum.Points, .bool q.Enum.Monoid, .slice aR aQ aS, .slice aH aG aI, .slice au ar av, .slice aU aT aV, .slice aK aJ aL, .slice aN aM aO, .int .i64 q.Enum.Done, .map (some ay), .slice bq bp bt, .slice bf bc bg, .slice bi bh bj] 72 (0, 0)), .row 26 1 aR aQ aS bA, .row 26 1 aH aG aI bw, .row 3 1 au ar av bo, .row 3 1 aU aT aV bB, .row 26 1 aK aJ aL bx, .row 39 2 aN aM aO bz, .row 9 1 bq bp bt cT, .row 3 1 bf bc bg cv, .row 3 1 bi bh bj cw, .any (mapE (fun a : List UInt8 => Value.string (gstr a)) (fun a : Int => Value.int .i64 a) ay q.number)] ++ A) w' cT q.words ∧ Els (Rp.int .i64) (bl [.blk d7 (.cells #[.int .i64 q.Enum.Points, .bool q.Enum.Monoid, .slice aR aQ aS, .slice aH aG aI, .slice au ar av, .slice aU aT aV, .slice aK aJ aL, .slice aN aM aO, .int .i64 q.Enum.Done, .map (some ay), .slice bq bp bt, .slice bf bc bg, .slice bi bh bj] 72 (0, 0)), .row 26 1 aR aQ aS bA, .row 26 1 aH aG aI bw, .row 3 1 au ar av bo, .row 3 1 aU aT aV bB, .row 26 1 aK aJ aL bx, .row 39 2 aN aM aO bz, .row 9 1 bq bp bt cT, .row 3 1 bf bc bg cv, .row 3 1 bi bh bj cw, .any (mapE (fun a : List UInt8 => Value.string (gstr a)) (fun a : Int => Value.int .i64 a) ay q.number)] ++ A) w' cv q.behind ∧ Els (Rp.int .i64) (bl [.blk d7 (.cells #[.int .i64 q.Enum.Points, .bool q.Enum.Monoid, .slice aR aQ aS, .slice aH aG aI, .slice au ar av, .slice aU aT aV, .slice aK aJ aL, .slice aN aM aO, .int .i64 q.Enum.Done, .map (some ay), .slice bq bp bt, .slice bf bc bg, .slice bi bh bj] 72 (0, 0)), .row 26 1 aR aQ aS bA, .row 26 1 aH aG aI bw, .row 3 1 au ar av bo, .row 3 1 aU aT aV bB, .row 26 1 aK aJ aL bx, .row 39 2 aN aM aO bz, .row 9 1 bq bp bt cT, .row 3 1 bf bc bg cv, .row 3 1 bi bh bj cw, .any (mapE (fun a : List UInt8 => Value.string (gstr a)) (fun a : Int => Value.int .i64 a) ay q.number)] ++ A) w' cw q.single ∧ Fr (bl [.blk d7 (.cells #[.int .i64 a0.Enum.Points, .bool a0.Enum.Monoid, .slice al ak am, .slice ck cj cl, .slice b6 b5 b7, .slice cE cD cF, .slice aw aq ax, .slice cp co cq, .int .i64 a0.Enum.Done, .map (some ay), .slice dR dQ dS, .slice dM dK dN, .slice a7 a6 a8] 72 (0, 0)), .row 26 1 al ak am bZ, .row 26 1 ck cj cl d9, .row 3 1 b6 b5 b7 d6, .row 3 1 cE cD cF eC, .row 26 1 aw aq ax bV, .row 39 2 cp co cq eg, .row 9 1 dR dQ dS gQ, .row 3 1 dM dK dN gn, .row 3 1 a7 a6 a8 cX, .any (mapE (fun a : List UInt8 => Value.string (gstr a)) (fun a : Int => Value.int .i64 a) ay a0.number)]) w0 (bl [.blk d7 (.cells #[.int .i64 q.Enum.Points, .bool q.Enum.Monoid, .slice aR aQ aS, .slice aH aG aI, .slice au ar av, .slice aU aT aV, .slice aK aJ aL, .slice aN aM aO, .int .i64 q.Enum.Done, .map (some ay), .slice bq bp bt, .slice bf bc bg, .slice bi bh bj] 72 (0, 0)), .row 26 1 aR aQ aS bA, .row 26 1 aH aG aI bw, .row 3 1 au ar av bo, .row 3 1 aU aT aV bB, .row 26 1 aK aJ aL bx, .row 39 2 aN aM aO bz, .row 9 1 bq bp bt cT, .row 3 1 bf bc bg cv, .row 3 1 bi bh bj cw, .any (mapE (fun a : List UInt8 => Value.string (gstr a)) (fun a : Int => Value.int .i64 a) ay q.number)]) w' ∧ K r0 q) := by
 refine CallsV.of (l := [.pointer (some ⟨d7, 0, none⟩)]) Try.func51 rfl Try.ntmps51 rfl ?_
 have hB := Fr.refl (bl [.blk d7 (.cells #[.int .i64 a0.Enum.Points, .bool a0.Enum.Monoid, .slice al ak am, .slice ck cj cl, .slice b6 b5 b7, .slice cE cD cF, .slice aw aq ax, .slice cp co cq, .int .i64 a0.Enum.Done, .map (some ay), .slice dR dQ dS, .slice dM dK dN, .slice a7 a6 a8] 72 (0, 0)), .row 26 1 al ak am bZ, .row 26 1 ck cj cl d9, .row 3 1 b6 b5 b7 d6, .row 3 1 cE cD cF eC, .row 26 1 aw aq ax bV, .row 39 2 cp co cq eg, .row 9 1 dR dQ dS gQ, .row 3 1 dM dK dN gn, .row 3 1 a7 a6 a8 cX, .any (mapE (fun a : List UInt8 => Value.string (gstr a)) (fun a : Int => Value.int .i64 a) ay a0.number)]) w0
 unfold enumerate_run_process at H
 refine Go1.seq ?_
 refine Go1.region ?_
 refine GoR.op ((op_assign rfl) _) rfl rfl ?_
 refine GoR.nil ?_
 refine Go1.seq ?_
 refine Go1.region ?_
 refine GoR.op ((op_move rfl) _) rfl rfl ?_
 refine GoR.op ((op_nilCheck rfl) _) rfl rfl ?_
 refine GoR.op ((op_fieldAddr Try.underlying72 rfl ti29 rfl (by decide)) _) rfl rfl ?_
 refine GoR.op ((op_fieldAddr Try.underlying29 rfl ti3 rfl (by decide)) _) rfl rfl ?_
 refine GoR.op ((oblk (i := 8) 0 hO rfl rfl Try.underlying3 rfl rfl) _ (Same.refl _)) rfl rfl ?_
 refine GoR.op ((op_assign rfl) _) rfl rfl ?_
 refine GoR.nil ?_
 refine Go1.seq ?_
 refine Go1.region ?_
 refine GoR.op ((op_move rfl) _) rfl rfl ?_
 refine GoR.op ((op_nilCheck rfl) _) rfl rfl ?_
 refine GoR.op ((op_fieldAddr Try.underlying72 rfl ti29 rfl (by decide)) _) rfl rfl ?_
 refine GoR.op ((op_fieldAddr Try.underlying29 rfl ti22 rfl (by decide)) _) rfl rfl ?_
 refine GoR.op ((oblk (i := 2) 0 hO rfl rfl Try.underlying22 rfl rfl) _ (Same.refl _)) rfl rfl ?_
 refine GoR.op ((op_lenN Try.underlying22 rfl (aa.neq hO 1 rfl)) _) rfl rfl ?_
 obtain ⟨h8, H⟩ := H
 obtain ⟨h9, H⟩ := H
 have hobt := omake (n := (a0.Enum.Gens.length : Int)) (r := Rp.int .i64) (d := (0 : Int)) Try.underlying26 ti3 (fun _ _ => rfl) rfl hO h8 h9 (by decide)
 obtain ⟨w1, p2, vs3, rv, hE5, hs6, AV⟩ := hobt
 refine GoR.op (AV rfl rfl) rfl rfl ?_
 replace aa := aa.ch rv.ch
 replace uE := uE.ch rv.ch
 replace ue := ue.ch rv.ch
 replace uQ := uQ.ch rv.ch
 replace ab := ab.ch rv.ch
 replace uF := uF.ch rv.ch
 replace wL := wL.ch rv.ch
 replace wa := wa.ch rv.ch
 replace ac := ac.ch rv.ch
 replace hO := rv.own
 replace hB := hB.trans rv.fr
 refine GoR.op ((op_assign rfl) _) rfl rfl ?_
 refine GoR.nil ?_
 refine Go1.seq ?_
 refine Go1.seq ?_
 refine Go1.region ?_
 refine GoR.op ((op_move rfl) _) rfl rfl ?_
 refine GoR.op ((op_nilCheck rfl) _) rfl rfl ?_
 refine GoR.op ((op_fieldAddr Try.underlying72 rfl ti29 rfl (by decide)) _) rfl rfl ?_
 refine GoR.op ((op_fieldAddr Try.underlying29 rfl ti22 rfl (by decide)) _) rfl rfl ?_
 refine GoR.op ((oblk (i := 2) 1 hO rfl rfl Try.underlying22 rfl rfl) _ (Same.refl _)) rfl rfl ?_
 refine GoR.op ((op_lenN Try.underlying22 rfl (aa.neq hO 2 rfl)) _) rfl rfl ?_
 refine GoR.op ((op_move rfl) _) rfl rfl ?_
 refine GoR.nil ?_
 refine Go1.block ?_
 refine Go1.loopW (S := Nat × List Int × List (List Int) × List Int × List Int × List Rule × List Str × List Int × (List (Str × Int))) (fun s σ w => match s with | (k1_12, d_13, d_16, d_22, d_28, d_34, d_40, d_46, m1_52) => ∃ (qx : List Value), ∃ (n21 : Nat), ∃ (p19 : Option Addr), ∃ (c20 : Nat), ∃ (ov : List Value), ∃ (n27 : Nat), ∃ (p25 : Option Addr), ∃ (c26 : Nat), ∃ (pv : List Value), ∃ (n33 : Nat), ∃ (p31 : Option Addr), ∃ (c32 : Nat), ∃ (px : List Value), ∃ (n39 : Nat), ∃ (p37 : Option Addr), ∃ (c38 : Nat), ∃ (pz : List Value), ∃ (n45 : Nat), ∃ (p43 : Option Addr), ∃ (c44 : Nat), ∃ (eQ : List Value), ∃ (n51 : Nat), ∃ (p49 : Option Addr), ∃ (c50 : Nat), ∃ (eU : List Value), agrees σ [(0, .pointer (some ⟨d7, 0, none⟩)), (3, .int .i64 a0.Enum.Done), (4, .slice p2 a0.Enum.Gens.length a0.Enum.Gens.length), (27, .slice al ak am), (28, .int .i64 (a0.Enum.Gens.length : Int)), (29, .int .i64 (k1_12 : Int))] ∧ Owns n0 w [.row 3 1 p2 a0.Enum.Gens.length a0.Enum.Gens.length qx, .blk d7 (.cells #[.int .i64 a0.Enum.Points, .bool a0.Enum.Monoid, .slice al ak am, .slice p19 n21 c20, .slice p25 n27 c26, .slice p31 n33 c32, .slice aw aq ax, .slice p37 n39 c38, .int .i64 a0.Enum.Done, .map (some ay), .slice p43 n45 c44, .slice p49 n51 c50, .slice a7 a6 a8] 72 (0, 0)), .row 26 1 al ak am bZ, .row 26 1 p19 n21 c20 ov, .row 3 1 p25 n27 c26 pv, .row 3 1 p31 n33 c32 px, .row 26 1 aw aq ax bV, .row 39 2 p37 n39 c38 pz, .row 9 1 p43 n45 c44 eQ, .row 3 1 p49 n51 c50 eU, .row 3 1 a7 a6 a8 cX, .any (mapE (fun a : List UInt8 => Value.string (gstr a)) (fun a : Int => Value.int .i64 a) ay m1_52)] A ∧ Els (Rp.int .i64) (bl [.row 3 1 p2 a0.Enum.Gens.length a0.Enum.Gens.length qx, .blk d7 (.cells #[.int .i64 a0.Enum.Points, .bool a0.Enum.Monoid, .slice al ak am, .slice p19 n21 c20, .slice p25 n27 c26, .slice p31 n33 c32, .slice aw aq ax, .slice p37 n39 c38, .int .i64 a0.Enum.Done, .map (some ay), .slice p43 n45 c44, .slice p49 n51 c50, .slice a7 a6 a8] 72 (0, 0)), .row 26 1 al ak am bZ, .row 26 1 p19 n21 c20 ov, .row 3 1 p25 n27 c26 pv, .row 3 1 p31 n33 c32 px, .row 26 1 aw aq ax bV, .row 39 2 p37 n39 c38 pz, .row 9 1 p43 n45 c44 eQ, .row 3 1 p49 n51 c50 eU, .row 3 1 a7 a6 a8 cX, .any (mapE (fun a : List UInt8 => Value.string (gstr a)) (fun a : Int => Value.int .i64 a) ay m1_52)] ++ A) w qx d_13 ∧ Els (Rp.sl (Rp.int .i64)) (bl [.row 3 1 p2 a0.Enum.Gens.length a0.Enum.Gens.length qx, .blk d7 (.cells #[.int .i64 a0.Enum.Points, .bool a0.Enum.Monoid, .slice al ak am, .slice p19 n21 c20, .slice p25 n27 c26, .slice p31 n33 c32, .slice aw aq ax, .slice p37 n39 c38, .int .i64 a0.Enum.Done, .map (some ay), .slice p43 n45 c44, .slice p49 n51 c50, .slice a7 a6 a8] 72 (0, 0)), .row 26 1 al ak am bZ, .row 26 1 p19 n21 c20 ov, .row 3 1 p25 n27 c26 pv, .row 3 1 p31 n33 c32 px, .row 26 1 aw aq ax bV, .row 39 2 p37 n39 c38 pz, .row 9 1 p43 n45 c44 eQ, .row 3 1 p49 n51 c50 eU, .row 3 1 a7 a6 a8 cX, .any (mapE (fun a : List UInt8 => Value.string (gstr a)) (fun a : Int => Value.int .i64 a) ay m1_52)] ++ A) w bZ a0.Enum.Gens ∧ Els (Rp.sl (Rp.int .i64)) (bl [.row 3 1 p2 a0.Enum.Gens.length a0.Enum.Gens.length qx, .blk d7 (.cells #[.int .i64 a0.Enum.Points, .bool a0.Enum.Monoid, .slice al ak am, .slice p19 n21 c20, .slice p25 n27 c26, .slice p31 n33 c32, .slice aw aq ax, .slice p37 n39 c38, .int .i64 a0.Enum.Done, .map (some ay), .slice p43 n45 c44, .slice p49 n51 c50, .slice a7 a6 a8] 72 (0, 0)), .row 26 1 al ak am bZ, .row 26 1 p19 n21 c20 ov, .row 3 1 p25 n27 c26 pv, .row 3 1 p31 n33 c32 px, .row 26 1 aw aq ax bV, .row 39 2 p37 n39 c38 pz, .row 9 1 p43 n45 c44 eQ, .row 3 1 p49 n51 c50 eU, .row 3 1 a7 a6 a8 cX, .any (mapE (fun a : List UInt8 => Value.string (gstr a)) (fun a : Int => Value.int .i64 a) ay m1_52)] ++ A) w ov d_16 ∧ Els (Rp.int .i64) (bl [.row 3 1 p2 a0.Enum.Gens.length a0.Enum.Gens.length qx, .blk d7 (.cells #[.int .i64 a0.Enum.Points, .bool a0.Enum.Monoid, .slice al ak am, .slice p19 n21 c20, .slice p25 n27 c26, .slice p31 n33 c32, .slice aw aq ax, .slice p37 n39 c38, .int .i64 a0.Enum.Done, .map (some ay), .slice p43 n45 c44, .slice p49 n51 c50, .slice a7 a6 a8] 72 (0, 0)), .row 26 1 al ak am bZ, .row 26 1 p19 n21 c20 ov, .row 3 1 p25 n27 c26 pv, .row 3 1 p31 n33 c32 px, .row 26 1 aw aq ax bV, .row 39 2 p37 n39 c38 pz, .row 9 1 p43 n45 c44 eQ, .row 3 1 p49 n51 c50 eU, .row 3 1 a7 a6 a8 cX, .any (mapE (fun a : List UInt8 => Value.string (gstr a)) (fun a : Int => Value.int .i64 a) ay m1_52)] ++ A) w pv d_22 ∧ Els (Rp.int .i64) (bl [.row 3 1 p2 a0.Enum.Gens.length a0.Enum.Gens.length qx, .blk d7 (.cells #[.int .i64 a0.Enum.Points, .bool a0.Enum.Monoid, .slice al ak am, .slice p19 n21 c20, .slice p25 n27 c26, .slice p31 n33 c32, .slice aw aq ax, .slice p37 n39 c38, .int .i64 a0.Enum.Done, .map (some ay), .slice p43 n45 c44, .slice p49 n51 c50, .slice a7 a6 a8] 72 (0, 0)), .row 26 1 al ak am bZ, .row 26 1 p19 n21 c20 ov, .row 3 1 p25 n27 c26 pv, .row 3 1 p31 n33 c32 px, .row 26 1 aw aq ax bV, .row 39 2 p37 n39 c38 pz, .row 9 1 p43 n45 c44 eQ, .row 3 1 p49 n51 c50 eU, .row 3 1 a7 a6 a8 cX, .any (mapE (fun a : List UInt8 => Value.string (gstr a)) (fun a : Int => Value.int .i64 a) ay m1_52)] ++ A) w px d_28 ∧ Els (Rp.sl (Rp.int .i64)) (bl [.row 3 1 p2 a0.Enum.Gens.length a0.Enum.Gens.length qx, .blk d7 (.cells #[.int .i64 a0.Enum.Points, .bool a0.Enum.Monoid, .slice al ak am, .slice p19 n21 c20, .slice p25 n27 c26, .slice p31 n33 c32, .slice aw aq ax, .slice p37 n39 c38, .int .i64 a0.Enum.Done, .map (some ay), .slice p43 n45 c44, .slice p49 n51 c50, .slice a7 a6 a8] 72 (0, 0)), .row 26 1 al ak am bZ, .row 26 1 p19 n21 c20 ov, .row 3 1 p25 n27 c26 pv, .row 3 1 p31 n33 c32 px, .row 26 1 aw aq ax bV, .row 39 2 p37 n39 c38 pz, .row 9 1 p43 n45 c44 eQ, .row 3 1 p49 n51 c50 eU, .row 3 1 a7 a6 a8 cX, .any (mapE (fun a : List UInt8 => Value.string (gstr a)) (fun a : Int => Value.int .i64 a) ay m1_52)] ++ A) w bV a0.Enum.Right ∧ Els (rpRule) (bl [.row 3 1 p2 a0.Enum.Gens.length a0.Enum.Gens.length qx, .blk d7 (.cells #[.int .i64 a0.Enum.Points, .bool a0.Enum.Monoid, .slice al ak am, .slice p19 n21 c20, .slice p25 n27 c26, .slice p31 n33 c32, .slice aw aq ax, .slice p37 n39 c38, .int .i64 a0.Enum.Done, .map (some ay), .slice p43 n45 c44, .slice p49 n51 c50, .slice a7 a6 a8] 72 (0, 0)), .row 26 1 al ak am bZ, .row 26 1 p19 n21 c20 ov, .row 3 1 p25 n27 c26 pv, .row 3 1 p31 n33 c32 px, .row 26 1 aw aq ax bV, .row 39 2 p37 n39 c38 pz, .row 9 1 p43 n45 c44 eQ, .row 3 1 p49 n51 c50 eU, .row 3 1 a7 a6 a8 cX, .any (mapE (fun a : List UInt8 => Value.string (gstr a)) (fun a : Int => Value.int .i64 a) ay m1_52)] ++ A) w pz d_34 ∧ Els (Rp.str) (bl [.row 3 1 p2 a0.Enum.Gens.length a0.Enum.Gens.length qx, .blk d7 (.cells #[.int .i64 a0.Enum.Points, .bool a0.Enum.Monoid, .slice al ak am, .slice p19 n21 c20, .slice p25 n27 c26, .slice p31 n33 c32, .slice aw aq ax, .slice p37 n39 c38, .int .i64 a0.Enum.Done, .map (some ay), .slice p43 n45 c44, .slice p49 n51 c50, .slice a7 a6 a8] 72 (0, 0)), .row 26 1 al ak am bZ, .row 26 1 p19 n21 c20 ov, .row 3 1 p25 n27 c26 pv, .row 3 1 p31 n33 c32 px, .row 26 1 aw aq ax bV, .row 39 2 p37 n39 c38 pz, .row 9 1 p43 n45 c44 eQ, .row 3 1 p49 n51 c50 eU, .row 3 1 a7 a6 a8 cX, .any (mapE (fun a : List UInt8 => Value.string (gstr a)) (fun a : Int => Value.int .i64 a) ay m1_52)] ++ A) w eQ d_40 ∧ Els (Rp.int .i64) (bl [.row 3 1 p2 a0.Enum.Gens.length a0.Enum.Gens.length qx, .blk d7 (.cells #[.int .i64 a0.Enum.Points, .bool a0.Enum.Monoid, .slice al ak am, .slice p19 n21 c20, .slice p25 n27 c26, .slice p31 n33 c32, .slice aw aq ax, .slice p37 n39 c38, .int .i64 a0.Enum.Done, .map (some ay), .slice p43 n45 c44, .slice p49 n51 c50, .slice a7 a6 a8] 72 (0, 0)), .row 26 1 al ak am bZ, .row 26 1 p19 n21 c20 ov, .row 3 1 p25 n27 c26 pv, .row 3 1 p31 n33 c32 px, .row 26 1 aw aq ax bV, .row 39 2 p37 n39 c38 pz, .row 9 1 p43 n45 c44 eQ, .row 3 1 p49 n51 c50 eU, .row 3 1 a7 a6 a8 cX, .any (mapE (fun a : List UInt8 => Value.string (gstr a)) (fun a : Int => Value.int .i64 a) ay m1_52)] ++ A) w eU d_46 ∧ Els (Rp.int .i64) (bl [.row 3 1 p2 a0.Enum.Gens.length a0.Enum.Gens.length qx, .blk d7 (.cells #[.int .i64 a0.Enum.Points, .bool a0.Enum.Monoid, .slice al ak am, .slice p19 n21 c20, .slice p25 n27 c26, .slice p31 n33 c32, .slice aw aq ax, .slice p37 n39 c38, .int .i64 a0.Enum.Done, .map (some ay), .slice p43 n45 c44, .slice p49 n51 c50, .slice a7 a6 a8] 72 (0, 0)), .row 26 1 al ak am bZ, .row 26 1 p19 n21 c20 ov, .row 3 1 p25 n27 c26 pv, .row 3 1 p31 n33 c32 px, .row 26 1 aw aq ax bV, .row 39 2 p37 n39 c38 pz, .row 9 1 p43 n45 c44 eQ, .row 3 1 p49 n51 c50 eU, .row 3 1 a7 a6 a8 cX, .any (mapE (fun a : List UInt8 => Value.string (gstr a)) (fun a : Int => Value.int .i64 a) ay m1_52)] ++ A) w cX a0.single ∧ Fr (bl [.blk d7 (.cells #[.int .i64 a0.Enum.Points, .bool a0.Enum.Monoid, .slice al ak am, .slice ck cj cl, .slice b6 b5 b7, .slice cE cD cF, .slice aw aq ax, .slice cp co cq, .int .i64 a0.Enum.Done, .map (some ay), .slice dR dQ dS, .slice dM dK dN, .slice a7 a6 a8] 72 (0, 0)), .row 26 1 al ak am bZ, .row 26 1 ck cj cl d9, .row 3 1 b6 b5 b7 d6, .row 3 1 cE cD cF eC, .row 26 1 aw aq ax bV, .row 39 2 cp co cq eg, .row 9 1 dR dQ dS gQ, .row 3 1 dM dK dN gn, .row 3 1 a7 a6 a8 cX, .any (mapE (fun a : List UInt8 => Value.string (gstr a)) (fun a : Int => Value.int .i64 a) ay a0.number)]) w0 (bl [.row 3 1 p2 a0.Enum.Gens.length a0.Enum.Gens.length qx, .blk d7 (.cells #[.int .i64 a0.Enum.Points, .bool a0.Enum.Monoid, .slice al ak am, .slice p19 n21 c20, .slice p25 n27 c26, .slice p31 n33 c32, .slice aw aq ax, .slice p37 n39 c38, .int .i64 a0.Enum.Done, .map (some ay), .slice p43 n45 c44, .slice p49 n51 c50, .slice a7 a6 a8] 72 (0, 0)), .row 26 1 al ak am bZ, .row 26 1 p19 n21 c20 ov, .row 3 1 p25 n27 c26 pv, .row 3 1 p31 n33 c32 px, .row 26 1 aw aq ax bV, .row 39 2 p37 n39 c38 pz, .row 9 1 p43 n45 c44 eQ, .row 3 1 p49 n51 c50 eU, .row 3 1 a7 a6 a8 cX, .any (mapE (fun a : List UInt8 => Value.string (gstr a)) (fun a : Int => Value.int .i64 a) ay m1_52)]) w) H ⟨vs3, cj, ck, cl, d9, b5, b6, b7, d6, cD, cE, cF, eC, co, cp, cq, eg, dQ, dR, dS, gQ, dK, dM, dN, gn, ⟨rfl, rfl, rfl, rfl, rfl, rfl, trivial⟩, hO, hE5, aa, uE, ue, uQ, ab, uF, wL, wa, ac, hB⟩ ?_
 intro X1
 refine prE fun k1_12 => prE fun d_13 => prE fun d_16 => prE fun d_22 => prE fun d_28 => prE fun d_34 => prE fun d_40 => prE fun d_46 => fun m1_52 => ?_
 intro H hX1 σ w11
 refine exE fun qx => exE fun n21 => exE fun p19 => exE fun c20 => exE fun ov => exE fun n27 => exE fun p25 => exE fun c26 => exE fun pv => exE fun n33 => exE fun p31 => exE fun c32 => exE fun px => exE fun n39 => exE fun p37 => exE fun c38 => exE fun pz => exE fun n45 => exE fun p43 => exE fun c44 => exE fun eQ => exE fun n51 => exE fun p49 => exE fun c50 => exE fun eU => andE fun hag => andE fun hO => andE fun bm => andE fun aa => andE fun cP => andE fun bW => andE fun bF => andE fun ab => andE fun bn => andE fun aP => andE fun aF => andE fun ac => fun hB => ?_
 dsimp only at H
 refine Go1.keep [(0, .pointer (some ⟨d7, 0, none⟩)), (3, .int .i64 a0.Enum.Done), (4, .slice p2 a0.Enum.Gens.length a0.Enum.Gens.length), (27, .slice al ak am), (28, .int .i64 (a0.Enum.Gens.length : Int)), (29, .int .i64 (k1_12 : Int))] hag ?_
 refine Go1.seq ?_
 refine Go1.region ?_
 by_cases h53 : (k1_12 : Int) < (a0.Enum.Gens.length : Int)
 ·replace H := ifp h53 H
  refine GoR.op ((fun w => opB (op_lss rfl rfl w) (decide_eq_true h53)) _) rfl rfl ?_
  refine GoR.nil ?_
  refine Go1.seq ?_
  refine Go1.condT rfl rfl ?_
  refine Go1.skip ?_
  refine Go1.seq ?_
  refine Go1.block ?_
  refine Go1.seq ?_
  refine Go1.region ?_
  refine GoR.op ((op_move rfl) _) rfl rfl ?_
  obtain ⟨h54, H⟩ := H
  obtain ⟨h55, H⟩ := H
  refine GoR.op ((op_index Try.underlying22 ti26 rfl rfl h54 (ltn (aa.neq hO 2 rfl) h55) (aa.psome hO 2 rfl h54 h55)) _) rfl rfl ?_
  have hobt := oldSl 2 hO rfl aa h54 h55
  obtain ⟨p56, c57, bu, Le⟩ := hobt
  refine GoR.op ((Le Try.underlying26 rfl rfl) _ (Same.refl _)) rfl rfl ?_
  refine GoR.op ((op_assign rfl) _) rfl rfl ?_
  refine GoR.op ((op_assign rfl) _) rfl rfl ?_
  refine GoR.nil ?_
  refine Go1.seq ?_
  refine Go1.region ?_
  refine GoR.op ((op_move rfl) _) rfl rfl ?_
  refine GoR.op ((op_nilCheck rfl) _) rfl rfl ?_
  refine GoR.op ((op_fieldAddr Try.underlying72 rfl ti29 rfl (by decide)) _) rfl rfl ?_
  refine GoR.op ((op_fieldAddr Try.underlying29 rfl ti22 rfl (by decide)) _) rfl rfl ?_
  refine GoR.op ((oblk (i := 3) 1 hO rfl rfl Try.underlying22 rfl rfl) _ (Same.refl _)) rfl rfl ?_
  refine GoR.op ((op_move rfl) _) rfl rfl ?_
  obtain ⟨h60, H⟩ := H
  obtain ⟨h61, H⟩ := H
  refine GoR.op ((op_index Try.underlying22 ti26 rfl rfl h60 (ltn (cP.neq hO 3 rfl) h61) (cP.psome hO 3 rfl h60 h61)) _) rfl rfl ?_
  have hobt := oldSl 3 hO rfl cP h60 h61
  obtain ⟨p62, c63, bv, Lf⟩ := hobt
  refine GoR.op ((Lf Try.underlying26 rfl rfl) _ (Same.refl _)) rfl rfl ?_
  refine GoR.op ((op_move rfl) _) rfl rfl ?_
  refine GoR.call (op_call body37 rfl (walk_trans_Compose hO.lt bv bu H)) rfl rfl ?_
  rintro v70 w67 ⟨r66, t7, t8, rfl, Lg, a9, H⟩
  have fD := Stp.same hO Lg
  replace bm := bm.ch fD.ch
  replace aa := aa.ch fD.ch
  replace cP := cP.ch fD.ch
  replace bW := bW.ch fD.ch
  replace bF := bF.ch fD.ch
  replace ab := ab.ch fD.ch
  replace bn := bn.ch fD.ch
  replace aP := aP.ch fD.ch
  replace aF := aF.ch fD.ch
  replace ac := ac.ch fD.ch
  replace hO := fD.own
  replace bu := bu.ch fD.ch
  replace bv := bv.ch fD.ch
  replace hB := hB.trans fD.fr
  refine GoR.op ((op_assign rfl) _) rfl rfl ?_
  refine GoR.nil ?_
  refine Go1.seq ?_
  refine Go1.drawS 0 [(0, .pure), (1, .pure), (2, .pure), (3, .stable), (4, .pure), (5, .loud), (6, .stable), (7, .pure), (8, .pure), (9, .pure), (10, .pure), (11, .pure)] mixed (by kernel_rfl) ?_
  intro w72 Lh
  have jy := Stp.same hO Lh
  replace bm := bm.ch jy.ch
  replace aa := aa.ch jy.ch
  replace cP := cP.ch jy.ch
  replace bW := bW.ch jy.ch
  replace bF := bF.ch jy.ch
  replace ab := ab.ch jy.ch
  replace bn := bn.ch jy.ch
  replace aP := aP.ch jy.ch
  replace aF := aF.ch jy.ch
  replace ac := ac.ch jy.ch
  replace hO := jy.own
  replace bu := bu.ch jy.ch
  replace bv := bv.ch jy.ch
  replace a9 := a9.ch jy.ch
  replace hB := hB.trans jy.fr
  refine GoQ.pure rfl (op_move rfl) rfl rfl ?_
  refine GoQ.pure rfl (op_nilCheck rfl) rfl rfl ?_
  refine GoQ.pure rfl (op_fieldAddr Try.underlying72 rfl ti69 rfl (by decide)) rfl rfl ?_
  refine GoQ.stable rfl (oblk (i := 9) 1 hO rfl rfl Try.underlying69 rfl rfl) rfl rfl ?_
  refine GoQ.pure rfl (op_move rfl) rfl rfl ?_
  refine GoQ.call rfl (op_call body61 rfl (walk_enumerate_text hO.lt a9 H)) (fun v w hr => by obtain ⟨_, _, hs, _, _⟩ := hr; assumption) rfl rfl ?_
  rintro v79 w76 ⟨r75, rfl, Di, Mp, H⟩
  have jz := Stp.same hO Di
  replace bm := bm.ch jz.ch
  replace aa := aa.ch jz.ch
  replace cP := cP.ch jz.ch
  replace bW := bW.ch jz.ch
  replace bF := bF.ch jz.ch
  replace ab := ab.ch jz.ch
  replace bn := bn.ch jz.ch
  replace aP := aP.ch jz.ch
  replace aF := aF.ch jz.ch
  replace ac := ac.ch jz.ch
  replace hO := jz.own
  replace bu := bu.ch jz.ch
  replace bv := bv.ch jz.ch
  replace a9 := a9.ch jz.ch
  replace hB := hB.trans jz.fr
  by_cases h81 : mhas m1_52 r75 = true
  ·replace H := ifp h81 H
   refine GoQ.stable rfl (olookT (a := r75) (MK.str Try.underlying9) 11 hO rfl Try.underlying69 rfl rfl h81) rfl rfl ?_
   refine GoQ.pure rfl (op_move rfl) rfl rfl ?_
   refine GoQ.pure rfl (op_extract rfl rfl) rfl rfl ?_
   refine GoQ.pure rfl (op_extract rfl rfl) rfl rfl ?_
   refine GoQ.pure rfl (op_assign rfl) rfl rfl ?_
   refine GoQ.pure rfl (op_assign rfl) rfl rfl ?_
   refine GoQ.nil ?_
   refine Go1.seq ?_
   refine Go1.cut [(0, .pointer (some ⟨d7, 0, none⟩)), (3, .int .i64 a0.Enum.Done), (4, .slice p2 a0.Enum.Gens.length a0.Enum.Gens.length), (5, .int .i64 (k1_12 : Int)), (7, .slice t7 r66.length t8), (8, .int .i64 (mgt m1_52 r75)), (9, .bool true), (27, .slice al ak am), (28, .int .i64 (a0.Enum.Gens.length : Int)), (29, .int .i64 (k1_12 : Int))] ⟨rfl, rfl, rfl, rfl, rfl, rfl, rfl, rfl, rfl, rfl, trivial⟩ ?_
   intro σ _
   refine Go1.region ?_
   refine GoR.op ((op_move rfl) _) rfl rfl ?_
   refine GoR.op ((op_nilCheck rfl) _) rfl rfl ?_
   refine GoR.op ((op_fieldAddr Try.underlying72 rfl ti70 rfl (by decide)) _) rfl rfl ?_
   refine GoR.op ((oblk (i := 10) 1 hO rfl rfl Try.underlying70 rfl rfl) _ (Same.refl _)) rfl rfl ?_
   refine GoR.op ((op_move rfl) _) rfl rfl ?_
   obtain ⟨h82, H⟩ := H
   obtain ⟨h83, H⟩ := H
   refine GoR.op ((op_index Try.underlying70 ti9 rfl rfl h82 (ltn (aP.neq hO 8 rfl) h83) (aP.psome hO 8 rfl h82 h83)) _) rfl rfl ?_
   refine GoR.op ((oldStr 8 hO rfl aP h82 h83 Try.underlying9 rfl rfl) _ (Same.refl _)) rfl rfl ?_
   have hle84 := Els.str_le aP h82 h83
   refine GoR.op ((op_move rfl) _) rfl rfl ?_
   obtain ⟨h85, H⟩ := H
   refine GoR.op ((op_add rfl rfl (wrap_i64 h85)) _) rfl rfl ?_
   refine GoR.op ((op_conv Try.underlying3 Try.underlying21 rfl rfl) _) rfl rfl ?_
   obtain ⟨h86, H⟩ := H
   obtain ⟨h87, H⟩ := H
   refine GoR.op ((op_convRS Try.underlying21 Try.underlying9 rfl h86 h87) _) rfl rfl ?_
   obtain ⟨h88, H⟩ := H
   refine GoR.op ((op_addS rfl rfl h88) _) rfl rfl ?_
   refine GoR.op ((op_assign rfl) _) rfl rfl ?_
   refine GoR.nil ?_
   refine Go1.seq ?_
   refine Go1.block ?_
   refine Go1.seq ?_
   refine Go1.region ?_
   refine GoR.op ((op_move rfl) _) rfl rfl ?_
   refine GoR.op ((op_not rfl) _) rfl rfl ?_
   refine GoR.op ((op_move rfl) _) rfl rfl ?_
   refine GoR.pass rfl rfl ?_
   refine GoR.pass rfl rfl ?_
   refine GoR.pass rfl rfl ?_
   refine GoR.pass rfl rfl ?_
   refine GoR.pass rfl rfl ?_
   refine GoR.pass rfl rfl ?_
   refine GoR.pass rfl rfl ?_
   refine GoR.op ((op_pickF rfl rfl rfl) _) rfl rfl ?_
   refine GoR.op ((op_assign rfl) _) rfl rfl ?_
   refine GoR.nil ?_
   refine Go1.condF rfl rfl ?_
   refine Go1.seq ?_
   refine Go1.cut [(0, .pointer (some ⟨d7, 0, none⟩)), (3, .int .i64 a0.Enum.Done), (4, .slice p2 a0.Enum.Gens.length a0.Enum.Gens.length), (5, .int .i64 (k1_12 : Int)), (7, .slice t7 r66.length t8), (8, .int .i64 (mgt m1_52 r75)), (9, .bool true), (10, .string (gstr ((ix d_40 a0.Enum.Done) ++ (chr (IntKind.i32.wrap ((97 : Int) + (k1_12 : Int))))))), (27, .slice al ak am), (28, .int .i64 (a0.Enum.Gens.length : Int)), (29, .int .i64 (k1_12 : Int))] ⟨rfl, rfl, rfl, rfl, rfl, rfl, rfl, rfl, rfl, rfl, rfl, trivial⟩ ?_
   intro σ _
   refine Go1.region ?_
   refine GoR.op ((op_move rfl) _) rfl rfl ?_
   refine GoR.op ((op_not rfl) _) rfl rfl ?_
   refine GoR.op ((op_assign rfl) _) rfl rfl ?_
   refine GoR.nil ?_
   refine Go1.condF rfl rfl ?_
   refine Go1.seq ?_
   refine Go1.region ?_
   refine GoR.op ((op_move rfl) _) rfl rfl ?_
   refine GoR.op ((op_nilCheck rfl) _) rfl rfl ?_
   refine GoR.op ((op_fieldAddr Try.underlying72 rfl ti70 rfl (by decide)) _) rfl rfl ?_
   refine GoR.op ((oblk (i := 10) 1 hO rfl rfl Try.underlying70 rfl rfl) _ (Same.refl _)) rfl rfl ?_
   refine GoR.op ((op_move rfl) _) rfl rfl ?_
   obtain ⟨h89, H⟩ := H
   obtain ⟨h90, H⟩ := H
   refine GoR.op ((op_index Try.underlying70 ti9 rfl rfl h89 (ltn (aP.neq hO 8 rfl) h90) (aP.psome hO 8 rfl h89 h90)) _) rfl rfl ?_
   refine GoR.op ((oldStr 8 hO rfl aP h89 h90 Try.underlying9 rfl rfl) _ (Same.refl _)) rfl rfl ?_
   have hle91 := Els.str_le aP h89 h90
   by_cases h92 : (ix d_40 a0.Enum.Done) = (([] : Str))
   ·replace H := ifp h92 H
    refine GoR.op ((fun w => opB (op_neqS rfl rfl w) (ndT h92)) _) rfl rfl ?_
    refine GoR.op ((op_move rfl) _) rfl rfl ?_
    refine GoR.pass rfl rfl ?_
    refine GoR.pass rfl rfl ?_
    refine GoR.pass rfl rfl ?_
    refine GoR.pass rfl rfl ?_
    refine GoR.pass rfl rfl ?_
    refine GoR.pass rfl rfl ?_
    refine GoR.pass rfl rfl ?_
    refine GoR.pass rfl rfl ?_
    refine GoR.pass rfl rfl ?_
    refine GoR.pass rfl rfl ?_
    refine GoR.op ((op_pickF rfl rfl rfl) _) rfl rfl ?_
    refine GoR.op ((op_assign rfl) _) rfl rfl ?_
    refine GoR.nil ?_
    refine Go1.condF rfl rfl ?_
    refine Go1.skip ?_
    refine Go1.inBlock ?_
    refine Go1.cut [(0, .pointer (some ⟨d7, 0, none⟩)), (3, .int .i64 a0.Enum.Done), (4, .slice p2 a0.Enum.Gens.length a0.Enum.Gens.length), (5, .int .i64 (k1_12 : Int)), (8, .int .i64 (mgt m1_52 r75)), (27, .slice al ak am), (28, .int .i64 (a0.Enum.Gens.length : Int)), (29, .int .i64 (k1_12 : Int))] ⟨rfl, rfl, rfl, rfl, rfl, rfl, rfl, rfl, trivial⟩ ?_
    intro σ _
    refine Go1.region ?_
    refine GoR.op ((op_move rfl) _) rfl rfl ?_
    refine GoR.op ((op_move rfl) _) rfl rfl ?_
    refine GoR.op ((op_move rfl) _) rfl rfl ?_
    obtain ⟨h93, H⟩ := H
    obtain ⟨h94, H⟩ := H
    refine GoR.op ((op_index Try.underlying26 ti3 rfl rfl h93 (ltn (bm.neq hO 0 rfl) h94) (bm.psome hO 0 rfl h93 h94)) _) rfl rfl ?_
    have hobt := ost (r := Rp.int .i64) rfl 0 hO rfl bm h93 h94 (v := .int .i64 (mgt m1_52 r75)) (u := (mgt m1_52 r75)) rfl rfl
    obtain ⟨w95, Li, gT, FC, H7⟩ := hobt
    dsimp only [sS, sZ] at gT FC
    refine GoR.op (H7 Try.underlying3 rfl ti3 (by exact rfl) (by exact rfl)) rfl rfl ?_
    replace aa := aa.ch gT.ch
    replace cP := cP.ch gT.ch
    replace bW := bW.ch gT.ch
    replace bF := bF.ch gT.ch
    replace ab := ab.ch gT.ch
    replace bn := bn.ch gT.ch
    replace aP := aP.ch gT.ch
    replace aF := aF.ch gT.ch
    replace ac := ac.ch gT.ch
    replace hO := gT.own
    replace bu := bu.ch gT.ch
    replace bv := bv.ch gT.ch
    replace a9 := a9.ch gT.ch
    replace hB := hB.trans gT.fr
    refine GoR.nil ?_
    refine Go1.inBlock ?_
    refine Go1.region ?_
    refine GoR.op ((op_add rfl rfl (wrap_i64 (natbd h53 aa.bd))) _) rfl rfl ?_
    refine GoR.op ((op_move rfl) _) rfl rfl ?_
    refine GoR.nil ?_
    exact hX1 _ H _ _ ⟨Li, n21, p19, c20, ov, n27, p25, c26, pv, n33, p31, c32, px, n39, p37, c38, pz, n45, p43, c44, eQ, n51, p49, c50, eU, ⟨rfl, rfl, rfl, rfl, rfl, rfl, trivial⟩, hO, FC, aa, cP, bW, bF, ab, bn, aP, aF, ac, hB⟩
   replace H := ifn h92 H
   refine GoR.op ((fun w => opB (op_neqS rfl rfl w) (ndF h92)) _) rfl rfl ?_
   refine GoR.op ((op_move rfl) _) rfl rfl ?_
   refine GoR.op ((op_move rfl) _) rfl rfl ?_
   refine GoR.op ((op_move rfl) _) rfl rfl ?_
   refine GoR.op ((op_nilCheck rfl) _) rfl rfl ?_
   refine GoR.op ((op_fieldAddr Try.underlying72 rfl ti26 rfl (by decide)) _) rfl rfl ?_
   refine GoR.op ((oblk (i := 11) 1 hO rfl rfl Try.underlying26 rfl rfl) _ (Same.refl _)) rfl rfl ?_
   refine GoR.op ((op_move rfl) _) rfl rfl ?_
   obtain ⟨yi, H⟩ := H
   obtain ⟨yj, H⟩ := H
   refine GoR.op ((op_index Try.underlying26 ti3 rfl rfl yi (ltn (aF.neq hO 9 rfl) yj) (aF.psome hO 9 rfl yi yj)) _) rfl rfl ?_
   refine GoR.op ((oldInt 9 hO rfl aF yi yj Try.underlying3 rfl rfl) _ (Same.refl _)) rfl rfl ?_
   refine GoR.op ((op_move rfl) _) rfl rfl ?_
   refine GoR.inl (vs := [.pointer (some ⟨d7, 0, none⟩), .int .i64 (ix d_46 a0.Enum.Done), .int .i64 (k1_12 : Int)]) (caps := []) rfl rfl body67 Try.func67 rfl Try.ntmps67 rfl rfl rfl ?_
   intro RhR102 hR102
   refine Go1.seq ?_
   refine Go1.region ?_
   refine GoR.op ((op_assign rfl) _) rfl rfl ?_
   refine GoR.nil ?_
   refine Go1.seq ?_
   refine Go1.cut [(0, .pointer (some ⟨d7, 0, none⟩)), (1, .int .i64 (ix d_46 a0.Enum.Done)), (2, .int .i64 (k1_12 : Int))] ⟨rfl, rfl, rfl, trivial⟩ ?_
   intro σ _
   refine Go1.region ?_
   refine GoR.op ((op_move rfl) _) rfl rfl ?_
   refine GoR.op ((op_move rfl) _) rfl rfl ?_
   refine GoR.op ((op_move rfl) _) rfl rfl ?_
   refine GoR.inl (vs := [.pointer (some ⟨d7, 0, none⟩), .int .i64 (ix d_46 a0.Enum.Done), .int .i64 (k1_12 : Int)]) (caps := []) rfl rfl body66 Try.func66 rfl Try.ntmps66 rfl rfl rfl ?_
   intro RhR103 hR103
   refine Go1.seq ?_
   refine Go1.region ?_
   refine GoR.op ((op_assign rfl) _) rfl rfl ?_
   refine GoR.nil ?_
   refine Go1.seq ?_
   refine Go1.seq ?_
   refine Go1.region ?_
   refine GoR.op ((op_move rfl) _) rfl rfl ?_
   by_cases xK : (ix d_46 a0.Enum.Done) = (-1 : Int)
   ·replace H := ifp xK H
    refine GoR.op ((fun w => opB (op_eql rfl rfl w) (decide_eq_true xK)) _) rfl rfl ?_
    refine GoR.nil ?_
    refine Go1.condT rfl rfl ?_
    refine Go1.seq ?_
    refine Go1.region ?_
    refine GoR.op ((op_move rfl) _) rfl rfl ?_
    refine GoR.op ((op_nilCheck rfl) _) rfl rfl ?_
    refine GoR.op ((op_fieldAddr Try.underlying72 rfl ti26 rfl (by decide)) _) rfl rfl ?_
    refine GoR.op ((oblk (i := 12) 1 hO rfl rfl Try.underlying26 rfl rfl) _ (Same.refl _)) rfl rfl ?_
    refine GoR.op ((op_move rfl) _) rfl rfl ?_
    obtain ⟨Dj, H⟩ := H
    obtain ⟨yk, H⟩ := H
    refine GoR.op ((op_index Try.underlying26 ti3 rfl rfl Dj (ltn (ac.neq hO 10 rfl) yk) (ac.psome hO 10 rfl Dj yk)) _) rfl rfl ?_
    refine GoR.op ((oldInt 10 hO rfl ac Dj yk Try.underlying3 rfl rfl) _ (Same.refl _)) rfl rfl ?_
    refine GoR.op ((op_assign rfl) _) rfl rfl ?_
    refine GoR.nil ?_
    refine Go1.ret1V Try.func66 rfl (show _ = .int .i64 (ix a0.single (k1_12 : Int)) from rfl) ?_
    refine hR103 _ _ ?_
    refine GoR.op ((op_assign rfl) _) rfl rfl ?_
    refine GoR.nil ?_
    refine Go1.seq ?_
    refine Go1.region ?_
    refine GoR.op ((op_move rfl) _) rfl rfl ?_
    refine GoR.op ((op_nilCheck rfl) _) rfl rfl ?_
    refine GoR.op ((op_fieldAddr Try.underlying72 rfl ti29 rfl (by decide)) _) rfl rfl ?_
    refine GoR.op ((op_fieldAddr Try.underlying29 rfl ti26 rfl (by decide)) _) rfl rfl ?_
    refine GoR.op ((oblk (i := 4) 1 hO rfl rfl Try.underlying26 rfl rfl) _ (Same.refl _)) rfl rfl ?_
    refine GoR.op ((op_move rfl) _) rfl rfl ?_
    obtain ⟨Dk, H⟩ := H
    obtain ⟨Dl, H⟩ := H
    refine GoR.op ((op_index Try.underlying26 ti3 rfl rfl Dk (ltn (bW.neq hO 4 rfl) Dl) (bW.psome hO 4 rfl Dk Dl)) _) rfl rfl ?_
    refine GoR.op ((oldInt 4 hO rfl bW Dk Dl Try.underlying3 rfl rfl) _ (Same.refl _)) rfl rfl ?_
    refine GoR.op ((op_move rfl) _) rfl rfl ?_
    by_cases Cb : (ix d_22 (ix a0.single (k1_12 : Int))) = (ix d_46 a0.Enum.Done)
    ·replace H := ifp Cb H
     refine GoR.op ((fun w => opB (op_eql rfl rfl w) (decide_eq_true Cb)) _) rfl rfl ?_
     refine GoR.op ((op_move rfl) _) rfl rfl ?_
     refine GoR.op ((op_move rfl) _) rfl rfl ?_
     refine GoR.op ((op_nilCheck rfl) _) rfl rfl ?_
     refine GoR.op ((op_fieldAddr Try.underlying72 rfl ti29 rfl (by decide)) _) rfl rfl ?_
     refine GoR.op ((op_fieldAddr Try.underlying29 rfl ti26 rfl (by decide)) _) rfl rfl ?_
     refine GoR.op ((oblk (i := 5) 1 hO rfl rfl Try.underlying26 rfl rfl) _ (Same.refl _)) rfl rfl ?_
     refine GoR.op ((op_move rfl) _) rfl rfl ?_
     obtain ⟨Dm, H⟩ := H
     obtain ⟨Dn, H⟩ := H
     refine GoR.op ((op_index Try.underlying26 ti3 rfl rfl Dm (ltn (bF.neq hO 5 rfl) Dn) (bF.psome hO 5 rfl Dm Dn)) _) rfl rfl ?_
     refine GoR.op ((oldInt 5 hO rfl bF Dm Dn Try.underlying3 rfl rfl) _ (Same.refl _)) rfl rfl ?_
     refine GoR.op ((op_move rfl) _) rfl rfl ?_
     by_cases Cc : (ix d_28 (ix a0.single (k1_12 : Int))) = (k1_12 : Int)
     ·replace H := ifp Cc H
      refine GoR.op ((fun w => opB (op_eql rfl rfl w) (decide_eq_true Cc)) _) rfl rfl ?_
      refine GoR.op ((op_pickT rfl rfl rfl) _) rfl rfl ?_
      refine GoR.op ((op_assign rfl) _) rfl rfl ?_
      refine GoR.nil ?_
      refine Go1.ret1V Try.func67 rfl (show _ = .bool true from rfl) ?_
      refine hR102 _ _ ?_
      refine GoR.op ((op_pickT rfl rfl rfl) _) rfl rfl ?_
      refine GoR.op ((op_assign rfl) _) rfl rfl ?_
      refine GoR.nil ?_
      refine Go1.condT rfl rfl ?_
      refine Go1.cut [(0, .pointer (some ⟨d7, 0, none⟩)), (3, .int .i64 a0.Enum.Done), (4, .slice p2 a0.Enum.Gens.length a0.Enum.Gens.length), (5, .int .i64 (k1_12 : Int)), (8, .int .i64 (mgt m1_52 r75)), (10, .string (gstr ((ix d_40 a0.Enum.Done) ++ (chr (IntKind.i32.wrap ((97 : Int) + (k1_12 : Int))))))), (27, .slice al ak am), (28, .int .i64 (a0.Enum.Gens.length : Int)), (29, .int .i64 (k1_12 : Int))] ⟨rfl, rfl, rfl, rfl, rfl, rfl, rfl, rfl, rfl, trivial⟩ ?_
      intro σ _
      refine Go1.drawS 5 [(0, .pure), (1, .pure), (2, .pure), (3, .pure), (4, .pure), (5, .stable), (6, .pure), (7, .pure), (8, .pure), (9, .pure), (10, .stable), (11, .pure), (12, .pure), (13, .stable), (14, .pure), (15, .loud), (16, .last), (17, .pure), (18, .pure), (19, .pure), (20, .last)] mixed (by kernel_rfl) ?_
      intro OF H8
      have pC := Stp.same hO H8
      replace bm := bm.ch pC.ch
      replace aa := aa.ch pC.ch
      replace cP := cP.ch pC.ch
      replace bW := bW.ch pC.ch
      replace bF := bF.ch pC.ch
      replace ab := ab.ch pC.ch
      replace bn := bn.ch pC.ch
      replace aP := aP.ch pC.ch
      replace aF := aF.ch pC.ch
      replace ac := ac.ch pC.ch
      replace hO := pC.own
      replace bu := bu.ch pC.ch
      replace bv := bv.ch pC.ch
      replace a9 := a9.ch pC.ch
      replace hB := hB.trans pC.fr
      refine GoQ.pure rfl (op_move rfl) rfl rfl ?_
      refine GoQ.pure rfl (op_move rfl) rfl rfl ?_
      refine GoQ.pure rfl (op_nilCheck rfl) rfl rfl ?_
      refine GoQ.pure rfl (op_fieldAddr Try.underlying72 rfl ti29 rfl (by decide)) rfl rfl ?_
      refine GoQ.pure rfl (op_fieldAddr Try.underlying29 rfl ti27 rfl (by decide)) rfl rfl ?_
      refine GoQ.stable rfl (oblk (i := 7) 1 hO rfl rfl Try.underlying27 rfl rfl) rfl rfl ?_
      refine GoQ.pure rfl (op_move rfl) rfl rfl ?_
      refine GoQ.pure rfl (op_move rfl) rfl rfl ?_
      refine GoQ.pure rfl (op_nilCheck rfl) rfl rfl ?_
      refine GoQ.pure rfl (op_fieldAddr Try.underlying72 rfl ti70 rfl (by decide)) rfl rfl ?_
      refine GoQ.stable rfl (oblk (i := 10) 1 hO rfl rfl Try.underlying70 rfl rfl) rfl rfl ?_
      refine GoQ.pure rfl (op_move rfl) rfl rfl ?_
      obtain ⟨uR, H⟩ := H
      obtain ⟨Cd, H⟩ := H
      refine GoQ.pure rfl (op_index Try.underlying70 ti9 rfl rfl uR (ltn (aP.neq hO 8 rfl) Cd) (aP.psome hO 8 rfl uR Cd)) rfl rfl ?_
      refine GoQ.stable rfl (oldStr 8 hO rfl aP uR Cd Try.underlying9 rfl rfl) rfl rfl ?_
      have hle118 := Els.str_le aP uR Cd
      refine GoQ.pure rfl (op_build Try.underlying39 ti39 (pl := [(0, 1), (1, 1)]) (vs := [(0, .string (gstr ((ix d_40 a0.Enum.Done) ++ (chr (IntKind.i32.wrap ((97 : Int) + (k1_12 : Int))))))), (1, .string (gstr (ix d_40 (mgt m1_52 r75))))]) (cs := #[.string (gstr ((ix d_40 a0.Enum.Done) ++ (chr (IntKind.i32.wrap ((97 : Int) + (k1_12 : Int)))))), .string (gstr (ix d_40 (mgt m1_52 r75)))]) (by kernel_rfl) rfl (by kernel_rfl)) rfl rfl ?_
      have hobt := obuildN (r := rpRule) (n := 1) (parts := [(0, .agg #[.string (gstr ((ix d_40 a0.Enum.Done) ++ (chr (IntKind.i32.wrap ((97 : Int) + (k1_12 : Int)))))), .string (gstr (ix d_40 (mgt m1_52 r75)))])]) (vs := [.string (gstr ((ix d_40 a0.Enum.Done) ++ (chr (IntKind.i32.wrap ((97 : Int) + (k1_12 : Int)))))), .string (gstr (ix d_40 (mgt m1_52 r75)))]) (xs := [(⟨(ix d_40 a0.Enum.Done) ++ (chr (IntKind.i32.wrap ((97 : Int) + (k1_12 : Int)))), ix d_40 (mgt m1_52 r75)⟩ : Rule)]) Try.underlying27 ti39 hO (by decide) (by decide) (by kernel_rfl) (Els.flat1 (⟨(ix d_40 a0.Enum.Done) ++ (chr (IntKind.i32.wrap ((97 : Int) + (k1_12 : Int)))), ix d_40 (mgt m1_52 r75)⟩ : Rule) ⟨(lenApp h88), hle118⟩) rfl
      obtain ⟨OG, kC, pD, H9, Ia, A8⟩ := hobt
      refine GoQ.loud rfl (A8 rfl) Ia rfl rfl ?_
      replace bm := bm.ch pD.ch
      replace aa := aa.ch pD.ch
      replace cP := cP.ch pD.ch
      replace bW := bW.ch pD.ch
      replace bF := bF.ch pD.ch
      replace ab := ab.ch pD.ch
      replace bn := bn.ch pD.ch
      replace aP := aP.ch pD.ch
      replace aF := aF.ch pD.ch
      replace ac := ac.ch pD.ch
      replace hO := pD.own
      replace bu := bu.ch pD.ch
      replace bv := bv.ch pD.ch
      replace a9 := a9.ch pD.ch
      replace hB := hB.trans pD.fr
      have hobt := freeze 0 hO rfl H9
      obtain ⟨hO1, tE, wA, Ib⟩ := hobt
      dsimp only [eS, eZ] at hO1 tE wA
      replace bu := bu.ch tE
      replace bv := bv.ch tE
      replace a9 := a9.ch tE
      replace bm := bm.ch tE
      replace aa := aa.ch tE
      replace cP := cP.ch tE
      replace bW := bW.ch tE
      replace bF := bF.ch tE
      replace ab := ab.ch tE
      replace bn := bn.ch tE
      replace aP := aP.ch tE
      replace aF := aF.ch tE
      replace ac := ac.ch tE
      replace hB := hB.trans (Owns.dropFr _ _ 0)
      dsimp only [eS, eZ] at hB
      replace hO := hO1; clear hO1
      obtain ⟨Lj, H⟩ := H
      have hobt := oapp Try.underlying27 ti39 rfl 7 hO rfl bn wA Ib Lj (by decide)
      obtain ⟨OH, Do, Dp, Ic, oE, yB, A9⟩ := hobt
      dsimp only [sS, sZ] at oE yB
      refine GoQ.last rfl (A9 (by exact rfl) (by exact rfl)) rfl rfl ?_
      replace bm := bm.ch oE.ch
      replace aa := aa.ch oE.ch
      replace cP := cP.ch oE.ch
      replace bW := bW.ch oE.ch
      replace bF := bF.ch oE.ch
      replace ab := ab.ch oE.ch
      replace aP := aP.ch oE.ch
      replace aF := aF.ch oE.ch
      replace ac := ac.ch oE.ch
      replace hO := oE.own
      replace bu := bu.ch oE.ch
      replace bv := bv.ch oE.ch
      replace a9 := a9.ch oE.ch
      replace wA := wA.ch oE.ch
      replace hB := hB.trans oE.fr
      refine GoQ.pure rfl (op_nilCheck rfl) rfl rfl ?_
      refine GoQ.pure rfl (op_fieldAddr Try.underlying72 rfl ti29 rfl (by decide)) rfl rfl ?_
      refine GoQ.pure rfl (op_fieldAddr Try.underlying29 rfl ti27 rfl (by decide)) rfl rfl ?_
      have hobt := oblkSt2 (v := .slice Do (n39 + 1) Dp) (i := 7) (cs' := #[.int .i64 a0.Enum.Points, .bool a0.Enum.Monoid, .slice al ak am, .slice p19 n21 c20, .slice p25 n27 c26, .slice p31 n33 c32, .slice aw aq ax, .slice Do (n39 + 1) Dp, .int .i64 a0.Enum.Done, .map (some ay), .slice p43 n45 c44, .slice p49 n51 c50, .slice a7 a6 a8]) 1 hO rfl rfl rfl rfl
      obtain ⟨OI, nr, FD⟩ := hobt
      dsimp only [sS, sZ] at nr
      refine GoQ.last rfl (FD Try.underlying27 rfl ti27 (by exact rfl) (by exact rfl)) rfl rfl ?_
      replace bm := bm.ch nr.ch
      replace aa := aa.ch nr.ch
      replace cP := cP.ch nr.ch
      replace bW := bW.ch nr.ch
      replace bF := bF.ch nr.ch
      replace ab := ab.ch nr.ch
      replace yB := yB.ch nr.ch
      replace aP := aP.ch nr.ch
      replace aF := aF.ch nr.ch
      replace ac := ac.ch nr.ch
      replace hO := nr.own
      replace bu := bu.ch nr.ch
      replace bv := bv.ch nr.ch
      replace a9 := a9.ch nr.ch
      replace wA := wA.ch nr.ch
      replace hB := hB.trans nr.fr
      refine GoQ.nil ?_
      refine Go1.inBlock ?_
      refine Go1.cut [(0, .pointer (some ⟨d7, 0, none⟩)), (3, .int .i64 a0.Enum.Done), (4, .slice p2 a0.Enum.Gens.length a0.Enum.Gens.length), (5, .int .i64 (k1_12 : Int)), (8, .int .i64 (mgt m1_52 r75)), (27, .slice al ak am), (28, .int .i64 (a0.Enum.Gens.length : Int)), (29, .int .i64 (k1_12 : Int))] ⟨rfl, rfl, rfl, rfl, rfl, rfl, rfl, rfl, trivial⟩ ?_
      intro σ _
      refine Go1.region ?_
      refine GoR.op ((op_move rfl) _) rfl rfl ?_
      refine GoR.op ((op_move rfl) _) rfl rfl ?_
      refine GoR.op ((op_move rfl) _) rfl rfl ?_
      obtain ⟨Dq, H⟩ := H
      obtain ⟨Dr, H⟩ := H
      refine GoR.op ((op_index Try.underlying26 ti3 rfl rfl Dq (ltn (bm.neq hO 0 rfl) Dr) (bm.psome hO 0 rfl Dq Dr)) _) rfl rfl ?_
      have hobt := ost (r := Rp.int .i64) rfl 0 hO rfl bm Dq Dr (v := .int .i64 (mgt m1_52 r75)) (u := (mgt m1_52 r75)) rfl rfl
      obtain ⟨OJ, Id, oF, D7, FE⟩ := hobt
      dsimp only [sS, sZ] at oF D7
      refine GoR.op (FE Try.underlying3 rfl ti3 (by exact rfl) (by exact rfl)) rfl rfl ?_
      replace aa := aa.ch oF.ch
      replace cP := cP.ch oF.ch
      replace bW := bW.ch oF.ch
      replace bF := bF.ch oF.ch
      replace ab := ab.ch oF.ch
      replace yB := yB.ch oF.ch
      replace aP := aP.ch oF.ch
      replace aF := aF.ch oF.ch
      replace ac := ac.ch oF.ch
      replace hO := oF.own
      replace bu := bu.ch oF.ch
      replace bv := bv.ch oF.ch
      replace a9 := a9.ch oF.ch
      replace wA := wA.ch oF.ch
      replace hB := hB.trans oF.fr
      refine GoR.nil ?_
      refine Go1.inBlock ?_
      refine Go1.region ?_
      refine GoR.op ((op_add rfl rfl (wrap_i64 (natbd h53 aa.bd))) _) rfl rfl ?_
      refine GoR.op ((op_move rfl) _) rfl rfl ?_
      refine GoR.nil ?_
      exact hX1 _ H _ _ ⟨Id, n21, p19, c20, ov, n27, p25, c26, pv, n33, p31, c32, px, n39 + 1, Do, Dp, Ic, n45, p43, c44, eQ, n51, p49, c50, eU, ⟨rfl, rfl, rfl, rfl, rfl, rfl, trivial⟩, hO, D7, aa, cP, bW, bF, ab, yB, aP, aF, ac, hB⟩
     replace H := ifn Cc H
     refine GoR.op ((fun w => opB (op_eql rfl rfl w) (decide_eq_false Cc)) _) rfl rfl ?_
     refine GoR.op ((op_pickT rfl rfl rfl) _) rfl rfl ?_
     refine GoR.op ((op_assign rfl) _) rfl rfl ?_
     refine GoR.nil ?_
     refine Go1.ret1V Try.func67 rfl (show _ = .bool false from rfl) ?_
     refine hR102 _ _ ?_
     refine GoR.op ((op_pickT rfl rfl rfl) _) rfl rfl ?_
     refine GoR.op ((op_assign rfl) _) rfl rfl ?_
     refine GoR.nil ?_
     refine Go1.condF rfl rfl ?_
     refine Go1.skip ?_
     refine Go1.inBlock ?_
     refine Go1.region ?_
     refine GoR.op ((op_move rfl) _) rfl rfl ?_
     refine GoR.op ((op_move rfl) _) rfl rfl ?_
     refine GoR.op ((op_move rfl) _) rfl rfl ?_
     obtain ⟨Ds, H⟩ := H
     obtain ⟨Dt, H⟩ := H
     refine GoR.op ((op_index Try.underlying26 ti3 rfl rfl Ds (ltn (bm.neq hO 0 rfl) Dt) (bm.psome hO 0 rfl Ds Dt)) _) rfl rfl ?_
     have hobt := ost (r := Rp.int .i64) rfl 0 hO rfl bm Ds Dt (v := .int .i64 (mgt m1_52 r75)) (u := (mgt m1_52 r75)) rfl rfl
     obtain ⟨OK, Ie, mU, D8, FF⟩ := hobt
     dsimp only [sS, sZ] at mU D8
     refine GoR.op (FF Try.underlying3 rfl ti3 (by exact rfl) (by exact rfl)) rfl rfl ?_
     replace aa := aa.ch mU.ch
     replace cP := cP.ch mU.ch
     replace bW := bW.ch mU.ch
     replace bF := bF.ch mU.ch
     replace ab := ab.ch mU.ch
     replace bn := bn.ch mU.ch
     replace aP := aP.ch mU.ch
     replace aF := aF.ch mU.ch
     replace ac := ac.ch mU.ch
     replace hO := mU.own
     replace bu := bu.ch mU.ch
     replace bv := bv.ch mU.ch
     replace a9 := a9.ch mU.ch
     replace hB := hB.trans mU.fr
     refine GoR.nil ?_
     refine Go1.inBlock ?_
     refine Go1.region ?_
     refine GoR.op ((op_add rfl rfl (wrap_i64 (natbd h53 aa.bd))) _) rfl rfl ?_
     refine GoR.op ((op_move rfl) _) rfl rfl ?_
     refine GoR.nil ?_
     exact hX1 _ H _ _ ⟨Ie, n21, p19, c20, ov, n27, p25, c26, pv, n33, p31, c32, px, n39, p37, c38, pz, n45, p43, c44, eQ, n51, p49, c50, eU, ⟨rfl, rfl, rfl, rfl, rfl, rfl, trivial⟩, hO, D8, aa, cP, bW, bF, ab, bn, aP, aF, ac, hB⟩
    replace H := ifn Cb H
    refine GoR.op ((fun w => opB (op_eql rfl rfl w) (decide_eq_false Cb)) _) rfl rfl ?_
    refine GoR.op ((op_move rfl) _) rfl rfl ?_
    refine GoR.pass rfl rfl ?_
    refine GoR.pass rfl rfl ?_
    refine GoR.pass rfl rfl ?_
    refine GoR.pass rfl rfl ?_
    refine GoR.pass rfl rfl ?_
    refine GoR.pass rfl rfl ?_
    refine GoR.pass rfl rfl ?_
    refine GoR.pass rfl rfl ?_
    refine GoR.pass rfl rfl ?_
    refine GoR.pass rfl rfl ?_
    refine GoR.op ((op_pickF rfl rfl rfl) _) rfl rfl ?_
    refine GoR.op ((op_assign rfl) _) rfl rfl ?_
    refine GoR.nil ?_
    refine Go1.ret1V Try.func67 rfl (show _ = .bool false from rfl) ?_
    refine hR102 _ _ ?_
    refine GoR.op ((op_pickT rfl rfl rfl) _) rfl rfl ?_
    refine GoR.op ((op_assign rfl) _) rfl rfl ?_
    refine GoR.nil ?_
    refine Go1.condF rfl rfl ?_
    refine Go1.skip ?_
    refine Go1.inBlock ?_
    refine Go1.cut [(0, .pointer (some ⟨d7, 0, none⟩)), (3, .int .i64 a0.Enum.Done), (4, .slice p2 a0.Enum.Gens.length a0.Enum.Gens.length), (5, .int .i64 (k1_12 : Int)), (8, .int .i64 (mgt m1_52 r75)), (27, .slice al ak am), (28, .int .i64 (a0.Enum.Gens.length : Int)), (29, .int .i64 (k1_12 : Int))] ⟨rfl, rfl, rfl, rfl, rfl, rfl, rfl, rfl, trivial⟩ ?_
    intro σ _
    refine Go1.region ?_
    refine GoR.op ((op_move rfl) _) rfl rfl ?_
    refine GoR.op ((op_move rfl) _) rfl rfl ?_
    refine GoR.op ((op_move rfl) _) rfl rfl ?_
    obtain ⟨vC, H⟩ := H
    obtain ⟨xI, H⟩ := H
    refine GoR.op ((op_index Try.underlying26 ti3 rfl rfl vC (ltn (bm.neq hO 0 rfl) xI) (bm.psome hO 0 rfl vC xI)) _) rfl rfl ?_
    have hobt := ost (r := Rp.int .i64) rfl 0 hO rfl bm vC xI (v := .int .i64 (mgt m1_52 r75)) (u := (mgt m1_52 r75)) rfl rfl
    obtain ⟨Lk, Ig, pE, D9, FG⟩ := hobt
    dsimp only [sS, sZ] at pE D9
    refine GoR.op (FG Try.underlying3 rfl ti3 (by exact rfl) (by exact rfl)) rfl rfl ?_
    replace aa := aa.ch pE.ch
    replace cP := cP.ch pE.ch
    replace bW := bW.ch pE.ch
    replace bF := bF.ch pE.ch
    replace ab := ab.ch pE.ch
    replace bn := bn.ch pE.ch
    replace aP := aP.ch pE.ch
    replace aF := aF.ch pE.ch
    replace ac := ac.ch pE.ch
    replace hO := pE.own
    replace bu := bu.ch pE.ch
    replace bv := bv.ch pE.ch
    replace a9 := a9.ch pE.ch
    replace hB := hB.trans pE.fr
    refine GoR.nil ?_
    refine Go1.inBlock ?_
    refine Go1.region ?_
    refine GoR.op ((op_add rfl rfl (wrap_i64 (natbd h53 aa.bd))) _) rfl rfl ?_
    refine GoR.op ((op_move rfl) _) rfl rfl ?_
    refine GoR.nil ?_
    exact hX1 _ H _ _ ⟨Ig, n21, p19, c20, ov, n27, p25, c26, pv, n33, p31, c32, px, n39, p37, c38, pz, n45, p43, c44, eQ, n51, p49, c50, eU, ⟨rfl, rfl, rfl, rfl, rfl, rfl, trivial⟩, hO, D9, aa, cP, bW, bF, ab, bn, aP, aF, ac, hB⟩
   replace H := ifn xK H
   refine GoR.op ((fun w => opB (op_eql rfl rfl w) (decide_eq_false xK)) _) rfl rfl ?_
   refine GoR.nil ?_
   refine Go1.condF rfl rfl ?_
   refine Go1.skip ?_
   refine Go1.seq ?_
   refine Go1.region ?_
   refine GoR.op ((op_move rfl) _) rfl rfl ?_
   refine GoR.op ((op_nilCheck rfl) _) rfl rfl ?_
   refine GoR.op ((op_fieldAddr Try.underlying72 rfl ti29 rfl (by decide)) _) rfl rfl ?_
   refine GoR.op ((op_fieldAddr Try.underlying29 rfl ti22 rfl (by decide)) _) rfl rfl ?_
   refine GoR.op ((oblk (i := 6) 1 hO rfl rfl Try.underlying22 rfl rfl) _ (Same.refl _)) rfl rfl ?_
   refine GoR.op ((op_move rfl) _) rfl rfl ?_
   obtain ⟨AY, H⟩ := H
   obtain ⟨AZ, H⟩ := H
   refine GoR.op ((op_index Try.underlying22 ti26 rfl rfl AY (ltn (ab.neq hO 6 rfl) AZ) (ab.psome hO 6 rfl AY AZ)) _) rfl rfl ?_
   have hobt := oldSl 6 hO rfl ab AY AZ
   obtain ⟨OL, OM, jH, Ih⟩ := hobt
   refine GoR.op ((Ih Try.underlying26 rfl rfl) _ (Same.refl _)) rfl rfl ?_
   refine GoR.op ((op_move rfl) _) rfl rfl ?_
   obtain ⟨Du, H⟩ := H
   obtain ⟨Dv, H⟩ := H
   refine GoR.op ((op_index Try.underlying26 ti3 rfl rfl Du Dv (jH.some_ Du Dv)) _) rfl rfl ?_
   refine GoR.op ((ldInt jH Du Dv Try.underlying3 rfl rfl) _ (Same.refl _)) rfl rfl ?_
   refine GoR.op ((op_assign rfl) _) rfl rfl ?_
   refine GoR.nil ?_
   refine Go1.ret1V Try.func66 rfl (show _ = .int .i64 (ix (ix a0.Enum.Right (ix d_46 a0.Enum.Done)) (k1_12 : Int)) from rfl) ?_
   refine hR103 _ _ ?_
   refine GoR.op ((op_assign rfl) _) rfl rfl ?_
   refine GoR.nil ?_
   refine Go1.seq ?_
   refine Go1.cut [(0, .pointer (some ⟨d7, 0, none⟩)), (1, .int .i64 (ix d_46 a0.Enum.Done)), (2, .int .i64 (k1_12 : Int)), (7, .int .i64 (ix (ix a0.Enum.Right (ix d_46 a0.Enum.Done)) (k1_12 : Int)))] ⟨rfl, rfl, rfl, rfl, trivial⟩ ?_
   intro σ _
   refine Go1.region ?_
   refine GoR.op ((op_move rfl) _) rfl rfl ?_
   refine GoR.op ((op_nilCheck rfl) _) rfl rfl ?_
   refine GoR.op ((op_fieldAddr Try.underlying72 rfl ti29 rfl (by decide)) _) rfl rfl ?_
   refine GoR.op ((op_fieldAddr Try.underlying29 rfl ti26 rfl (by decide)) _) rfl rfl ?_
   refine GoR.op ((oblk (i := 4) 1 hO rfl rfl Try.underlying26 rfl rfl) _ (Same.refl _)) rfl rfl ?_
   refine GoR.op ((op_move rfl) _) rfl rfl ?_
   obtain ⟨Dw, H⟩ := H
   obtain ⟨Dx, H⟩ := H
   refine GoR.op ((op_index Try.underlying26 ti3 rfl rfl Dw (ltn (bW.neq hO 4 rfl) Dx) (bW.psome hO 4 rfl Dw Dx)) _) rfl rfl ?_
   refine GoR.op ((oldInt 4 hO rfl bW Dw Dx Try.underlying3 rfl rfl) _ (Same.refl _)) rfl rfl ?_
   refine GoR.op ((op_move rfl) _) rfl rfl ?_
   by_cases Ce : (ix d_22 (ix (ix a0.Enum.Right (ix d_46 a0.Enum.Done)) (k1_12 : Int))) = (ix d_46 a0.Enum.Done)
   ·replace H := ifp Ce H
    refine GoR.op ((fun w => opB (op_eql rfl rfl w) (decide_eq_true Ce)) _) rfl rfl ?_
    refine GoR.op ((op_move rfl) _) rfl rfl ?_
    refine GoR.op ((op_move rfl) _) rfl rfl ?_
    refine GoR.op ((op_nilCheck rfl) _) rfl rfl ?_
    refine GoR.op ((op_fieldAddr Try.underlying72 rfl ti29 rfl (by decide)) _) rfl rfl ?_
    refine GoR.op ((op_fieldAddr Try.underlying29 rfl ti26 rfl (by decide)) _) rfl rfl ?_
    refine GoR.op ((oblk (i := 5) 1 hO rfl rfl Try.underlying26 rfl rfl) _ (Same.refl _)) rfl rfl ?_
    refine GoR.op ((op_move rfl) _) rfl rfl ?_
    obtain ⟨x6, H⟩ := H
    obtain ⟨Dy, H⟩ := H
    refine GoR.op ((op_index Try.underlying26 ti3 rfl rfl x6 (ltn (bF.neq hO 5 rfl) Dy) (bF.psome hO 5 rfl x6 Dy)) _) rfl rfl ?_
    refine GoR.op ((oldInt 5 hO rfl bF x6 Dy Try.underlying3 rfl rfl) _ (Same.refl _)) rfl rfl ?_
    refine GoR.op ((op_move rfl) _) rfl rfl ?_
    by_cases Cf : (ix d_28 (ix (ix a0.Enum.Right (ix d_46 a0.Enum.Done)) (k1_12 : Int))) = (k1_12 : Int)
    ·replace H := ifp Cf H
     refine GoR.op ((fun w => opB (op_eql rfl rfl w) (decide_eq_true Cf)) _) rfl rfl ?_
     refine GoR.op ((op_pickT rfl rfl rfl) _) rfl rfl ?_
     refine GoR.op ((op_assign rfl) _) rfl rfl ?_
     refine GoR.nil ?_
     refine Go1.ret1V Try.func67 rfl (show _ = .bool true from rfl) ?_
     refine hR102 _ _ ?_
     refine GoR.op ((op_pickT rfl rfl rfl) _) rfl rfl ?_
     refine GoR.op ((op_assign rfl) _) rfl rfl ?_
     refine GoR.nil ?_
     refine Go1.condT rfl rfl ?_
     refine Go1.cut [(0, .pointer (some ⟨d7, 0, none⟩)), (3, .int .i64 a0.Enum.Done), (4, .slice p2 a0.Enum.Gens.length a0.Enum.Gens.length), (5, .int .i64 (k1_12 : Int)), (8, .int .i64 (mgt m1_52 r75)), (10, .string (gstr ((ix d_40 a0.Enum.Done) ++ (chr (IntKind.i32.wrap ((97 : Int) + (k1_12 : Int))))))), (27, .slice al ak am), (28, .int .i64 (a0.Enum.Gens.length : Int)), (29, .int .i64 (k1_12 : Int))] ⟨rfl, rfl, rfl, rfl, rfl, rfl, rfl, rfl, rfl, trivial⟩ ?_
     intro σ _
     refine Go1.drawS 5 [(0, .pure), (1, .pure), (2, .pure), (3, .pure), (4, .pure), (5, .stable), (6, .pure), (7, .pure), (8, .pure), (9, .pure), (10, .stable), (11, .pure), (12, .pure), (13, .stable), (14, .pure), (15, .loud), (16, .last), (17, .pure), (18, .pure), (19, .pure), (20, .last)] mixed (by kernel_rfl) ?_
     intro ON Ii
     have oG := Stp.same hO Ii
     replace bm := bm.ch oG.ch
     replace aa := aa.ch oG.ch
     replace cP := cP.ch oG.ch
     replace bW := bW.ch oG.ch
     replace bF := bF.ch oG.ch
     replace ab := ab.ch oG.ch
     replace bn := bn.ch oG.ch
     replace aP := aP.ch oG.ch
     replace aF := aF.ch oG.ch
     replace ac := ac.ch oG.ch
     replace hO := oG.own
     replace bu := bu.ch oG.ch
     replace bv := bv.ch oG.ch
     replace a9 := a9.ch oG.ch
     replace jH := jH.ch oG.ch
     replace hB := hB.trans oG.fr
     refine GoQ.pure rfl (op_move rfl) rfl rfl ?_
     refine GoQ.pure rfl (op_move rfl) rfl rfl ?_
     refine GoQ.pure rfl (op_nilCheck rfl) rfl rfl ?_
     refine GoQ.pure rfl (op_fieldAddr Try.underlying72 rfl ti29 rfl (by decide)) rfl rfl ?_
     refine GoQ.pure rfl (op_fieldAddr Try.underlying29 rfl ti27 rfl (by decide)) rfl rfl ?_
     refine GoQ.stable rfl (oblk (i := 7) 1 hO rfl rfl Try.underlying27 rfl rfl) rfl rfl ?_
     refine GoQ.pure rfl (op_move rfl) rfl rfl ?_
     refine GoQ.pure rfl (op_move rfl) rfl rfl ?_
     refine GoQ.pure rfl (op_nilCheck rfl) rfl rfl ?_
     refine GoQ.pure rfl (op_fieldAddr Try.underlying72 rfl ti70 rfl (by decide)) rfl rfl ?_
     refine GoQ.stable rfl (oblk (i := 10) 1 hO rfl rfl Try.underlying70 rfl rfl) rfl rfl ?_
     refine GoQ.pure rfl (op_move rfl) rfl rfl ?_
     obtain ⟨Cg, H⟩ := H
     obtain ⟨Ci, H⟩ := H
     refine GoQ.pure rfl (op_index Try.underlying70 ti9 rfl rfl Cg (ltn (aP.neq hO 8 rfl) Ci) (aP.psome hO 8 rfl Cg Ci)) rfl rfl ?_
     refine GoQ.stable rfl (oldStr 8 hO rfl aP Cg Ci Try.underlying9 rfl rfl) rfl rfl ?_
     have hle181 := Els.str_le aP Cg Ci
     refine GoQ.pure rfl (op_build Try.underlying39 ti39 (pl := [(0, 1), (1, 1)]) (vs := [(0, .string (gstr ((ix d_40 a0.Enum.Done) ++ (chr (IntKind.i32.wrap ((97 : Int) + (k1_12 : Int))))))), (1, .string (gstr (ix d_40 (mgt m1_52 r75))))]) (cs := #[.string (gstr ((ix d_40 a0.Enum.Done) ++ (chr (IntKind.i32.wrap ((97 : Int) + (k1_12 : Int)))))), .string (gstr (ix d_40 (mgt m1_52 r75)))]) (by kernel_rfl) rfl (by kernel_rfl)) rfl rfl ?_
     have hobt := obuildN (r := rpRule) (n := 1) (parts := [(0, .agg #[.string (gstr ((ix d_40 a0.Enum.Done) ++ (chr (IntKind.i32.wrap ((97 : Int) + (k1_12 : Int)))))), .string (gstr (ix d_40 (mgt m1_52 r75)))])]) (vs := [.string (gstr ((ix d_40 a0.Enum.Done) ++ (chr (IntKind.i32.wrap ((97 : Int) + (k1_12 : Int)))))), .string (gstr (ix d_40 (mgt m1_52 r75)))]) (xs := [(⟨(ix d_40 a0.Enum.Done) ++ (chr (IntKind.i32.wrap ((97 : Int) + (k1_12 : Int)))), ix d_40 (mgt m1_52 r75)⟩ : Rule)]) Try.underlying27 ti39 hO (by decide) (by decide) (by kernel_rfl) (Els.flat1 (⟨(ix d_40 a0.Enum.Done) ++ (chr (IntKind.i32.wrap ((97 : Int) + (k1_12 : Int)))), ix d_40 (mgt m1_52 r75)⟩ : Rule) ⟨(lenApp h88), hle181⟩) rfl
     obtain ⟨OO, OP, oH, Ij, Cj, FH⟩ := hobt
     refine GoQ.loud rfl (FH rfl) Cj rfl rfl ?_
     replace bm := bm.ch oH.ch
     replace aa := aa.ch oH.ch
     replace cP := cP.ch oH.ch
     replace bW := bW.ch oH.ch
     replace bF := bF.ch oH.ch
     replace ab := ab.ch oH.ch
     replace bn := bn.ch oH.ch
     replace aP := aP.ch oH.ch
     replace aF := aF.ch oH.ch
     replace ac := ac.ch oH.ch
     replace hO := oH.own
     replace bu := bu.ch oH.ch
     replace bv := bv.ch oH.ch
     replace a9 := a9.ch oH.ch
     replace jH := jH.ch oH.ch
     replace hB := hB.trans oH.fr
     have hobt := freeze 0 hO rfl Ij
     obtain ⟨hO1, rP, wB, Ik⟩ := hobt
     dsimp only [eS, eZ] at hO1 rP wB
     replace bu := bu.ch rP
     replace bv := bv.ch rP
     replace a9 := a9.ch rP
     replace jH := jH.ch rP
     replace bm := bm.ch rP
     replace aa := aa.ch rP
     replace cP := cP.ch rP
     replace bW := bW.ch rP
     replace bF := bF.ch rP
     replace ab := ab.ch rP
     replace bn := bn.ch rP
     replace aP := aP.ch rP
     replace aF := aF.ch rP
     replace ac := ac.ch rP
     replace hB := hB.trans (Owns.dropFr _ _ 0)
     dsimp only [eS, eZ] at hB
     replace hO := hO1; clear hO1
     obtain ⟨Ll, H⟩ := H
     have hobt := oapp Try.underlying27 ti39 rfl 7 hO rfl bn wB Ik Ll (by decide)
     obtain ⟨OQ, Dz, DA, Il, ns, yC, FI⟩ := hobt
     dsimp only [sS, sZ] at ns yC
     refine GoQ.last rfl (FI (by exact rfl) (by exact rfl)) rfl rfl ?_
     replace bm := bm.ch ns.ch
     replace aa := aa.ch ns.ch
     replace cP := cP.ch ns.ch
     replace bW := bW.ch ns.ch
     replace bF := bF.ch ns.ch
     replace ab := ab.ch ns.ch
     replace aP := aP.ch ns.ch
     replace aF := aF.ch ns.ch
     replace ac := ac.ch ns.ch
     replace hO := ns.own
     replace bu := bu.ch ns.ch
     replace bv := bv.ch ns.ch
     replace a9 := a9.ch ns.ch
     replace jH := jH.ch ns.ch
     replace wB := wB.ch ns.ch
     replace hB := hB.trans ns.fr
     refine GoQ.pure rfl (op_nilCheck rfl) rfl rfl ?_
     refine GoQ.pure rfl (op_fieldAddr Try.underlying72 rfl ti29 rfl (by decide)) rfl rfl ?_
     refine GoQ.pure rfl (op_fieldAddr Try.underlying29 rfl ti27 rfl (by decide)) rfl rfl ?_
     have hobt := oblkSt2 (v := .slice Dz (n39 + 1) DA) (i := 7) (cs' := #[.int .i64 a0.Enum.Points, .bool a0.Enum.Monoid, .slice al ak am, .slice p19 n21 c20, .slice p25 n27 c26, .slice p31 n33 c32, .slice aw aq ax, .slice Dz (n39 + 1) DA, .int .i64 a0.Enum.Done, .map (some ay), .slice p43 n45 c44, .slice p49 n51 c50, .slice a7 a6 a8]) 1 hO rfl rfl rfl rfl
     obtain ⟨OR, mV, FJ⟩ := hobt
     dsimp only [sS, sZ] at mV
     refine GoQ.last rfl (FJ Try.underlying27 rfl ti27 (by exact rfl) (by exact rfl)) rfl rfl ?_
     replace bm := bm.ch mV.ch
     replace aa := aa.ch mV.ch
     replace cP := cP.ch mV.ch
     replace bW := bW.ch mV.ch
     replace bF := bF.ch mV.ch
     replace ab := ab.ch mV.ch
     replace yC := yC.ch mV.ch
     replace aP := aP.ch mV.ch
     replace aF := aF.ch mV.ch
     replace ac := ac.ch mV.ch
     replace hO := mV.own
     replace bu := bu.ch mV.ch
     replace bv := bv.ch mV.ch
     replace a9 := a9.ch mV.ch
     replace jH := jH.ch mV.ch
     replace wB := wB.ch mV.ch
     replace hB := hB.trans mV.fr
     refine GoQ.nil ?_
     refine Go1.inBlock ?_
     refine Go1.cut [(0, .pointer (some ⟨d7, 0, none⟩)), (3, .int .i64 a0.Enum.Done), (4, .slice p2 a0.Enum.Gens.length a0.Enum.Gens.length), (5, .int .i64 (k1_12 : Int)), (8, .int .i64 (mgt m1_52 r75)), (27, .slice al ak am), (28, .int .i64 (a0.Enum.Gens.length : Int)), (29, .int .i64 (k1_12 : Int))] ⟨rfl, rfl, rfl, rfl, rfl, rfl, rfl, rfl, trivial⟩ ?_
     intro σ _
     refine Go1.region ?_
     refine GoR.op ((op_move rfl) _) rfl rfl ?_
     refine GoR.op ((op_move rfl) _) rfl rfl ?_
     refine GoR.op ((op_move rfl) _) rfl rfl ?_
     obtain ⟨DB, H⟩ := H
     obtain ⟨DD, H⟩ := H
     refine GoR.op ((op_index Try.underlying26 ti3 rfl rfl DB (ltn (bm.neq hO 0 rfl) DD) (bm.psome hO 0 rfl DB DD)) _) rfl rfl ?_
     have hobt := ost (r := Rp.int .i64) rfl 0 hO rfl bm DB DD (v := .int .i64 (mgt m1_52 r75)) (u := (mgt m1_52 r75)) rfl rfl
     obtain ⟨OS, gU, nt, Ea, FK⟩ := hobt
     dsimp only [sS, sZ] at nt Ea
     refine GoR.op (FK Try.underlying3 rfl ti3 (by exact rfl) (by exact rfl)) rfl rfl ?_
     replace aa := aa.ch nt.ch
     replace cP := cP.ch nt.ch
     replace bW := bW.ch nt.ch
     replace bF := bF.ch nt.ch
     replace ab := ab.ch nt.ch
     replace yC := yC.ch nt.ch
     replace aP := aP.ch nt.ch
     replace aF := aF.ch nt.ch
     replace ac := ac.ch nt.ch
     replace hO := nt.own
     replace bu := bu.ch nt.ch
     replace bv := bv.ch nt.ch
     replace a9 := a9.ch nt.ch
     replace jH := jH.ch nt.ch
     replace wB := wB.ch nt.ch
     replace hB := hB.trans nt.fr
     refine GoR.nil ?_
     refine Go1.inBlock ?_
     refine Go1.region ?_
     refine GoR.op ((op_add rfl rfl (wrap_i64 (natbd h53 aa.bd))) _) rfl rfl ?_
     refine GoR.op ((op_move rfl) _) rfl rfl ?_
     refine GoR.nil ?_
     exact hX1 _ H _ _ ⟨gU, n21, p19, c20, ov, n27, p25, c26, pv, n33, p31, c32, px, n39 + 1, Dz, DA, Il, n45, p43, c44, eQ, n51, p49, c50, eU, ⟨rfl, rfl, rfl, rfl, rfl, rfl, trivial⟩, hO, Ea, aa, cP, bW, bF, ab, yC, aP, aF, ac, hB⟩
    replace H := ifn Cf H
    refine GoR.op ((fun w => opB (op_eql rfl rfl w) (decide_eq_false Cf)) _) rfl rfl ?_
    refine GoR.op ((op_pickT rfl rfl rfl) _) rfl rfl ?_
    refine GoR.op ((op_assign rfl) _) rfl rfl ?_
    refine GoR.nil ?_
    refine Go1.ret1V Try.func67 rfl (show _ = .bool false from rfl) ?_
    refine hR102 _ _ ?_
    refine GoR.op ((op_pickT rfl rfl rfl) _) rfl rfl ?_
    refine GoR.op ((op_assign rfl) _) rfl rfl ?_
    refine GoR.nil ?_
    refine Go1.condF rfl rfl ?_
    refine Go1.skip ?_
    refine Go1.inBlock ?_
    refine Go1.region ?_
    refine GoR.op ((op_move rfl) _) rfl rfl ?_
    refine GoR.op ((op_move rfl) _) rfl rfl ?_
    refine GoR.op ((op_move rfl) _) rfl rfl ?_
    obtain ⟨DE, H⟩ := H
    obtain ⟨A0, H⟩ := H
    refine GoR.op ((op_index Try.underlying26 ti3 rfl rfl DE (ltn (bm.neq hO 0 rfl) A0) (bm.psome hO 0 rfl DE A0)) _) rfl rfl ?_
    have hobt := ost (r := Rp.int .i64) rfl 0 hO rfl bm DE A0 (v := .int .i64 (mgt m1_52 r75)) (u := (mgt m1_52 r75)) rfl rfl
    obtain ⟨KD, Im, oI, Eb, FL⟩ := hobt
    dsimp only [sS, sZ] at oI Eb
    refine GoR.op (FL Try.underlying3 rfl ti3 (by exact rfl) (by exact rfl)) rfl rfl ?_
    replace aa := aa.ch oI.ch
    replace cP := cP.ch oI.ch
    replace bW := bW.ch oI.ch
    replace bF := bF.ch oI.ch
    replace ab := ab.ch oI.ch
    replace bn := bn.ch oI.ch
    replace aP := aP.ch oI.ch
    replace aF := aF.ch oI.ch
    replace ac := ac.ch oI.ch
    replace hO := oI.own
    replace bu := bu.ch oI.ch
    replace bv := bv.ch oI.ch
    replace a9 := a9.ch oI.ch
    replace jH := jH.ch oI.ch
    replace hB := hB.trans oI.fr
    refine GoR.nil ?_
    refine Go1.inBlock ?_
    refine Go1.region ?_
    refine GoR.op ((op_add rfl rfl (wrap_i64 (natbd h53 aa.bd))) _) rfl rfl ?_
    refine GoR.op ((op_move rfl) _) rfl rfl ?_
    refine GoR.nil ?_
    exact hX1 _ H _ _ ⟨Im, n21, p19, c20, ov, n27, p25, c26, pv, n33, p31, c32, px, n39, p37, c38, pz, n45, p43, c44, eQ, n51, p49, c50, eU, ⟨rfl, rfl, rfl, rfl, rfl, rfl, trivial⟩, hO, Eb, aa, cP, bW, bF, ab, bn, aP, aF, ac, hB⟩
   replace H := ifn Ce H
   refine GoR.op ((fun w => opB (op_eql rfl rfl w) (decide_eq_false Ce)) _) rfl rfl ?_
   refine GoR.op ((op_move rfl) _) rfl rfl ?_
   refine GoR.pass rfl rfl ?_
   refine GoR.pass rfl rfl ?_
   refine GoR.pass rfl rfl ?_
   refine GoR.pass rfl rfl ?_
   refine GoR.pass rfl rfl ?_
   refine GoR.pass rfl rfl ?_
   refine GoR.pass rfl rfl ?_
   refine GoR.pass rfl rfl ?_
   refine GoR.pass rfl rfl ?_
   refine GoR.pass rfl rfl ?_
   refine GoR.op ((op_pickF rfl rfl rfl) _) rfl rfl ?_
   refine GoR.op ((op_assign rfl) _) rfl rfl ?_
   refine GoR.nil ?_
   refine Go1.ret1V Try.func67 rfl (show _ = .bool false from rfl) ?_
   refine hR102 _ _ ?_
   refine GoR.op ((op_pickT rfl rfl rfl) _) rfl rfl ?_
   refine GoR.op ((op_assign rfl) _) rfl rfl ?_
   refine GoR.nil ?_
   refine Go1.condF rfl rfl ?_
   refine Go1.skip ?_
   refine Go1.inBlock ?_
   refine Go1.cut [(0, .pointer (some ⟨d7, 0, none⟩)), (3, .int .i64 a0.Enum.Done), (4, .slice p2 a0.Enum.Gens.length a0.Enum.Gens.length), (5, .int .i64 (k1_12 : Int)), (8, .int .i64 (mgt m1_52 r75)), (27, .slice al ak am), (28, .int .i64 (a0.Enum.Gens.length : Int)), (29, .int .i64 (k1_12 : Int))] ⟨rfl, rfl, rfl, rfl, rfl, rfl, rfl, rfl, trivial⟩ ?_
   intro σ _
   refine Go1.region ?_
   refine GoR.op ((op_move rfl) _) rfl rfl ?_
   refine GoR.op ((op_move rfl) _) rfl rfl ?_
   refine GoR.op ((op_move rfl) _) rfl rfl ?_
   obtain ⟨DF, H⟩ := H
   obtain ⟨DG, H⟩ := H
   refine GoR.op ((op_index Try.underlying26 ti3 rfl rfl DF (ltn (bm.neq hO 0 rfl) DG) (bm.psome hO 0 rfl DF DG)) _) rfl rfl ?_
   have hobt := ost (r := Rp.int .i64) rfl 0 hO rfl bm DF DG (v := .int .i64 (mgt m1_52 r75)) (u := (mgt m1_52 r75)) rfl rfl
   obtain ⟨OT, Io, gm, Ec, FM⟩ := hobt
   dsimp only [sS, sZ] at gm Ec
   refine GoR.op (FM Try.underlying3 rfl ti3 (by exact rfl) (by exact rfl)) rfl rfl ?_
   replace aa := aa.ch gm.ch
   replace cP := cP.ch gm.ch
   replace bW := bW.ch gm.ch
   replace bF := bF.ch gm.ch
   replace ab := ab.ch gm.ch
   replace bn := bn.ch gm.ch
   replace aP := aP.ch gm.ch
   replace aF := aF.ch gm.ch
   replace ac := ac.ch gm.ch
   replace hO := gm.own
   replace bu := bu.ch gm.ch
   replace bv := bv.ch gm.ch
   replace a9 := a9.ch gm.ch
   replace jH := jH.ch gm.ch
   replace hB := hB.trans gm.fr
   refine GoR.nil ?_
   refine Go1.inBlock ?_
   refine Go1.region ?_
   refine GoR.op ((op_add rfl rfl (wrap_i64 (natbd h53 aa.bd))) _) rfl rfl ?_
   refine GoR.op ((op_move rfl) _) rfl rfl ?_
   refine GoR.nil ?_
   exact hX1 _ H _ _ ⟨Io, n21, p19, c20, ov, n27, p25, c26, pv, n33, p31, c32, px, n39, p37, c38, pz, n45, p43, c44, eQ, n51, p49, c50, eU, ⟨rfl, rfl, rfl, rfl, rfl, rfl, trivial⟩, hO, Ec, aa, cP, bW, bF, ab, bn, aP, aF, ac, hB⟩
  replace H := ifn h81 H
  refine GoQ.stable rfl (olookF (a := r75) (MK.str Try.underlying9) 11 hO rfl Try.underlying69 ti3 rfl rfl h81) rfl rfl ?_
  refine GoQ.pure rfl (op_move rfl) rfl rfl ?_
  refine GoQ.pure rfl (op_extract rfl rfl) rfl rfl ?_
  refine GoQ.pure rfl (op_extract rfl rfl) rfl rfl ?_
  refine GoQ.pure rfl (op_assign rfl) rfl rfl ?_
  refine GoQ.pure rfl (op_assign rfl) rfl rfl ?_
  refine GoQ.nil ?_
  refine Go1.seq ?_
  refine Go1.region ?_
  refine GoR.op ((op_move rfl) _) rfl rfl ?_
  refine GoR.op ((op_nilCheck rfl) _) rfl rfl ?_
  refine GoR.op ((op_fieldAddr Try.underlying72 rfl ti70 rfl (by decide)) _) rfl rfl ?_
  refine GoR.op ((oblk (i := 10) 1 hO rfl rfl Try.underlying70 rfl rfl) _ (Same.refl _)) rfl rfl ?_
  refine GoR.op ((op_move rfl) _) rfl rfl ?_
  obtain ⟨Ck, H⟩ := H
  obtain ⟨Cl, H⟩ := H
  refine GoR.op ((op_index Try.underlying70 ti9 rfl rfl Ck (ltn (aP.neq hO 8 rfl) Cl) (aP.psome hO 8 rfl Ck Cl)) _) rfl rfl ?_
  refine GoR.op ((oldStr 8 hO rfl aP Ck Cl Try.underlying9 rfl rfl) _ (Same.refl _)) rfl rfl ?_
  have hle227 := Els.str_le aP Ck Cl
  refine GoR.op ((op_move rfl) _) rfl rfl ?_
  obtain ⟨Lm, H⟩ := H
  refine GoR.op ((op_add rfl rfl (wrap_i64 Lm)) _) rfl rfl ?_
  refine GoR.op ((op_conv Try.underlying3 Try.underlying21 rfl rfl) _) rfl rfl ?_
  obtain ⟨Ln, H⟩ := H
  obtain ⟨Lo, H⟩ := H
  refine GoR.op ((op_convRS Try.underlying21 Try.underlying9 rfl Ln Lo) _) rfl rfl ?_
  obtain ⟨DH, H⟩ := H
  refine GoR.op ((op_addS rfl rfl DH) _) rfl rfl ?_
  refine GoR.op ((op_assign rfl) _) rfl rfl ?_
  refine GoR.nil ?_
  refine Go1.seq ?_
  refine Go1.block ?_
  refine Go1.seq ?_
  refine Go1.cut [(0, .pointer (some ⟨d7, 0, none⟩)), (3, .int .i64 a0.Enum.Done), (4, .slice p2 a0.Enum.Gens.length a0.Enum.Gens.length), (5, .int .i64 (k1_12 : Int)), (7, .slice t7 r66.length t8), (8, .int .i64 (0 : Int)), (9, .bool false), (10, .string (gstr ((ix d_40 a0.Enum.Done) ++ (chr (IntKind.i32.wrap ((97 : Int) + (k1_12 : Int))))))), (27, .slice al ak am), (28, .int .i64 (a0.Enum.Gens.length : Int)), (29, .int .i64 (k1_12 : Int))] ⟨rfl, rfl, rfl, rfl, rfl, rfl, rfl, rfl, rfl, rfl, rfl, trivial⟩ ?_
  intro σ _
  refine Go1.region ?_
  refine GoR.op ((op_move rfl) _) rfl rfl ?_
  refine GoR.op ((op_not rfl) _) rfl rfl ?_
  refine GoR.op ((op_move rfl) _) rfl rfl ?_
  refine GoR.op ((op_move rfl) _) rfl rfl ?_
  refine GoR.op ((op_nilCheck rfl) _) rfl rfl ?_
  refine GoR.op ((op_fieldAddr Try.underlying72 rfl ti29 rfl (by decide)) _) rfl rfl ?_
  refine GoR.op ((op_fieldAddr Try.underlying29 rfl ti22 rfl (by decide)) _) rfl rfl ?_
  refine GoR.op ((oblk (i := 3) 1 hO rfl rfl Try.underlying22 rfl rfl) _ (Same.refl _)) rfl rfl ?_
  refine GoR.op ((op_lenN Try.underlying22 rfl (cP.neq hO 3 rfl)) _) rfl rfl ?_
  by_cases Cm : (d_16.length : Int) = (2000 : Int)
  ·replace H := ifp Cm H
   refine GoR.op ((fun w => opB (op_eql rfl rfl w) (decide_eq_true Cm)) _) rfl rfl ?_
   refine GoR.op ((op_pickT rfl rfl rfl) _) rfl rfl ?_
   refine GoR.op ((op_assign rfl) _) rfl rfl ?_
   refine GoR.nil ?_
   refine Go1.condT rfl rfl ?_
   refine Go1.seq ?_
   refine Go1.region ?_
   refine GoR.op ((op_assign rfl) _) rfl rfl ?_
   refine GoR.nil ?_
   replace bu := bu.ch (Owns.dropCh _ _ 0)
   replace bv := bv.ch (Owns.dropCh _ _ 0)
   replace a9 := a9.ch (Owns.dropCh _ _ 0)
   replace aa := aa.ch (Owns.dropCh _ _ 0)
   replace cP := cP.ch (Owns.dropCh _ _ 0)
   replace bW := bW.ch (Owns.dropCh _ _ 0)
   replace bF := bF.ch (Owns.dropCh _ _ 0)
   replace ab := ab.ch (Owns.dropCh _ _ 0)
   replace bn := bn.ch (Owns.dropCh _ _ 0)
   replace aP := aP.ch (Owns.dropCh _ _ 0)
   replace aF := aF.ch (Owns.dropCh _ _ 0)
   replace ac := ac.ch (Owns.dropCh _ _ 0)
   replace hB := hB.trans (Owns.dropFr _ _ 0)
   replace hO := hO.drop 0
   dsimp only [eS, eZ] at hB hO bu bv a9 aa cP bW bF ab bn aP aF ac
   refine Go1.ret1 Try.func51 rfl ?_
   exact ⟨((3 : Int)), (⟨(⟨a0.Enum.Points, a0.Enum.Monoid, a0.Enum.Gens, d_16, d_22, d_28, a0.Enum.Right, d_34, a0.Enum.Done⟩ : Enum), m1_52, d_40, d_46, a0.single⟩ : run), ak, al, am, bZ, n21, p19, c20, ov, n27, p25, c26, pv, n33, p31, c32, px, aq, aw, ax, bV, n39, p37, c38, pz, n45, p43, c44, eQ, n51, p49, c50, eU, a6, a7, a8, cX, rfl, hO, aa, cP, bW, bF, ab, bn, aP, aF, ac, hB, H⟩
  replace H := ifn Cm H
  refine GoR.op ((fun w => opB (op_eql rfl rfl w) (decide_eq_false Cm)) _) rfl rfl ?_
  refine GoR.op ((op_pickT rfl rfl rfl) _) rfl rfl ?_
  refine GoR.op ((op_assign rfl) _) rfl rfl ?_
  refine GoR.nil ?_
  refine Go1.condF rfl rfl ?_
  refine Go1.seq ?_
  refine Go1.region ?_
  refine GoR.op ((op_move rfl) _) rfl rfl ?_
  refine GoR.op ((op_not rfl) _) rfl rfl ?_
  refine GoR.op ((op_assign rfl) _) rfl rfl ?_
  refine GoR.nil ?_
  refine Go1.condT rfl rfl ?_
  refine Go1.region ?_
  refine GoR.op ((op_move rfl) _) rfl rfl ?_
  refine GoR.op ((op_move rfl) _) rfl rfl ?_
  refine GoR.op ((op_move rfl) _) rfl rfl ?_
  refine GoR.op ((op_move rfl) _) rfl rfl ?_
  refine GoR.op ((op_move rfl) _) rfl rfl ?_
  refine GoR.op ((op_move rfl) _) rfl rfl ?_
  refine GoR.op ((op_move rfl) _) rfl rfl ?_
  refine GoR.op ((op_nilCheck rfl) _) rfl rfl ?_
  refine GoR.op ((op_fieldAddr Try.underlying72 rfl ti26 rfl (by decide)) _) rfl rfl ?_
  refine GoR.op ((oblk (i := 11) 1 hO rfl rfl Try.underlying26 rfl rfl) _ (Same.refl _)) rfl rfl ?_
  refine GoR.op ((op_move rfl) _) rfl rfl ?_
  obtain ⟨DJ, H⟩ := H
  obtain ⟨DK, H⟩ := H
  refine GoR.op ((op_index Try.underlying26 ti3 rfl rfl DJ (ltn (aF.neq hO 9 rfl) DK) (aF.psome hO 9 rfl DJ DK)) _) rfl rfl ?_
  refine GoR.op ((oldInt 9 hO rfl aF DJ DK Try.underlying3 rfl rfl) _ (Same.refl _)) rfl rfl ?_
  refine GoR.op ((op_move rfl) _) rfl rfl ?_
  refine GoR.inl (vs := [.pointer (some ⟨d7, 0, none⟩), .int .i64 (ix d_46 a0.Enum.Done), .int .i64 (k1_12 : Int)]) (caps := []) rfl rfl body66 Try.func66 rfl Try.ntmps66 rfl rfl rfl ?_
  intro RhR235 hR235
  refine Go1.seq ?_
  refine Go1.cut [(0, .pointer (some ⟨d7, 0, none⟩)), (1, .int .i64 (ix d_46 a0.Enum.Done)), (2, .int .i64 (k1_12 : Int))] ⟨rfl, rfl, rfl, trivial⟩ ?_
  intro σ _
  refine Go1.region ?_
  refine GoR.op ((op_assign rfl) _) rfl rfl ?_
  refine GoR.nil ?_
  refine Go1.seq ?_
  refine Go1.seq ?_
  refine Go1.region ?_
  refine GoR.op ((op_move rfl) _) rfl rfl ?_
  by_cases Cn : (ix d_46 a0.Enum.Done) = (-1 : Int)
  ·replace H := ifp Cn H
   refine GoR.op ((fun w => opB (op_eql rfl rfl w) (decide_eq_true Cn)) _) rfl rfl ?_
   refine GoR.nil ?_
   refine Go1.condT rfl rfl ?_
   refine Go1.seq ?_
   refine Go1.region ?_
   refine GoR.op ((op_move rfl) _) rfl rfl ?_
   refine GoR.op ((op_nilCheck rfl) _) rfl rfl ?_
   refine GoR.op ((op_fieldAddr Try.underlying72 rfl ti26 rfl (by decide)) _) rfl rfl ?_
   refine GoR.op ((oblk (i := 12) 1 hO rfl rfl Try.underlying26 rfl rfl) _ (Same.refl _)) rfl rfl ?_
   refine GoR.op ((op_move rfl) _) rfl rfl ?_
   obtain ⟨DL, H⟩ := H
   obtain ⟨DM, H⟩ := H
   refine GoR.op ((op_index Try.underlying26 ti3 rfl rfl DL (ltn (ac.neq hO 10 rfl) DM) (ac.psome hO 10 rfl DL DM)) _) rfl rfl ?_
   refine GoR.op ((oldInt 10 hO rfl ac DL DM Try.underlying3 rfl rfl) _ (Same.refl _)) rfl rfl ?_
   refine GoR.op ((op_assign rfl) _) rfl rfl ?_
   refine GoR.nil ?_
   refine Go1.ret1V Try.func66 rfl (show _ = .int .i64 (ix a0.single (k1_12 : Int)) from rfl) ?_
   refine hR235 _ _ ?_
   refine GoR.inl (vs := [.pointer (some ⟨d7, 0, none⟩), .slice t7 r66.length t8, .int .i64 a0.Enum.Done, .int .i64 (k1_12 : Int), .string (gstr ((ix d_40 a0.Enum.Done) ++ (chr (IntKind.i32.wrap ((97 : Int) + (k1_12 : Int)))))), .int .i64 (ix a0.single (k1_12 : Int))]) (caps := []) rfl rfl body65 Try.func65 rfl Try.ntmps65 rfl rfl rfl ?_
   intro RhR239 hR239
   refine Go1.seq ?_
   refine Go1.region ?_
   refine GoR.op ((op_assign rfl) _) rfl rfl ?_
   refine GoR.nil ?_
   refine Go1.seq ?_
   refine Go1.region ?_
   refine GoR.op ((op_move rfl) _) rfl rfl ?_
   refine GoR.op ((op_nilCheck rfl) _) rfl rfl ?_
   refine GoR.op ((op_fieldAddr Try.underlying72 rfl ti29 rfl (by decide)) _) rfl rfl ?_
   refine GoR.op ((op_fieldAddr Try.underlying29 rfl ti22 rfl (by decide)) _) rfl rfl ?_
   refine GoR.op ((oblk (i := 3) 1 hO rfl rfl Try.underlying22 rfl rfl) _ (Same.refl _)) rfl rfl ?_
   refine GoR.op ((op_lenN Try.underlying22 rfl (cP.neq hO 3 rfl)) _) rfl rfl ?_
   refine GoR.op ((op_assign rfl) _) rfl rfl ?_
   refine GoR.nil ?_
   refine Go1.seq ?_
   refine Go1.cut [(0, .pointer (some ⟨d7, 0, none⟩)), (1, .slice t7 r66.length t8), (2, .int .i64 a0.Enum.Done), (3, .int .i64 (k1_12 : Int)), (4, .string (gstr ((ix d_40 a0.Enum.Done) ++ (chr (IntKind.i32.wrap ((97 : Int) + (k1_12 : Int))))))), (5, .int .i64 (ix a0.single (k1_12 : Int))), (13, .int .i64 (d_16.length : Int))] ⟨rfl, rfl, rfl, rfl, rfl, rfl, rfl, trivial⟩ ?_
   intro σ _
   refine Go1.drawS 1 [(0, .pure), (1, .pure), (2, .pure), (3, .stable), (4, .pure), (6, .pure), (5, .loud), (7, .last)] mixed (by kernel_rfl) ?_
   intro KE BS
   have pF := Stp.same hO BS
   replace bm := bm.ch pF.ch
   replace aa := aa.ch pF.ch
   replace cP := cP.ch pF.ch
   replace bW := bW.ch pF.ch
   replace bF := bF.ch pF.ch
   replace ab := ab.ch pF.ch
   replace bn := bn.ch pF.ch
   replace aP := aP.ch pF.ch
   replace aF := aF.ch pF.ch
   replace ac := ac.ch pF.ch
   replace hO := pF.own
   replace bu := bu.ch pF.ch
   replace bv := bv.ch pF.ch
   replace a9 := a9.ch pF.ch
   replace hB := hB.trans pF.fr
   refine GoQ.pure rfl (op_move rfl) rfl rfl ?_
   refine GoQ.pure rfl (op_nilCheck rfl) rfl rfl ?_
   refine GoQ.pure rfl (op_fieldAddr Try.underlying72 rfl ti69 rfl (by decide)) rfl rfl ?_
   refine GoQ.stable rfl (oblk (i := 9) 1 hO rfl rfl Try.underlying69 rfl rfl) rfl rfl ?_
   refine GoQ.pure rfl (op_move rfl) rfl rfl ?_
   refine GoQ.pure rfl (op_move rfl) rfl rfl ?_
   refine GoQ.call rfl (op_call body61 rfl (walk_enumerate_text hO.lt a9 H)) (fun v w hr => by obtain ⟨_, _, hs, _, _⟩ := hr; assumption) rfl rfl ?_
   rintro OU OV ⟨r243, rfl, Ip, Mm, H⟩
   have pG := Stp.same hO Ip
   replace bm := bm.ch pG.ch
   replace aa := aa.ch pG.ch
   replace cP := cP.ch pG.ch
   replace bW := bW.ch pG.ch
   replace bF := bF.ch pG.ch
   replace ab := ab.ch pG.ch
   replace bn := bn.ch pG.ch
   replace aP := aP.ch pG.ch
   replace aF := aF.ch pG.ch
   replace ac := ac.ch pG.ch
   replace hO := pG.own
   replace bu := bu.ch pG.ch
   replace bv := bv.ch pG.ch
   replace a9 := a9.ch pG.ch
   replace hB := hB.trans pG.fr
   have hobt := omapUpd (MK.str Try.underlying9) 11 hO rfl Try.underlying69 r243 (d_16.length : Int)
   obtain ⟨OW, oJ, FN⟩ := hobt
   dsimp only [sS, sZ] at oJ
   refine GoQ.last rfl (FN (by exact rfl) (by exact rfl) (by exact rfl)) rfl rfl ?_
   replace bm := bm.ch oJ.ch
   replace aa := aa.ch oJ.ch
   replace cP := cP.ch oJ.ch
   replace bW := bW.ch oJ.ch
   replace bF := bF.ch oJ.ch
   replace ab := ab.ch oJ.ch
   replace bn := bn.ch oJ.ch
   replace aP := aP.ch oJ.ch
   replace aF := aF.ch oJ.ch
   replace ac := ac.ch oJ.ch
   replace hO := oJ.own
   replace bu := bu.ch oJ.ch
   replace bv := bv.ch oJ.ch
   replace a9 := a9.ch oJ.ch
   replace hB := hB.trans oJ.fr
   refine GoQ.nil ?_
   refine Go1.seq ?_
   refine Go1.region ?_
   refine GoR.op ((op_move rfl) _) rfl rfl ?_
   refine GoR.op ((op_move rfl) _) rfl rfl ?_
   refine GoR.op ((op_nilCheck rfl) _) rfl rfl ?_
   refine GoR.op ((op_fieldAddr Try.underlying72 rfl ti29 rfl (by decide)) _) rfl rfl ?_
   refine GoR.op ((op_fieldAddr Try.underlying29 rfl ti22 rfl (by decide)) _) rfl rfl ?_
   refine GoR.op ((oblk (i := 3) 1 hO rfl rfl Try.underlying22 rfl rfl) _ (Same.refl _)) rfl rfl ?_
   refine GoR.op ((op_move rfl) _) rfl rfl ?_
   have hobt := obuild (r := Rp.sl (Rp.int .i64)) (n := 1) (parts := [(0, .slice t7 r66.length t8)]) (vs := [.slice t7 r66.length t8]) (xs := [r66]) rfl Try.underlying22 ti26 hO (by decide) (by kernel_rfl) (Els.cons rfl ⟨t7, t8, rfl, a9⟩ (Els.nil _ _ _) (by simp [mx])) rfl
   obtain ⟨OX, OY, pI, Iq, MM, FO⟩ := hobt
   refine GoR.op (FO rfl) rfl rfl ?_
   replace bm := bm.ch pI.ch
   replace aa := aa.ch pI.ch
   replace cP := cP.ch pI.ch
   replace bW := bW.ch pI.ch
   replace bF := bF.ch pI.ch
   replace ab := ab.ch pI.ch
   replace bn := bn.ch pI.ch
   replace aP := aP.ch pI.ch
   replace aF := aF.ch pI.ch
   replace ac := ac.ch pI.ch
   replace hO := pI.own
   replace bu := bu.ch pI.ch
   replace bv := bv.ch pI.ch
   replace a9 := a9.ch pI.ch
   replace hB := hB.trans pI.fr
   have hobt := freeze 0 hO rfl Iq
   obtain ⟨hO1, tF, fW, Ir⟩ := hobt
   dsimp only [eS, eZ] at hO1 tF fW
   replace bu := bu.ch tF
   replace bv := bv.ch tF
   replace a9 := a9.ch tF
   replace bm := bm.ch tF
   replace aa := aa.ch tF
   replace cP := cP.ch tF
   replace bW := bW.ch tF
   replace bF := bF.ch tF
   replace ab := ab.ch tF
   replace bn := bn.ch tF
   replace aP := aP.ch tF
   replace aF := aF.ch tF
   replace ac := ac.ch tF
   replace hB := hB.trans (Owns.dropFr _ _ 0)
   dsimp only [eS, eZ] at hB
   replace hO := hO1; clear hO1
   obtain ⟨Lp, H⟩ := H
   have hobt := oapp Try.underlying22 ti26 rfl 3 hO rfl cP fW Ir Lp (by decide)
   obtain ⟨OZ, zc, zd, It, oK, gk, FP⟩ := hobt
   dsimp only [sS, sZ] at oK gk
   refine GoR.op (FP (by exact rfl) (by exact rfl)) rfl rfl ?_
   replace bm := bm.ch oK.ch
   replace aa := aa.ch oK.ch
   replace bW := bW.ch oK.ch
   replace bF := bF.ch oK.ch
   replace ab := ab.ch oK.ch
   replace bn := bn.ch oK.ch
   replace aP := aP.ch oK.ch
   replace aF := aF.ch oK.ch
   replace ac := ac.ch oK.ch
   replace hO := oK.own
   replace bu := bu.ch oK.ch
   replace bv := bv.ch oK.ch
   replace a9 := a9.ch oK.ch
   replace fW := fW.ch oK.ch
   replace hB := hB.trans oK.fr
   refine GoR.op ((op_nilCheck rfl) _) rfl rfl ?_
   refine GoR.op ((op_fieldAddr Try.underlying72 rfl ti29 rfl (by decide)) _) rfl rfl ?_
   refine GoR.op ((op_fieldAddr Try.underlying29 rfl ti22 rfl (by decide)) _) rfl rfl ?_
   have hobt := oblkSt2 (v := .slice zc (n21 + 1) zd) (i := 3) (cs' := #[.int .i64 a0.Enum.Points, .bool a0.Enum.Monoid, .slice al ak am, .slice zc (n21 + 1) zd, .slice p25 n27 c26, .slice p31 n33 c32, .slice aw aq ax, .slice p37 n39 c38, .int .i64 a0.Enum.Done, .map (some ay), .slice p43 n45 c44, .slice p49 n51 c50, .slice a7 a6 a8]) 1 hO rfl rfl rfl rfl
   obtain ⟨O0, nu, FQ⟩ := hobt
   dsimp only [sS, sZ] at nu
   refine GoR.op (FQ Try.underlying22 rfl ti22 (by exact rfl) (by exact rfl)) rfl rfl ?_
   replace bm := bm.ch nu.ch
   replace aa := aa.ch nu.ch
   replace gk := gk.ch nu.ch
   replace bW := bW.ch nu.ch
   replace bF := bF.ch nu.ch
   replace ab := ab.ch nu.ch
   replace bn := bn.ch nu.ch
   replace aP := aP.ch nu.ch
   replace aF := aF.ch nu.ch
   replace ac := ac.ch nu.ch
   replace hO := nu.own
   replace bu := bu.ch nu.ch
   replace bv := bv.ch nu.ch
   replace a9 := a9.ch nu.ch
   replace fW := fW.ch nu.ch
   replace hB := hB.trans nu.fr
   refine GoR.nil ?_
   refine Go1.seq ?_
   refine Go1.cut [(0, .pointer (some ⟨d7, 0, none⟩)), (2, .int .i64 a0.Enum.Done), (3, .int .i64 (k1_12 : Int)), (4, .string (gstr ((ix d_40 a0.Enum.Done) ++ (chr (IntKind.i32.wrap ((97 : Int) + (k1_12 : Int))))))), (5, .int .i64 (ix a0.single (k1_12 : Int))), (13, .int .i64 (d_16.length : Int))] ⟨rfl, rfl, rfl, rfl, rfl, rfl, trivial⟩ ?_
   intro σ _
   refine Go1.region ?_
   refine GoR.op ((op_move rfl) _) rfl rfl ?_
   refine GoR.op ((op_move rfl) _) rfl rfl ?_
   refine GoR.op ((op_nilCheck rfl) _) rfl rfl ?_
   refine GoR.op ((op_fieldAddr Try.underlying72 rfl ti29 rfl (by decide)) _) rfl rfl ?_
   refine GoR.op ((op_fieldAddr Try.underlying29 rfl ti26 rfl (by decide)) _) rfl rfl ?_
   refine GoR.op ((oblk (i := 4) 1 hO rfl rfl Try.underlying26 rfl rfl) _ (Same.refl _)) rfl rfl ?_
   refine GoR.op ((op_move rfl) _) rfl rfl ?_
   have hobt := obuild (r := Rp.int .i64) (n := 1) (parts := [(0, .int .i64 a0.Enum.Done)]) (vs := [.int .i64 a0.Enum.Done]) (xs := [a0.Enum.Done]) rfl Try.underlying26 ti3 hO (by decide) (by kernel_rfl) (Els.cons rfl rfl (Els.nil _ _ _) (by simp [mx])) rfl
   obtain ⟨O1, O2, oL, Iu, MN, FS⟩ := hobt
   refine GoR.op (FS rfl) rfl rfl ?_
   replace bm := bm.ch oL.ch
   replace aa := aa.ch oL.ch
   replace gk := gk.ch oL.ch
   replace bW := bW.ch oL.ch
   replace bF := bF.ch oL.ch
   replace ab := ab.ch oL.ch
   replace bn := bn.ch oL.ch
   replace aP := aP.ch oL.ch
   replace aF := aF.ch oL.ch
   replace ac := ac.ch oL.ch
   replace hO := oL.own
   replace bu := bu.ch oL.ch
   replace bv := bv.ch oL.ch
   replace a9 := a9.ch oL.ch
   replace fW := fW.ch oL.ch
   replace hB := hB.trans oL.fr
   have hobt := freeze 0 hO rfl Iu
   obtain ⟨hO1, rQ, iK, Iv⟩ := hobt
   dsimp only [eS, eZ] at hO1 rQ iK
   replace bu := bu.ch rQ
   replace bv := bv.ch rQ
   replace a9 := a9.ch rQ
   replace fW := fW.ch rQ
   replace bm := bm.ch rQ
   replace aa := aa.ch rQ
   replace gk := gk.ch rQ
   replace bW := bW.ch rQ
   replace bF := bF.ch rQ
   replace ab := ab.ch rQ
   replace bn := bn.ch rQ
   replace aP := aP.ch rQ
   replace aF := aF.ch rQ
   replace ac := ac.ch rQ
   replace hB := hB.trans (Owns.dropFr _ _ 0)
   dsimp only [eS, eZ] at hB
   replace hO := hO1; clear hO1
   obtain ⟨Lr, H⟩ := H
   have hobt := oapp Try.underlying26 ti3 rfl 4 hO rfl bW iK Iv Lr (by decide)
   obtain ⟨O3, Ae, Af, Iw, nv, jA, FT⟩ := hobt
   dsimp only [sS, sZ] at nv jA
   refine GoR.op (FT (by exact rfl) (by exact rfl)) rfl rfl ?_
   replace bm := bm.ch nv.ch
   replace aa := aa.ch nv.ch
   replace gk := gk.ch nv.ch
   replace bF := bF.ch nv.ch
   replace ab := ab.ch nv.ch
   replace bn := bn.ch nv.ch
   replace aP := aP.ch nv.ch
   replace aF := aF.ch nv.ch
   replace ac := ac.ch nv.ch
   replace hO := nv.own
   replace bu := bu.ch nv.ch
   replace bv := bv.ch nv.ch
   replace a9 := a9.ch nv.ch
   replace fW := fW.ch nv.ch
   replace iK := iK.ch nv.ch
   replace hB := hB.trans nv.fr
   refine GoR.op ((op_nilCheck rfl) _) rfl rfl ?_
   refine GoR.op ((op_fieldAddr Try.underlying72 rfl ti29 rfl (by decide)) _) rfl rfl ?_
   refine GoR.op ((op_fieldAddr Try.underlying29 rfl ti26 rfl (by decide)) _) rfl rfl ?_
   have hobt := oblkSt2 (v := .slice Ae (n27 + 1) Af) (i := 4) (cs' := #[.int .i64 a0.Enum.Points, .bool a0.Enum.Monoid, .slice al ak am, .slice zc (n21 + 1) zd, .slice Ae (n27 + 1) Af, .slice p31 n33 c32, .slice aw aq ax, .slice p37 n39 c38, .int .i64 a0.Enum.Done, .map (some ay), .slice p43 n45 c44, .slice p49 n51 c50, .slice a7 a6 a8]) 1 hO rfl rfl rfl rfl
   obtain ⟨O4, mW, FU⟩ := hobt
   dsimp only [sS, sZ] at mW
   refine GoR.op (FU Try.underlying26 rfl ti26 (by exact rfl) (by exact rfl)) rfl rfl ?_
   replace bm := bm.ch mW.ch
   replace aa := aa.ch mW.ch
   replace gk := gk.ch mW.ch
   replace jA := jA.ch mW.ch
   replace bF := bF.ch mW.ch
   replace ab := ab.ch mW.ch
   replace bn := bn.ch mW.ch
   replace aP := aP.ch mW.ch
   replace aF := aF.ch mW.ch
   replace ac := ac.ch mW.ch
   replace hO := mW.own
   replace bu := bu.ch mW.ch
   replace bv := bv.ch mW.ch
   replace a9 := a9.ch mW.ch
   replace fW := fW.ch mW.ch
   replace iK := iK.ch mW.ch
   replace hB := hB.trans mW.fr
   refine GoR.nil ?_
   refine Go1.seq ?_
   refine Go1.region ?_
   refine GoR.op ((op_move rfl) _) rfl rfl ?_
   refine GoR.op ((op_move rfl) _) rfl rfl ?_
   refine GoR.op ((op_nilCheck rfl) _) rfl rfl ?_
   refine GoR.op ((op_fieldAddr Try.underlying72 rfl ti29 rfl (by decide)) _) rfl rfl ?_
   refine GoR.op ((op_fieldAddr Try.underlying29 rfl ti26 rfl (by decide)) _) rfl rfl ?_
   refine GoR.op ((oblk (i := 5) 1 hO rfl rfl Try.underlying26 rfl rfl) _ (Same.refl _)) rfl rfl ?_
   refine GoR.op ((op_move rfl) _) rfl rfl ?_
   have hobt := obuild (r := Rp.int .i64) (n := 1) (parts := [(0, .int .i64 (k1_12 : Int))]) (vs := [.int .i64 (k1_12 : Int)]) (xs := [(k1_12 : Int)]) rfl Try.underlying26 ti3 hO (by decide) (by kernel_rfl) (Els.cons rfl rfl (Els.nil _ _ _) (by simp [mx])) rfl
   obtain ⟨O5, O6, nw, Ix, Ed, FV⟩ := hobt
   refine GoR.op (FV rfl) rfl rfl ?_
   replace bm := bm.ch nw.ch
   replace aa := aa.ch nw.ch
   replace gk := gk.ch nw.ch
   replace jA := jA.ch nw.ch
   replace bF := bF.ch nw.ch
   replace ab := ab.ch nw.ch
   replace bn := bn.ch nw.ch
   replace aP := aP.ch nw.ch
   replace aF := aF.ch nw.ch
   replace ac := ac.ch nw.ch
   replace hO := nw.own
   replace bu := bu.ch nw.ch
   replace bv := bv.ch nw.ch
   replace a9 := a9.ch nw.ch
   replace fW := fW.ch nw.ch
   replace iK := iK.ch nw.ch
   replace hB := hB.trans nw.fr
   have hobt := freeze 0 hO rfl Ix
   obtain ⟨hO1, qF, lO, Iy⟩ := hobt
   dsimp only [eS, eZ] at hO1 qF lO
   replace bu := bu.ch qF
   replace bv := bv.ch qF
   replace a9 := a9.ch qF
   replace fW := fW.ch qF
   replace iK := iK.ch qF
   replace bm := bm.ch qF
   replace aa := aa.ch qF
   replace gk := gk.ch qF
   replace jA := jA.ch qF
   replace bF := bF.ch qF
   replace ab := ab.ch qF
   replace bn := bn.ch qF
   replace aP := aP.ch qF
   replace aF := aF.ch qF
   replace ac := ac.ch qF
   replace hB := hB.trans (Owns.dropFr _ _ 0)
   dsimp only [eS, eZ] at hB
   replace hO := hO1; clear hO1
   obtain ⟨Ls, H⟩ := H
   have hobt := oapp Try.underlying26 ti3 rfl 5 hO rfl bF lO Iy Ls (by decide)
   obtain ⟨O7, Ba, Bb, Iz, mX, mM, FW⟩ := hobt
   dsimp only [sS, sZ] at mX mM
   refine GoR.op (FW (by exact rfl) (by exact rfl)) rfl rfl ?_
   replace bm := bm.ch mX.ch
   replace aa := aa.ch mX.ch
   replace gk := gk.ch mX.ch
   replace jA := jA.ch mX.ch
   replace ab := ab.ch mX.ch
   replace bn := bn.ch mX.ch
   replace aP := aP.ch mX.ch
   replace aF := aF.ch mX.ch
   replace ac := ac.ch mX.ch
   replace hO := mX.own
   replace bu := bu.ch mX.ch
   replace bv := bv.ch mX.ch
   replace a9 := a9.ch mX.ch
   replace fW := fW.ch mX.ch
   replace iK := iK.ch mX.ch
   replace lO := lO.ch mX.ch
   replace hB := hB.trans mX.fr
   refine GoR.op ((op_nilCheck rfl) _) rfl rfl ?_
   refine GoR.op ((op_fieldAddr Try.underlying72 rfl ti29 rfl (by decide)) _) rfl rfl ?_
   refine GoR.op ((op_fieldAddr Try.underlying29 rfl ti26 rfl (by decide)) _) rfl rfl ?_
   have hobt := oblkSt2 (v := .slice Ba (n33 + 1) Bb) (i := 5) (cs' := #[.int .i64 a0.Enum.Points, .bool a0.Enum.Monoid, .slice al ak am, .slice zc (n21 + 1) zd, .slice Ae (n27 + 1) Af, .slice Ba (n33 + 1) Bb, .slice aw aq ax, .slice p37 n39 c38, .int .i64 a0.Enum.Done, .map (some ay), .slice p43 n45 c44, .slice p49 n51 c50, .slice a7 a6 a8]) 1 hO rfl rfl rfl rfl
   obtain ⟨O8, ma, FX⟩ := hobt
   dsimp only [sS, sZ] at ma
   refine GoR.op (FX Try.underlying26 rfl ti26 (by exact rfl) (by exact rfl)) rfl rfl ?_
   replace bm := bm.ch ma.ch
   replace aa := aa.ch ma.ch
   replace gk := gk.ch ma.ch
   replace jA := jA.ch ma.ch
   replace mM := mM.ch ma.ch
   replace ab := ab.ch ma.ch
   replace bn := bn.ch ma.ch
   replace aP := aP.ch ma.ch
   replace aF := aF.ch ma.ch
   replace ac := ac.ch ma.ch
   replace hO := ma.own
   replace bu := bu.ch ma.ch
   replace bv := bv.ch ma.ch
   replace a9 := a9.ch ma.ch
   replace fW := fW.ch ma.ch
   replace iK := iK.ch ma.ch
   replace lO := lO.ch ma.ch
   replace hB := hB.trans ma.fr
   refine GoR.nil ?_
   refine Go1.seq ?_
   refine Go1.cut [(0, .pointer (some ⟨d7, 0, none⟩)), (4, .string (gstr ((ix d_40 a0.Enum.Done) ++ (chr (IntKind.i32.wrap ((97 : Int) + (k1_12 : Int))))))), (5, .int .i64 (ix a0.single (k1_12 : Int))), (13, .int .i64 (d_16.length : Int))] ⟨rfl, rfl, rfl, rfl, trivial⟩ ?_
   intro σ _
   refine Go1.region ?_
   refine GoR.op ((op_move rfl) _) rfl rfl ?_
   refine GoR.op ((op_move rfl) _) rfl rfl ?_
   refine GoR.op ((op_nilCheck rfl) _) rfl rfl ?_
   refine GoR.op ((op_fieldAddr Try.underlying72 rfl ti70 rfl (by decide)) _) rfl rfl ?_
   refine GoR.op ((oblk (i := 10) 1 hO rfl rfl Try.underlying70 rfl rfl) _ (Same.refl _)) rfl rfl ?_
   refine GoR.op ((op_move rfl) _) rfl rfl ?_
   have hobt := obuild (r := Rp.str) (n := 1) (parts := [(0, .string (gstr ((ix d_40 a0.Enum.Done) ++ (chr (IntKind.i32.wrap ((97 : Int) + (k1_12 : Int)))))))]) (vs := [.string (gstr ((ix d_40 a0.Enum.Done) ++ (chr (IntKind.i32.wrap ((97 : Int) + (k1_12 : Int))))))]) (xs := [(ix d_40 a0.Enum.Done) ++ (chr (IntKind.i32.wrap ((97 : Int) + (k1_12 : Int))))]) rfl Try.underlying70 ti9 hO (by decide) (by kernel_rfl) (Els.cons rfl ⟨rfl, (lenApp DH)⟩ (Els.nil _ _ _) (by simp [mx])) rfl
   obtain ⟨O9, Pa, mY, IA, MO, FY⟩ := hobt
   refine GoR.op (FY rfl) rfl rfl ?_
   replace bm := bm.ch mY.ch
   replace aa := aa.ch mY.ch
   replace gk := gk.ch mY.ch
   replace jA := jA.ch mY.ch
   replace mM := mM.ch mY.ch
   replace ab := ab.ch mY.ch
   replace bn := bn.ch mY.ch
   replace aP := aP.ch mY.ch
   replace aF := aF.ch mY.ch
   replace ac := ac.ch mY.ch
   replace hO := mY.own
   replace bu := bu.ch mY.ch
   replace bv := bv.ch mY.ch
   replace a9 := a9.ch mY.ch
   replace fW := fW.ch mY.ch
   replace iK := iK.ch mY.ch
   replace lO := lO.ch mY.ch
   replace hB := hB.trans mY.fr
   have hobt := freeze 0 hO rfl IA
   obtain ⟨hO1, qf, qG, IB⟩ := hobt
   dsimp only [eS, eZ] at hO1 qf qG
   replace bu := bu.ch qf
   replace bv := bv.ch qf
   replace a9 := a9.ch qf
   replace fW := fW.ch qf
   replace iK := iK.ch qf
   replace lO := lO.ch qf
   replace bm := bm.ch qf
   replace aa := aa.ch qf
   replace gk := gk.ch qf
   replace jA := jA.ch qf
   replace mM := mM.ch qf
   replace ab := ab.ch qf
   replace bn := bn.ch qf
   replace aP := aP.ch qf
   replace aF := aF.ch qf
   replace ac := ac.ch qf
   replace hB := hB.trans (Owns.dropFr _ _ 0)
   dsimp only [eS, eZ] at hB
   replace hO := hO1; clear hO1
   obtain ⟨Lt, H⟩ := H
   have hobt := oapp Try.underlying70 ti9 rfl 8 hO rfl aP qG IB Lt (by decide)
   obtain ⟨Pb, Co, Cp, IC, mb, tG, FZ⟩ := hobt
   dsimp only [sS, sZ] at mb tG
   refine GoR.op (FZ (by exact rfl) (by exact rfl)) rfl rfl ?_
   replace bm := bm.ch mb.ch
   replace aa := aa.ch mb.ch
   replace gk := gk.ch mb.ch
   replace jA := jA.ch mb.ch
   replace mM := mM.ch mb.ch
   replace ab := ab.ch mb.ch
   replace bn := bn.ch mb.ch
   replace aF := aF.ch mb.ch
   replace ac := ac.ch mb.ch
   replace hO := mb.own
   replace bu := bu.ch mb.ch
   replace bv := bv.ch mb.ch
   replace a9 := a9.ch mb.ch
   replace fW := fW.ch mb.ch
   replace iK := iK.ch mb.ch
   replace lO := lO.ch mb.ch
   replace qG := qG.ch mb.ch
   replace hB := hB.trans mb.fr
   refine GoR.op ((op_nilCheck rfl) _) rfl rfl ?_
   refine GoR.op ((op_fieldAddr Try.underlying72 rfl ti70 rfl (by decide)) _) rfl rfl ?_
   have hobt := oblkSt2 (v := .slice Co (n45 + 1) Cp) (i := 10) (cs' := #[.int .i64 a0.Enum.Points, .bool a0.Enum.Monoid, .slice al ak am, .slice zc (n21 + 1) zd, .slice Ae (n27 + 1) Af, .slice Ba (n33 + 1) Bb, .slice aw aq ax, .slice p37 n39 c38, .int .i64 a0.Enum.Done, .map (some ay), .slice Co (n45 + 1) Cp, .slice p49 n51 c50, .slice a7 a6 a8]) 1 hO rfl rfl rfl rfl
   obtain ⟨Pc, lH, F0⟩ := hobt
   dsimp only [sS, sZ] at lH
   refine GoR.op (F0 Try.underlying70 rfl ti70 (by exact rfl) (by exact rfl)) rfl rfl ?_
   replace bm := bm.ch lH.ch
   replace aa := aa.ch lH.ch
   replace gk := gk.ch lH.ch
   replace jA := jA.ch lH.ch
   replace mM := mM.ch lH.ch
   replace ab := ab.ch lH.ch
   replace bn := bn.ch lH.ch
   replace tG := tG.ch lH.ch
   replace aF := aF.ch lH.ch
   replace ac := ac.ch lH.ch
   replace hO := lH.own
   replace bu := bu.ch lH.ch
   replace bv := bv.ch lH.ch
   replace a9 := a9.ch lH.ch
   replace fW := fW.ch lH.ch
   replace iK := iK.ch lH.ch
   replace lO := lO.ch lH.ch
   replace qG := qG.ch lH.ch
   replace hB := hB.trans lH.fr
   refine GoR.nil ?_
   refine Go1.seq ?_
   refine Go1.region ?_
   refine GoR.op ((op_move rfl) _) rfl rfl ?_
   refine GoR.op ((op_move rfl) _) rfl rfl ?_
   refine GoR.op ((op_nilCheck rfl) _) rfl rfl ?_
   refine GoR.op ((op_fieldAddr Try.underlying72 rfl ti26 rfl (by decide)) _) rfl rfl ?_
   refine GoR.op ((oblk (i := 11) 1 hO rfl rfl Try.underlying26 rfl rfl) _ (Same.refl _)) rfl rfl ?_
   refine GoR.op ((op_move rfl) _) rfl rfl ?_
   have hobt := obuild (r := Rp.int .i64) (n := 1) (parts := [(0, .int .i64 (ix a0.single (k1_12 : Int)))]) (vs := [.int .i64 (ix a0.single (k1_12 : Int))]) (xs := [(ix a0.single (k1_12 : Int))]) rfl Try.underlying26 ti3 hO (by decide) (by kernel_rfl) (Els.cons rfl rfl (Els.nil _ _ _) (by simp [mx])) rfl
   obtain ⟨Pd, Pe, mc, ID, MP, F1⟩ := hobt
   refine GoR.op (F1 rfl) rfl rfl ?_
   replace bm := bm.ch mc.ch
   replace aa := aa.ch mc.ch
   replace gk := gk.ch mc.ch
   replace jA := jA.ch mc.ch
   replace mM := mM.ch mc.ch
   replace ab := ab.ch mc.ch
   replace bn := bn.ch mc.ch
   replace tG := tG.ch mc.ch
   replace aF := aF.ch mc.ch
   replace ac := ac.ch mc.ch
   replace hO := mc.own
   replace bu := bu.ch mc.ch
   replace bv := bv.ch mc.ch
   replace a9 := a9.ch mc.ch
   replace fW := fW.ch mc.ch
   replace iK := iK.ch mc.ch
   replace lO := lO.ch mc.ch
   replace qG := qG.ch mc.ch
   replace hB := hB.trans mc.fr
   have hobt := freeze 0 hO rfl ID
   obtain ⟨hO1, pO, wC, IE⟩ := hobt
   dsimp only [eS, eZ] at hO1 pO wC
   replace bu := bu.ch pO
   replace bv := bv.ch pO
   replace a9 := a9.ch pO
   replace fW := fW.ch pO
   replace iK := iK.ch pO
   replace lO := lO.ch pO
   replace qG := qG.ch pO
   replace bm := bm.ch pO
   replace aa := aa.ch pO
   replace gk := gk.ch pO
   replace jA := jA.ch pO
   replace mM := mM.ch pO
   replace ab := ab.ch pO
   replace bn := bn.ch pO
   replace tG := tG.ch pO
   replace aF := aF.ch pO
   replace ac := ac.ch pO
   replace hB := hB.trans (Owns.dropFr _ _ 0)
   dsimp only [eS, eZ] at hB
   replace hO := hO1; clear hO1
   obtain ⟨Lu, H⟩ := H
   have hobt := oapp Try.underlying26 ti3 rfl 9 hO rfl aF wC IE Lu (by decide)
   obtain ⟨Pf, DN, DO, IF, lI, yD, F2⟩ := hobt
   dsimp only [sS, sZ] at lI yD
   refine GoR.op (F2 (by exact rfl) (by exact rfl)) rfl rfl ?_
   replace bm := bm.ch lI.ch
   replace aa := aa.ch lI.ch
   replace gk := gk.ch lI.ch
   replace jA := jA.ch lI.ch
   replace mM := mM.ch lI.ch
   replace ab := ab.ch lI.ch
   replace bn := bn.ch lI.ch
   replace tG := tG.ch lI.ch
   replace ac := ac.ch lI.ch
   replace hO := lI.own
   replace bu := bu.ch lI.ch
   replace bv := bv.ch lI.ch
   replace a9 := a9.ch lI.ch
   replace fW := fW.ch lI.ch
   replace iK := iK.ch lI.ch
   replace lO := lO.ch lI.ch
   replace qG := qG.ch lI.ch
   replace wC := wC.ch lI.ch
   replace hB := hB.trans lI.fr
   refine GoR.op ((op_nilCheck rfl) _) rfl rfl ?_
   refine GoR.op ((op_fieldAddr Try.underlying72 rfl ti26 rfl (by decide)) _) rfl rfl ?_
   have hobt := oblkSt2 (v := .slice DN (n51 + 1) DO) (i := 11) (cs' := #[.int .i64 a0.Enum.Points, .bool a0.Enum.Monoid, .slice al ak am, .slice zc (n21 + 1) zd, .slice Ae (n27 + 1) Af, .slice Ba (n33 + 1) Bb, .slice aw aq ax, .slice p37 n39 c38, .int .i64 a0.Enum.Done, .map (some ay), .slice Co (n45 + 1) Cp, .slice DN (n51 + 1) DO, .slice a7 a6 a8]) 1 hO rfl rfl rfl rfl
   obtain ⟨Pg, kD, F3⟩ := hobt
   dsimp only [sS, sZ] at kD
   refine GoR.op (F3 Try.underlying26 rfl ti26 (by exact rfl) (by exact rfl)) rfl rfl ?_
   replace bm := bm.ch kD.ch
   replace aa := aa.ch kD.ch
   replace gk := gk.ch kD.ch
   replace jA := jA.ch kD.ch
   replace mM := mM.ch kD.ch
   replace ab := ab.ch kD.ch
   replace bn := bn.ch kD.ch
   replace tG := tG.ch kD.ch
   replace yD := yD.ch kD.ch
   replace ac := ac.ch kD.ch
   replace hO := kD.own
   replace bu := bu.ch kD.ch
   replace bv := bv.ch kD.ch
   replace a9 := a9.ch kD.ch
   replace fW := fW.ch kD.ch
   replace iK := iK.ch kD.ch
   replace lO := lO.ch kD.ch
   replace qG := qG.ch kD.ch
   replace wC := wC.ch kD.ch
   replace hB := hB.trans kD.fr
   refine GoR.nil ?_
   refine Go1.seq ?_
   refine Go1.cut [(13, .int .i64 (d_16.length : Int))] ⟨rfl, trivial⟩ ?_
   intro σ _
   refine Go1.region ?_
   refine GoR.op ((op_move rfl) _) rfl rfl ?_
   refine GoR.op ((op_assign rfl) _) rfl rfl ?_
   refine GoR.nil ?_
   refine Go1.ret1V Try.func65 rfl (show _ = .int .i64 (d_16.length : Int) from rfl) ?_
   refine hR239 _ _ ?_
   refine GoR.op ((op_assign rfl) _) rfl rfl ?_
   refine GoR.nil ?_
   refine Go1.inBlock ?_
   refine Go1.region ?_
   refine GoR.op ((op_move rfl) _) rfl rfl ?_
   refine GoR.op ((op_move rfl) _) rfl rfl ?_
   refine GoR.op ((op_move rfl) _) rfl rfl ?_
   obtain ⟨DP, H⟩ := H
   obtain ⟨DQ, H⟩ := H
   refine GoR.op ((op_index Try.underlying26 ti3 rfl rfl DP (ltn (bm.neq hO 0 rfl) DQ) (bm.psome hO 0 rfl DP DQ)) _) rfl rfl ?_
   have hobt := ost (r := Rp.int .i64) rfl 0 hO rfl bm DP DQ (v := .int .i64 (d_16.length : Int)) (u := (d_16.length : Int)) rfl rfl
   obtain ⟨Ph, IG, lJ, Ee, F4⟩ := hobt
   dsimp only [sS, sZ] at lJ Ee
   refine GoR.op (F4 Try.underlying3 rfl ti3 (by exact rfl) (by exact rfl)) rfl rfl ?_
   replace aa := aa.ch lJ.ch
   replace gk := gk.ch lJ.ch
   replace jA := jA.ch lJ.ch
   replace mM := mM.ch lJ.ch
   replace ab := ab.ch lJ.ch
   replace bn := bn.ch lJ.ch
   replace tG := tG.ch lJ.ch
   replace yD := yD.ch lJ.ch
   replace ac := ac.ch lJ.ch
   replace hO := lJ.own
   replace bu := bu.ch lJ.ch
   replace bv := bv.ch lJ.ch
   replace a9 := a9.ch lJ.ch
   replace fW := fW.ch lJ.ch
   replace iK := iK.ch lJ.ch
   replace lO := lO.ch lJ.ch
   replace qG := qG.ch lJ.ch
   replace wC := wC.ch lJ.ch
   replace hB := hB.trans lJ.fr
   refine GoR.nil ?_
   refine Go1.inBlock ?_
   refine Go1.region ?_
   refine GoR.op ((op_add rfl rfl (wrap_i64 (natbd h53 aa.bd))) _) rfl rfl ?_
   refine GoR.op ((op_move rfl) _) rfl rfl ?_
   refine GoR.nil ?_
   exact hX1 _ H _ _ ⟨IG, n21 + 1, zc, zd, It, n27 + 1, Ae, Af, Iw, n33 + 1, Ba, Bb, Iz, n39, p37, c38, pz, n45 + 1, Co, Cp, IC, n51 + 1, DN, DO, IF, ⟨rfl, rfl, rfl, rfl, rfl, rfl, trivial⟩, hO, Ee, aa, gk, jA, mM, ab, bn, tG, yD, ac, hB⟩
  replace H := ifn Cn H
  refine GoR.op ((fun w => opB (op_eql rfl rfl w) (decide_eq_false Cn)) _) rfl rfl ?_
  refine GoR.nil ?_
  refine Go1.condF rfl rfl ?_
  refine Go1.skip ?_
  refine Go1.seq ?_
  refine Go1.region ?_
  refine GoR.op ((op_move rfl) _) rfl rfl ?_
  refine GoR.op ((op_nilCheck rfl) _) rfl rfl ?_
  refine GoR.op ((op_fieldAddr Try.underlying72 rfl ti29 rfl (by decide)) _) rfl rfl ?_
  refine GoR.op ((op_fieldAddr Try.underlying29 rfl ti22 rfl (by decide)) _) rfl rfl ?_
  refine GoR.op ((oblk (i := 6) 1 hO rfl rfl Try.underlying22 rfl rfl) _ (Same.refl _)) rfl rfl ?_
  refine GoR.op ((op_move rfl) _) rfl rfl ?_
  obtain ⟨DR, H⟩ := H
  obtain ⟨DS, H⟩ := H
  refine GoR.op ((op_index Try.underlying22 ti26 rfl rfl DR (ltn (ab.neq hO 6 rfl) DS) (ab.psome hO 6 rfl DR DS)) _) rfl rfl ?_
  have hobt := oldSl 6 hO rfl ab DR DS
  obtain ⟨Pi, Pj, eo, IH⟩ := hobt
  refine GoR.op ((IH Try.underlying26 rfl rfl) _ (Same.refl _)) rfl rfl ?_
  refine GoR.op ((op_move rfl) _) rfl rfl ?_
  obtain ⟨DT, H⟩ := H
  obtain ⟨DU, H⟩ := H
  refine GoR.op ((op_index Try.underlying26 ti3 rfl rfl DT DU (eo.some_ DT DU)) _) rfl rfl ?_
  refine GoR.op ((ldInt eo DT DU Try.underlying3 rfl rfl) _ (Same.refl _)) rfl rfl ?_
  refine GoR.op ((op_assign rfl) _) rfl rfl ?_
  refine GoR.nil ?_
  refine Go1.ret1V Try.func66 rfl (show _ = .int .i64 (ix (ix a0.Enum.Right (ix d_46 a0.Enum.Done)) (k1_12 : Int)) from rfl) ?_
  refine hR235 _ _ ?_
  refine GoR.inl (vs := [.pointer (some ⟨d7, 0, none⟩), .slice t7 r66.length t8, .int .i64 a0.Enum.Done, .int .i64 (k1_12 : Int), .string (gstr ((ix d_40 a0.Enum.Done) ++ (chr (IntKind.i32.wrap ((97 : Int) + (k1_12 : Int)))))), .int .i64 (ix (ix a0.Enum.Right (ix d_46 a0.Enum.Done)) (k1_12 : Int))]) (caps := []) rfl rfl body65 Try.func65 rfl Try.ntmps65 rfl rfl rfl ?_
  intro RhR377 hR377
  refine Go1.seq ?_
  refine Go1.cut [(0, .pointer (some ⟨d7, 0, none⟩)), (1, .slice t7 r66.length t8), (2, .int .i64 a0.Enum.Done), (3, .int .i64 (k1_12 : Int)), (4, .string (gstr ((ix d_40 a0.Enum.Done) ++ (chr (IntKind.i32.wrap ((97 : Int) + (k1_12 : Int))))))), (5, .int .i64 (ix (ix a0.Enum.Right (ix d_46 a0.Enum.Done)) (k1_12 : Int)))] ⟨rfl, rfl, rfl, rfl, rfl, rfl, trivial⟩ ?_
  intro σ _
  refine Go1.region ?_
  refine GoR.op ((op_assign rfl) _) rfl rfl ?_
  refine GoR.nil ?_
  refine Go1.seq ?_
  refine Go1.region ?_
  refine GoR.op ((op_move rfl) _) rfl rfl ?_
  refine GoR.op ((op_nilCheck rfl) _) rfl rfl ?_
  refine GoR.op ((op_fieldAddr Try.underlying72 rfl ti29 rfl (by decide)) _) rfl rfl ?_
  refine GoR.op ((op_fieldAddr Try.underlying29 rfl ti22 rfl (by decide)) _) rfl rfl ?_
  refine GoR.op ((oblk (i := 3) 1 hO rfl rfl Try.underlying22 rfl rfl) _ (Same.refl _)) rfl rfl ?_
  refine GoR.op ((op_lenN Try.underlying22 rfl (cP.neq hO 3 rfl)) _) rfl rfl ?_
  refine GoR.op ((op_assign rfl) _) rfl rfl ?_
  refine GoR.nil ?_
  refine Go1.seq ?_
  refine Go1.drawS 1 [(0, .pure), (1, .pure), (2, .pure), (3, .stable), (4, .pure), (6, .pure), (5, .loud), (7, .last)] mixed (by kernel_rfl) ?_
  intro Pk II
  have oM := Stp.same hO II
  replace bm := bm.ch oM.ch
  replace aa := aa.ch oM.ch
  replace cP := cP.ch oM.ch
  replace bW := bW.ch oM.ch
  replace bF := bF.ch oM.ch
  replace ab := ab.ch oM.ch
  replace bn := bn.ch oM.ch
  replace aP := aP.ch oM.ch
  replace aF := aF.ch oM.ch
  replace ac := ac.ch oM.ch
  replace hO := oM.own
  replace bu := bu.ch oM.ch
  replace bv := bv.ch oM.ch
  replace a9 := a9.ch oM.ch
  replace eo := eo.ch oM.ch
  replace hB := hB.trans oM.fr
  refine GoQ.pure rfl (op_move rfl) rfl rfl ?_
  refine GoQ.pure rfl (op_nilCheck rfl) rfl rfl ?_
  refine GoQ.pure rfl (op_fieldAddr Try.underlying72 rfl ti69 rfl (by decide)) rfl rfl ?_
  refine GoQ.stable rfl (oblk (i := 9) 1 hO rfl rfl Try.underlying69 rfl rfl) rfl rfl ?_
  refine GoQ.pure rfl (op_move rfl) rfl rfl ?_
  refine GoQ.pure rfl (op_move rfl) rfl rfl ?_
  refine GoQ.call rfl (op_call body61 rfl (walk_enumerate_text hO.lt a9 H)) (fun v w hr => by obtain ⟨_, _, hs, _, _⟩ := hr; assumption) rfl rfl ?_
  rintro Pl Pm ⟨r381, rfl, IJ, Mn, H⟩
  have gB := Stp.same hO IJ
  replace bm := bm.ch gB.ch
  replace aa := aa.ch gB.ch
  replace cP := cP.ch gB.ch
  replace bW := bW.ch gB.ch
  replace bF := bF.ch gB.ch
  replace ab := ab.ch gB.ch
  replace bn := bn.ch gB.ch
  replace aP := aP.ch gB.ch
  replace aF := aF.ch gB.ch
  replace ac := ac.ch gB.ch
  replace hO := gB.own
  replace bu := bu.ch gB.ch
  replace bv := bv.ch gB.ch
  replace a9 := a9.ch gB.ch
  replace eo := eo.ch gB.ch
  replace hB := hB.trans gB.fr
  have hobt := omapUpd (MK.str Try.underlying9) 11 hO rfl Try.underlying69 r381 (d_16.length : Int)
  obtain ⟨Pn, gu, F5⟩ := hobt
  dsimp only [sS, sZ] at gu
  refine GoQ.last rfl (F5 (by exact rfl) (by exact rfl) (by exact rfl)) rfl rfl ?_
  replace bm := bm.ch gu.ch
  replace aa := aa.ch gu.ch
  replace cP := cP.ch gu.ch
  replace bW := bW.ch gu.ch
  replace bF := bF.ch gu.ch
  replace ab := ab.ch gu.ch
  replace bn := bn.ch gu.ch
  replace aP := aP.ch gu.ch
  replace aF := aF.ch gu.ch
  replace ac := ac.ch gu.ch
  replace hO := gu.own
  replace bu := bu.ch gu.ch
  replace bv := bv.ch gu.ch
  replace a9 := a9.ch gu.ch
  replace eo := eo.ch gu.ch
  replace hB := hB.trans gu.fr
  refine GoQ.nil ?_
  refine Go1.seq ?_
  refine Go1.region ?_
  refine GoR.op ((op_move rfl) _) rfl rfl ?_
  refine GoR.op ((op_move rfl) _) rfl rfl ?_
  refine GoR.op ((op_nilCheck rfl) _) rfl rfl ?_
  refine GoR.op ((op_fieldAddr Try.underlying72 rfl ti29 rfl (by decide)) _) rfl rfl ?_
  refine GoR.op ((op_fieldAddr Try.underlying29 rfl ti22 rfl (by decide)) _) rfl rfl ?_
  refine GoR.op ((oblk (i := 3) 1 hO rfl rfl Try.underlying22 rfl rfl) _ (Same.refl _)) rfl rfl ?_
  refine GoR.op ((op_move rfl) _) rfl rfl ?_
  have hobt := obuild (r := Rp.sl (Rp.int .i64)) (n := 1) (parts := [(0, .slice t7 r66.length t8)]) (vs := [.slice t7 r66.length t8]) (xs := [r66]) rfl Try.underlying22 ti26 hO (by decide) (by kernel_rfl) (Els.cons rfl ⟨t7, t8, rfl, a9⟩ (Els.nil _ _ _) (by simp [mx])) rfl
  obtain ⟨Po, Pp, gC, IK, MQ, F6⟩ := hobt
  refine GoR.op (F6 rfl) rfl rfl ?_
  replace bm := bm.ch gC.ch
  replace aa := aa.ch gC.ch
  replace cP := cP.ch gC.ch
  replace bW := bW.ch gC.ch
  replace bF := bF.ch gC.ch
  replace ab := ab.ch gC.ch
  replace bn := bn.ch gC.ch
  replace aP := aP.ch gC.ch
  replace aF := aF.ch gC.ch
  replace ac := ac.ch gC.ch
  replace hO := gC.own
  replace bu := bu.ch gC.ch
  replace bv := bv.ch gC.ch
  replace a9 := a9.ch gC.ch
  replace eo := eo.ch gC.ch
  replace hB := hB.trans gC.fr
  have hobt := freeze 0 hO rfl IK
  obtain ⟨hO1, rR, fX, IL⟩ := hobt
  dsimp only [eS, eZ] at hO1 rR fX
  replace bu := bu.ch rR
  replace bv := bv.ch rR
  replace a9 := a9.ch rR
  replace eo := eo.ch rR
  replace bm := bm.ch rR
  replace aa := aa.ch rR
  replace cP := cP.ch rR
  replace bW := bW.ch rR
  replace bF := bF.ch rR
  replace ab := ab.ch rR
  replace bn := bn.ch rR
  replace aP := aP.ch rR
  replace aF := aF.ch rR
  replace ac := ac.ch rR
  replace hB := hB.trans (Owns.dropFr _ _ 0)
  dsimp only [eS, eZ] at hB
  replace hO := hO1; clear hO1
  obtain ⟨Lv, H⟩ := H
  have hobt := oapp Try.underlying22 ti26 rfl 3 hO rfl cP fX IL Lv (by decide)
  obtain ⟨Pq, zf, zg, IM, ny, gl, F7⟩ := hobt
  dsimp only [sS, sZ] at ny gl
  refine GoR.op (F7 (by exact rfl) (by exact rfl)) rfl rfl ?_
  replace bm := bm.ch ny.ch
  replace aa := aa.ch ny.ch
  replace bW := bW.ch ny.ch
  replace bF := bF.ch ny.ch
  replace ab := ab.ch ny.ch
  replace bn := bn.ch ny.ch
  replace aP := aP.ch ny.ch
  replace aF := aF.ch ny.ch
  replace ac := ac.ch ny.ch
  replace hO := ny.own
  replace bu := bu.ch ny.ch
  replace bv := bv.ch ny.ch
  replace a9 := a9.ch ny.ch
  replace eo := eo.ch ny.ch
  replace fX := fX.ch ny.ch
  replace hB := hB.trans ny.fr
  refine GoR.op ((op_nilCheck rfl) _) rfl rfl ?_
  refine GoR.op ((op_fieldAddr Try.underlying72 rfl ti29 rfl (by decide)) _) rfl rfl ?_
  refine GoR.op ((op_fieldAddr Try.underlying29 rfl ti22 rfl (by decide)) _) rfl rfl ?_
  have hobt := oblkSt2 (v := .slice zf (n21 + 1) zg) (i := 3) (cs' := #[.int .i64 a0.Enum.Points, .bool a0.Enum.Monoid, .slice al ak am, .slice zf (n21 + 1) zg, .slice p25 n27 c26, .slice p31 n33 c32, .slice aw aq ax, .slice p37 n39 c38, .int .i64 a0.Enum.Done, .map (some ay), .slice p43 n45 c44, .slice p49 n51 c50, .slice a7 a6 a8]) 1 hO rfl rfl rfl rfl
  obtain ⟨Pr, mZ, F8⟩ := hobt
  dsimp only [sS, sZ] at mZ
  refine GoR.op (F8 Try.underlying22 rfl ti22 (by exact rfl) (by exact rfl)) rfl rfl ?_
  replace bm := bm.ch mZ.ch
  replace aa := aa.ch mZ.ch
  replace gl := gl.ch mZ.ch
  replace bW := bW.ch mZ.ch
  replace bF := bF.ch mZ.ch
  replace ab := ab.ch mZ.ch
  replace bn := bn.ch mZ.ch
  replace aP := aP.ch mZ.ch
  replace aF := aF.ch mZ.ch
  replace ac := ac.ch mZ.ch
  replace hO := mZ.own
  replace bu := bu.ch mZ.ch
  replace bv := bv.ch mZ.ch
  replace a9 := a9.ch mZ.ch
  replace eo := eo.ch mZ.ch
  replace fX := fX.ch mZ.ch
  replace hB := hB.trans mZ.fr
  refine GoR.nil ?_
  refine Go1.seq ?_
  refine Go1.cut [(0, .pointer (some ⟨d7, 0, none⟩)), (2, .int .i64 a0.Enum.Done), (3, .int .i64 (k1_12 : Int)), (4, .string (gstr ((ix d_40 a0.Enum.Done) ++ (chr (IntKind.i32.wrap ((97 : Int) + (k1_12 : Int))))))), (5, .int .i64 (ix (ix a0.Enum.Right (ix d_46 a0.Enum.Done)) (k1_12 : Int))), (13, .int .i64 (d_16.length : Int))] ⟨rfl, rfl, rfl, rfl, rfl, rfl, trivial⟩ ?_
  intro σ _
  refine Go1.region ?_
  refine GoR.op ((op_move rfl) _) rfl rfl ?_
  refine GoR.op ((op_move rfl) _) rfl rfl ?_
  refine GoR.op ((op_nilCheck rfl) _) rfl rfl ?_
  refine GoR.op ((op_fieldAddr Try.underlying72 rfl ti29 rfl (by decide)) _) rfl rfl ?_
  refine GoR.op ((op_fieldAddr Try.underlying29 rfl ti26 rfl (by decide)) _) rfl rfl ?_
  refine GoR.op ((oblk (i := 4) 1 hO rfl rfl Try.underlying26 rfl rfl) _ (Same.refl _)) rfl rfl ?_
  refine GoR.op ((op_move rfl) _) rfl rfl ?_
  have hobt := obuild (r := Rp.int .i64) (n := 1) (parts := [(0, .int .i64 a0.Enum.Done)]) (vs := [.int .i64 a0.Enum.Done]) (xs := [a0.Enum.Done]) rfl Try.underlying26 ti3 hO (by decide) (by kernel_rfl) (Els.cons rfl rfl (Els.nil _ _ _) (by simp [mx])) rfl
  obtain ⟨Ps, Pt, j3, IN, MR, F9⟩ := hobt
  refine GoR.op (F9 rfl) rfl rfl ?_
  replace bm := bm.ch j3.ch
  replace aa := aa.ch j3.ch
  replace gl := gl.ch j3.ch
  replace bW := bW.ch j3.ch
  replace bF := bF.ch j3.ch
  replace ab := ab.ch j3.ch
  replace bn := bn.ch j3.ch
  replace aP := aP.ch j3.ch
  replace aF := aF.ch j3.ch
  replace ac := ac.ch j3.ch
  replace hO := j3.own
  replace bu := bu.ch j3.ch
  replace bv := bv.ch j3.ch
  replace a9 := a9.ch j3.ch
  replace eo := eo.ch j3.ch
  replace fX := fX.ch j3.ch
  replace hB := hB.trans j3.fr
  have hobt := freeze 0 hO rfl IN
  obtain ⟨hO1, qH, iL, IQ⟩ := hobt
  dsimp only [eS, eZ] at hO1 qH iL
  replace bu := bu.ch qH
  replace bv := bv.ch qH
  replace a9 := a9.ch qH
  replace eo := eo.ch qH
  replace fX := fX.ch qH
  replace bm := bm.ch qH
  replace aa := aa.ch qH
  replace gl := gl.ch qH
  replace bW := bW.ch qH
  replace bF := bF.ch qH
  replace ab := ab.ch qH
  replace bn := bn.ch qH
  replace aP := aP.ch qH
  replace aF := aF.ch qH
  replace ac := ac.ch qH
  replace hB := hB.trans (Owns.dropFr _ _ 0)
  dsimp only [eS, eZ] at hB
  replace hO := hO1; clear hO1
  obtain ⟨Lw, H⟩ := H
  have hobt := oapp Try.underlying26 ti3 rfl 4 hO rfl bW iL IQ Lw (by decide)
  obtain ⟨Pu, Ag, Ah, IR, jt, iI, Ga⟩ := hobt
  dsimp only [sS, sZ] at jt iI
  refine GoR.op (Ga (by exact rfl) (by exact rfl)) rfl rfl ?_
  replace bm := bm.ch jt.ch
  replace aa := aa.ch jt.ch
  replace gl := gl.ch jt.ch
  replace bF := bF.ch jt.ch
  replace ab := ab.ch jt.ch
  replace bn := bn.ch jt.ch
  replace aP := aP.ch jt.ch
  replace aF := aF.ch jt.ch
  replace ac := ac.ch jt.ch
  replace hO := jt.own
  replace bu := bu.ch jt.ch
  replace bv := bv.ch jt.ch
  replace a9 := a9.ch jt.ch
  replace eo := eo.ch jt.ch
  replace fX := fX.ch jt.ch
  replace iL := iL.ch jt.ch
  replace hB := hB.trans jt.fr
  refine GoR.op ((op_nilCheck rfl) _) rfl rfl ?_
  refine GoR.op ((op_fieldAddr Try.underlying72 rfl ti29 rfl (by decide)) _) rfl rfl ?_
  refine GoR.op ((op_fieldAddr Try.underlying29 rfl ti26 rfl (by decide)) _) rfl rfl ?_
  have hobt := oblkSt2 (v := .slice Ag (n27 + 1) Ah) (i := 4) (cs' := #[.int .i64 a0.Enum.Points, .bool a0.Enum.Monoid, .slice al ak am, .slice zf (n21 + 1) zg, .slice Ag (n27 + 1) Ah, .slice p31 n33 c32, .slice aw aq ax, .slice p37 n39 c38, .int .i64 a0.Enum.Done, .map (some ay), .slice p43 n45 c44, .slice p49 n51 c50, .slice a7 a6 a8]) 1 hO rfl rfl rfl rfl
  obtain ⟨Pv, me, Gb⟩ := hobt
  dsimp only [sS, sZ] at me
  refine GoR.op (Gb Try.underlying26 rfl ti26 (by exact rfl) (by exact rfl)) rfl rfl ?_
  replace bm := bm.ch me.ch
  replace aa := aa.ch me.ch
  replace gl := gl.ch me.ch
  replace iI := iI.ch me.ch
  replace bF := bF.ch me.ch
  replace ab := ab.ch me.ch
  replace bn := bn.ch me.ch
  replace aP := aP.ch me.ch
  replace aF := aF.ch me.ch
  replace ac := ac.ch me.ch
  replace hO := me.own
  replace bu := bu.ch me.ch
  replace bv := bv.ch me.ch
  replace a9 := a9.ch me.ch
  replace eo := eo.ch me.ch
  replace fX := fX.ch me.ch
  replace iL := iL.ch me.ch
  replace hB := hB.trans me.fr
  refine GoR.nil ?_
  refine Go1.seq ?_
  refine Go1.region ?_
  refine GoR.op ((op_move rfl) _) rfl rfl ?_
  refine GoR.op ((op_move rfl) _) rfl rfl ?_
  refine GoR.op ((op_nilCheck rfl) _) rfl rfl ?_
  refine GoR.op ((op_fieldAddr Try.underlying72 rfl ti29 rfl (by decide)) _) rfl rfl ?_
  refine GoR.op ((op_fieldAddr Try.underlying29 rfl ti26 rfl (by decide)) _) rfl rfl ?_
  refine GoR.op ((oblk (i := 5) 1 hO rfl rfl Try.underlying26 rfl rfl) _ (Same.refl _)) rfl rfl ?_
  refine GoR.op ((op_move rfl) _) rfl rfl ?_
  have hobt := obuild (r := Rp.int .i64) (n := 1) (parts := [(0, .int .i64 (k1_12 : Int))]) (vs := [.int .i64 (k1_12 : Int)]) (xs := [(k1_12 : Int)]) rfl Try.underlying26 ti3 hO (by decide) (by kernel_rfl) (Els.cons rfl rfl (Els.nil _ _ _) (by simp [mx])) rfl
  obtain ⟨Pw, Px, m0, IS, MS, Gc⟩ := hobt
  refine GoR.op (Gc rfl) rfl rfl ?_
  replace bm := bm.ch m0.ch
  replace aa := aa.ch m0.ch
  replace gl := gl.ch m0.ch
  replace iI := iI.ch m0.ch
  replace bF := bF.ch m0.ch
  replace ab := ab.ch m0.ch
  replace bn := bn.ch m0.ch
  replace aP := aP.ch m0.ch
  replace aF := aF.ch m0.ch
  replace ac := ac.ch m0.ch
  replace hO := m0.own
  replace bu := bu.ch m0.ch
  replace bv := bv.ch m0.ch
  replace a9 := a9.ch m0.ch
  replace eo := eo.ch m0.ch
  replace fX := fX.ch m0.ch
  replace iL := iL.ch m0.ch
  replace hB := hB.trans m0.fr
  have hobt := freeze 0 hO rfl IS
  obtain ⟨hO1, qg, lP, IT⟩ := hobt
  dsimp only [eS, eZ] at hO1 qg lP
  replace bu := bu.ch qg
  replace bv := bv.ch qg
  replace a9 := a9.ch qg
  replace eo := eo.ch qg
  replace fX := fX.ch qg
  replace iL := iL.ch qg
  replace bm := bm.ch qg
  replace aa := aa.ch qg
  replace gl := gl.ch qg
  replace iI := iI.ch qg
  replace bF := bF.ch qg
  replace ab := ab.ch qg
  replace bn := bn.ch qg
  replace aP := aP.ch qg
  replace aF := aF.ch qg
  replace ac := ac.ch qg
  replace hB := hB.trans (Owns.dropFr _ _ 0)
  dsimp only [eS, eZ] at hB
  replace hO := hO1; clear hO1
  obtain ⟨Lx, H⟩ := H
  have hobt := oapp Try.underlying26 ti3 rfl 5 hO rfl bF lP IT Lx (by decide)
  obtain ⟨Py, Bc, Bd, IU, mf, mO, Gd⟩ := hobt
  dsimp only [sS, sZ] at mf mO
  refine GoR.op (Gd (by exact rfl) (by exact rfl)) rfl rfl ?_
  replace bm := bm.ch mf.ch
  replace aa := aa.ch mf.ch
  replace gl := gl.ch mf.ch
  replace iI := iI.ch mf.ch
  replace ab := ab.ch mf.ch
  replace bn := bn.ch mf.ch
  replace aP := aP.ch mf.ch
  replace aF := aF.ch mf.ch
  replace ac := ac.ch mf.ch
  replace hO := mf.own
  replace bu := bu.ch mf.ch
  replace bv := bv.ch mf.ch
  replace a9 := a9.ch mf.ch
  replace eo := eo.ch mf.ch
  replace fX := fX.ch mf.ch
  replace iL := iL.ch mf.ch
  replace lP := lP.ch mf.ch
  replace hB := hB.trans mf.fr
  refine GoR.op ((op_nilCheck rfl) _) rfl rfl ?_
  refine GoR.op ((op_fieldAddr Try.underlying72 rfl ti29 rfl (by decide)) _) rfl rfl ?_
  refine GoR.op ((op_fieldAddr Try.underlying29 rfl ti26 rfl (by decide)) _) rfl rfl ?_
  have hobt := oblkSt2 (v := .slice Bc (n33 + 1) Bd) (i := 5) (cs' := #[.int .i64 a0.Enum.Points, .bool a0.Enum.Monoid, .slice al ak am, .slice zf (n21 + 1) zg, .slice Ag (n27 + 1) Ah, .slice Bc (n33 + 1) Bd, .slice aw aq ax, .slice p37 n39 c38, .int .i64 a0.Enum.Done, .map (some ay), .slice p43 n45 c44, .slice p49 n51 c50, .slice a7 a6 a8]) 1 hO rfl rfl rfl rfl
  obtain ⟨Pz, lK, Ge⟩ := hobt
  dsimp only [sS, sZ] at lK
  refine GoR.op (Ge Try.underlying26 rfl ti26 (by exact rfl) (by exact rfl)) rfl rfl ?_
  replace bm := bm.ch lK.ch
  replace aa := aa.ch lK.ch
  replace gl := gl.ch lK.ch
  replace iI := iI.ch lK.ch
  replace mO := mO.ch lK.ch
  replace ab := ab.ch lK.ch
  replace bn := bn.ch lK.ch
  replace aP := aP.ch lK.ch
  replace aF := aF.ch lK.ch
  replace ac := ac.ch lK.ch
  replace hO := lK.own
  replace bu := bu.ch lK.ch
  replace bv := bv.ch lK.ch
  replace a9 := a9.ch lK.ch
  replace eo := eo.ch lK.ch
  replace fX := fX.ch lK.ch
  replace iL := iL.ch lK.ch
  replace lP := lP.ch lK.ch
  replace hB := hB.trans lK.fr
  refine GoR.nil ?_
  refine Go1.seq ?_
  refine Go1.cut [(0, .pointer (some ⟨d7, 0, none⟩)), (4, .string (gstr ((ix d_40 a0.Enum.Done) ++ (chr (IntKind.i32.wrap ((97 : Int) + (k1_12 : Int))))))), (5, .int .i64 (ix (ix a0.Enum.Right (ix d_46 a0.Enum.Done)) (k1_12 : Int))), (13, .int .i64 (d_16.length : Int))] ⟨rfl, rfl, rfl, rfl, trivial⟩ ?_
  intro σ _
  refine Go1.region ?_
  refine GoR.op ((op_move rfl) _) rfl rfl ?_
  refine GoR.op ((op_move rfl) _) rfl rfl ?_
  refine GoR.op ((op_nilCheck rfl) _) rfl rfl ?_
  refine GoR.op ((op_fieldAddr Try.underlying72 rfl ti70 rfl (by decide)) _) rfl rfl ?_
  refine GoR.op ((oblk (i := 10) 1 hO rfl rfl Try.underlying70 rfl rfl) _ (Same.refl _)) rfl rfl ?_
  refine GoR.op ((op_move rfl) _) rfl rfl ?_
  have hobt := obuild (r := Rp.str) (n := 1) (parts := [(0, .string (gstr ((ix d_40 a0.Enum.Done) ++ (chr (IntKind.i32.wrap ((97 : Int) + (k1_12 : Int)))))))]) (vs := [.string (gstr ((ix d_40 a0.Enum.Done) ++ (chr (IntKind.i32.wrap ((97 : Int) + (k1_12 : Int))))))]) (xs := [(ix d_40 a0.Enum.Done) ++ (chr (IntKind.i32.wrap ((97 : Int) + (k1_12 : Int))))]) rfl Try.underlying70 ti9 hO (by decide) (by kernel_rfl) (Els.cons rfl ⟨rfl, (lenApp DH)⟩ (Els.nil _ _ _) (by simp [mx])) rfl
  obtain ⟨PA, PB, mg, IV, MT, A4⟩ := hobt
  refine GoR.op (A4 rfl) rfl rfl ?_
  replace bm := bm.ch mg.ch
  replace aa := aa.ch mg.ch
  replace gl := gl.ch mg.ch
  replace iI := iI.ch mg.ch
  replace mO := mO.ch mg.ch
  replace ab := ab.ch mg.ch
  replace bn := bn.ch mg.ch
  replace aP := aP.ch mg.ch
  replace aF := aF.ch mg.ch
  replace ac := ac.ch mg.ch
  replace hO := mg.own
  replace bu := bu.ch mg.ch
  replace bv := bv.ch mg.ch
  replace a9 := a9.ch mg.ch
  replace eo := eo.ch mg.ch
  replace fX := fX.ch mg.ch
  replace iL := iL.ch mg.ch
  replace lP := lP.ch mg.ch
  replace hB := hB.trans mg.fr
  have hobt := freeze 0 hO rfl IV
  obtain ⟨hO1, pP, qI, IW⟩ := hobt
  dsimp only [eS, eZ] at hO1 pP qI
  replace bu := bu.ch pP
  replace bv := bv.ch pP
  replace a9 := a9.ch pP
  replace eo := eo.ch pP
  replace fX := fX.ch pP
  replace iL := iL.ch pP
  replace lP := lP.ch pP
  replace bm := bm.ch pP
  replace aa := aa.ch pP
  replace gl := gl.ch pP
  replace iI := iI.ch pP
  replace mO := mO.ch pP
  replace ab := ab.ch pP
  replace bn := bn.ch pP
  replace aP := aP.ch pP
  replace aF := aF.ch pP
  replace ac := ac.ch pP
  replace hB := hB.trans (Owns.dropFr _ _ 0)
  dsimp only [eS, eZ] at hB
  replace hO := hO1; clear hO1
  obtain ⟨Ly, H⟩ := H
  have hobt := oapp Try.underlying70 ti9 rfl 8 hO rfl aP qI IW Ly (by decide)
  obtain ⟨PC, Cq, Cr, IX, lL, tH, Gf⟩ := hobt
  dsimp only [sS, sZ] at lL tH
  refine GoR.op (Gf (by exact rfl) (by exact rfl)) rfl rfl ?_
  replace bm := bm.ch lL.ch
  replace aa := aa.ch lL.ch
  replace gl := gl.ch lL.ch
  replace iI := iI.ch lL.ch
  replace mO := mO.ch lL.ch
  replace ab := ab.ch lL.ch
  replace bn := bn.ch lL.ch
  replace aF := aF.ch lL.ch
  replace ac := ac.ch lL.ch
  replace hO := lL.own
  replace bu := bu.ch lL.ch
  replace bv := bv.ch lL.ch
  replace a9 := a9.ch lL.ch
  replace eo := eo.ch lL.ch
  replace fX := fX.ch lL.ch
  replace iL := iL.ch lL.ch
  replace lP := lP.ch lL.ch
  replace qI := qI.ch lL.ch
  replace hB := hB.trans lL.fr
  refine GoR.op ((op_nilCheck rfl) _) rfl rfl ?_
  refine GoR.op ((op_fieldAddr Try.underlying72 rfl ti70 rfl (by decide)) _) rfl rfl ?_
  have hobt := oblkSt2 (v := .slice Cq (n45 + 1) Cr) (i := 10) (cs' := #[.int .i64 a0.Enum.Points, .bool a0.Enum.Monoid, .slice al ak am, .slice zf (n21 + 1) zg, .slice Ag (n27 + 1) Ah, .slice Bc (n33 + 1) Bd, .slice aw aq ax, .slice p37 n39 c38, .int .i64 a0.Enum.Done, .map (some ay), .slice Cq (n45 + 1) Cr, .slice p49 n51 c50, .slice a7 a6 a8]) 1 hO rfl rfl rfl rfl
  obtain ⟨PD, kE, Gg⟩ := hobt
  dsimp only [sS, sZ] at kE
  refine GoR.op (Gg Try.underlying70 rfl ti70 (by exact rfl) (by exact rfl)) rfl rfl ?_
  replace bm := bm.ch kE.ch
  replace aa := aa.ch kE.ch
  replace gl := gl.ch kE.ch
  replace iI := iI.ch kE.ch
  replace mO := mO.ch kE.ch
  replace ab := ab.ch kE.ch
  replace bn := bn.ch kE.ch
  replace tH := tH.ch kE.ch
  replace aF := aF.ch kE.ch
  replace ac := ac.ch kE.ch
  replace hO := kE.own
  replace bu := bu.ch kE.ch
  replace bv := bv.ch kE.ch
  replace a9 := a9.ch kE.ch
  replace eo := eo.ch kE.ch
  replace fX := fX.ch kE.ch
  replace iL := iL.ch kE.ch
  replace lP := lP.ch kE.ch
  replace qI := qI.ch kE.ch
  replace hB := hB.trans kE.fr
  refine GoR.nil ?_
  refine Go1.seq ?_
  refine Go1.region ?_
  refine GoR.op ((op_move rfl) _) rfl rfl ?_
  refine GoR.op ((op_move rfl) _) rfl rfl ?_
  refine GoR.op ((op_nilCheck rfl) _) rfl rfl ?_
  refine GoR.op ((op_fieldAddr Try.underlying72 rfl ti26 rfl (by decide)) _) rfl rfl ?_
  refine GoR.op ((oblk (i := 11) 1 hO rfl rfl Try.underlying26 rfl rfl) _ (Same.refl _)) rfl rfl ?_
  refine GoR.op ((op_move rfl) _) rfl rfl ?_
  have hobt := obuild (r := Rp.int .i64) (n := 1) (parts := [(0, .int .i64 (ix (ix a0.Enum.Right (ix d_46 a0.Enum.Done)) (k1_12 : Int)))]) (vs := [.int .i64 (ix (ix a0.Enum.Right (ix d_46 a0.Enum.Done)) (k1_12 : Int))]) (xs := [(ix (ix a0.Enum.Right (ix d_46 a0.Enum.Done)) (k1_12 : Int))]) rfl Try.underlying26 ti3 hO (by decide) (by kernel_rfl) (Els.cons rfl rfl (Els.nil _ _ _) (by simp [mx])) rfl
  obtain ⟨PE, PF, lM, IY, MU, Gh⟩ := hobt
  refine GoR.op (Gh rfl) rfl rfl ?_
  replace bm := bm.ch lM.ch
  replace aa := aa.ch lM.ch
  replace gl := gl.ch lM.ch
  replace iI := iI.ch lM.ch
  replace mO := mO.ch lM.ch
  replace ab := ab.ch lM.ch
  replace bn := bn.ch lM.ch
  replace tH := tH.ch lM.ch
  replace aF := aF.ch lM.ch
  replace ac := ac.ch lM.ch
  replace hO := lM.own
  replace bu := bu.ch lM.ch
  replace bv := bv.ch lM.ch
  replace a9 := a9.ch lM.ch
  replace eo := eo.ch lM.ch
  replace fX := fX.ch lM.ch
  replace iL := iL.ch lM.ch
  replace lP := lP.ch lM.ch
  replace qI := qI.ch lM.ch
  replace hB := hB.trans lM.fr
  have hobt := freeze 0 hO rfl IY
  obtain ⟨hO1, o3, wD, IZ⟩ := hobt
  dsimp only [eS, eZ] at hO1 o3 wD
  replace bu := bu.ch o3
  replace bv := bv.ch o3
  replace a9 := a9.ch o3
  replace eo := eo.ch o3
  replace fX := fX.ch o3
  replace iL := iL.ch o3
  replace lP := lP.ch o3
  replace qI := qI.ch o3
  replace bm := bm.ch o3
  replace aa := aa.ch o3
  replace gl := gl.ch o3
  replace iI := iI.ch o3
  replace mO := mO.ch o3
  replace ab := ab.ch o3
  replace bn := bn.ch o3
  replace tH := tH.ch o3
  replace aF := aF.ch o3
  replace ac := ac.ch o3
  replace hB := hB.trans (Owns.dropFr _ _ 0)
  dsimp only [eS, eZ] at hB
  replace hO := hO1; clear hO1
  obtain ⟨Lz, H⟩ := H
  have hobt := oapp Try.underlying26 ti3 rfl 9 hO rfl aF wD IZ Lz (by decide)
  obtain ⟨PG, DW, DX, I0, fY, wy, Gi⟩ := hobt
  dsimp only [sS, sZ] at fY wy
  refine GoR.op (Gi (by exact rfl) (by exact rfl)) rfl rfl ?_
  replace bm := bm.ch fY.ch
  replace aa := aa.ch fY.ch
  replace gl := gl.ch fY.ch
  replace iI := iI.ch fY.ch
  replace mO := mO.ch fY.ch
  replace ab := ab.ch fY.ch
  replace bn := bn.ch fY.ch
  replace tH := tH.ch fY.ch
  replace ac := ac.ch fY.ch
  replace hO := fY.own
  replace bu := bu.ch fY.ch
  replace bv := bv.ch fY.ch
  replace a9 := a9.ch fY.ch
  replace eo := eo.ch fY.ch
  replace fX := fX.ch fY.ch
  replace iL := iL.ch fY.ch
  replace lP := lP.ch fY.ch
  replace qI := qI.ch fY.ch
  replace wD := wD.ch fY.ch
  replace hB := hB.trans fY.fr
  refine GoR.op ((op_nilCheck rfl) _) rfl rfl ?_
  refine GoR.op ((op_fieldAddr Try.underlying72 rfl ti26 rfl (by decide)) _) rfl rfl ?_
  have hobt := oblkSt2 (v := .slice DW (n51 + 1) DX) (i := 11) (cs' := #[.int .i64 a0.Enum.Points, .bool a0.Enum.Monoid, .slice al ak am, .slice zf (n21 + 1) zg, .slice Ag (n27 + 1) Ah, .slice Bc (n33 + 1) Bd, .slice aw aq ax, .slice p37 n39 c38, .int .i64 a0.Enum.Done, .map (some ay), .slice Cq (n45 + 1) Cr, .slice DW (n51 + 1) DX, .slice a7 a6 a8]) 1 hO rfl rfl rfl rfl
  obtain ⟨PH, ko, Gj⟩ := hobt
  dsimp only [sS, sZ] at ko
  refine GoR.op (Gj Try.underlying26 rfl ti26 (by exact rfl) (by exact rfl)) rfl rfl ?_
  replace bm := bm.ch ko.ch
  replace aa := aa.ch ko.ch
  replace gl := gl.ch ko.ch
  replace iI := iI.ch ko.ch
  replace mO := mO.ch ko.ch
  replace ab := ab.ch ko.ch
  replace bn := bn.ch ko.ch
  replace tH := tH.ch ko.ch
  replace wy := wy.ch ko.ch
  replace ac := ac.ch ko.ch
  replace hO := ko.own
  replace bu := bu.ch ko.ch
  replace bv := bv.ch ko.ch
  replace a9 := a9.ch ko.ch
  replace eo := eo.ch ko.ch
  replace fX := fX.ch ko.ch
  replace iL := iL.ch ko.ch
  replace lP := lP.ch ko.ch
  replace qI := qI.ch ko.ch
  replace wD := wD.ch ko.ch
  replace hB := hB.trans ko.fr
  refine GoR.nil ?_
  refine Go1.seq ?_
  refine Go1.cut [(13, .int .i64 (d_16.length : Int))] ⟨rfl, trivial⟩ ?_
  intro σ _
  refine Go1.region ?_
  refine GoR.op ((op_move rfl) _) rfl rfl ?_
  refine GoR.op ((op_assign rfl) _) rfl rfl ?_
  refine GoR.nil ?_
  refine Go1.ret1V Try.func65 rfl (show _ = .int .i64 (d_16.length : Int) from rfl) ?_
  refine hR377 _ _ ?_
  refine GoR.op ((op_assign rfl) _) rfl rfl ?_
  refine GoR.nil ?_
  refine Go1.inBlock ?_
  refine Go1.region ?_
  refine GoR.op ((op_move rfl) _) rfl rfl ?_
  refine GoR.op ((op_move rfl) _) rfl rfl ?_
  refine GoR.op ((op_move rfl) _) rfl rfl ?_
  obtain ⟨DY, H⟩ := H
  obtain ⟨DZ, H⟩ := H
  refine GoR.op ((op_index Try.underlying26 ti3 rfl rfl DY (ltn (bm.neq hO 0 rfl) DZ) (bm.psome hO 0 rfl DY DZ)) _) rfl rfl ?_
  have hobt := ost (r := Rp.int .i64) rfl 0 hO rfl bm DY DZ (v := .int .i64 (d_16.length : Int)) (u := (d_16.length : Int)) rfl rfl
  obtain ⟨PI, I1, kF, Ef, Gk⟩ := hobt
  dsimp only [sS, sZ] at kF Ef
  refine GoR.op (Gk Try.underlying3 rfl ti3 (by exact rfl) (by exact rfl)) rfl rfl ?_
  replace aa := aa.ch kF.ch
  replace gl := gl.ch kF.ch
  replace iI := iI.ch kF.ch
  replace mO := mO.ch kF.ch
  replace ab := ab.ch kF.ch
  replace bn := bn.ch kF.ch
  replace tH := tH.ch kF.ch
  replace wy := wy.ch kF.ch
  replace ac := ac.ch kF.ch
  replace hO := kF.own
  replace bu := bu.ch kF.ch
  replace bv := bv.ch kF.ch
  replace a9 := a9.ch kF.ch
  replace eo := eo.ch kF.ch
  replace fX := fX.ch kF.ch
  replace iL := iL.ch kF.ch
  replace lP := lP.ch kF.ch
  replace qI := qI.ch kF.ch
  replace wD := wD.ch kF.ch
  replace hB := hB.trans kF.fr
  refine GoR.nil ?_
  refine Go1.inBlock ?_
  refine Go1.region ?_
  refine GoR.op ((op_add rfl rfl (wrap_i64 (natbd h53 aa.bd))) _) rfl rfl ?_
  refine GoR.op ((op_move rfl) _) rfl rfl ?_
  refine GoR.nil ?_
  exact hX1 _ H _ _ ⟨I1, n21 + 1, zf, zg, IM, n27 + 1, Ag, Ah, IR, n33 + 1, Bc, Bd, IU, n39, p37, c38, pz, n45 + 1, Cq, Cr, IX, n51 + 1, DW, DX, I0, ⟨rfl, rfl, rfl, rfl, rfl, rfl, trivial⟩, hO, Ef, aa, gl, iI, mO, ab, bn, tH, wy, ac, hB⟩
 replace H := ifn h53 H
 refine GoR.op ((fun w => opB (op_lss rfl rfl w) (decide_eq_false h53)) _) rfl rfl ?_
 refine GoR.nil ?_
 refine Go1.seq ?_
 refine Go1.condF rfl rfl ?_
 refine Go1.exit rfl ?_
 refine Go1.seq ?_
 refine Go1.region ?_
 refine GoR.op ((op_move rfl) _) rfl rfl ?_
 refine GoR.op ((op_move rfl) _) rfl rfl ?_
 refine GoR.op ((op_nilCheck rfl) _) rfl rfl ?_
 refine GoR.op ((op_fieldAddr Try.underlying72 rfl ti29 rfl (by decide)) _) rfl rfl ?_
 refine GoR.op ((op_fieldAddr Try.underlying29 rfl ti22 rfl (by decide)) _) rfl rfl ?_
 refine GoR.op ((oblk (i := 6) 1 hO rfl rfl Try.underlying22 rfl rfl) _ (Same.refl _)) rfl rfl ?_
 refine GoR.op ((op_move rfl) _) rfl rfl ?_
 have hobt := freeze 0 hO rfl bm
 obtain ⟨hO1, vi, uz, I2⟩ := hobt
 dsimp only [eS, eZ] at hO1 vi uz
 replace aa := aa.ch vi
 replace cP := cP.ch vi
 replace bW := bW.ch vi
 replace bF := bF.ch vi
 replace ab := ab.ch vi
 replace bn := bn.ch vi
 replace aP := aP.ch vi
 replace aF := aF.ch vi
 replace ac := ac.ch vi
 replace hB := hB.trans (Owns.dropFr _ _ 0)
 dsimp only [eS, eZ] at hB
 replace hO := hO1; clear hO1
 have hobt := obuild (r := Rp.sl (Rp.int .i64)) (n := 1) (parts := [(0, .slice p2 a0.Enum.Gens.length a0.Enum.Gens.length)]) (vs := [.slice p2 a0.Enum.Gens.length a0.Enum.Gens.length]) (xs := [d_13]) rfl Try.underlying22 ti26 hO (by decide) (by kernel_rfl) (Els.cons rfl ⟨p2, a0.Enum.Gens.length, congrArg some (congrArg (fun nn => Value.slice p2 nn a0.Enum.Gens.length) I2), uz⟩ (Els.nil _ _ _) (by simp [mx])) rfl
 obtain ⟨PJ, PK, sN, I3, MV, A5⟩ := hobt
 refine GoR.op (A5 rfl) rfl rfl ?_
 replace aa := aa.ch sN.ch
 replace cP := cP.ch sN.ch
 replace bW := bW.ch sN.ch
 replace bF := bF.ch sN.ch
 replace ab := ab.ch sN.ch
 replace bn := bn.ch sN.ch
 replace aP := aP.ch sN.ch
 replace aF := aF.ch sN.ch
 replace ac := ac.ch sN.ch
 replace hO := sN.own
 replace uz := uz.ch sN.ch
 replace hB := hB.trans sN.fr
 have hobt := freeze 0 hO rfl I3
 obtain ⟨hO1, uS, wE, I4⟩ := hobt
 dsimp only [eS, eZ] at hO1 uS wE
 replace uz := uz.ch uS
 replace aa := aa.ch uS
 replace cP := cP.ch uS
 replace bW := bW.ch uS
 replace bF := bF.ch uS
 replace ab := ab.ch uS
 replace bn := bn.ch uS
 replace aP := aP.ch uS
 replace aF := aF.ch uS
 replace ac := ac.ch uS
 replace hB := hB.trans (Owns.dropFr _ _ 0)
 dsimp only [eS, eZ] at hB
 replace hO := hO1; clear hO1
 obtain ⟨LA, H⟩ := H
 have hobt := oapp Try.underlying22 ti26 rfl 5 hO rfl ab wE I4 LA (by decide)
 obtain ⟨PM, Cs, Ct, I5, qZ, yE, Gl⟩ := hobt
 dsimp only [sS, sZ] at qZ yE
 refine GoR.op (Gl (by exact rfl) (by exact rfl)) rfl rfl ?_
 replace aa := aa.ch qZ.ch
 replace cP := cP.ch qZ.ch
 replace bW := bW.ch qZ.ch
 replace bF := bF.ch qZ.ch
 replace bn := bn.ch qZ.ch
 replace aP := aP.ch qZ.ch
 replace aF := aF.ch qZ.ch
 replace ac := ac.ch qZ.ch
 replace hO := qZ.own
 replace uz := uz.ch qZ.ch
 replace wE := wE.ch qZ.ch
 replace hB := hB.trans qZ.fr
 refine GoR.op ((op_nilCheck rfl) _) rfl rfl ?_
 refine GoR.op ((op_fieldAddr Try.underlying72 rfl ti29 rfl (by decide)) _) rfl rfl ?_
 refine GoR.op ((op_fieldAddr Try.underlying29 rfl ti22 rfl (by decide)) _) rfl rfl ?_
 have hobt := oblkSt2 (v := .slice Cs (aq + 1) Ct) (i := 6) (cs' := #[.int .i64 a0.Enum.Points, .bool a0.Enum.Monoid, .slice al ak am, .slice p19 n21 c20, .slice p25 n27 c26, .slice p31 n33 c32, .slice Cs (aq + 1) Ct, .slice p37 n39 c38, .int .i64 a0.Enum.Done, .map (some ay), .slice p43 n45 c44, .slice p49 n51 c50, .slice a7 a6 a8]) 0 hO rfl rfl rfl rfl
 obtain ⟨PN, qh, Gm⟩ := hobt
 dsimp only [sS, sZ] at qh
 refine GoR.op (Gm Try.underlying22 rfl ti22 (by exact rfl) (by exact rfl)) rfl rfl ?_
 replace aa := aa.ch qh.ch
 replace cP := cP.ch qh.ch
 replace bW := bW.ch qh.ch
 replace bF := bF.ch qh.ch
 replace yE := yE.ch qh.ch
 replace bn := bn.ch qh.ch
 replace aP := aP.ch qh.ch
 replace aF := aF.ch qh.ch
 replace ac := ac.ch qh.ch
 replace hO := qh.own
 replace uz := uz.ch qh.ch
 replace wE := wE.ch qh.ch
 replace hB := hB.trans qh.fr
 refine GoR.nil ?_
 refine Go1.seq ?_
 refine Go1.cut [(0, .pointer (some ⟨d7, 0, none⟩))] ⟨rfl, trivial⟩ ?_
 intro σ _
 refine Go1.region ?_
 refine GoR.op ((op_move rfl) _) rfl rfl ?_
 refine GoR.op ((op_nilCheck rfl) _) rfl rfl ?_
 refine GoR.op ((op_fieldAddr Try.underlying72 rfl ti29 rfl (by decide)) _) rfl rfl ?_
 refine GoR.op ((op_fieldAddr Try.underlying29 rfl ti3 rfl (by decide)) _) rfl rfl ?_
 refine GoR.op ((oblk (i := 8) 0 hO rfl rfl Try.underlying3 rfl rfl) _ (Same.refl _)) rfl rfl ?_
 obtain ⟨LB, H⟩ := H
 refine GoR.op ((op_add rfl rfl (wrap_i64 LB)) _) rfl rfl ?_
 refine GoR.op ((op_nilCheck rfl) _) rfl rfl ?_
 refine GoR.op ((op_fieldAddr Try.underlying72 rfl ti29 rfl (by decide)) _) rfl rfl ?_
 refine GoR.op ((op_fieldAddr Try.underlying29 rfl ti3 rfl (by decide)) _) rfl rfl ?_
 have hobt := oblkSt2 (v := .int .i64 (a0.Enum.Done + (1 : Int))) (i := 8) (cs' := #[.int .i64 a0.Enum.Points, .bool a0.Enum.Monoid, .slice al ak am, .slice p19 n21 c20, .slice p25 n27 c26, .slice p31 n33 c32, .slice Cs (aq + 1) Ct, .slice p37 n39 c38, .int .i64 (a0.Enum.Done + (1 : Int)), .map (some ay), .slice p43 n45 c44, .slice p49 n51 c50, .slice a7 a6 a8]) 0 hO rfl rfl rfl rfl
 obtain ⟨PO, gv, Gn⟩ := hobt
 dsimp only [sS, sZ] at gv
 refine GoR.op (Gn Try.underlying3 rfl ti3 (by exact rfl) (by exact rfl)) rfl rfl ?_
 replace aa := aa.ch gv.ch
 replace cP := cP.ch gv.ch
 replace bW := bW.ch gv.ch
 replace bF := bF.ch gv.ch
 replace yE := yE.ch gv.ch
 replace bn := bn.ch gv.ch
 replace aP := aP.ch gv.ch
 replace aF := aF.ch gv.ch
 replace ac := ac.ch gv.ch
 replace hO := gv.own
 replace uz := uz.ch gv.ch
 replace wE := wE.ch gv.ch
 replace hB := hB.trans gv.fr
 refine GoR.nil ?_
 refine Go1.seq ?_
 refine Go1.region ?_
 refine GoR.op ((op_assign rfl) _) rfl rfl ?_
 refine GoR.nil ?_
 refine Go1.ret1 Try.func51 rfl ?_
 exact ⟨((0 : Int)), (⟨(⟨a0.Enum.Points, a0.Enum.Monoid, a0.Enum.Gens, d_16, d_22, d_28, a0.Enum.Right ++ ([d_13]), d_34, (a0.Enum.Done + (1 : Int))⟩ : Enum), m1_52, d_40, d_46, a0.single⟩ : run), ak, al, am, bZ, n21, p19, c20, ov, n27, p25, c26, pv, n33, p31, c32, px, (aq + 1), Cs, Ct, I5, n39, p37, c38, pz, n45, p43, c44, eQ, n51, p49, c50, eU, a6, a7, a8, cX, rfl, hO, aa, cP, bW, bF, yE, bn, aP, aF, ac, hB, H⟩
theorem body50 : Body Try.prog 50 := ⟨Try.f50, Try.func50, rfl, by kernel_rfl⟩
theorem body17 : Body Try.prog 17 := ⟨Try.f17, Try.func17, rfl, by kernel_rfl⟩
theorem walk_enumerate_Build {A : List Nat} {w0 : World} {kl : Option Addr} {km : Nat} {gens : List (List Int)} {monoid : Bool} (hA : ∀ b ∈ A, b < w0.heap.size) (cG : ISl (Rp.sl (Rp.int .i64)) A w0 kl km gens) {K : Enum → Int → Prop} (H : enumerate_Build gens monoid K) :
    CallsV Try.prog 17 #[.slice kl gens.length km, .bool monoid] w0 (fun v w' => ∃ (r0 : Enum), ∃ (r1 : Int), ∃ (rp : Option Addr), ∃ (rq : Nat), ∃ (qi : Option Addr), ∃ (qj : Nat), ∃ (o5 : Option Addr), ∃ (o6 : Nat), ∃ (rs : Option Addr), ∃ (ru : Nat), ∃ (qk : Option Addr), ∃ (ql : Nat), ∃ (qm : Option Addr), ∃ (qn : Nat), v = .tuple #[.agg #[.int .i64 r0.Points, .bool r0.Monoid, .slice rp r0.Gens.length rq, .slice qi r0.Elems.length qj, .slice o5 r0.Prefix.length o6, .slice rs r0.Last.length ru, .slice qk r0.Right.length ql, .slice qm r0.Rules.length qn, .int .i64 r0.Done], .int .i64 r1] ∧ Same w0 w' ∧ ISl (Rp.sl (Rp.int .i64)) A w' rp rq r0.Gens ∧ ISl (Rp.sl (Rp.int .i64)) A w' qi qj r0.Elems ∧ ISl (Rp.int .i64) A w' o5 o6 r0.Prefix ∧ ISl (Rp.int .i64) A w' rs ru r0.Last ∧ ISl (Rp.sl (Rp.int .i64)) A w' qk ql r0.Right ∧ ISl (rpRule) A w' qm qn r0.Rules ∧ K r0 r1) := by
 refine CallsV.of (l := [.slice kl gens.length km, .bool monoid]) Try.func17 rfl Try.ntmps17 rfl ?_
 have hO := Owns.start hA
 have hB := Fr.refl (bl []) w0
 unfold enumerate_Build at H
 replace cG := cG.ch (Ch.start A w0)
 refine Go1.seq ?_
 refine Go1.region ?_
 have hobt := oalloc (t := 29) (cs := #[.int .i64 (0 : Int), .bool false, .slice none 0 0, .slice none 0 0, .slice none 0 0, .slice none 0 0, .slice none 0 0, .slice none 0 0, .int .i64 (0 : Int)]) ti29 hO rfl
 obtain ⟨w1, B2, fE, hs4, wb⟩ := hobt
 refine GoR.op wb rfl rfl ?_
 replace hO := fE.own
 replace cG := cG.ch fE.ch
 replace hB := hB.trans fE.fr
 refine GoR.op ((op_assign rfl) _) rfl rfl ?_
 refine GoR.nil ?_
 refine Go1.seq ?_
 refine Go1.region ?_
 refine GoR.op ((op_move rfl) _) rfl rfl ?_
 refine GoR.op ((op_move rfl) _) rfl rfl ?_
 refine GoR.call (op_call body49 rfl (walk_enumerate_begin hO.lt cG H)) rfl rfl ?_
 intro v9 w10 hcase13
 refine Or.elim hcase13 ?_ ?_
 ·refine exE fun r8 => andE fun hv14 => andE fun wc => fun H => ?_
  subst hv14
  clear hcase13
  replace H := oElimN H
  have qJ := Stp.same hO wc
  replace hO := qJ.own
  replace cG := cG.ch qJ.ch
  replace hB := hB.trans qJ.fr
  refine GoR.op ((op_move rfl) _) rfl rfl ?_
  refine GoR.op ((op_extract rfl rfl) _) rfl rfl ?_
  refine GoR.op ((op_extract rfl rfl) _) rfl rfl ?_
  refine GoR.op ((op_assign rfl) _) rfl rfl ?_
  refine GoR.op ((op_assign rfl) _) rfl rfl ?_
  refine GoR.nil ?_
  refine Go1.seq ?_
  refine Go1.seq ?_
  refine Go1.region ?_
  refine GoR.op ((op_move rfl) _) rfl rfl ?_
  by_cases h16 : r8 = (0 : Int)
  ·replace H := ifp h16 H
   refine GoR.op ((fun w => opB (op_neq rfl rfl w) (ndT h16)) _) rfl rfl ?_
   refine GoR.nil ?_
   refine Go1.condF rfl rfl ?_
   refine Go1.skip ?_
   refine Go1.seq ?_
   refine Go1.block ?_
   refine Go1.loopW (S := Unit) (fun s σ w => agrees σ [(4, .pointer (some ⟨B2, 0, none⟩)), (6, .pointer none)] ∧ Owns w0.heap.size w [.blk B2 (.cells #[.int .i64 (0 : Int), .bool false, .slice none 0 0, .slice none 0 0, .slice none 0 0, .slice none 0 0, .slice none 0 0, .slice none 0 0, .int .i64 (0 : Int)] 29 (0, 0))] A ∧ Fr (bl []) w0 (bl [.blk B2 (.cells #[.int .i64 (0 : Int), .bool false, .slice none 0 0, .slice none 0 0, .slice none 0 0, .slice none 0 0, .slice none 0 0, .slice none 0 0, .int .i64 (0 : Int)] 29 (0, 0))]) w) H ⟨⟨rfl, rfl, trivial⟩, hO, hB⟩ ?_
   intro X1 _
   intro H hX1 σ w17
   refine andE fun hag => andE fun hO => fun hB => ?_
   refine Go1.keep [(4, .pointer (some ⟨B2, 0, none⟩)), (6, .pointer none)] hag ?_
   refine Go1.seq ?_
   refine Go1.seq ?_
   refine Go1.region ?_
   refine GoR.op ((op_move rfl) _) rfl rfl ?_
   refine GoR.inl (vs := [.pointer none]) (caps := []) rfl rfl body50 Try.func50 rfl Try.ntmps50 rfl rfl rfl ?_
   intro RhR18 hR18
   refine Go1.seq ?_
   refine Go1.region ?_
   refine GoR.op ((op_assign rfl) _) rfl rfl ?_
   refine GoR.nil ?_
   refine Go1.seq ?_
   refine Go1.drawS 0 [(0, .pure), (1, .pure), (2, .pure), (3, .pure), (4, .stable), (5, .pure), (6, .pure), (7, .pure), (8, .pure), (9, .stable), (10, .pure), (11, .pure), (12, .pure)] mixed (by kernel_rfl) ?_
   intro w19 D0
   have kG := Stp.same hO D0
   replace hO := kG.own
   replace hB := hB.trans kG.fr
   refine GoQ.pure rfl (op_move rfl) rfl rfl ?_
   exact H.elim
  replace H := ifn h16 H
  refine GoR.op ((fun w => opB (op_neq rfl rfl w) (ndF h16)) _) rfl rfl ?_
  refine GoR.nil ?_
  refine Go1.condT rfl rfl ?_
  refine Go1.seq ?_
  refine Go1.region ?_
  refine GoR.op ((op_build Try.underlying29 ti29 (pl := [(0, 1), (1, 1), (2, 1), (3, 1), (4, 1), (5, 1), (6, 1), (7, 1), (8, 1)]) (vs := []) (cs := #[.int .i64 (0 : Int), .bool false, .slice none 0 0, .slice none 0 0, .slice none 0 0, .slice none 0 0, .slice none 0 0, .slice none 0 0, .int .i64 (0 : Int)]) (by kernel_rfl) rfl (by kernel_rfl)) _) rfl rfl ?_
  refine GoR.op ((op_move rfl) _) rfl rfl ?_
  have hobt := oblkStAgg (us := [.int .i64 (0 : Int), .bool false, .slice none 0 0, .slice none 0 0, .slice none 0 0, .slice none 0 0, .slice none 0 0, .slice none 0 0, .int .i64 (0 : Int)]) (o := 0) (cs' := #[.int .i64 (0 : Int), .bool false, .slice none 0 0, .slice none 0 0, .slice none 0 0, .slice none 0 0, .slice none 0 0, .slice none 0 0, .int .i64 (0 : Int)]) 0 hO rfl rfl (Nat.le_of_ble_eq_true rfl) rfl
  obtain ⟨w22, gS, zM⟩ := hobt
  refine GoR.op (zM ti29 (by exact rfl) (by exact rfl) rfl) rfl rfl ?_
  replace hO := gS.own
  replace cG := cG.ch gS.ch
  replace hB := hB.trans gS.fr
  refine GoR.op ((op_assign rfl) _) rfl rfl ?_
  refine GoR.nil ?_
  refine Go1.retC2 Try.func17 rfl rfl (run_loadBlk (vs := [.int .i64 (0 : Int), .bool false, .slice none 0 0, .slice none 0 0, .slice none 0 0, .slice none 0 0, .slice none 0 0, .slice none 0 0, .int .i64 (0 : Int)]) 0 hO rfl rfl Try.underlying29 rfl ti29) ?_
  exact ⟨(⟨(0 : Int), false, ([] : List (List Int)), ([] : List (List Int)), ([] : List Int), ([] : List Int), ([] : List (List Int)), ([] : List Rule), (0 : Int)⟩ : Enum), r8, none, 0, none, 0, none, 0, none, 0, none, 0, none, 0, rfl, hB.same, (ISl.null _ _ _), (ISl.null _ _ _), (ISl.null _ _ _), (ISl.null _ _ _), (ISl.null _ _ _), (ISl.null _ _ _), H⟩
 ·refine exE fun r7 => exE fun r8 => exE fun mG => exE fun nf => exE fun kb => exE fun kc => exE fun uT => exE fun mh => exE fun jI => exE fun jJ => exE fun uG => exE fun lx => exE fun iO => exE fun iP => exE fun uf => exE fun ng => exE fun kd => exE fun ke => exE fun uU => exE fun mj => exE fun jK => exE fun jL => exE fun uH => exE fun ml => exE fun jM => exE fun jN => exE fun uI => exE fun bO => exE fun xL => exE fun xM => exE fun xN => exE fun wM => exE fun wN => exE fun wO => exE fun wP => exE fun we => exE fun wQ => exE fun wR => exE fun wS => exE fun wg => andE fun hv25 => andE fun wc => andE fun hN12 => andE fun dO => andE fun cU => andE fun cu => andE fun cH => andE fun b8 => andE fun bN => andE fun cO => andE fun cR => andE fun cS => fun H => ?_
  subst hv25
  clear hcase13
  replace H := oElimS H
  have AP := Stp.more hO wc hN12
  dsimp only [List.cons_append, List.nil_append] at AP
  replace hO := AP.own
  replace cG := cG.ch AP.ch
  replace hB := hB.trans AP.fr
  replace dO := dO.ch (Ch.assoc _ _ _ _)
  dsimp only [List.cons_append, List.nil_append] at dO
  replace cU := cU.ch (Ch.assoc _ _ _ _)
  dsimp only [List.cons_append, List.nil_append] at cU
  replace cu := cu.ch (Ch.assoc _ _ _ _)
  dsimp only [List.cons_append, List.nil_append] at cu
  replace cH := cH.ch (Ch.assoc _ _ _ _)
  dsimp only [List.cons_append, List.nil_append] at cH
  replace b8 := b8.ch (Ch.assoc _ _ _ _)
  dsimp only [List.cons_append, List.nil_append] at b8
  replace bN := bN.ch (Ch.assoc _ _ _ _)
  dsimp only [List.cons_append, List.nil_append] at bN
  replace cO := cO.ch (Ch.assoc _ _ _ _)
  dsimp only [List.cons_append, List.nil_append] at cO
  replace cR := cR.ch (Ch.assoc _ _ _ _)
  dsimp only [List.cons_append, List.nil_append] at cR
  replace cS := cS.ch (Ch.assoc _ _ _ _)
  dsimp only [List.cons_append, List.nil_append] at cS
  refine GoR.op ((op_move rfl) _) rfl rfl ?_
  refine GoR.op ((op_extract rfl rfl) _) rfl rfl ?_
  refine GoR.op ((op_extract rfl rfl) _) rfl rfl ?_
  refine GoR.op ((op_assign rfl) _) rfl rfl ?_
  refine GoR.op ((op_assign rfl) _) rfl rfl ?_
  refine GoR.nil ?_
  refine Go1.seq ?_
  refine Go1.seq ?_
  refine Go1.region ?_
  refine GoR.op ((op_move rfl) _) rfl rfl ?_
  by_cases h38 : r8 = (0 : Int)
  ·replace H := ifp h38 H
   refine GoR.op ((fun w => opB (op_neq rfl rfl w) (ndT h38)) _) rfl rfl ?_
   refine GoR.nil ?_
   refine Go1.condF rfl rfl ?_
   refine Go1.skip ?_
   refine Go1.seq ?_
   refine Go1.block ?_
   refine Go1.loopW (S := Int × Bool × Int × List (List Int) × List (List Int) × List Int × List Int × List (List Int) × List Rule × List Str × List Int × List Int × (List (Str × Int))) (fun s σ w => match s with | (k2_40, b2_41, k2_42, d_43, d_49, d_55, d_61, d_67, d_73, d_79, d_85, d_91, m2_97) => ∃ (n48 : Nat), ∃ (p46 : Option Addr), ∃ (c47 : Nat), ∃ (ta : List Value), ∃ (n54 : Nat), ∃ (p52 : Option Addr), ∃ (c53 : Nat), ∃ (tc : List Value), ∃ (n60 : Nat), ∃ (p58 : Option Addr), ∃ (c59 : Nat), ∃ (te : List Value), ∃ (n66 : Nat), ∃ (p64 : Option Addr), ∃ (c65 : Nat), ∃ (jB : List Value), ∃ (n72 : Nat), ∃ (p70 : Option Addr), ∃ (c71 : Nat), ∃ (jC : List Value), ∃ (n78 : Nat), ∃ (p76 : Option Addr), ∃ (c77 : Nat), ∃ (jD : List Value), ∃ (n84 : Nat), ∃ (p82 : Option Addr), ∃ (c83 : Nat), ∃ (iM : List Value), ∃ (n90 : Nat), ∃ (p88 : Option Addr), ∃ (c89 : Nat), ∃ (jE : List Value), ∃ (n96 : Nat), ∃ (p94 : Option Addr), ∃ (c95 : Nat), ∃ (jF : List Value), agrees σ [(4, .pointer (some ⟨B2, 0, none⟩)), (6, .pointer (some ⟨mG, 0, none⟩))] ∧ Owns w0.heap.size w [.blk mG (.cells #[.int .i64 k2_40, .bool b2_41, .slice p46 n48 c47, .slice p52 n54 c53, .slice p58 n60 c59, .slice p64 n66 c65, .slice p70 n72 c71, .slice p76 n78 c77, .int .i64 k2_42, .map (some bO), .slice p82 n84 c83, .slice p88 n90 c89, .slice p94 n96 c95] 72 (0, 0)), .row 26 1 p46 n48 c47 ta, .row 26 1 p52 n54 c53 tc, .row 3 1 p58 n60 c59 te, .row 3 1 p64 n66 c65 jB, .row 26 1 p70 n72 c71 jC, .row 39 2 p76 n78 c77 jD, .row 9 1 p82 n84 c83 iM, .row 3 1 p88 n90 c89 jE, .row 3 1 p94 n96 c95 jF, .any (mapE (fun a : List UInt8 => Value.string (gstr a)) (fun a : Int => Value.int .i64 a) bO m2_97), .blk B2 (.cells #[.int .i64 (0 : Int), .bool false, .slice none 0 0, .slice none 0 0, .slice none 0 0, .slice none 0 0, .slice none 0 0, .slice none 0 0, .int .i64 (0 : Int)] 29 (0, 0))] A ∧ Els (Rp.sl (Rp.int .i64)) (bl [.blk mG (.cells #[.int .i64 k2_40, .bool b2_41, .slice p46 n48 c47, .slice p52 n54 c53, .slice p58 n60 c59, .slice p64 n66 c65, .slice p70 n72 c71, .slice p76 n78 c77, .int .i64 k2_42, .map (some bO), .slice p82 n84 c83, .slice p88 n90 c89, .slice p94 n96 c95] 72 (0, 0)), .row 26 1 p46 n48 c47 ta, .row 26 1 p52 n54 c53 tc, .row 3 1 p58 n60 c59 te, .row 3 1 p64 n66 c65 jB, .row 26 1 p70 n72 c71 jC, .row 39 2 p76 n78 c77 jD, .row 9 1 p82 n84 c83 iM, .row 3 1 p88 n90 c89 jE, .row 3 1 p94 n96 c95 jF, .any (mapE (fun a : List UInt8 => Value.string (gstr a)) (fun a : Int => Value.int .i64 a) bO m2_97), .blk B2 (.cells #[.int .i64 (0 : Int), .bool false, .slice none 0 0, .slice none 0 0, .slice none 0 0, .slice none 0 0, .slice none 0 0, .slice none 0 0, .int .i64 (0 : Int)] 29 (0, 0))] ++ A) w ta d_43 ∧ Els (Rp.sl (Rp.int .i64)) (bl [.blk mG (.cells #[.int .i64 k2_40, .bool b2_41, .slice p46 n48 c47, .slice p52 n54 c53, .slice p58 n60 c59, .slice p64 n66 c65, .slice p70 n72 c71, .slice p76 n78 c77, .int .i64 k2_42, .map (some bO), .slice p82 n84 c83, .slice p88 n90 c89, .slice p94 n96 c95] 72 (0, 0)), .row 26 1 p46 n48 c47 ta, .row 26 1 p52 n54 c53 tc, .row 3 1 p58 n60 c59 te, .row 3 1 p64 n66 c65 jB, .row 26 1 p70 n72 c71 jC, .row 39 2 p76 n78 c77 jD, .row 9 1 p82 n84 c83 iM, .row 3 1 p88 n90 c89 jE, .row 3 1 p94 n96 c95 jF, .any (mapE (fun a : List UInt8 => Value.string (gstr a)) (fun a : Int => Value.int .i64 a) bO m2_97), .blk B2 (.cells #[.int .i64 (0 : Int), .bool false, .slice none 0 0, .slice none 0 0, .slice none 0 0, .slice none 0 0, .slice none 0 0, .slice none 0 0, .int .i64 (0 : Int)] 29 (0, 0))] ++ A) w tc d_49 ∧ Els (Rp.int .i64) (bl [.blk mG (.cells #[.int .i64 k2_40, .bool b2_41, .slice p46 n48 c47, .slice p52 n54 c53, .slice p58 n60 c59, .slice p64 n66 c65, .slice p70 n72 c71, .slice p76 n78 c77, .int .i64 k2_42, .map (some bO), .slice p82 n84 c83, .slice p88 n90 c89, .slice p94 n96 c95] 72 (0, 0)), .row 26 1 p46 n48 c47 ta, .row 26 1 p52 n54 c53 tc, .row 3 1 p58 n60 c59 te, .row 3 1 p64 n66 c65 jB, .row 26 1 p70 n72 c71 jC, .row 39 2 p76 n78 c77 jD, .row 9 1 p82 n84 c83 iM, .row 3 1 p88 n90 c89 jE, .row 3 1 p94 n96 c95 jF, .any (mapE (fun a : List UInt8 => Value.string (gstr a)) (fun a : Int => Value.int .i64 a) bO m2_97), .blk B2 (.cells #[.int .i64 (0 : Int), .bool false, .slice none 0 0, .slice none 0 0, .slice none 0 0, .slice none 0 0, .slice none 0 0, .slice none 0 0, .int .i64 (0 : Int)] 29 (0, 0))] ++ A) w te d_55 ∧ Els (Rp.int .i64) (bl [.blk mG (.cells #[.int .i64 k2_40, .bool b2_41, .slice p46 n48 c47, .slice p52 n54 c53, .slice p58 n60 c59, .slice p64 n66 c65, .slice p70 n72 c71, .slice p76 n78 c77, .int .i64 k2_42, .map (some bO), .slice p82 n84 c83, .slice p88 n90 c89, .slice p94 n96 c95] 72 (0, 0)), .row 26 1 p46 n48 c47 ta, .row 26 1 p52 n54 c53 tc, .row 3 1 p58 n60 c59 te, .row 3 1 p64 n66 c65 jB, .row 26 1 p70 n72 c71 jC, .row 39 2 p76 n78 c77 jD, .row 9 1 p82 n84 c83 iM, .row 3 1 p88 n90 c89 jE, .row 3 1 p94 n96 c95 jF, .any (mapE (fun a : List UInt8 => Value.string (gstr a)) (fun a : Int => Value.int .i64 a) bO m2_97), .blk B2 (.cells #[.int .i64 (0 : Int), .bool false, .slice none 0 0, .slice none 0 0, .slice none 0 0, .slice none 0 0, .slice none 0 0, .slice none 0 0, .int .i64 (0 : Int)] 29 (0, 0))] ++ A) w jB d_61 ∧ Els (Rp.sl (Rp.int .i64)) (bl [.blk mG (.cells #[.int .i64 k2_40, .bool b2_41, .slice p46 n48 c47, .slice p52 n54 c53, .slice p58 n60 c59, .slice p64 n66 c65, .slice p70 n72 c71, .slice p76 n78 c77, .int .i64 k2_42, .map (some bO), .slice p82 n84 c83, .slice p88 n90 c89, .slice p94 n96 c95] 72 (0, 0)), .row 26 1 p46 n48 c47 ta, .row 26 1 p52 n54 c53 tc, .row 3 1 p58 n60 c59 te, .row 3 1 p64 n66 c65 jB, .row 26 1 p70 n72 c71 jC, .row 39 2 p76 n78 c77 jD, .row 9 1 p82 n84 c83 iM, .row 3 1 p88 n90 c89 jE, .row 3 1 p94 n96 c95 jF, .any (mapE (fun a : List UInt8 => Value.string (gstr a)) (fun a : Int => Value.int .i64 a) bO m2_97), .blk B2 (.cells #[.int .i64 (0 : Int), .bool false, .slice none 0 0, .slice none 0 0, .slice none 0 0, .slice none 0 0, .slice none 0 0, .slice none 0 0, .int .i64 (0 : Int)] 29 (0, 0))] ++ A) w jC d_67 ∧ Els (rpRule) (bl [.blk mG (.cells #[.int .i64 k2_40, .bool b2_41, .slice p46 n48 c47, .slice p52 n54 c53, .slice p58 n60 c59, .slice p64 n66 c65, .slice p70 n72 c71, .slice p76 n78 c77, .int .i64 k2_42, .map (some bO), .slice p82 n84 c83, .slice p88 n90 c89, .slice p94 n96 c95] 72 (0, 0)), .row 26 1 p46 n48 c47 ta, .row 26 1 p52 n54 c53 tc, .row 3 1 p58 n60 c59 te, .row 3 1 p64 n66 c65 jB, .row 26 1 p70 n72 c71 jC, .row 39 2 p76 n78 c77 jD, .row 9 1 p82 n84 c83 iM, .row 3 1 p88 n90 c89 jE, .row 3 1 p94 n96 c95 jF, .any (mapE (fun a : List UInt8 => Value.string (gstr a)) (fun a : Int => Value.int .i64 a) bO m2_97), .blk B2 (.cells #[.int .i64 (0 : Int), .bool false, .slice none 0 0, .slice none 0 0, .slice none 0 0, .slice none 0 0, .slice none 0 0, .slice none 0 0, .int .i64 (0 : Int)] 29 (0, 0))] ++ A) w jD d_73 ∧ Els (Rp.str) (bl [.blk mG (.cells #[.int .i64 k2_40, .bool b2_41, .slice p46 n48 c47, .slice p52 n54 c53, .slice p58 n60 c59, .slice p64 n66 c65, .slice p70 n72 c71, .slice p76 n78 c77, .int .i64 k2_42, .map (some bO), .slice p82 n84 c83, .slice p88 n90 c89, .slice p94 n96 c95] 72 (0, 0)), .row 26 1 p46 n48 c47 ta, .row 26 1 p52 n54 c53 tc, .row 3 1 p58 n60 c59 te, .row 3 1 p64 n66 c65 jB, .row 26 1 p70 n72 c71 jC, .row 39 2 p76 n78 c77 jD, .row 9 1 p82 n84 c83 iM, .row 3 1 p88 n90 c89 jE, .row 3 1 p94 n96 c95 jF, .any (mapE (fun a : List UInt8 => Value.string (gstr a)) (fun a : Int => Value.int .i64 a) bO m2_97), .blk B2 (.cells #[.int .i64 (0 : Int), .bool false, .slice none 0 0, .slice none 0 0, .slice none 0 0, .slice none 0 0, .slice none 0 0, .slice none 0 0, .int .i64 (0 : Int)] 29 (0, 0))] ++ A) w iM d_79 ∧ Els (Rp.int .i64) (bl [.blk mG (.cells #[.int .i64 k2_40, .bool b2_41, .slice p46 n48 c47, .slice p52 n54 c53, .slice p58 n60 c59, .slice p64 n66 c65, .slice p70 n72 c71, .slice p76 n78 c77, .int .i64 k2_42, .map (some bO), .slice p82 n84 c83, .slice p88 n90 c89, .slice p94 n96 c95] 72 (0, 0)), .row 26 1 p46 n48 c47 ta, .row 26 1 p52 n54 c53 tc, .row 3 1 p58 n60 c59 te, .row 3 1 p64 n66 c65 jB, .row 26 1 p70 n72 c71 jC, .row 39 2 p76 n78 c77 jD, .row 9 1 p82 n84 c83 iM, .row 3 1 p88 n90 c89 jE, .row 3 1 p94 n96 c95 jF, .any (mapE (fun a : List UInt8 => Value.string (gstr a)) (fun a : Int => Value.int .i64 a) bO m2_97), .blk B2 (.cells #[.int .i64 (0 : Int), .bool false, .slice none 0 0, .slice none 0 0, .slice none 0 0, .slice none 0 0, .slice none 0 0, .slice none 0 0, .int .i64 (0 : Int)] 29 (0, 0))] ++ A) w jE d_85 ∧ Els (Rp.int .i64) (bl [.blk mG (.cells #[.int .i64 k2_40, .bool b2_41, .slice p46 n48 c47, .slice p52 n54 c53, .slice p58 n60 c59, .slice p64 n66 c65, .slice p70 n72 c71, .slice p76 n78 c77, .int .i64 k2_42, .map (some bO), .slice p82 n84 c83, .slice p88 n90 c89, .slice p94 n96 c95] 72 (0, 0)), .row 26 1 p46 n48 c47 ta, .row 26 1 p52 n54 c53 tc, .row 3 1 p58 n60 c59 te, .row 3 1 p64 n66 c65 jB, .row 26 1 p70 n72 c71 jC, .row 39 2 p76 n78 c77 jD, .row 9 1 p82 n84 c83 iM, .row 3 1 p88 n90 c89 jE, .row 3 1 p94 n96 c95 jF, .any (mapE (fun a : List UInt8 => Value.string (gstr a)) (fun a : Int => Value.int .i64 a) bO m2_97), .blk B2 (.cells #[.int .i64 (0 : Int), .bool false, .slice none 0 0, .slice none 0 0, .slice none 0 0, .slice none 0 0, .slice none 0 0, .slice none 0 0, .int .i64 (0 : Int)] 29 (0, 0))] ++ A) w jF d_91 ∧ Fr (bl []) w0 (bl [.blk mG (.cells #[.int .i64 k2_40, .bool b2_41, .slice p46 n48 c47, .slice p52 n54 c53, .slice p58 n60 c59, .slice p64 n66 c65, .slice p70 n72 c71, .slice p76 n78 c77, .int .i64 k2_42, .map (some bO), .slice p82 n84 c83, .slice p88 n90 c89, .slice p94 n96 c95] 72 (0, 0)), .row 26 1 p46 n48 c47 ta, .row 26 1 p52 n54 c53 tc, .row 3 1 p58 n60 c59 te, .row 3 1 p64 n66 c65 jB, .row 26 1 p70 n72 c71 jC, .row 39 2 p76 n78 c77 jD, .row 9 1 p82 n84 c83 iM, .row 3 1 p88 n90 c89 jE, .row 3 1 p94 n96 c95 jF, .any (mapE (fun a : List UInt8 => Value.string (gstr a)) (fun a : Int => Value.int .i64 a) bO m2_97), .blk B2 (.cells #[.int .i64 (0 : Int), .bool false, .slice none 0 0, .slice none 0 0, .slice none 0 0, .slice none 0 0, .slice none 0 0, .slice none 0 0, .int .i64 (0 : Int)] 29 (0, 0))]) w) H ⟨nf, kb, kc, uT, mh, jI, jJ, uG, lx, iO, iP, uf, ng, kd, ke, uU, mj, jK, jL, uH, ml, jM, jN, uI, xL, xM, xN, wM, wN, wO, wP, we, wQ, wR, wS, wg, ⟨rfl, rfl, trivial⟩, hO, dO, cU, cu, cH, b8, bN, cO, cR, cS, hB⟩ ?_
   intro X2
   refine prE fun k2_40 => prE fun b2_41 => prE fun k2_42 => prE fun d_43 => prE fun d_49 => prE fun d_55 => prE fun d_61 => prE fun d_67 => prE fun d_73 => prE fun d_79 => prE fun d_85 => prE fun d_91 => fun m2_97 => ?_
   intro H hX2 σ w39
   refine exE fun n48 => exE fun p46 => exE fun c47 => exE fun ta => exE fun n54 => exE fun p52 => exE fun c53 => exE fun tc => exE fun n60 => exE fun p58 => exE fun c59 => exE fun te => exE fun n66 => exE fun p64 => exE fun c65 => exE fun jB => exE fun n72 => exE fun p70 => exE fun c71 => exE fun jC => exE fun n78 => exE fun p76 => exE fun c77 => exE fun jD => exE fun n84 => exE fun p82 => exE fun c83 => exE fun iM => exE fun n90 => exE fun p88 => exE fun c89 => exE fun jE => exE fun n96 => exE fun p94 => exE fun c95 => exE fun jF => andE fun hag => andE fun hO => andE fun Ai => andE fun xO => andE fun wT => andE fun pW => andE fun lk => andE fun kg => andE fun iQ => andE fun gR => andE fun eA => fun hB => ?_
   dsimp only at H
   refine Go1.keep [(4, .pointer (some ⟨B2, 0, none⟩)), (6, .pointer (some ⟨mG, 0, none⟩))] hag ?_
   refine Go1.seq ?_
   refine Go1.seq ?_
   refine Go1.region ?_
   refine GoR.op ((op_move rfl) _) rfl rfl ?_
   refine GoR.inl (vs := [.pointer (some ⟨mG, 0, none⟩)]) (caps := []) rfl rfl body50 Try.func50 rfl Try.ntmps50 rfl rfl rfl ?_
   intro RhR98 hR98
   refine Go1.seq ?_
   refine Go1.region ?_
   refine GoR.op ((op_assign rfl) _) rfl rfl ?_
   refine GoR.nil ?_
   refine Go1.seq ?_
   refine Go1.drawS 0 [(0, .pure), (1, .pure), (2, .pure), (3, .pure), (4, .stable), (5, .pure), (6, .pure), (7, .pure), (8, .pure), (9, .stable), (10, .pure), (11, .pure), (12, .pure)] mixed (by kernel_rfl) ?_
   intro w99 I6
   have lF := Stp.same hO I6
   replace Ai := Ai.ch lF.ch
   replace xO := xO.ch lF.ch
   replace wT := wT.ch lF.ch
   replace pW := pW.ch lF.ch
   replace lk := lk.ch lF.ch
   replace kg := kg.ch lF.ch
   replace iQ := iQ.ch lF.ch
   replace gR := gR.ch lF.ch
   replace eA := eA.ch lF.ch
   replace hO := lF.own
   replace hB := hB.trans lF.fr
   refine GoQ.pure rfl (op_move rfl) rfl rfl ?_
   refine GoQ.pure rfl (op_nilCheck rfl) rfl rfl ?_
   refine GoQ.pure rfl (op_fieldAddr Try.underlying72 rfl ti29 rfl (by decide)) rfl rfl ?_
   refine GoQ.pure rfl (op_fieldAddr Try.underlying29 rfl ti3 rfl (by decide)) rfl rfl ?_
   refine GoQ.stable rfl (oblk (i := 8) 0 hO rfl rfl Try.underlying3 rfl rfl) rfl rfl ?_
   refine GoQ.pure rfl (op_move rfl) rfl rfl ?_
   refine GoQ.pure rfl (op_nilCheck rfl) rfl rfl ?_
   refine GoQ.pure rfl (op_fieldAddr Try.underlying72 rfl ti29 rfl (by decide)) rfl rfl ?_
   refine GoQ.pure rfl (op_fieldAddr Try.underlying29 rfl ti22 rfl (by decide)) rfl rfl ?_
   refine GoQ.stable rfl (oblk (i := 3) 0 hO rfl rfl Try.underlying22 rfl rfl) rfl rfl ?_
   refine GoQ.pure rfl (op_lenN Try.underlying22 rfl (xO.neq hO 2 rfl)) rfl rfl ?_
   by_cases Cu : k2_42 = (d_49.length : Int)
   ·replace H := ifp Cu H
    refine GoQ.pure rfl (fun w => opB (op_eql rfl rfl w) (decide_eq_true Cu)) rfl rfl ?_
    refine GoQ.pure rfl (op_assign rfl) rfl rfl ?_
    refine GoQ.nil ?_
    refine Go1.ret1V Try.func50 rfl (show _ = .bool true from rfl) ?_
    refine hR98 _ _ ?_
    refine GoR.op ((op_not rfl) _) rfl rfl ?_
    refine GoR.nil ?_
    refine Go1.condF rfl rfl ?_
    refine Go1.exit rfl ?_
    refine Go1.seq ?_
    refine Go1.region ?_
    refine GoR.op ((op_move rfl) _) rfl rfl ?_
    refine GoR.op ((op_nilCheck rfl) _) rfl rfl ?_
    refine GoR.op ((op_fieldAddr Try.underlying72 rfl ti29 rfl (by decide)) _) rfl rfl ?_
    refine GoR.op ((oblkAgg (vs := [.int .i64 k2_40, .bool b2_41, .slice p46 n48 c47, .slice p52 n54 c53, .slice p58 n60 c59, .slice p64 n66 c65, .slice p70 n72 c71, .slice p76 n78 c77, .int .i64 k2_42]) (i := 0) 0 hO rfl rfl Try.underlying29 rfl ti29 rfl) _ (Same.refl _)) rfl rfl ?_
    have hobt := oblkStAgg (us := [.int .i64 k2_40, .bool b2_41, .slice p46 n48 c47, .slice p52 n54 c53, .slice p58 n60 c59, .slice p64 n66 c65, .slice p70 n72 c71, .slice p76 n78 c77, .int .i64 k2_42]) (o := 0) (cs' := #[.int .i64 k2_40, .bool b2_41, .slice p46 n48 c47, .slice p52 n54 c53, .slice p58 n60 c59, .slice p64 n66 c65, .slice p70 n72 c71, .slice p76 n78 c77, .int .i64 k2_42]) 11 hO rfl rfl (Nat.le_of_ble_eq_true rfl) rfl
    obtain ⟨PP, kn, Gp⟩ := hobt
    dsimp only [sS, sZ] at kn
    refine GoR.op (Gp ti29 (by exact rfl) (by exact rfl) rfl) rfl rfl ?_
    replace Ai := Ai.ch kn.ch
    replace xO := xO.ch kn.ch
    replace wT := wT.ch kn.ch
    replace pW := pW.ch kn.ch
    replace lk := lk.ch kn.ch
    replace kg := kg.ch kn.ch
    replace iQ := iQ.ch kn.ch
    replace gR := gR.ch kn.ch
    replace eA := eA.ch kn.ch
    replace hO := kn.own
    replace hB := hB.trans kn.fr
    refine GoR.op ((op_assign rfl) _) rfl rfl ?_
    refine GoR.nil ?_
    have hobt := freeze 1 hO rfl Ai
    obtain ⟨hO1, vK, uA, I7⟩ := hobt
    dsimp only [eS, eZ] at hO1 vK uA
    replace xO := xO.ch vK
    replace wT := wT.ch vK
    replace pW := pW.ch vK
    replace lk := lk.ch vK
    replace kg := kg.ch vK
    replace iQ := iQ.ch vK
    replace gR := gR.ch vK
    replace eA := eA.ch vK
    replace hB := hB.trans (Owns.dropFr _ _ 1)
    dsimp only [eS, eZ] at hB
    replace hO := hO1; clear hO1
    have hobt := freeze 1 hO rfl xO
    obtain ⟨hO1, vL, vj, I8⟩ := hobt
    dsimp only [eS, eZ] at hO1 vL vj
    replace uA := uA.ch vL
    replace wT := wT.ch vL
    replace pW := pW.ch vL
    replace lk := lk.ch vL
    replace kg := kg.ch vL
    replace iQ := iQ.ch vL
    replace gR := gR.ch vL
    replace eA := eA.ch vL
    replace hB := hB.trans (Owns.dropFr _ _ 1)
    dsimp only [eS, eZ] at hB
    replace hO := hO1; clear hO1
    have hobt := freeze 1 hO rfl wT
    obtain ⟨hO1, vM, o4, I9⟩ := hobt
    dsimp only [eS, eZ] at hO1 vM o4
    replace uA := uA.ch vM
    replace vj := vj.ch vM
    replace pW := pW.ch vM
    replace lk := lk.ch vM
    replace kg := kg.ch vM
    replace iQ := iQ.ch vM
    replace gR := gR.ch vM
    replace eA := eA.ch vM
    replace hB := hB.trans (Owns.dropFr _ _ 1)
    dsimp only [eS, eZ] at hB
    replace hO := hO1; clear hO1
    have hobt := freeze 1 hO rfl pW
    obtain ⟨hO1, vN, yF, Ja⟩ := hobt
    dsimp only [eS, eZ] at hO1 vN yF
    replace uA := uA.ch vN
    replace vj := vj.ch vN
    replace o4 := o4.ch vN
    replace lk := lk.ch vN
    replace kg := kg.ch vN
    replace iQ := iQ.ch vN
    replace gR := gR.ch vN
    replace eA := eA.ch vN
    replace hB := hB.trans (Owns.dropFr _ _ 1)
    dsimp only [eS, eZ] at hB
    replace hO := hO1; clear hO1
    have hobt := freeze 1 hO rfl lk
    obtain ⟨hO1, vO, AQ, Jb⟩ := hobt
    dsimp only [eS, eZ] at hO1 vO AQ
    replace uA := uA.ch vO
    replace vj := vj.ch vO
    replace o4 := o4.ch vO
    replace yF := yF.ch vO
    replace kg := kg.ch vO
    replace iQ := iQ.ch vO
    replace gR := gR.ch vO
    replace eA := eA.ch vO
    replace hB := hB.trans (Owns.dropFr _ _ 1)
    dsimp only [eS, eZ] at hB
    replace hO := hO1; clear hO1
    have hobt := freeze 1 hO rfl kg
    obtain ⟨hO1, vP, Eg, Jc⟩ := hobt
    dsimp only [eS, eZ] at hO1 vP Eg
    replace uA := uA.ch vP
    replace vj := vj.ch vP
    replace o4 := o4.ch vP
    replace yF := yF.ch vP
    replace AQ := AQ.ch vP
    replace iQ := iQ.ch vP
    replace gR := gR.ch vP
    replace eA := eA.ch vP
    replace hB := hB.trans (Owns.dropFr _ _ 1)
    dsimp only [eS, eZ] at hB
    replace hO := hO1; clear hO1
    refine Go1.retC2 Try.func17 rfl rfl (run_loadBlk (vs := [.int .i64 k2_40, .bool b2_41, .slice p46 n48 c47, .slice p52 n54 c53, .slice p58 n60 c59, .slice p64 n66 c65, .slice p70 n72 c71, .slice p76 n78 c77, .int .i64 k2_42]) 5 hO rfl rfl Try.underlying29 rfl ti29) ?_
    exact ⟨(⟨k2_40, b2_41, d_43, d_49, d_55, d_61, d_67, d_73, k2_42⟩ : Enum), (0 : Int), p46, c47, p52, c53, p58, c59, p64, c65, p70, c71, p76, c77, (congrArg (fun l => Value.tuple (List.toArray l)) (cons_eq (congrArg (fun l => Value.agg (List.toArray l)) (cons_eq rfl (cons_eq rfl (cons_eq (congrArg (fun nn => Value.slice p46 nn c47) I7) (cons_eq (congrArg (fun nn => Value.slice p52 nn c53) I8) (cons_eq (congrArg (fun nn => Value.slice p58 nn c59) I9) (cons_eq (congrArg (fun nn => Value.slice p64 nn c65) Ja) (cons_eq (congrArg (fun nn => Value.slice p70 nn c71) Jb) (cons_eq (congrArg (fun nn => Value.slice p76 nn c77) Jc) (cons_eq rfl rfl)))))))))) (cons_eq rfl rfl))), hB.same, (uA.ch (Ch.weak _ _ _)), (vj.ch (Ch.weak _ _ _)), (o4.ch (Ch.weak _ _ _)), (yF.ch (Ch.weak _ _ _)), (AQ.ch (Ch.weak _ _ _)), (Eg.ch (Ch.weak _ _ _)), H⟩
   replace H := ifn Cu H
   refine GoQ.pure rfl (fun w => opB (op_eql rfl rfl w) (decide_eq_false Cu)) rfl rfl ?_
   refine GoQ.pure rfl (op_assign rfl) rfl rfl ?_
   refine GoQ.nil ?_
   refine Go1.ret1V Try.func50 rfl (show _ = .bool false from rfl) ?_
   refine hR98 _ _ ?_
   refine GoR.op ((op_not rfl) _) rfl rfl ?_
   refine GoR.nil ?_
   refine Go1.condT rfl rfl ?_
   refine Go1.skip ?_
   refine Go1.block ?_
   refine Go1.seq ?_
   refine Go1.cut [(4, .pointer (some ⟨B2, 0, none⟩)), (6, .pointer (some ⟨mG, 0, none⟩))] ⟨rfl, rfl, trivial⟩ ?_
   intro σ _
   refine Go1.region ?_
   refine GoR.op ((op_move rfl) _) rfl rfl ?_
   have Eh : Owns w0.heap.size w99 ([.blk mG (.cells #[.int .i64 k2_40, .bool b2_41, .slice p46 n48 c47, .slice p52 n54 c53, .slice p58 n60 c59, .slice p64 n66 c65, .slice p70 n72 c71, .slice p76 n78 c77, .int .i64 k2_42, .map (some bO), .slice p82 n84 c83, .slice p88 n90 c89, .slice p94 n96 c95] 72 (0, 0)), .row 26 1 p46 n48 c47 ta, .row 26 1 p52 n54 c53 tc, .row 3 1 p58 n60 c59 te, .row 3 1 p64 n66 c65 jB, .row 26 1 p70 n72 c71 jC, .row 39 2 p76 n78 c77 jD, .row 9 1 p82 n84 c83 iM, .row 3 1 p88 n90 c89 jE, .row 3 1 p94 n96 c95 jF, .any (mapE (fun a : List UInt8 => Value.string (gstr a)) (fun a : Int => Value.int .i64 a) bO m2_97)] ++ [.blk B2 (.cells #[.int .i64 (0 : Int), .bool false, .slice none 0 0, .slice none 0 0, .slice none 0 0, .slice none 0 0, .slice none 0 0, .slice none 0 0, .int .i64 (0 : Int)] 29 (0, 0))]) A := hO
   have Jd := Owns.split Eh
   have hca126 : Ch (bl [.blk mG (.cells #[.int .i64 k2_40, .bool b2_41, .slice p46 n48 c47, .slice p52 n54 c53, .slice p58 n60 c59, .slice p64 n66 c65, .slice p70 n72 c71, .slice p76 n78 c77, .int .i64 k2_42, .map (some bO), .slice p82 n84 c83, .slice p88 n90 c89, .slice p94 n96 c95] 72 (0, 0)), .row 26 1 p46 n48 c47 ta, .row 26 1 p52 n54 c53 tc, .row 3 1 p58 n60 c59 te, .row 3 1 p64 n66 c65 jB, .row 26 1 p70 n72 c71 jC, .row 39 2 p76 n78 c77 jD, .row 9 1 p82 n84 c83 iM, .row 3 1 p88 n90 c89 jE, .row 3 1 p94 n96 c95 jF, .any (mapE (fun a : List UInt8 => Value.string (gstr a)) (fun a : Int => Value.int .i64 a) bO m2_97), .blk B2 (.cells #[.int .i64 (0 : Int), .bool false, .slice none 0 0, .slice none 0 0, .slice none 0 0, .slice none 0 0, .slice none 0 0, .slice none 0 0, .int .i64 (0 : Int)] 29 (0, 0))] ++ A) w99 (bl [.blk mG (.cells #[.int .i64 k2_40, .bool b2_41, .slice p46 n48 c47, .slice p52 n54 c53, .slice p58 n60 c59, .slice p64 n66 c65, .slice p70 n72 c71, .slice p76 n78 c77, .int .i64 k2_42, .map (some bO), .slice p82 n84 c83, .slice p88 n90 c89, .slice p94 n96 c95] 72 (0, 0)), .row 26 1 p46 n48 c47 ta, .row 26 1 p52 n54 c53 tc, .row 3 1 p58 n60 c59 te, .row 3 1 p64 n66 c65 jB, .row 26 1 p70 n72 c71 jC, .row 39 2 p76 n78 c77 jD, .row 9 1 p82 n84 c83 iM, .row 3 1 p88 n90 c89 jE, .row 3 1 p94 n96 c95 jF, .any (mapE (fun a : List UInt8 => Value.string (gstr a)) (fun a : Int => Value.int .i64 a) bO m2_97)] ++ (bl [.blk B2 (.cells #[.int .i64 (0 : Int), .bool false, .slice none 0 0, .slice none 0 0, .slice none 0 0, .slice none 0 0, .slice none 0 0, .slice none 0 0, .int .i64 (0 : Int)] 29 (0, 0))] ++ A)) w99 := Ch.assoc' [.blk mG (.cells #[.int .i64 k2_40, .bool b2_41, .slice p46 n48 c47, .slice p52 n54 c53, .slice p58 n60 c59, .slice p64 n66 c65, .slice p70 n72 c71, .slice p76 n78 c77, .int .i64 k2_42, .map (some bO), .slice p82 n84 c83, .slice p88 n90 c89, .slice p94 n96 c95] 72 (0, 0)), .row 26 1 p46 n48 c47 ta, .row 26 1 p52 n54 c53 tc, .row 3 1 p58 n60 c59 te, .row 3 1 p64 n66 c65 jB, .row 26 1 p70 n72 c71 jC, .row 39 2 p76 n78 c77 jD, .row 9 1 p82 n84 c83 iM, .row 3 1 p88 n90 c89 jE, .row 3 1 p94 n96 c95 jF, .any (mapE (fun a : List UInt8 => Value.string (gstr a)) (fun a : Int => Value.int .i64 a) bO m2_97)] [.blk B2 (.cells #[.int .i64 (0 : Int), .bool false, .slice none 0 0, .slice none 0 0, .slice none 0 0, .slice none 0 0, .slice none 0 0, .slice none 0 0, .int .i64 (0 : Int)] 29 (0, 0))] A w99
   refine GoR.call (op_call body51 rfl (walk_enumerate_run_process (a0 := (⟨(⟨k2_40, b2_41, d_43, d_49, d_55, d_61, d_67, d_73, k2_42⟩ : Enum), m2_97, d_79, d_85, d_91⟩ : run)) Jd (Ai.ch hca126) (xO.ch hca126) (wT.ch hca126) (pW.ch hca126) (lk.ch hca126) (kg.ch hca126) (iQ.ch hca126) (gR.ch hca126) (eA.ch hca126) H)) rfl rfl ?_
   intro PQ Be
   refine exE fun r127 => exE fun q128 => exE fun iR => exE fun iS => exE fun iT => exE fun oN => exE fun gV => exE fun gW => exE fun gX => exE fun nz => exE fun gD => exE fun gE => exE fun gF => exE fun m3 => exE fun iU => exE fun iV => exE fun iW => exE fun oO => exE fun gY => exE fun gZ => exE fun g0 => exE fun nA => exE fun g5 => exE fun g6 => exE fun g7 => exE fun nB => exE fun mm => exE fun mo => exE fun mp => exE fun sO => exE fun kI => exE fun kK => exE fun kM => exE fun q7 => exE fun kN => exE fun kO => exE fun kP => exE fun q8 => andE fun hv134 => andE fun hN131 => andE fun oP => andE fun nC => andE fun m5 => andE fun oQ => andE fun nD => andE fun nE => andE fun sP => andE fun q9 => andE fun ra => andE fun hF132 => fun H => ?_
   subst hv134
   have nF : Stp w0.heap.size A w99 [.blk mG (.cells #[.int .i64 k2_40, .bool b2_41, .slice p46 n48 c47, .slice p52 n54 c53, .slice p58 n60 c59, .slice p64 n66 c65, .slice p70 n72 c71, .slice p76 n78 c77, .int .i64 k2_42, .map (some bO), .slice p82 n84 c83, .slice p88 n90 c89, .slice p94 n96 c95] 72 (0, 0)), .row 26 1 p46 n48 c47 ta, .row 26 1 p52 n54 c53 tc, .row 3 1 p58 n60 c59 te, .row 3 1 p64 n66 c65 jB, .row 26 1 p70 n72 c71 jC, .row 39 2 p76 n78 c77 jD, .row 9 1 p82 n84 c83 iM, .row 3 1 p88 n90 c89 jE, .row 3 1 p94 n96 c95 jF, .any (mapE (fun a : List UInt8 => Value.string (gstr a)) (fun a : Int => Value.int .i64 a) bO m2_97), .blk B2 (.cells #[.int .i64 (0 : Int), .bool false, .slice none 0 0, .slice none 0 0, .slice none 0 0, .slice none 0 0, .slice none 0 0, .slice none 0 0, .int .i64 (0 : Int)] 29 (0, 0))] Be [.blk mG (.cells #[.int .i64 q128.Enum.Points, .bool q128.Enum.Monoid, .slice iS iR iT, .slice gW gV gX, .slice gE gD gF, .slice iV iU iW, .slice gZ gY g0, .slice g6 g5 g7, .int .i64 q128.Enum.Done, .map (some bO), .slice mo mm mp, .slice kK kI kM, .slice kO kN kP] 72 (0, 0)), .row 26 1 iS iR iT oN, .row 26 1 gW gV gX nz, .row 3 1 gE gD gF m3, .row 3 1 iV iU iW oO, .row 26 1 gZ gY g0 nA, .row 39 2 g6 g5 g7 nB, .row 9 1 mo mm mp sO, .row 3 1 kK kI kM q7, .row 3 1 kO kN kP q8, .any (mapE (fun a : List UInt8 => Value.string (gstr a)) (fun a : Int => Value.int .i64 a) bO q128.number), .blk B2 (.cells #[.int .i64 (0 : Int), .bool false, .slice none 0 0, .slice none 0 0, .slice none 0 0, .slice none 0 0, .slice none 0 0, .slice none 0 0, .int .i64 (0 : Int)] 29 (0, 0))] := Stp.join Eh hN131 hF132
   replace hO := nF.own
   replace hB := hB.trans nF.fr
   have hca135 : Ch (bl [.blk mG (.cells #[.int .i64 q128.Enum.Points, .bool q128.Enum.Monoid, .slice iS iR iT, .slice gW gV gX, .slice gE gD gF, .slice iV iU iW, .slice gZ gY g0, .slice g6 g5 g7, .int .i64 q128.Enum.Done, .map (some bO), .slice mo mm mp, .slice kK kI kM, .slice kO kN kP] 72 (0, 0)), .row 26 1 iS iR iT oN, .row 26 1 gW gV gX nz, .row 3 1 gE gD gF m3, .row 3 1 iV iU iW oO, .row 26 1 gZ gY g0 nA, .row 39 2 g6 g5 g7 nB, .row 9 1 mo mm mp sO, .row 3 1 kK kI kM q7, .row 3 1 kO kN kP q8, .any (mapE (fun a : List UInt8 => Value.string (gstr a)) (fun a : Int => Value.int .i64 a) bO q128.number)] ++ (bl [.blk B2 (.cells #[.int .i64 (0 : Int), .bool false, .slice none 0 0, .slice none 0 0, .slice none 0 0, .slice none 0 0, .slice none 0 0, .slice none 0 0, .int .i64 (0 : Int)] 29 (0, 0))] ++ A)) Be (bl [.blk mG (.cells #[.int .i64 q128.Enum.Points, .bool q128.Enum.Monoid, .slice iS iR iT, .slice gW gV gX, .slice gE gD gF, .slice iV iU iW, .slice gZ gY g0, .slice g6 g5 g7, .int .i64 q128.Enum.Done, .map (some bO), .slice mo mm mp, .slice kK kI kM, .slice kO kN kP] 72 (0, 0)), .row 26 1 iS iR iT oN, .row 26 1 gW gV gX nz, .row 3 1 gE gD gF m3, .row 3 1 iV iU iW oO, .row 26 1 gZ gY g0 nA, .row 39 2 g6 g5 g7 nB, .row 9 1 mo mm mp sO, .row 3 1 kK kI kM q7, .row 3 1 kO kN kP q8, .any (mapE (fun a : List UInt8 => Value.string (gstr a)) (fun a : Int => Value.int .i64 a) bO q128.number), .blk B2 (.cells #[.int .i64 (0 : Int), .bool false, .slice none 0 0, .slice none 0 0, .slice none 0 0, .slice none 0 0, .slice none 0 0, .slice none 0 0, .int .i64 (0 : Int)] 29 (0, 0))] ++ A) Be := Ch.assoc [.blk mG (.cells #[.int .i64 q128.Enum.Points, .bool q128.Enum.Monoid, .slice iS iR iT, .slice gW gV gX, .slice gE gD gF, .slice iV iU iW, .slice gZ gY g0, .slice g6 g5 g7, .int .i64 q128.Enum.Done, .map (some bO), .slice mo mm mp, .slice kK kI kM, .slice kO kN kP] 72 (0, 0)), .row 26 1 iS iR iT oN, .row 26 1 gW gV gX nz, .row 3 1 gE gD gF m3, .row 3 1 iV iU iW oO, .row 26 1 gZ gY g0 nA, .row 39 2 g6 g5 g7 nB, .row 9 1 mo mm mp sO, .row 3 1 kK kI kM q7, .row 3 1 kO kN kP q8, .any (mapE (fun a : List UInt8 => Value.string (gstr a)) (fun a : Int => Value.int .i64 a) bO q128.number)] [.blk B2 (.cells #[.int .i64 (0 : Int), .bool false, .slice none 0 0, .slice none 0 0, .slice none 0 0, .slice none 0 0, .slice none 0 0, .slice none 0 0, .int .i64 (0 : Int)] 29 (0, 0))] A Be
   replace oP := oP.ch hca135
   replace nC := nC.ch hca135
   replace m5 := m5.ch hca135
   replace oQ := oQ.ch hca135
   replace nD := nD.ch hca135
   replace nE := nE.ch hca135
   replace sP := sP.ch hca135
   replace q9 := q9.ch hca135
   replace ra := ra.ch hca135
   refine GoR.op ((op_assign rfl) _) rfl rfl ?_
   refine GoR.nil ?_
   refine Go1.seq ?_
   refine Go1.region ?_
   refine GoR.op ((op_move rfl) _) rfl rfl ?_
   by_cases Cv : r127 = (0 : Int)
   ·replace H := ifp Cv H
    refine GoR.op ((fun w => opB (op_neq rfl rfl w) (ndT Cv)) _) rfl rfl ?_
    refine GoR.nil ?_
    refine Go1.condF rfl rfl ?_
    refine Go1.skip ?_
    refine Go1.inBlock ?_
    exact hX2 _ H _ _ ⟨iR, iS, iT, oN, gV, gW, gX, nz, gD, gE, gF, m3, iU, iV, iW, oO, gY, gZ, g0, nA, g5, g6, g7, nB, mm, mo, mp, sO, kI, kK, kM, q7, kN, kO, kP, q8, ⟨rfl, rfl, trivial⟩, hO, oP, nC, m5, oQ, nD, nE, sP, q9, ra, hB⟩
   replace H := ifn Cv H
   refine GoR.op ((fun w => opB (op_neq rfl rfl w) (ndF Cv)) _) rfl rfl ?_
   refine GoR.nil ?_
   refine Go1.condT rfl rfl ?_
   refine Go1.seq ?_
   refine Go1.region ?_
   refine GoR.op ((op_build Try.underlying29 ti29 (pl := [(0, 1), (1, 1), (2, 1), (3, 1), (4, 1), (5, 1), (6, 1), (7, 1), (8, 1)]) (vs := []) (cs := #[.int .i64 (0 : Int), .bool false, .slice none 0 0, .slice none 0 0, .slice none 0 0, .slice none 0 0, .slice none 0 0, .slice none 0 0, .int .i64 (0 : Int)]) (by kernel_rfl) rfl (by kernel_rfl)) _) rfl rfl ?_
   refine GoR.op ((op_move rfl) _) rfl rfl ?_
   have hobt := oblkStAgg (us := [.int .i64 (0 : Int), .bool false, .slice none 0 0, .slice none 0 0, .slice none 0 0, .slice none 0 0, .slice none 0 0, .slice none 0 0, .int .i64 (0 : Int)]) (o := 0) (cs' := #[.int .i64 (0 : Int), .bool false, .slice none 0 0, .slice none 0 0, .slice none 0 0, .slice none 0 0, .slice none 0 0, .slice none 0 0, .int .i64 (0 : Int)]) 11 hO rfl rfl (Nat.le_of_ble_eq_true rfl) rfl
   obtain ⟨PR, sQ, Gq⟩ := hobt
   dsimp only [sS, sZ] at sQ
   refine GoR.op (Gq ti29 (by exact rfl) (by exact rfl) rfl) rfl rfl ?_
   replace oP := oP.ch sQ.ch
   replace nC := nC.ch sQ.ch
   replace m5 := m5.ch sQ.ch
   replace oQ := oQ.ch sQ.ch
   replace nD := nD.ch sQ.ch
   replace nE := nE.ch sQ.ch
   replace sP := sP.ch sQ.ch
   replace q9 := q9.ch sQ.ch
   replace ra := ra.ch sQ.ch
   replace hO := sQ.own
   replace hB := hB.trans sQ.fr
   refine GoR.op ((op_assign rfl) _) rfl rfl ?_
   refine GoR.nil ?_
   refine Go1.retC2 Try.func17 rfl rfl (run_loadBlk (vs := [.int .i64 (0 : Int), .bool false, .slice none 0 0, .slice none 0 0, .slice none 0 0, .slice none 0 0, .slice none 0 0, .slice none 0 0, .int .i64 (0 : Int)]) 11 hO rfl rfl Try.underlying29 rfl ti29) ?_
   exact ⟨(⟨(0 : Int), false, ([] : List (List Int)), ([] : List (List Int)), ([] : List Int), ([] : List Int), ([] : List (List Int)), ([] : List Rule), (0 : Int)⟩ : Enum), r127, none, 0, none, 0, none, 0, none, 0, none, 0, none, 0, rfl, hB.same, (ISl.null _ _ _), (ISl.null _ _ _), (ISl.null _ _ _), (ISl.null _ _ _), (ISl.null _ _ _), (ISl.null _ _ _), H⟩
  replace H := ifn h38 H
  refine GoR.op ((fun w => opB (op_neq rfl rfl w) (ndF h38)) _) rfl rfl ?_
  refine GoR.nil ?_
  refine Go1.condT rfl rfl ?_
  refine Go1.seq ?_
  refine Go1.region ?_
  refine GoR.op ((op_build Try.underlying29 ti29 (pl := [(0, 1), (1, 1), (2, 1), (3, 1), (4, 1), (5, 1), (6, 1), (7, 1), (8, 1)]) (vs := []) (cs := #[.int .i64 (0 : Int), .bool false, .slice none 0 0, .slice none 0 0, .slice none 0 0, .slice none 0 0, .slice none 0 0, .slice none 0 0, .int .i64 (0 : Int)]) (by kernel_rfl) rfl (by kernel_rfl)) _) rfl rfl ?_
  refine GoR.op ((op_move rfl) _) rfl rfl ?_
  have hobt := oblkStAgg (us := [.int .i64 (0 : Int), .bool false, .slice none 0 0, .slice none 0 0, .slice none 0 0, .slice none 0 0, .slice none 0 0, .slice none 0 0, .int .i64 (0 : Int)]) (o := 0) (cs' := #[.int .i64 (0 : Int), .bool false, .slice none 0 0, .slice none 0 0, .slice none 0 0, .slice none 0 0, .slice none 0 0, .slice none 0 0, .int .i64 (0 : Int)]) 11 hO rfl rfl (Nat.le_of_ble_eq_true rfl) rfl
  obtain ⟨LD, rb, Gr⟩ := hobt
  dsimp only [sS, sZ] at rb
  refine GoR.op (Gr ti29 (by exact rfl) (by exact rfl) rfl) rfl rfl ?_
  replace dO := dO.ch rb.ch
  replace cU := cU.ch rb.ch
  replace cu := cu.ch rb.ch
  replace cH := cH.ch rb.ch
  replace b8 := b8.ch rb.ch
  replace bN := bN.ch rb.ch
  replace cO := cO.ch rb.ch
  replace cR := cR.ch rb.ch
  replace cS := cS.ch rb.ch
  replace hO := rb.own
  replace cG := cG.ch rb.ch
  replace hB := hB.trans rb.fr
  refine GoR.op ((op_assign rfl) _) rfl rfl ?_
  refine GoR.nil ?_
  refine Go1.retC2 Try.func17 rfl rfl (run_loadBlk (vs := [.int .i64 (0 : Int), .bool false, .slice none 0 0, .slice none 0 0, .slice none 0 0, .slice none 0 0, .slice none 0 0, .slice none 0 0, .int .i64 (0 : Int)]) 11 hO rfl rfl Try.underlying29 rfl ti29) ?_
  exact ⟨(⟨(0 : Int), false, ([] : List (List Int)), ([] : List (List Int)), ([] : List Int), ([] : List Int), ([] : List (List Int)), ([] : List Rule), (0 : Int)⟩ : Enum), r8, none, 0, none, 0, none, 0, none, 0, none, 0, none, 0, rfl, hB.same, (ISl.null _ _ _), (ISl.null _ _ _), (ISl.null _ _ _), (ISl.null _ _ _), (ISl.null _ _ _), (ISl.null _ _ _), H⟩
theorem body70 : Body Try.prog 70 := ⟨Try.f70, Try.func70, rfl, by kernel_rfl⟩
theorem walk_slices_Equal_int {A : List Nat} {w0 : World} {qy : Option Addr} {qz : Nat} {qA : Option Addr} {qB : Nat} {s1 : List Int} {s2 : List Int} (hA : ∀ b ∈ A, b < w0.heap.size) (jQ : ISl (Rp.int .i64) A w0 qy qz s1) (kp : ISl (Rp.int .i64) A w0 qA qB s2) {K : Bool → Prop} (H : slices_Equal_int s1 s2 K) :
    CallsV Try.prog 70 #[.slice qy s1.length qz, .slice qA s2.length qB] w0 (fun v w' => ∃ (r0 : Bool), v = .bool r0 ∧ Same w0 w' ∧ K r0) := by
 refine CallsV.of (l := [.slice qy s1.length qz, .slice qA s2.length qB]) Try.func70 rfl Try.ntmps70 rfl ?_
 have hO := Owns.start hA
 have hB := Fr.refl (bl []) w0
 unfold slices_Equal_int at H
 replace jQ := jQ.ch (Ch.start A w0)
 replace kp := kp.ch (Ch.start A w0)
 refine Go1.seq ?_
 refine Go1.region ?_
 refine GoR.op ((op_assign rfl) _) rfl rfl ?_
 refine GoR.nil ?_
 refine Go1.seq ?_
 refine Go1.seq ?_
 refine Go1.region ?_
 refine GoR.op ((op_move rfl) _) rfl rfl ?_
 refine GoR.op ((op_len Try.underlying26 rfl) _) rfl rfl ?_
 replace H := H jQ.bd
 refine GoR.op ((op_move rfl) _) rfl rfl ?_
 refine GoR.op ((op_len Try.underlying26 rfl) _) rfl rfl ?_
 replace H := H kp.bd
 by_cases h1 : (s1.length : Int) = (s2.length : Int)
 ·replace H := ifp h1 H
  refine GoR.op ((fun w => opB (op_neq rfl rfl w) (ndT h1)) _) rfl rfl ?_
  refine GoR.nil ?_
  refine Go1.condF rfl rfl ?_
  refine Go1.skip ?_
  refine Go1.seq ?_
  refine Go1.seq ?_
  refine Go1.region ?_
  refine GoR.op ((op_move rfl) _) rfl rfl ?_
  refine GoR.op ((op_len Try.underlying26 rfl) _) rfl rfl ?_
  refine GoR.op ((op_move rfl) _) rfl rfl ?_
  refine GoR.nil ?_
  refine Go1.block ?_
  refine Go1.loopW (S := Nat) (fun s σ w => agrees σ [(0, .slice qy s1.length qz), (1, .slice qA s2.length qB), (12, .int .i64 (s1.length : Int)), (13, .int .i64 (s : Int))] ∧ Owns w0.heap.size w [] A ∧ ISl (Rp.int .i64) (bl [] ++ A) w qy qz s1 ∧ ISl (Rp.int .i64) (bl [] ++ A) w qA qB s2 ∧ Fr (bl []) w0 (bl []) w) H ⟨⟨rfl, rfl, rfl, rfl, trivial⟩, hO, jQ, kp, hB⟩ ?_
  intro X1 k1_3
  intro H hX1 σ w2
  refine andE fun hag => andE fun hO => andE fun jQ => andE fun kp => fun hB => ?_
  refine Go1.keep [(0, .slice qy s1.length qz), (1, .slice qA s2.length qB), (12, .int .i64 (s1.length : Int)), (13, .int .i64 (k1_3 : Int))] hag ?_
  refine Go1.seq ?_
  refine Go1.region ?_
  by_cases h4 : (k1_3 : Int) < (s1.length : Int)
  ·replace H := ifp h4 H
   refine GoR.op ((fun w => opB (op_lss rfl rfl w) (decide_eq_true h4)) _) rfl rfl ?_
   refine GoR.nil ?_
   refine Go1.seq ?_
   refine Go1.condT rfl rfl ?_
   refine Go1.skip ?_
   refine Go1.seq ?_
   refine Go1.block ?_
   refine Go1.seq ?_
   refine Go1.region ?_
   refine GoR.op ((op_move rfl) _) rfl rfl ?_
   refine GoR.op ((op_assign rfl) _) rfl rfl ?_
   refine GoR.nil ?_
   refine Go1.seq ?_
   refine Go1.drawS 0 [(0, .pure), (1, .pure), (2, .pure), (3, .stable), (4, .pure), (5, .pure), (6, .pure), (7, .stable), (8, .pure)] mixed (by kernel_rfl) ?_
   intro w5 hs6
   have o0 := Stp.same hO hs6
   replace hO := o0.own
   replace jQ := jQ.ch o0.ch
   replace kp := kp.ch o0.ch
   replace hB := hB.trans o0.fr
   refine GoQ.pure rfl (op_move rfl) rfl rfl ?_
   refine GoQ.pure rfl (op_move rfl) rfl rfl ?_
   obtain ⟨h8, H⟩ := H
   obtain ⟨h9, H⟩ := H
   refine GoQ.pure rfl (op_index Try.underlying26 ti3 rfl rfl h8 h9 (jQ.some_ h8 h9)) rfl rfl ?_
   refine GoQ.stable rfl (ldInt jQ h8 h9 Try.underlying3 rfl rfl) rfl rfl ?_
   refine GoQ.pure rfl (op_move rfl) rfl rfl ?_
   refine GoQ.pure rfl (op_move rfl) rfl rfl ?_
   obtain ⟨h10, H⟩ := H
   obtain ⟨h11, H⟩ := H
   refine GoQ.pure rfl (op_index Try.underlying26 ti3 rfl rfl h10 h11 (kp.some_ h10 h11)) rfl rfl ?_
   refine GoQ.stable rfl (ldInt kp h10 h11 Try.underlying3 rfl rfl) rfl rfl ?_
   by_cases h12 : (ix s1 (k1_3 : Int)) = (ix s2 (k1_3 : Int))
   ·replace H := ifp h12 H
    refine GoQ.pure rfl (fun w => opB (op_neq rfl rfl w) (ndT h12)) rfl rfl ?_
    refine GoQ.nil ?_
    refine Go1.condF rfl rfl ?_
    refine Go1.skip ?_
    refine Go1.inBlock ?_
    refine Go1.region ?_
    refine GoR.op ((op_add rfl rfl (wrap_i64 (natbd h4 jQ.bd))) _) rfl rfl ?_
    refine GoR.op ((op_move rfl) _) rfl rfl ?_
    refine GoR.nil ?_
    exact hX1 _ H _ _ ⟨⟨rfl, rfl, rfl, rfl, trivial⟩, hO, jQ, kp, hB⟩
   replace H := ifn h12 H
   refine GoQ.pure rfl (fun w => opB (op_neq rfl rfl w) (ndF h12)) rfl rfl ?_
   refine GoQ.nil ?_
   refine Go1.condT rfl rfl ?_
   refine Go1.seq ?_
   refine Go1.region ?_
   refine GoR.op ((op_assign rfl) _) rfl rfl ?_
   refine GoR.nil ?_
   refine Go1.ret1 Try.func70 rfl ?_
   exact ⟨false, rfl, hB.same, H⟩
  replace H := ifn h4 H
  refine GoR.op ((fun w => opB (op_lss rfl rfl w) (decide_eq_false h4)) _) rfl rfl ?_
  refine GoR.nil ?_
  refine Go1.seq ?_
  refine Go1.condF rfl rfl ?_
  refine Go1.exit rfl ?_
  refine Go1.seq ?_
  refine Go1.region ?_
  refine GoR.op ((op_assign rfl) _) rfl rfl ?_
  refine GoR.nil ?_
  refine Go1.ret1 Try.func70 rfl ?_
  exact ⟨true, rfl, hB.same, H⟩
 replace H := ifn h1 H
 refine GoR.op ((fun w => opB (op_neq rfl rfl w) (ndF h1)) _) rfl rfl ?_
 refine GoR.nil ?_
 refine Go1.condT rfl rfl ?_
 refine Go1.seq ?_
 refine Go1.region ?_
 refine GoR.op ((op_assign rfl) _) rfl rfl ?_
 refine GoR.nil ?_
 refine Go1.ret1 Try.func70 rfl ?_
 exact ⟨false, rfl, hB.same, H⟩
theorem body69 : Body Try.prog 69 := ⟨Try.f69, Try.func69, rfl, by kernel_rfl⟩
theorem walk_slices_EqualFunc_int {A : List Nat} {w0 : World} {qy : Option Addr} {qz : Nat} {qA : Option Addr} {qB : Nat} {s1 : List (List Int)} {s2 : List (List Int)} (hA : ∀ b ∈ A, b < w0.heap.size) (jQ : ISl (Rp.sl (Rp.int .i64)) A w0 qy qz s1) (kp : ISl (Rp.sl (Rp.int .i64)) A w0 qA qB s2) {K : Bool → Prop} (H : slices_EqualFunc_int s1 s2 K) :
    CallsV Try.prog 69 #[.slice qy s1.length qz, .slice qA s2.length qB, .func (.func 70) #[] #[]] w0 (fun v w' => ∃ (r0 : Bool), v = .bool r0 ∧ Same w0 w' ∧ K r0) := by
 refine CallsV.of (l := [.slice qy s1.length qz, .slice qA s2.length qB, .func (.func 70) #[] #[]]) Try.func69 rfl Try.ntmps69 rfl ?_
 have hO := Owns.start hA
 have hB := Fr.refl (bl []) w0
 unfold slices_EqualFunc_int at H
 replace jQ := jQ.ch (Ch.start A w0)
 replace kp := kp.ch (Ch.start A w0)
 refine Go1.seq ?_
 refine Go1.region ?_
 refine GoR.op ((op_assign rfl) _) rfl rfl ?_
 refine GoR.nil ?_
 refine Go1.seq ?_
 refine Go1.seq ?_
 refine Go1.region ?_
 refine GoR.op ((op_move rfl) _) rfl rfl ?_
 refine GoR.op ((op_len Try.underlying22 rfl) _) rfl rfl ?_
 replace H := H jQ.bd
 refine GoR.op ((op_move rfl) _) rfl rfl ?_
 refine GoR.op ((op_len Try.underlying22 rfl) _) rfl rfl ?_
 replace H := H kp.bd
 by_cases h1 : (s1.length : Int) = (s2.length : Int)
 ·replace H := ifp h1 H
  refine GoR.op ((fun w => opB (op_neq rfl rfl w) (ndT h1)) _) rfl rfl ?_
  refine GoR.nil ?_
  refine Go1.condF rfl rfl ?_
  refine Go1.skip ?_
  refine Go1.seq ?_
  refine Go1.seq ?_
  refine Go1.region ?_
  refine GoR.op ((op_move rfl) _) rfl rfl ?_
  refine GoR.op ((op_len Try.underlying22 rfl) _) rfl rfl ?_
  refine GoR.op ((op_move rfl) _) rfl rfl ?_
  refine GoR.nil ?_
  refine Go1.block ?_
  refine Go1.loopW (S := Nat) (fun s σ w => agrees σ [(1, .slice qA s2.length qB), (2, .func (.func 70) #[] #[]), (15, .slice qy s1.length qz), (16, .int .i64 (s1.length : Int)), (17, .int .i64 (s : Int))] ∧ Owns w0.heap.size w [] A ∧ ISl (Rp.sl (Rp.int .i64)) (bl [] ++ A) w qy qz s1 ∧ ISl (Rp.sl (Rp.int .i64)) (bl [] ++ A) w qA qB s2 ∧ Fr (bl []) w0 (bl []) w) H ⟨⟨rfl, rfl, rfl, rfl, rfl, trivial⟩, hO, jQ, kp, hB⟩ ?_
  intro X1 k1_3
  intro H hX1 σ w2
  refine andE fun hag => andE fun hO => andE fun jQ => andE fun kp => fun hB => ?_
  refine Go1.keep [(1, .slice qA s2.length qB), (2, .func (.func 70) #[] #[]), (15, .slice qy s1.length qz), (16, .int .i64 (s1.length : Int)), (17, .int .i64 (k1_3 : Int))] hag ?_
  refine Go1.seq ?_
  refine Go1.region ?_
  by_cases h4 : (k1_3 : Int) < (s1.length : Int)
  ·replace H := ifp h4 H
   refine GoR.op ((fun w => opB (op_lss rfl rfl w) (decide_eq_true h4)) _) rfl rfl ?_
   refine GoR.nil ?_
   refine Go1.seq ?_
   refine Go1.condT rfl rfl ?_
   refine Go1.skip ?_
   refine Go1.seq ?_
   refine Go1.block ?_
   refine Go1.seq ?_
   refine Go1.region ?_
   refine GoR.op ((op_move rfl) _) rfl rfl ?_
   obtain ⟨h5, H⟩ := H
   obtain ⟨h6, H⟩ := H
   refine GoR.op ((op_index Try.underlying22 ti26 rfl rfl h5 h6 (jQ.some_ h5 h6)) _) rfl rfl ?_
   have hobt := ldSl jQ h5 h6
   obtain ⟨p7, c8, hi9, LE⟩ := hobt
   refine GoR.op ((LE Try.underlying26 rfl rfl) _ (Same.refl _)) rfl rfl ?_
   refine GoR.op ((op_assign rfl) _) rfl rfl ?_
   refine GoR.op ((op_assign rfl) _) rfl rfl ?_
   refine GoR.nil ?_
   refine Go1.seq ?_
   refine Go1.region ?_
   refine GoR.op ((op_move rfl) _) rfl rfl ?_
   refine GoR.op ((op_move rfl) _) rfl rfl ?_
   obtain ⟨h11, H⟩ := H
   obtain ⟨h12, H⟩ := H
   refine GoR.op ((op_index Try.underlying22 ti26 rfl rfl h11 h12 (kp.some_ h11 h12)) _) rfl rfl ?_
   have hobt := ldSl kp h11 h12
   obtain ⟨p13, c14, rS, LF⟩ := hobt
   refine GoR.op ((LF Try.underlying26 rfl rfl) _ (Same.refl _)) rfl rfl ?_
   refine GoR.op ((op_assign rfl) _) rfl rfl ?_
   refine GoR.nil ?_
   refine Go1.seq ?_
   refine Go1.region ?_
   refine GoR.op ((op_move rfl) _) rfl rfl ?_
   refine GoR.op ((op_move rfl) _) rfl rfl ?_
   refine GoR.op ((op_move rfl) _) rfl rfl ?_
   refine GoR.call (op_callV (caps := []) body70 rfl rfl (walk_slices_Equal_int hO.lt hi9 rS H)) rfl rfl ?_
   rintro v21 w18 ⟨r17, rfl, B7, H⟩
   have gw := Stp.same hO B7
   replace hO := gw.own
   replace jQ := jQ.ch gw.ch
   replace kp := kp.ch gw.ch
   replace hi9 := hi9.ch gw.ch
   replace rS := rS.ch gw.ch
   replace hB := hB.trans gw.fr
   cases r17
   ·replace H := ifn Bool.false_ne_true H
    refine GoR.op ((op_not rfl) _) rfl rfl ?_
    refine GoR.nil ?_
    refine Go1.condT rfl rfl ?_
    refine Go1.seq ?_
    refine Go1.region ?_
    refine GoR.op ((op_assign rfl) _) rfl rfl ?_
    refine GoR.nil ?_
    refine Go1.ret1 Try.func69 rfl ?_
    exact ⟨false, rfl, hB.same, H⟩
   replace H := ifp rfl H
   refine GoR.op ((op_not rfl) _) rfl rfl ?_
   refine GoR.nil ?_
   refine Go1.condF rfl rfl ?_
   refine Go1.skip ?_
   refine Go1.inBlock ?_
   refine Go1.cut [(1, .slice qA s2.length qB), (2, .func (.func 70) #[] #[]), (15, .slice qy s1.length qz), (16, .int .i64 (s1.length : Int)), (17, .int .i64 (k1_3 : Int))] ⟨rfl, rfl, rfl, rfl, rfl, trivial⟩ ?_
   intro σ _
   refine Go1.region ?_
   refine GoR.op ((op_add rfl rfl (wrap_i64 (natbd h4 jQ.bd))) _) rfl rfl ?_
   refine GoR.op ((op_move rfl) _) rfl rfl ?_
   refine GoR.nil ?_
   exact hX1 _ H _ _ ⟨⟨rfl, rfl, rfl, rfl, rfl, trivial⟩, hO, jQ, kp, hB⟩
  replace H := ifn h4 H
  refine GoR.op ((fun w => opB (op_lss rfl rfl w) (decide_eq_false h4)) _) rfl rfl ?_
  refine GoR.nil ?_
  refine Go1.seq ?_
  refine Go1.condF rfl rfl ?_
  refine Go1.exit rfl ?_
  refine Go1.seq ?_
  refine Go1.region ?_
  refine GoR.op ((op_assign rfl) _) rfl rfl ?_
  refine GoR.nil ?_
  refine Go1.ret1 Try.func69 rfl ?_
  exact ⟨true, rfl, hB.same, H⟩
 replace H := ifn h1 H
 refine GoR.op ((fun w => opB (op_neq rfl rfl w) (ndF h1)) _) rfl rfl ?_
 refine GoR.nil ?_
 refine Go1.condT rfl rfl ?_
 refine Go1.seq ?_
 refine Go1.region ?_
 refine GoR.op ((op_assign rfl) _) rfl rfl ?_
 refine GoR.nil ?_
 refine Go1.ret1 Try.func69 rfl ?_
 exact ⟨false, rfl, hB.same, H⟩
theorem body71 : Body Try.prog 71 := ⟨Try.f71, Try.func71, rfl, by kernel_rfl⟩
theorem walk_slices_Equal_api_Rule {A : List Nat} {w0 : World} {qy : Option Addr} {qz : Nat} {qA : Option Addr} {qB : Nat} {s1 : List Rule} {s2 : List Rule} (hA : ∀ b ∈ A, b < w0.heap.size) (jQ : ISl (rpRule) A w0 qy qz s1) (kp : ISl (rpRule) A w0 qA qB s2) {K : Bool → Prop} (H : slices_Equal_api_Rule s1 s2 K) :
    CallsV Try.prog 71 #[.slice qy s1.length qz, .slice qA s2.length qB] w0 (fun v w' => ∃ (r0 : Bool), v = .bool r0 ∧ Same w0 w' ∧ K r0) := by
 refine CallsV.of (l := [.slice qy s1.length qz, .slice qA s2.length qB]) Try.func71 rfl Try.ntmps71 rfl ?_
 have hO := Owns.start hA
 have hB := Fr.refl (bl []) w0
 unfold slices_Equal_api_Rule at H
 replace jQ := jQ.ch (Ch.start A w0)
 replace kp := kp.ch (Ch.start A w0)
 refine Go1.seq ?_
 refine Go1.region ?_
 refine GoR.op ((op_assign rfl) _) rfl rfl ?_
 refine GoR.nil ?_
 refine Go1.seq ?_
 refine Go1.seq ?_
 refine Go1.region ?_
 refine GoR.op ((op_move rfl) _) rfl rfl ?_
 refine GoR.op ((op_len Try.underlying27 rfl) _) rfl rfl ?_
 replace H := H jQ.bd
 refine GoR.op ((op_move rfl) _) rfl rfl ?_
 refine GoR.op ((op_len Try.underlying27 rfl) _) rfl rfl ?_
 replace H := H kp.bd
 by_cases h1 : (s1.length : Int) = (s2.length : Int)
 ·replace H := ifp h1 H
  refine GoR.op ((fun w => opB (op_neq rfl rfl w) (ndT h1)) _) rfl rfl ?_
  refine GoR.nil ?_
  refine Go1.condF rfl rfl ?_
  refine Go1.skip ?_
  refine Go1.seq ?_
  refine Go1.seq ?_
  refine Go1.region ?_
  refine GoR.op ((op_move rfl) _) rfl rfl ?_
  refine GoR.op ((op_len Try.underlying27 rfl) _) rfl rfl ?_
  refine GoR.op ((op_move rfl) _) rfl rfl ?_
  refine GoR.nil ?_
  refine Go1.block ?_
  refine Go1.loopW (S := Nat) (fun s σ w => agrees σ [(0, .slice qy s1.length qz), (1, .slice qA s2.length qB), (12, .int .i64 (s1.length : Int)), (13, .int .i64 (s : Int))] ∧ Owns w0.heap.size w [] A ∧ ISl (rpRule) (bl [] ++ A) w qy qz s1 ∧ ISl (rpRule) (bl [] ++ A) w qA qB s2 ∧ Fr (bl []) w0 (bl []) w) H ⟨⟨rfl, rfl, rfl, rfl, trivial⟩, hO, jQ, kp, hB⟩ ?_
  intro X1 k1_3
  intro H hX1 σ w2
  refine andE fun hag => andE fun hO => andE fun jQ => andE fun kp => fun hB => ?_
  refine Go1.keep [(0, .slice qy s1.length qz), (1, .slice qA s2.length qB), (12, .int .i64 (s1.length : Int)), (13, .int .i64 (k1_3 : Int))] hag ?_
  refine Go1.seq ?_
  refine Go1.region ?_
  by_cases h4 : (k1_3 : Int) < (s1.length : Int)
  ·replace H := ifp h4 H
   refine GoR.op ((fun w => opB (op_lss rfl rfl w) (decide_eq_true h4)) _) rfl rfl ?_
   refine GoR.nil ?_
   refine Go1.seq ?_
   refine Go1.condT rfl rfl ?_
   refine Go1.skip ?_
   refine Go1.seq ?_
   refine Go1.block ?_
   refine Go1.seq ?_
   refine Go1.region ?_
   refine GoR.op ((op_move rfl) _) rfl rfl ?_
   refine GoR.op ((op_assign rfl) _) rfl rfl ?_
   refine GoR.nil ?_
   refine Go1.seq ?_
   refine Go1.drawS 0 [(0, .pure), (1, .pure), (2, .pure), (3, .stable), (4, .pure), (5, .pure), (6, .pure), (7, .stable), (8, .pure)] mixed (by kernel_rfl) ?_
   intro w5 hs6
   have o0 := Stp.same hO hs6
   replace hO := o0.own
   replace jQ := jQ.ch o0.ch
   replace kp := kp.ch o0.ch
   replace hB := hB.trans o0.fr
   refine GoQ.pure rfl (op_move rfl) rfl rfl ?_
   refine GoQ.pure rfl (op_move rfl) rfl rfl ?_
   obtain ⟨h8, H⟩ := H
   obtain ⟨h9, H⟩ := H
   refine GoQ.pure rfl (op_index Try.underlying27 ti39 rfl rfl h8 h9 (jQ.some_ h8 h9)) rfl rfl ?_
   have hok10 := ldFlatOk jQ h8 h9
   refine GoQ.stable rfl (ldFlat jQ h8 h9 Try.underlying39 rfl ti39 rfl) rfl rfl ?_
   refine GoQ.pure rfl (op_move rfl) rfl rfl ?_
   refine GoQ.pure rfl (op_move rfl) rfl rfl ?_
   obtain ⟨h11, H⟩ := H
   obtain ⟨h12, H⟩ := H
   refine GoQ.pure rfl (op_index Try.underlying27 ti39 rfl rfl h11 h12 (kp.some_ h11 h12)) rfl rfl ?_
   have hok13 := ldFlatOk kp h11 h12
   refine GoQ.stable rfl (ldFlat kp h11 h12 Try.underlying39 rfl ti39 rfl) rfl rfl ?_
   by_cases h14 : (((ix s1 (k1_3 : Int)).Left) = ((ix s2 (k1_3 : Int)).Left) ∧ ((ix s1 (k1_3 : Int)).Right) = ((ix s2 (k1_3 : Int)).Right))
   ·replace H := ifp h14 H
    refine GoQ.pure rfl (fun w => opB (op_neqSS Try.underlying39 eqh39 eqg39 (by decide) (by decide) rfl rfl Try.underlying9 Try.underlying9 rfl rfl w) (ndT h14)) rfl rfl ?_
    refine GoQ.nil ?_
    refine Go1.condF rfl rfl ?_
    refine Go1.skip ?_
    refine Go1.inBlock ?_
    refine Go1.region ?_
    refine GoR.op ((op_add rfl rfl (wrap_i64 (natbd h4 jQ.bd))) _) rfl rfl ?_
    refine GoR.op ((op_move rfl) _) rfl rfl ?_
    refine GoR.nil ?_
    exact hX1 _ H _ _ ⟨⟨rfl, rfl, rfl, rfl, trivial⟩, hO, jQ, kp, hB⟩
   replace H := ifn h14 H
   refine GoQ.pure rfl (fun w => opB (op_neqSS Try.underlying39 eqh39 eqg39 (by decide) (by decide) rfl rfl Try.underlying9 Try.underlying9 rfl rfl w) (ndF h14)) rfl rfl ?_
   refine GoQ.nil ?_
   refine Go1.condT rfl rfl ?_
   refine Go1.seq ?_
   refine Go1.region ?_
   refine GoR.op ((op_assign rfl) _) rfl rfl ?_
   refine GoR.nil ?_
   refine Go1.ret1 Try.func71 rfl ?_
   exact ⟨false, rfl, hB.same, H⟩
  replace H := ifn h4 H
  refine GoR.op ((fun w => opB (op_lss rfl rfl w) (decide_eq_false h4)) _) rfl rfl ?_
  refine GoR.nil ?_
  refine Go1.seq ?_
  refine Go1.condF rfl rfl ?_
  refine Go1.exit rfl ?_
  refine Go1.seq ?_
  refine Go1.region ?_
  refine GoR.op ((op_assign rfl) _) rfl rfl ?_
  refine GoR.nil ?_
  refine Go1.ret1 Try.func71 rfl ?_
  exact ⟨true, rfl, hB.same, H⟩
 replace H := ifn h1 H
 refine GoR.op ((fun w => opB (op_neq rfl rfl w) (ndF h1)) _) rfl rfl ?_
 refine GoR.nil ?_
 refine Go1.condT rfl rfl ?_
 refine Go1.seq ?_
 refine Go1.region ?_
 refine GoR.op ((op_assign rfl) _) rfl rfl ?_
 refine GoR.nil ?_
 refine Go1.ret1 Try.func71 rfl ?_
 exact ⟨false, rfl, hB.same, H⟩
end Sg
