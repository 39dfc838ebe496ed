/- The walks: each call keeps to its plain transformer. Printed by walkgen.py. -/
import Derived.Test.YtjegjjdfgefkoaaTi
import Derived.Test.YtjegjjdfgefkoaaWEnumerateBuilds
namespace Sg
open Go Go.RowKit Go.Proofs
set_option linter.unusedVariables false
set_option linter.unusedSimpArgs false
set_option maxRecDepth 100000
set_option maxHeartbeats 4000000
theorem body66 : Body Try.prog 66 := ⟨Try.f66, Try.func66, rfl, by kernel_rfl⟩
theorem body67 : Body Try.prog 67 := ⟨Try.f67, Try.func67, rfl, by kernel_rfl⟩
theorem body51 : Body Try.prog 51 := ⟨Try.f51, Try.func51, rfl, by kernel_rfl⟩
theorem walk_enumerate_run_process {A : List Nat} {n0 : Nat} {w0 : World} {dZ : Nat} {ao : Nat} {ap : Option Addr} {aq : Nat} {cL : List Value} {cS : Nat} {cT : Option Addr} {cU : Nat} {d5 : List Value} {cM : Nat} {cN : Option Addr} {cO : Nat} {dY : List Value} {dg : Nat} {dh : Option Addr} {di : Nat} {eh : List Value} {aE : Nat} {aU : Option Addr} {aV : Nat} {cE : List Value} {cV : Nat} {cW : Option Addr} {cX : Nat} {d6 : List Value} {aW : Nat} {dP : Nat} {dQ : Option Addr} {dR : Nat} {f9 : List Value} {dK : Nat} {dM : Option Addr} {dN : Nat} {fI : List Value} {bD : Nat} {bE : Option Addr} {bF : Nat} {du : List Value} {a0 : run} (hO : Owns n0 w0 [.blk dZ (.cells #[.int .i64 a0.Enum.Points, .bool a0.Enum.Monoid, .slice ap ao aq, .slice cT cS cU, .slice cN cM cO, .slice dh dg di, .slice aU aE aV, .slice cW cV cX, .int .i64 a0.Enum.Done, .map (some aW), .slice dQ dP dR, .slice dM dK dN, .slice bE bD bF] 72 (0, 0)), .row 26 1 ap ao aq cL, .row 26 1 cT cS cU d5, .row 3 1 cN cM cO dY, .row 3 1 dh dg di eh, .row 26 1 aU aE aV cE, .row 39 2 cW cV cX d6, .row 9 1 dQ dP dR f9, .row 3 1 dM dK dN fI, .row 3 1 bE bD bF du, .any (mapE (fun a : List UInt8 => Value.string (gstr a)) (fun a : Int => Value.int .i64 a) aW a0.number)] A) (aa : Els (Rp.sl (Rp.int .i64)) (bl [.blk dZ (.cells #[.int .i64 a0.Enum.Points, .bool a0.Enum.Monoid, .slice ap ao aq, .slice cT cS cU, .slice cN cM cO, .slice dh dg di, .slice aU aE aV, .slice cW cV cX, .int .i64 a0.Enum.Done, .map (some aW), .slice dQ dP dR, .slice dM dK dN, .slice bE bD bF] 72 (0, 0)), .row 26 1 ap ao aq cL, .row 26 1 cT cS cU d5, .row 3 1 cN cM cO dY, .row 3 1 dh dg di eh, .row 26 1 aU aE aV cE, .row 39 2 cW cV cX d6, .row 9 1 dQ dP dR f9, .row 3 1 dM dK dN fI, .row 3 1 bE bD bF du, .any (mapE (fun a : List UInt8 => Value.string (gstr a)) (fun a : Int => Value.int .i64 a) aW a0.number)] ++ A) w0 cL a0.Enum.Gens) (rJ : Els (Rp.sl (Rp.int .i64)) (bl [.blk dZ (.cells #[.int .i64 a0.Enum.Points, .bool a0.Enum.Monoid, .slice ap ao aq, .slice cT cS cU, .slice cN cM cO, .slice dh dg di, .slice aU aE aV, .slice cW cV cX, .int .i64 a0.Enum.Done, .map (some aW), .slice dQ dP dR, .slice dM dK dN, .slice bE bD bF] 72 (0, 0)), .row 26 1 ap ao aq cL, .row 26 1 cT cS cU d5, .row 3 1 cN cM cO dY, .row 3 1 dh dg di eh, .row 26 1 aU aE aV cE, .row 39 2 cW cV cX d6, .row 9 1 dQ dP dR f9, .row 3 1 dM dK dN fI, .row 3 1 bE bD bF du, .any (mapE (fun a : List UInt8 => Value.string (gstr a)) (fun a : Int => Value.int .i64 a) aW a0.number)] ++ A) w0 d5 a0.Enum.Elems) (rb : Els (Rp.int .i64) (bl [.blk dZ (.cells #[.int .i64 a0.Enum.Points, .bool a0.Enum.Monoid, .slice ap ao aq, .slice cT cS cU, .slice cN cM cO, .slice dh dg di, .slice aU aE aV, .slice cW cV cX, .int .i64 a0.Enum.Done, .map (some aW), .slice dQ dP dR, .slice dM dK dN, .slice bE bD bF] 72 (0, 0)), .row 26 1 ap ao aq cL, .row 26 1 cT cS cU d5, .row 3 1 cN cM cO dY, .row 3 1 dh dg di eh, .row 26 1 aU aE aV cE, .row 39 2 cW cV cX d6, .row 9 1 dQ dP dR f9, .row 3 1 dM dK dN fI, .row 3 1 bE bD bF du, .any (mapE (fun a : List UInt8 => Value.string (gstr a)) (fun a : Int => Value.int .i64 a) aW a0.number)] ++ A) w0 dY a0.Enum.Prefix) (rS : Els (Rp.int .i64) (bl [.blk dZ (.cells #[.int .i64 a0.Enum.Points, .bool a0.Enum.Monoid, .slice ap ao aq, .slice cT cS cU, .slice cN cM cO, .slice dh dg di, .slice aU aE aV, .slice cW cV cX, .int .i64 a0.Enum.Done, .map (some aW), .slice dQ dP dR, .slice dM dK dN, .slice bE bD bF] 72 (0, 0)), .row 26 1 ap ao aq cL, .row 26 1 cT cS cU d5, .row 3 1 cN cM cO dY, .row 3 1 dh dg di eh, .row 26 1 aU aE aV cE, .row 39 2 cW cV cX d6, .row 9 1 dQ dP dR f9, .row 3 1 dM dK dN fI, .row 3 1 bE bD bF du, .any (mapE (fun a : List UInt8 => Value.string (gstr a)) (fun a : Int => Value.int .i64 a) aW a0.number)] ++ A) w0 eh a0.Enum.Last) (ab : Els (Rp.sl (Rp.int .i64)) (bl [.blk dZ (.cells #[.int .i64 a0.Enum.Points, .bool a0.Enum.Monoid, .slice ap ao aq, .slice cT cS cU, .slice cN cM cO, .slice dh dg di, .slice aU aE aV, .slice cW cV cX, .int .i64 a0.Enum.Done, .map (some aW), .slice dQ dP dR, .slice dM dK dN, .slice bE bD bF] 72 (0, 0)), .row 26 1 ap ao aq cL, .row 26 1 cT cS cU d5, .row 3 1 cN cM cO dY, .row 3 1 dh dg di eh, .row 26 1 aU aE aV cE, .row 39 2 cW cV cX d6, .row 9 1 dQ dP dR f9, .row 3 1 dM dK dN fI, .row 3 1 bE bD bF du, .any (mapE (fun a : List UInt8 => Value.string (gstr a)) (fun a : Int => Value.int .i64 a) aW a0.number)] ++ A) w0 cE a0.Enum.Right) (rK : Els (rpRule) (bl [.blk dZ (.cells #[.int .i64 a0.Enum.Points, .bool a0.Enum.Monoid, .slice ap ao aq, .slice cT cS cU, .slice cN cM cO, .slice dh dg di, .slice aU aE aV, .slice cW cV cX, .int .i64 a0.Enum.Done, .map (some aW), .slice dQ dP dR, .slice dM dK dN, .slice bE bD bF] 72 (0, 0)), .row 26 1 ap ao aq cL, .row 26 1 cT cS cU d5, .row 3 1 cN cM cO dY, .row 3 1 dh dg di eh, .row 26 1 aU aE aV cE, .row 39 2 cW cV cX d6, .row 9 1 dQ dP dR f9, .row 3 1 dM dK dN fI, .row 3 1 bE bD bF du, .any (mapE (fun a : List UInt8 => Value.string (gstr a)) (fun a : Int => Value.int .i64 a) aW a0.number)] ++ A) w0 d6 a0.Enum.Rules) (t7 : Els (Rp.str) (bl [.blk dZ (.cells #[.int .i64 a0.Enum.Points, .bool a0.Enum.Monoid, .slice ap ao aq, .slice cT cS cU, .slice cN cM cO, .slice dh dg di, .slice aU aE aV, .slice cW cV cX, .int .i64 a0.Enum.Done, .map (some aW), .slice dQ dP dR, .slice dM dK dN, .slice bE bD bF] 72 (0, 0)), .row 26 1 ap ao aq cL, .row 26 1 cT cS cU d5, .row 3 1 cN cM cO dY, .row 3 1 dh dg di eh, .row 26 1 aU aE aV cE, .row 39 2 cW cV cX d6, .row 9 1 dQ dP dR f9, .row 3 1 dM dK dN fI, .row 3 1 bE bD bF du, .any (mapE (fun a : List UInt8 => Value.string (gstr a)) (fun a : Int => Value.int .i64 a) aW a0.number)] ++ A) w0 f9 a0.words) (tq : Els (Rp.int .i64) (bl [.blk dZ (.cells #[.int .i64 a0.Enum.Points, .bool a0.Enum.Monoid, .slice ap ao aq, .slice cT cS cU, .slice cN cM cO, .slice dh dg di, .slice aU aE aV, .slice cW cV cX, .int .i64 a0.Enum.Done, .map (some aW), .slice dQ dP dR, .slice dM dK dN, .slice bE bD bF] 72 (0, 0)), .row 26 1 ap ao aq cL, .row 26 1 cT cS cU d5, .row 3 1 cN cM cO dY, .row 3 1 dh dg di eh, .row 26 1 aU aE aV cE, .row 39 2 cW cV cX d6, .row 9 1 dQ dP dR f9, .row 3 1 dM dK dN fI, .row 3 1 bE bD bF du, .any (mapE (fun a : List UInt8 => Value.string (gstr a)) (fun a : Int => Value.int .i64 a) aW a0.number)] ++ A) w0 fI a0.behind) (ac : Els (Rp.int .i64) (bl [.blk dZ (.cells #[.int .i64 a0.Enum.Points, .bool a0.Enum.Monoid, .slice ap ao aq, .slice cT cS cU, .slice cN cM cO, .slice dh dg di, .slice aU aE aV, .slice cW cV cX, .int .i64 a0.Enum.Done, .map (some aW), .slice dQ dP dR, .slice dM dK dN, .slice bE bD bF] 72 (0, 0)), .row 26 1 ap ao aq cL, .row 26 1 cT cS cU d5, .row 3 1 cN cM cO dY, .row 3 1 dh dg di eh, .row 26 1 aU aE aV cE, .row 39 2 cW cV cX d6, .row 9 1 dQ dP dR f9, .row 3 1 dM dK dN fI, .row 3 1 bE bD bF du, .any (mapE (fun a : List UInt8 => Value.string (gstr a)) (fun a : Int => Value.int .i64 a) aW a0.number)] ++ A) w0 du a0.single) {K : Int → run → Prop} (H : enumerate_run_process a0 K) :
    CallsV Try.prog 51 #[.pointer (some ⟨dZ, 0, none⟩)] w0 (fun v w' => ∃ (r0 : Int), ∃ (q : run), ∃ (bi : Nat), ∃ (bj : Option Addr), ∃ (bk : Nat), ∃ (cq : List Value), ∃ (aY : Nat), ∃ (aZ : Option Addr), ∃ (a5 : Nat), ∃ (cl : List Value), ∃ (aL : Nat), ∃ (aM : Option Addr), ∃ (aN : Nat), ∃ (cb : List Value), ∃ (bm : Nat), ∃ (bn : Option Addr), ∃ (bo : Nat), ∃ (cr : List Value), ∃ (a6 : Nat), ∃ (a7 : Option Addr), ∃ (a8 : Nat), ∃ (co : List Value), ∃ (a9 : Nat), ∃ (ba : Option Addr), ∃ (bc : Nat), ∃ (cp : List Value), ∃ (cf : Nat), ∃ (cg : Option Addr), ∃ (ci : Nat), ∃ (dq : List Value), ∃ (bQ : Nat), ∃ (bS : Option Addr), ∃ (bT : Nat), ∃ (da : List Value), ∃ (bU : Nat), ∃ (bV : Option Addr), ∃ (bW : Nat), ∃ (db : List Value), v = .int .i64 r0 ∧ Owns n0 w' [.blk dZ (.cells #[.int .i64 q.Enum.Points, .bool q.Enum.Monoid, .slice bj bi bk, .slice aZ aY a5, .slice aM aL aN, .slice bn bm bo, .slice a7 a6 a8, .slice ba a9 bc, .int .i64 q.Enum.Done, .map (some aW), .slice cg cf ci, .slice bS bQ bT, .slice bV bU bW] 72 (0, 0)), .row 26 1 bj bi bk cq, .row 26 1 aZ aY a5 cl, .row 3 1 aM aL aN cb, .row 3 1 bn bm bo cr, .row 26 1 a7 a6 a8 co, .row 39 2 ba a9 bc cp, .row 9 1 cg cf ci dq, .row 3 1 bS bQ bT da, .row 3 1 bV bU bW db, .any (mapE (fun a : List UInt8 => Value.string (gstr a)) (fun a : Int => Value.int .i64 a) aW q.number)] A ∧ Els (Rp.sl (Rp.int .i64)) (bl [.blk dZ (.cells #[.int .i64 q.Enum.Points, .bool q.Enum.Monoid, .slice bj bi bk, .slice aZ aY a5, .slice aM aL aN, .slice bn bm bo, .slice a7 a6 a8, .slice ba a9 bc, .int .i64 q.Enum.Done, .map (some aW), .slice cg cf ci, .slice bS bQ bT, .slice bV bU bW] 72 (0, 0)), .row 26 1 bj bi bk cq, .row 26 1 aZ aY a5 cl, .row 3 1 aM aL aN cb, .row 3 1 bn bm bo cr, .row 26 1 a7 a6 a8 co, .row 39 2 ba a9 bc cp, .row 9 1 cg cf ci dq, .row 3 1 bS bQ bT da, .row 3 1 bV bU bW db, .any (mapE (fun a : List UInt8 => Value.string (gstr a)) (fun a : Int => Value.int .i64 a) aW q.number)] ++ A) w' cq q.Enum.Gens ∧ Els (Rp.sl (Rp.int .i64)) (bl [.blk dZ (.cells #[.int .i64 q.Enum.Points, .bool q.Enum.Monoid, .slice bj bi bk, .slice aZ aY a5, .slice aM aL aN, .slice bn bm bo, .slice a7 a6 a8, .slice ba a9 bc, .int .i64 q.Enum.Done, .map (some aW), .slice cg cf ci, .slice bS bQ bT, .slice bV bU bW] 72 (0, 0)), .row 26 1 bj bi bk cq, .row 26 1 aZ aY a5 cl, .row 3 1 aM aL aN cb, .row 3 1 bn bm bo cr, .row 26 1 a7 a6 a8 co, .row 39 2 ba a9 bc cp, .row 9 1 cg cf ci dq, .row 3 1 bS bQ bT da, .row 3 1 bV bU bW db, .any (mapE (fun a : List UInt8 => Value.string (gstr a)) (fun a : Int => Value.int .i64 a) aW q.number)] ++ A) w' cl q.Enum.Elems ∧ Els (Rp.int .i64) (bl [.blk dZ (.cells #[.int .i64 q.Enum.Points, .bool q.Enum.Monoid, .slice bj bi bk, .slice aZ aY a5, .slice aM aL aN, .slice bn bm bo, .slice a7 a6 a8, .slice ba a9 bc, .int .i64 q.Enum.Done, .map (some aW), .slice cg cf ci, .slice bS bQ bT, .slice bV bU bW] 72 (0, 0)), .row 26 1 bj bi bk cq, .row 26 1 aZ aY a5 cl, .row 3 1 aM aL aN cb, .row 3 1 bn bm bo cr, .row 26 1 a7 a6 a8 co, .row 39 2 ba a9 bc cp, .row 9 1 cg cf ci dq, .row 3 1 bS bQ bT da, .row 3 1 bV bU bW db, .any (mapE (fun a : List UInt8 => Value.string (gstr a)) (fun a : Int => Value.int .i64 a) aW q.number)] ++ A) w' cb q.Enum.Prefix ∧ Els (Rp.int .i64) (bl [.blk dZ (.cells #[.int .i64 q.Enum.Points, .bool q.Enum.Monoid, .slice bj bi bk, .slice aZ aY a5, .slice aM aL aN, .slice bn bm bo, .slice a7 a6 a8, .slice ba a9 bc, .int .i64 q.Enum.Done, .map (some aW), .slice cg cf ci, .slice bS bQ bT, .slice bV bU bW] 72 (0, 0)), .row 26 1 bj bi bk cq, .row 26 1 aZ aY a5 cl, .row 3 1 aM aL aN cb, .row 3 1 bn bm bo cr, .row 26 1 a7 a6 a8 co, .row 39 2 ba a9 bc cp, .row 9 1 cg cf ci dq, .row 3 1 bS bQ bT da, .row 3 1 bV bU bW db, .any (mapE (fun a : List UInt8 => Value.string (gstr a)) (fun a : Int => Value.int .i64 a) aW q.number)] ++ A) w' cr q.Enum.Last ∧ Els (Rp.sl (Rp.int .i64)) (bl [.blk dZ (.cells #[.int .i64 q.Enum.Points, .bool q.Enum.Monoid, .slice bj bi bk, .slice aZ aY a5, .slice aM aL aN, .slice bn bm bo, .slice a7 a6 a8, .slice ba a9 bc, .int .i64 q.Enum.Done, .map (some aW), .slice cg cf ci, .slice bS bQ bT, .slice bV bU bW] 72 (0, 0)), .row 26 1 bj bi bk cq, .row 26 1 aZ aY a5 cl, .row 3 1 aM aL aN cb, .row 3 1 bn bm bo cr, .row 26 1 a7 a6 a8 co, .row 39 2 ba a9 bc cp, .row 9 1 cg cf ci dq, .row 3 1 bS bQ bT da, .row 3 1 bV bU bW db, .any (mapE (fun a : List UInt8 => Value.string (gstr a)) (fun a : Int => Value.int .i64 a) aW q.number)] ++ A) w' co q.Enum.Right ∧ Els (rpRule) (bl [.blk dZ (.cells #[.int .i64 q.Enum.Points, .bool q.Enum.Monoid, .slice bj bi bk, .slice aZ aY a5, .slice aM aL aN, .slice bn bm bo, .slice a7 a6 a8, .slice ba a9 bc, .int .i64 q.Enum.Done, .map (some aW), .slice cg cf ci, .slice bS bQ bT, .slice bV bU bW] 72 (0, 0)), .row 26 1 bj bi bk cq, .row 26 1 aZ aY a5 cl, .row 3 1 aM aL aN cb, .row 3 1 bn bm bo cr, .row 26 1 a7 a6 a8 co, .row 39 2 ba a9 bc cp, .row 9 1 cg cf ci dq, .row 3 1 bS bQ bT da, .row 3 1 bV bU bW db, .any (mapE (fun a : List UInt8 => Value.string (gstr a)) (fun a : Int => Value.int .i64 a) aW q.number)] ++ A) w' cp q.Enum.Rules ∧ Els (Rp.str) (bl [.blk dZ (.cells #[.int .i64 q.Enum.Points, .bool q.Enum.Monoid, .slice bj bi bk, .slice aZ aY a5, .slice aM aL aN, .slice bn bm bo, .slice a7 a6 a8, .slice ba a9 bc, .int .i64 q.Enum.Done, .map (some aW), .slice cg cf ci, .slice bS bQ bT, .slice bV bU bW] 72 (0, 0)), .row 26 1 bj bi bk cq, .row 26 1 aZ aY a5 cl, .row 3 1 aM aL aN cb, .row 3 1 bn bm bo cr, .row 26 1 a7 a6 a8 co, .row 39 2 ba a9 bc cp, .row 9 1 cg cf ci dq, .row 3 1 bS bQ bT da, .row 3 1 bV bU bW db, .any (mapE (fun a : List UInt8 => Value.string (gstr a)) (fun a : Int => Value.int .i64 a) aW q.number)] ++ A) w' dq q.words ∧ Els (Rp.int .i64) (bl [.blk dZ (.cells #[.int .i64 q.Enum.Points, .bool q.Enum.Monoid, .slice bj bi bk, .slice aZ aY a5, .slice aM aL aN, .slice bn bm bo, .slice a7 a6 a8, .slice ba a9 bc, .int .i64 q.Enum.Done, .map (some aW), .slice cg cf ci, .slice bS bQ bT, .slice bV bU bW] 72 (0, 0)), .row 26 1 bj bi bk cq, .row 26 1 aZ aY a5 cl, .row 3 1 aM aL aN cb, .row 3 1 bn bm bo cr, .row 26 1 a7 a6 a8 co, .row 39 2 ba a9 bc cp, .row 9 1 cg cf ci dq, .row 3 1 bS bQ bT da, .row 3 1 bV bU bW db, .any (mapE (fun a : List UInt8 => Value.string (gstr a)) (fun a : Int => Value.int .i64 a) aW q.number)] ++ A) w' da q.behind ∧ Els (Rp.int .i64) (bl [.blk dZ (.cells #[.int .i64 q.Enum.Points, .bool q.Enum.Monoid, .slice bj bi bk, .slice aZ aY a5, .slice aM aL aN, .slice bn bm bo, .slice a7 a6 a8, .slice ba a9 bc, .int .i64 q.Enum.Done, .map (some aW), .slice cg cf ci, .slice bS bQ bT, .slice bV bU bW] 72 (0, 0)), .row 26 1 bj bi bk cq, .row 26 1 aZ aY a5 cl, .row 3 1 aM aL aN cb, .row 3 1 bn bm bo cr, .row 26 1 a7 a6 a8 co, .row 39 2 ba a9 bc cp, .row 9 1 cg cf ci dq, .row 3 1 bS bQ bT da, .row 3 1 bV bU bW db, .any (mapE (fun a : List UInt8 => Value.string (gstr a)) (fun a : Int => Value.int .i64 a) aW q.number)] ++ A) w' db q.single ∧ Fr (bl [.blk dZ (.cells #[.int .i64 a0.Enum.Points, .bool a0.Enum.Monoid, .slice ap ao aq, .slice cT cS cU, .slice cN cM cO, .slice dh dg di, .slice aU aE aV, .slice cW cV cX, .int .i64 a0.Enum.Done, .map (some aW), .slice dQ dP dR, .slice dM dK dN, .slice bE bD bF] 72 (0, 0)), .row 26 1 ap ao aq cL, .row 26 1 cT cS cU d5, .row 3 1 cN cM cO dY, .row 3 1 dh dg di eh, .row 26 1 aU aE aV cE, .row 39 2 cW cV cX d6, .row 9 1 dQ dP dR f9, .row 3 1 dM dK dN fI, .row 3 1 bE bD bF du, .any (mapE (fun a : List UInt8 => Value.string (gstr a)) (fun a : Int => Value.int .i64 a) aW a0.number)]) w0 (bl [.blk dZ (.cells #[.int .i64 q.Enum.Points, .bool q.Enum.Monoid, .slice bj bi bk, .slice aZ aY a5, .slice aM aL aN, .slice bn bm bo, .slice a7 a6 a8, .slice ba a9 bc, .int .i64 q.Enum.Done, .map (some aW), .slice cg cf ci, .slice bS bQ bT, .slice bV bU bW] 72 (0, 0)), .row 26 1 bj bi bk cq, .row 26 1 aZ aY a5 cl, .row 3 1 aM aL aN cb, .row 3 1 bn bm bo cr, .row 26 1 a7 a6 a8 co, .row 39 2 ba a9 bc cp, .row 9 1 cg cf ci dq, .row 3 1 bS bQ bT da, .row 3 1 bV bU bW db, .any (mapE (fun a : List UInt8 => Value.string (gstr a)) (fun a : Int => Value.int .i64 a) aW q.number)]) w' ∧ K r0 q) := by
 refine CallsV.of (l := [.pointer (some ⟨dZ, 0, none⟩)]) Try.func51 rfl Try.ntmps51 rfl ?_
 have hB := Fr.refl (bl [.blk dZ (.cells #[.int .i64 a0.Enum.Points, .bool a0.Enum.Monoid, .slice ap ao aq, .slice cT cS cU, .slice cN cM cO, .slice dh dg di, .slice aU aE aV, .slice cW cV cX, .int .i64 a0.Enum.Done, .map (some aW), .slice dQ dP dR, .slice dM dK dN, .slice bE bD bF] 72 (0, 0)), .row 26 1 ap ao aq cL, .row 26 1 cT cS cU d5, .row 3 1 cN cM cO dY, .row 3 1 dh dg di eh, .row 26 1 aU aE aV cE, .row 39 2 cW cV cX d6, .row 9 1 dQ dP dR f9, .row 3 1 dM dK dN fI, .row 3 1 bE bD bF du, .any (mapE (fun a : List UInt8 => Value.string (gstr a)) (fun a : Int => Value.int .i64 a) aW a0.number)]) w0
 unfold enumerate_run_process at H
 refine Go1.seq ?_
 refine Go1.region ?_
 refine GoR.op ((op_assign rfl) _) rfl rfl ?_
 refine GoR.nil ?_
 refine Go1.seq ?_
 refine Go1.region ?_
 refine GoR.op ((op_move rfl) _) rfl rfl ?_
 refine GoR.op ((op_nilCheck rfl) _) rfl rfl ?_
 refine GoR.op ((op_fieldAddr Try.underlying72 rfl ti29 rfl (by decide)) _) rfl rfl ?_
 refine GoR.op ((op_fieldAddr Try.underlying29 rfl ti3 rfl (by decide)) _) rfl rfl ?_
 refine GoR.op ((oblk (i := 8) 0 hO rfl rfl Try.underlying3 rfl rfl) _ (Same.refl _)) rfl rfl ?_
 refine GoR.op ((op_assign rfl) _) rfl rfl ?_
 refine GoR.nil ?_
 refine Go1.seq ?_
 refine Go1.region ?_
 refine GoR.op ((op_move rfl) _) rfl rfl ?_
 refine GoR.op ((op_nilCheck rfl) _) rfl rfl ?_
 refine GoR.op ((op_fieldAddr Try.underlying72 rfl ti29 rfl (by decide)) _) rfl rfl ?_
 refine GoR.op ((op_fieldAddr Try.underlying29 rfl ti22 rfl (by decide)) _) rfl rfl ?_
 refine GoR.op ((oblk (i := 2) 0 hO rfl rfl Try.underlying22 rfl rfl) _ (Same.refl _)) rfl rfl ?_
 refine GoR.op ((op_lenN Try.underlying22 rfl (aa.neq hO 1 rfl)) _) rfl rfl ?_
 obtain ⟨h8, H⟩ := H
 obtain ⟨h9, H⟩ := H
 have hobt := omake (n := (a0.Enum.Gens.length : Int)) (r := Rp.int .i64) (d := (0 : Int)) Try.underlying26 ti3 (fun _ _ => rfl) rfl hO h8 h9 (by decide)
 obtain ⟨w1, p2, vs3, oF, hE5, hs6, xF⟩ := hobt
 refine GoR.op (xF rfl rfl) rfl rfl ?_
 replace aa := aa.ch oF.ch
 replace rJ := rJ.ch oF.ch
 replace rb := rb.ch oF.ch
 replace rS := rS.ch oF.ch
 replace ab := ab.ch oF.ch
 replace rK := rK.ch oF.ch
 replace t7 := t7.ch oF.ch
 replace tq := tq.ch oF.ch
 replace ac := ac.ch oF.ch
 replace hO := oF.own
 replace hB := hB.trans oF.fr
 refine GoR.op ((op_assign rfl) _) rfl rfl ?_
 refine GoR.nil ?_
 refine Go1.seq ?_
 refine Go1.seq ?_
 refine Go1.region ?_
 refine GoR.op ((op_move rfl) _) rfl rfl ?_
 refine GoR.op ((op_nilCheck rfl) _) rfl rfl ?_
 refine GoR.op ((op_fieldAddr Try.underlying72 rfl ti29 rfl (by decide)) _) rfl rfl ?_
 refine GoR.op ((op_fieldAddr Try.underlying29 rfl ti22 rfl (by decide)) _) rfl rfl ?_
 refine GoR.op ((oblk (i := 2) 1 hO rfl rfl Try.underlying22 rfl rfl) _ (Same.refl _)) rfl rfl ?_
 refine GoR.op ((op_lenN Try.underlying22 rfl (aa.neq hO 2 rfl)) _) rfl rfl ?_
 refine GoR.op ((op_move rfl) _) rfl rfl ?_
 refine GoR.nil ?_
 refine Go1.block ?_
 refine Go1.loopW (S := Nat × List Int × List (List Int) × List Int × List Int × List Rule × List Str × List Int × (List (Str × Int))) (fun s σ w => match s with | (k1_12, d_13, d_16, d_22, d_28, d_34, d_40, d_46, m1_52) => ∃ (nN : List Value), ∃ (n21 : Nat), ∃ (p19 : Option Addr), ∃ (c20 : Nat), ∃ (mt : List Value), ∃ (n27 : Nat), ∃ (p25 : Option Addr), ∃ (c26 : Nat), ∃ (nb : List Value), ∃ (n33 : Nat), ∃ (p31 : Option Addr), ∃ (c32 : Nat), ∃ (nc : List Value), ∃ (n39 : Nat), ∃ (p37 : Option Addr), ∃ (c38 : Nat), ∃ (ne : List Value), ∃ (n45 : Nat), ∃ (p43 : Option Addr), ∃ (c44 : Nat), ∃ (eB : List Value), ∃ (n51 : Nat), ∃ (p49 : Option Addr), ∃ (c50 : Nat), ∃ (eC : List Value), agrees σ [(0, .pointer (some ⟨dZ, 0, none⟩)), (3, .int .i64 a0.Enum.Done), (4, .slice p2 a0.Enum.Gens.length a0.Enum.Gens.length), (27, .slice ap ao aq), (28, .int .i64 (a0.Enum.Gens.length : Int)), (29, .int .i64 (k1_12 : Int))] ∧ Owns n0 w [.row 3 1 p2 a0.Enum.Gens.length a0.Enum.Gens.length nN, .blk dZ (.cells #[.int .i64 a0.Enum.Points, .bool a0.Enum.Monoid, .slice ap ao aq, .slice p19 n21 c20, .slice p25 n27 c26, .slice p31 n33 c32, .slice aU aE aV, .slice p37 n39 c38, .int .i64 a0.Enum.Done, .map (some aW), .slice p43 n45 c44, .slice p49 n51 c50, .slice bE bD bF] 72 (0, 0)), .row 26 1 ap ao aq cL, .row 26 1 p19 n21 c20 mt, .row 3 1 p25 n27 c26 nb, .row 3 1 p31 n33 c32 nc, .row 26 1 aU aE aV cE, .row 39 2 p37 n39 c38 ne, .row 9 1 p43 n45 c44 eB, .row 3 1 p49 n51 c50 eC, .row 3 1 bE bD bF du, .any (mapE (fun a : List UInt8 => Value.string (gstr a)) (fun a : Int => Value.int .i64 a) aW m1_52)] A ∧ Els (Rp.int .i64) (bl [.row 3 1 p2 a0.Enum.Gens.length a0.Enum.Gens.length nN, .blk dZ (.cells #[.int .i64 a0.Enum.Points, .bool a0.Enum.Monoid, .slice ap ao aq, .slice p19 n21 c20, .slice p25 n27 c26, .slice p31 n33 c32, .slice aU aE aV, .slice p37 n39 c38, .int .i64 a0.Enum.Done, .map (some aW), .slice p43 n45 c44, .slice p49 n51 c50, .slice bE bD bF] 72 (0, 0)), .row 26 1 ap ao aq cL, .row 26 1 p19 n21 c20 mt, .row 3 1 p25 n27 c26 nb, .row 3 1 p31 n33 c32 nc, .row 26 1 aU aE aV cE, .row 39 2 p37 n39 c38 ne, .row 9 1 p43 n45 c44 eB, .row 3 1 p49 n51 c50 eC, .row 3 1 bE bD bF du, .any (mapE (fun a : List UInt8 => Value.string (gstr a)) (fun a : Int => Value.int .i64 a) aW m1_52)] ++ A) w nN d_13 ∧ Els (Rp.sl (Rp.int .i64)) (bl [.row 3 1 p2 a0.Enum.Gens.length a0.Enum.Gens.length nN, .blk dZ (.cells #[.int .i64 a0.Enum.Points, .bool a0.Enum.Monoid, .slice ap ao aq, .slice p19 n21 c20, .slice p25 n27 c26, .slice p31 n33 c32, .slice aU aE aV, .slice p37 n39 c38, .int .i64 a0.Enum.Done, .map (some aW), .slice p43 n45 c44, .slice p49 n51 c50, .slice bE bD bF] 72 (0, 0)), .row 26 1 ap ao aq cL, .row 26 1 p19 n21 c20 mt, .row 3 1 p25 n27 c26 nb, .row 3 1 p31 n33 c32 nc, .row 26 1 aU aE aV cE, .row 39 2 p37 n39 c38 ne, .row 9 1 p43 n45 c44 eB, .row 3 1 p49 n51 c50 eC, .row 3 1 bE bD bF du, .any (mapE (fun a : List UInt8 => Value.string (gstr a)) (fun a : Int => Value.int .i64 a) aW m1_52)] ++ A) w cL a0.Enum.Gens ∧ Els (Rp.sl (Rp.int .i64)) (bl [.row 3 1 p2 a0.Enum.Gens.length a0.Enum.Gens.length nN, .blk dZ (.cells #[.int .i64 a0.Enum.Points, .bool a0.Enum.Monoid, .slice ap ao aq, .slice p19 n21 c20, .slice p25 n27 c26, .slice p31 n33 c32, .slice aU aE aV, .slice p37 n39 c38, .int .i64 a0.Enum.Done, .map (some aW), .slice p43 n45 c44, .slice p49 n51 c50, .slice bE bD bF] 72 (0, 0)), .row 26 1 ap ao aq cL, .row 26 1 p19 n21 c20 mt, .row 3 1 p25 n27 c26 nb, .row 3 1 p31 n33 c32 nc, .row 26 1 aU aE aV cE, .row 39 2 p37 n39 c38 ne, .row 9 1 p43 n45 c44 eB, .row 3 1 p49 n51 c50 eC, .row 3 1 bE bD bF du, .any (mapE (fun a : List UInt8 => Value.string (gstr a)) (fun a : Int => Value.int .i64 a) aW m1_52)] ++ A) w mt d_16 ∧ Els (Rp.int .i64) (bl [.row 3 1 p2 a0.Enum.Gens.length a0.Enum.Gens.length nN, .blk dZ (.cells #[.int .i64 a0.Enum.Points, .bool a0.Enum.Monoid, .slice ap ao aq, .slice p19 n21 c20, .slice p25 n27 c26, .slice p31 n33 c32, .slice aU aE aV, .slice p37 n39 c38, .int .i64 a0.Enum.Done, .map (some aW), .slice p43 n45 c44, .slice p49 n51 c50, .slice bE bD bF] 72 (0, 0)), .row 26 1 ap ao aq cL, .row 26 1 p19 n21 c20 mt, .row 3 1 p25 n27 c26 nb, .row 3 1 p31 n33 c32 nc, .row 26 1 aU aE aV cE, .row 39 2 p37 n39 c38 ne, .row 9 1 p43 n45 c44 eB, .row 3 1 p49 n51 c50 eC, .row 3 1 bE bD bF du, .any (mapE (fun a : List UInt8 => Value.string (gstr a)) (fun a : Int => Value.int .i64 a) aW m1_52)] ++ A) w nb d_22 ∧ Els (Rp.int .i64) (bl [.row 3 1 p2 a0.Enum.Gens.length a0.Enum.Gens.length nN, .blk dZ (.cells #[.int .i64 a0.Enum.Points, .bool a0.Enum.Monoid, .slice ap ao aq, .slice p19 n21 c20, .slice p25 n27 c26, .slice p31 n33 c32, .slice aU aE aV, .slice p37 n39 c38, .int .i64 a0.Enum.Done, .map (some aW), .slice p43 n45 c44, .slice p49 n51 c50, .slice bE bD bF] 72 (0, 0)), .row 26 1 ap ao aq cL, .row 26 1 p19 n21 c20 mt, .row 3 1 p25 n27 c26 nb, .row 3 1 p31 n33 c32 nc, .row 26 1 aU aE aV cE, .row 39 2 p37 n39 c38 ne, .row 9 1 p43 n45 c44 eB, .row 3 1 p49 n51 c50 eC, .row 3 1 bE bD bF du, .any (mapE (fun a : List UInt8 => Value.string (gstr a)) (fun a : Int => Value.int .i64 a) aW m1_52)] ++ A) w nc d_28 ∧ Els (Rp.sl (Rp.int .i64)) (bl [.row 3 1 p2 a0.Enum.Gens.length a0.Enum.Gens.length nN, .blk dZ (.cells #[.int .i64 a0.Enum.Points, .bool a0.Enum.Monoid, .slice ap ao aq, .slice p19 n21 c20, .slice p25 n27 c26, .slice p31 n33 c32, .slice aU aE aV, .slice p37 n39 c38, .int .i64 a0.Enum.Done, .map (some aW), .slice p43 n45 c44, .slice p49 n51 c50, .slice bE bD bF] 72 (0, 0)), .row 26 1 ap ao aq cL, .row 26 1 p19 n21 c20 mt, .row 3 1 p25 n27 c26 nb, .row 3 1 p31 n33 c32 nc, .row 26 1 aU aE aV cE, .row 39 2 p37 n39 c38 ne, .row 9 1 p43 n45 c44 eB, .row 3 1 p49 n51 c50 eC, .row 3 1 bE bD bF du, .any (mapE (fun a : List UInt8 => Value.string (gstr a)) (fun a : Int => Value.int .i64 a) aW m1_52)] ++ A) w cE a0.Enum.Right ∧ Els (rpRule) (bl [.row 3 1 p2 a0.Enum.Gens.length a0.Enum.Gens.length nN, .blk dZ (.cells #[.int .i64 a0.Enum.Points, .bool a0.Enum.Monoid, .slice ap ao aq, .slice p19 n21 c20, .slice p25 n27 c26, .slice p31 n33 c32, .slice aU aE aV, .slice p37 n39 c38, .int .i64 a0.Enum.Done, .map (some aW), .slice p43 n45 c44, .slice p49 n51 c50, .slice bE bD bF] 72 (0, 0)), .row 26 1 ap ao aq cL, .row 26 1 p19 n21 c20 mt, .row 3 1 p25 n27 c26 nb, .row 3 1 p31 n33 c32 nc, .row 26 1 aU aE aV cE, .row 39 2 p37 n39 c38 ne, .row 9 1 p43 n45 c44 eB, .row 3 1 p49 n51 c50 eC, .row 3 1 bE bD bF du, .any (mapE (fun a : List UInt8 => Value.string (gstr a)) (fun a : Int => Value.int .i64 a) aW m1_52)] ++ A) w ne d_34 ∧ Els (Rp.str) (bl [.row 3 1 p2 a0.Enum.Gens.length a0.Enum.Gens.length nN, .blk dZ (.cells #[.int .i64 a0.Enum.Points, .bool a0.Enum.Monoid, .slice ap ao aq, .slice p19 n21 c20, .slice p25 n27 c26, .slice p31 n33 c32, .slice aU aE aV, .slice p37 n39 c38, .int .i64 a0.Enum.Done, .map (some aW), .slice p43 n45 c44, .slice p49 n51 c50, .slice bE bD bF] 72 (0, 0)), .row 26 1 ap ao aq cL, .row 26 1 p19 n21 c20 mt, .row 3 1 p25 n27 c26 nb, .row 3 1 p31 n33 c32 nc, .row 26 1 aU aE aV cE, .row 39 2 p37 n39 c38 ne, .row 9 1 p43 n45 c44 eB, .row 3 1 p49 n51 c50 eC, .row 3 1 bE bD bF du, .any (mapE (fun a : List UInt8 => Value.string (gstr a)) (fun a : Int => Value.int .i64 a) aW m1_52)] ++ A) w eB d_40 ∧ Els (Rp.int .i64) (bl [.row 3 1 p2 a0.Enum.Gens.length a0.Enum.Gens.length nN, .blk dZ (.cells #[.int .i64 a0.Enum.Points, .bool a0.Enum.Monoid, .slice ap ao aq, .slice p19 n21 c20, .slice p25 n27 c26, .slice p31 n33 c32, .slice aU aE aV, .slice p37 n39 c38, .int .i64 a0.Enum.Done, .map (some aW), .slice p43 n45 c44, .slice p49 n51 c50, .slice bE bD bF] 72 (0, 0)), .row 26 1 ap ao aq cL, .row 26 1 p19 n21 c20 mt, .row 3 1 p25 n27 c26 nb, .row 3 1 p31 n33 c32 nc, .row 26 1 aU aE aV cE, .row 39 2 p37 n39 c38 ne, .row 9 1 p43 n45 c44 eB, .row 3 1 p49 n51 c50 eC, .row 3 1 bE bD bF du, .any (mapE (fun a : List UInt8 => Value.string (gstr a)) (fun a : Int => Value.int .i64 a) aW m1_52)] ++ A) w eC d_46 ∧ Els (Rp.int .i64) (bl [.row 3 1 p2 a0.Enum.Gens.length a0.Enum.Gens.length nN, .blk dZ (.cells #[.int .i64 a0.Enum.Points, .bool a0.Enum.Monoid, .slice ap ao aq, .slice p19 n21 c20, .slice p25 n27 c26, .slice p31 n33 c32, .slice aU aE aV, .slice p37 n39 c38, .int .i64 a0.Enum.Done, .map (some aW), .slice p43 n45 c44, .slice p49 n51 c50, .slice bE bD bF] 72 (0, 0)), .row 26 1 ap ao aq cL, .row 26 1 p19 n21 c20 mt, .row 3 1 p25 n27 c26 nb, .row 3 1 p31 n33 c32 nc, .row 26 1 aU aE aV cE, .row 39 2 p37 n39 c38 ne, .row 9 1 p43 n45 c44 eB, .row 3 1 p49 n51 c50 eC, .row 3 1 bE bD bF du, .any (mapE (fun a : List UInt8 => Value.string (gstr a)) (fun a : Int => Value.int .i64 a) aW m1_52)] ++ A) w du a0.single ∧ Fr (bl [.blk dZ (.cells #[.int .i64 a0.Enum.Points, .bool a0.Enum.Monoid, .slice ap ao aq, .slice cT cS cU, .slice cN cM cO, .slice dh dg di, .slice aU aE aV, .slice cW cV cX, .int .i64 a0.Enum.Done, .map (some aW), .slice dQ dP dR, .slice dM dK dN, .slice bE bD bF] 72 (0, 0)), .row 26 1 ap ao aq cL, .row 26 1 cT cS cU d5, .row 3 1 cN cM cO dY, .row 3 1 dh dg di eh, .row 26 1 aU aE aV cE, .row 39 2 cW cV cX d6, .row 9 1 dQ dP dR f9, .row 3 1 dM dK dN fI, .row 3 1 bE bD bF du, .any (mapE (fun a : List UInt8 => Value.string (gstr a)) (fun a : Int => Value.int .i64 a) aW a0.number)]) w0 (bl [.row 3 1 p2 a0.Enum.Gens.length a0.Enum.Gens.length nN, .blk dZ (.cells #[.int .i64 a0.Enum.Points, .bool a0.Enum.Monoid, .slice ap ao aq, .slice p19 n21 c20, .slice p25 n27 c26, .slice p31 n33 c32, .slice aU aE aV, .slice p37 n39 c38, .int .i64 a0.Enum.Done, .map (some aW), .slice p43 n45 c44, .slice p49 n51 c50, .slice bE bD bF] 72 (0, 0)), .row 26 1 ap ao aq cL, .row 26 1 p19 n21 c20 mt, .row 3 1 p25 n27 c26 nb, .row 3 1 p31 n33 c32 nc, .row 26 1 aU aE aV cE, .row 39 2 p37 n39 c38 ne, .row 9 1 p43 n45 c44 eB, .row 3 1 p49 n51 c50 eC, .row 3 1 bE bD bF du, .any (mapE (fun a : List UInt8 => Value.string (gstr a)) (fun a : Int => Value.int .i64 a) aW m1_52)]) w) H ⟨vs3, cS, cT, cU, d5, cM, cN, cO, dY, dg, dh, di, eh, cV, cW, cX, d6, dP, dQ, dR, f9, dK, dM, dN, fI, ⟨rfl, rfl, rfl, rfl, rfl, rfl, trivial⟩, hO, hE5, aa, rJ, rb, rS, ab, rK, t7, tq, ac, hB⟩ ?_
 intro X1
 refine prE fun k1_12 => prE fun d_13 => prE fun d_16 => prE fun d_22 => prE fun d_28 => prE fun d_34 => prE fun d_40 => prE fun d_46 => fun m1_52 => ?_
 intro H hX1 σ w11
 refine exE fun nN => exE fun n21 => exE fun p19 => exE fun c20 => exE fun mt => exE fun n27 => exE fun p25 => exE fun c26 => exE fun nb => exE fun n33 => exE fun p31 => exE fun c32 => exE fun nc => exE fun n39 => exE fun p37 => exE fun c38 => exE fun ne => exE fun n45 => exE fun p43 => exE fun c44 => exE fun eB => exE fun n51 => exE fun p49 => exE fun c50 => exE fun eC => andE fun hag => andE fun hO => andE fun b6 => andE fun aa => andE fun dj => andE fun cG => andE fun cv => andE fun ab => andE fun ca => andE fun bf => andE fun aX => andE fun ac => fun hB => ?_
 dsimp only at H
 refine Go1.keep [(0, .pointer (some ⟨dZ, 0, none⟩)), (3, .int .i64 a0.Enum.Done), (4, .slice p2 a0.Enum.Gens.length a0.Enum.Gens.length), (27, .slice ap ao aq), (28, .int .i64 (a0.Enum.Gens.length : Int)), (29, .int .i64 (k1_12 : Int))] hag ?_
 refine Go1.seq ?_
 refine Go1.region ?_
 by_cases h53 : (k1_12 : Int) < (a0.Enum.Gens.length : Int)
 ·replace H := ifp h53 H
  refine GoR.op ((fun w => opB (op_lss rfl rfl w) (decide_eq_true h53)) _) rfl rfl ?_
  refine GoR.nil ?_
  refine Go1.seq ?_
  refine Go1.condT rfl rfl ?_
  refine Go1.skip ?_
  refine Go1.seq ?_
  refine Go1.block ?_
  refine Go1.seq ?_
  refine Go1.region ?_
  refine GoR.op ((op_move rfl) _) rfl rfl ?_
  obtain ⟨h54, H⟩ := H
  obtain ⟨h55, H⟩ := H
  refine GoR.op ((op_index Try.underlying22 ti26 rfl rfl h54 (ltn (aa.neq hO 2 rfl) h55) (aa.psome hO 2 rfl h54 h55)) _) rfl rfl ?_
  have hobt := oldSl 2 hO rfl aa h54 h55
  obtain ⟨p56, c57, cj, HP⟩ := hobt
  refine GoR.op ((HP Try.underlying26 rfl rfl) _ (Same.refl _)) rfl rfl ?_
  refine GoR.op ((op_assign rfl) _) rfl rfl ?_
  refine GoR.op ((op_assign rfl) _) rfl rfl ?_
  refine GoR.nil ?_
  refine Go1.seq ?_
  refine Go1.region ?_
  refine GoR.op ((op_move rfl) _) rfl rfl ?_
  refine GoR.op ((op_nilCheck rfl) _) rfl rfl ?_
  refine GoR.op ((op_fieldAddr Try.underlying72 rfl ti29 rfl (by decide)) _) rfl rfl ?_
  refine GoR.op ((op_fieldAddr Try.underlying29 rfl ti22 rfl (by decide)) _) rfl rfl ?_
  refine GoR.op ((oblk (i := 3) 1 hO rfl rfl Try.underlying22 rfl rfl) _ (Same.refl _)) rfl rfl ?_
  refine GoR.op ((op_move rfl) _) rfl rfl ?_
  obtain ⟨h60, H⟩ := H
  obtain ⟨h61, H⟩ := H
  refine GoR.op ((op_index Try.underlying22 ti26 rfl rfl h60 (ltn (dj.neq hO 3 rfl) h61) (dj.psome hO 3 rfl h60 h61)) _) rfl rfl ?_
  have hobt := oldSl 3 hO rfl dj h60 h61
  obtain ⟨p62, c63, ck, HQ⟩ := hobt
  refine GoR.op ((HQ Try.underlying26 rfl rfl) _ (Same.refl _)) rfl rfl ?_
  refine GoR.op ((op_move rfl) _) rfl rfl ?_
  refine GoR.call (op_call body37 rfl (walk_trans_Compose hO.lt ck cj H)) rfl rfl ?_
  rintro v70 w67 ⟨r66, qW, qX, rfl, HR, bK, H⟩
  have kx := Stp.same hO HR
  replace b6 := b6.ch kx.ch
  replace aa := aa.ch kx.ch
  replace dj := dj.ch kx.ch
  replace cG := cG.ch kx.ch
  replace cv := cv.ch kx.ch
  replace ab := ab.ch kx.ch
  replace ca := ca.ch kx.ch
  replace bf := bf.ch kx.ch
  replace aX := aX.ch kx.ch
  replace ac := ac.ch kx.ch
  replace hO := kx.own
  replace cj := cj.ch kx.ch
  replace ck := ck.ch kx.ch
  replace hB := hB.trans kx.fr
  refine GoR.op ((op_assign rfl) _) rfl rfl ?_
  refine GoR.nil ?_
  refine Go1.seq ?_
  refine Go1.drawS 0 [(0, .pure), (1, .pure), (2, .pure), (3, .stable), (4, .pure), (5, .loud), (6, .stable), (7, .pure), (8, .pure), (9, .pure), (10, .pure), (11, .pure)] mixed (by kernel_rfl) ?_
  intro w72 HS
  have oZ := Stp.same hO HS
  replace b6 := b6.ch oZ.ch
  replace aa := aa.ch oZ.ch
  replace dj := dj.ch oZ.ch
  replace cG := cG.ch oZ.ch
  replace cv := cv.ch oZ.ch
  replace ab := ab.ch oZ.ch
  replace ca := ca.ch oZ.ch
  replace bf := bf.ch oZ.ch
  replace aX := aX.ch oZ.ch
  replace ac := ac.ch oZ.ch
  replace hO := oZ.own
  replace cj := cj.ch oZ.ch
  replace ck := ck.ch oZ.ch
  replace bK := bK.ch oZ.ch
  replace hB := hB.trans oZ.fr
  refine GoQ.pure rfl (op_move rfl) rfl rfl ?_
  refine GoQ.pure rfl (op_nilCheck rfl) rfl rfl ?_
  refine GoQ.pure rfl (op_fieldAddr Try.underlying72 rfl ti69 rfl (by decide)) rfl rfl ?_
  refine GoQ.stable rfl (oblk (i := 9) 1 hO rfl rfl Try.underlying69 rfl rfl) rfl rfl ?_
  refine GoQ.pure rfl (op_move rfl) rfl rfl ?_
  refine GoQ.call rfl (op_call body61 rfl (walk_enumerate_text hO.lt bK H)) (fun v w hr => by obtain ⟨_, _, hs, _, _⟩ := hr; assumption) rfl rfl ?_
  rintro v79 w76 ⟨r75, rfl, HT, IX, H⟩
  have o0 := Stp.same hO HT
  replace b6 := b6.ch o0.ch
  replace aa := aa.ch o0.ch
  replace dj := dj.ch o0.ch
  replace cG := cG.ch o0.ch
  replace cv := cv.ch o0.ch
  replace ab := ab.ch o0.ch
  replace ca := ca.ch o0.ch
  replace bf := bf.ch o0.ch
  replace aX := aX.ch o0.ch
  replace ac := ac.ch o0.ch
  replace hO := o0.own
  replace cj := cj.ch o0.ch
  replace ck := ck.ch o0.ch
  replace bK := bK.ch o0.ch
  replace hB := hB.trans o0.fr
  by_cases h81 : mhas m1_52 r75 = true
  ·replace H := ifp h81 H
   refine GoQ.stable rfl (olookT (a := r75) (MK.str Try.underlying9) 11 hO rfl Try.underlying69 rfl rfl h81) rfl rfl ?_
   refine GoQ.pure rfl (op_move rfl) rfl rfl ?_
   refine GoQ.pure rfl (op_extract rfl rfl) rfl rfl ?_
   refine GoQ.pure rfl (op_extract rfl rfl) rfl rfl ?_
   refine GoQ.pure rfl (op_assign rfl) rfl rfl ?_
   refine GoQ.pure rfl (op_assign rfl) rfl rfl ?_
   refine GoQ.nil ?_
   refine Go1.seq ?_
   refine Go1.cut [(0, .pointer (some ⟨dZ, 0, none⟩)), (3, .int .i64 a0.Enum.Done), (4, .slice p2 a0.Enum.Gens.length a0.Enum.Gens.length), (5, .int .i64 (k1_12 : Int)), (7, .slice qW r66.length qX), (8, .int .i64 (mgt m1_52 r75)), (9, .bool true), (27, .slice ap ao aq), (28, .int .i64 (a0.Enum.Gens.length : Int)), (29, .int .i64 (k1_12 : Int))] ⟨rfl, rfl, rfl, rfl, rfl, rfl, rfl, rfl, rfl, rfl, trivial⟩ ?_
   intro σ _
   refine Go1.region ?_
   refine GoR.op ((op_move rfl) _) rfl rfl ?_
   refine GoR.op ((op_nilCheck rfl) _) rfl rfl ?_
   refine GoR.op ((op_fieldAddr Try.underlying72 rfl ti70 rfl (by decide)) _) rfl rfl ?_
   refine GoR.op ((oblk (i := 10) 1 hO rfl rfl Try.underlying70 rfl rfl) _ (Same.refl _)) rfl rfl ?_
   refine GoR.op ((op_move rfl) _) rfl rfl ?_
   obtain ⟨h82, H⟩ := H
   obtain ⟨h83, H⟩ := H
   refine GoR.op ((op_index Try.underlying70 ti9 rfl rfl h82 (ltn (bf.neq hO 8 rfl) h83) (bf.psome hO 8 rfl h82 h83)) _) rfl rfl ?_
   refine GoR.op ((oldStr 8 hO rfl bf h82 h83 Try.underlying9 rfl rfl) _ (Same.refl _)) rfl rfl ?_
   have hle84 := Els.str_le bf h82 h83
   refine GoR.op ((op_move rfl) _) rfl rfl ?_
   obtain ⟨h85, H⟩ := H
   refine GoR.op ((op_add rfl rfl (wrap_i64 h85)) _) rfl rfl ?_
   refine GoR.op ((op_conv Try.underlying3 Try.underlying21 rfl rfl) _) rfl rfl ?_
   obtain ⟨h86, H⟩ := H
   obtain ⟨h87, H⟩ := H
   refine GoR.op ((op_convRS Try.underlying21 Try.underlying9 rfl h86 h87) _) rfl rfl ?_
   obtain ⟨h88, H⟩ := H
   refine GoR.op ((op_addS rfl rfl h88) _) rfl rfl ?_
   refine GoR.op ((op_assign rfl) _) rfl rfl ?_
   refine GoR.nil ?_
   refine Go1.seq ?_
   refine Go1.block ?_
   refine Go1.seq ?_
   refine Go1.region ?_
   refine GoR.op ((op_move rfl) _) rfl rfl ?_
   refine GoR.op ((op_not rfl) _) rfl rfl ?_
   refine GoR.op ((op_move rfl) _) rfl rfl ?_
   refine GoR.pass rfl rfl ?_
   refine GoR.pass rfl rfl ?_
   refine GoR.pass rfl rfl ?_
   refine GoR.pass rfl rfl ?_
   refine GoR.pass rfl rfl ?_
   refine GoR.pass rfl rfl ?_
   refine GoR.pass rfl rfl ?_
   refine GoR.op ((op_pickF rfl rfl rfl) _) rfl rfl ?_
   refine GoR.op ((op_assign rfl) _) rfl rfl ?_
   refine GoR.nil ?_
   refine Go1.condF rfl rfl ?_
   refine Go1.seq ?_
   refine Go1.cut [(0, .pointer (some ⟨dZ, 0, none⟩)), (3, .int .i64 a0.Enum.Done), (4, .slice p2 a0.Enum.Gens.length a0.Enum.Gens.length), (5, .int .i64 (k1_12 : Int)), (7, .slice qW r66.length qX), (8, .int .i64 (mgt m1_52 r75)), (9, .bool true), (10, .string (gstr ((ix d_40 a0.Enum.Done) ++ (chr (IntKind.i32.wrap ((97 : Int) + (k1_12 : Int))))))), (27, .slice ap ao aq), (28, .int .i64 (a0.Enum.Gens.length : Int)), (29, .int .i64 (k1_12 : Int))] ⟨rfl, rfl, rfl, rfl, rfl, rfl, rfl, rfl, rfl, rfl, rfl, trivial⟩ ?_
   intro σ _
   refine Go1.region ?_
   refine GoR.op ((op_move rfl) _) rfl rfl ?_
   refine GoR.op ((op_not rfl) _) rfl rfl ?_
   refine GoR.op ((op_assign rfl) _) rfl rfl ?_
   refine GoR.nil ?_
   refine Go1.condF rfl rfl ?_
   refine Go1.seq ?_
   refine Go1.region ?_
   refine GoR.op ((op_move rfl) _) rfl rfl ?_
   refine GoR.op ((op_nilCheck rfl) _) rfl rfl ?_
   refine GoR.op ((op_fieldAddr Try.underlying72 rfl ti70 rfl (by decide)) _) rfl rfl ?_
   refine GoR.op ((oblk (i := 10) 1 hO rfl rfl Try.underlying70 rfl rfl) _ (Same.refl _)) rfl rfl ?_
   refine GoR.op ((op_move rfl) _) rfl rfl ?_
   obtain ⟨h89, H⟩ := H
   obtain ⟨h90, H⟩ := H
   refine GoR.op ((op_index Try.underlying70 ti9 rfl rfl h89 (ltn (bf.neq hO 8 rfl) h90) (bf.psome hO 8 rfl h89 h90)) _) rfl rfl ?_
   refine GoR.op ((oldStr 8 hO rfl bf h89 h90 Try.underlying9 rfl rfl) _ (Same.refl _)) rfl rfl ?_
   have hle91 := Els.str_le bf h89 h90
   by_cases h92 : (ix d_40 a0.Enum.Done) = (([] : Str))
   ·replace H := ifp h92 H
    refine GoR.op ((fun w => opB (op_neqS rfl rfl w) (ndT h92)) _) rfl rfl ?_
    refine GoR.op ((op_move rfl) _) rfl rfl ?_
    refine GoR.pass rfl rfl ?_
    refine GoR.pass rfl rfl ?_
    refine GoR.pass rfl rfl ?_
    refine GoR.pass rfl rfl ?_
    refine GoR.pass rfl rfl ?_
    refine GoR.pass rfl rfl ?_
    refine GoR.pass rfl rfl ?_
    refine GoR.pass rfl rfl ?_
    refine GoR.pass rfl rfl ?_
    refine GoR.pass rfl rfl ?_
    refine GoR.op ((op_pickF rfl rfl rfl) _) rfl rfl ?_
    refine GoR.op ((op_assign rfl) _) rfl rfl ?_
    refine GoR.nil ?_
    refine Go1.condF rfl rfl ?_
    refine Go1.skip ?_
    refine Go1.inBlock ?_
    refine Go1.cut [(0, .pointer (some ⟨dZ, 0, none⟩)), (3, .int .i64 a0.Enum.Done), (4, .slice p2 a0.Enum.Gens.length a0.Enum.Gens.length), (5, .int .i64 (k1_12 : Int)), (8, .int .i64 (mgt m1_52 r75)), (27, .slice ap ao aq), (28, .int .i64 (a0.Enum.Gens.length : Int)), (29, .int .i64 (k1_12 : Int))] ⟨rfl, rfl, rfl, rfl, rfl, rfl, rfl, rfl, trivial⟩ ?_
    intro σ _
    refine Go1.region ?_
    refine GoR.op ((op_move rfl) _) rfl rfl ?_
    refine GoR.op ((op_move rfl) _) rfl rfl ?_
    refine GoR.op ((op_move rfl) _) rfl rfl ?_
    obtain ⟨h93, H⟩ := H
    obtain ⟨h94, H⟩ := H
    refine GoR.op ((op_index Try.underlying26 ti3 rfl rfl h93 (ltn (b6.neq hO 0 rfl) h94) (b6.psome hO 0 rfl h93 h94)) _) rfl rfl ?_
    have hobt := ost (r := Rp.int .i64) rfl 0 hO rfl b6 h93 h94 (v := .int .i64 (mgt m1_52 r75)) (u := (mgt m1_52 r75)) rfl rfl
    obtain ⟨w95, HU, gh, B7, EO⟩ := hobt
    dsimp only [sS, sZ] at gh B7
    refine GoR.op (EO Try.underlying3 rfl ti3 (by exact rfl) (by exact rfl)) rfl rfl ?_
    replace aa := aa.ch gh.ch
    replace dj := dj.ch gh.ch
    replace cG := cG.ch gh.ch
    replace cv := cv.ch gh.ch
    replace ab := ab.ch gh.ch
    replace ca := ca.ch gh.ch
    replace bf := bf.ch gh.ch
    replace aX := aX.ch gh.ch
    replace ac := ac.ch gh.ch
    replace hO := gh.own
    replace cj := cj.ch gh.ch
    replace ck := ck.ch gh.ch
    replace bK := bK.ch gh.ch
    replace hB := hB.trans gh.fr
    refine GoR.nil ?_
    refine Go1.inBlock ?_
    refine Go1.region ?_
    refine GoR.op ((op_add rfl rfl (wrap_i64 (natbd h53 aa.bd))) _) rfl rfl ?_
    refine GoR.op ((op_move rfl) _) rfl rfl ?_
    refine GoR.nil ?_
    exact hX1 _ H _ _ ⟨HU, n21, p19, c20, mt, n27, p25, c26, nb, n33, p31, c32, nc, n39, p37, c38, ne, n45, p43, c44, eB, n51, p49, c50, eC, ⟨rfl, rfl, rfl, rfl, rfl, rfl, trivial⟩, hO, B7, aa, dj, cG, cv, ab, ca, bf, aX, ac, hB⟩
   replace H := ifn h92 H
   refine GoR.op ((fun w => opB (op_neqS rfl rfl w) (ndF h92)) _) rfl rfl ?_
   refine GoR.op ((op_move rfl) _) rfl rfl ?_
   refine GoR.op ((op_move rfl) _) rfl rfl ?_
   refine GoR.op ((op_move rfl) _) rfl rfl ?_
   refine GoR.op ((op_nilCheck rfl) _) rfl rfl ?_
   refine GoR.op ((op_fieldAddr Try.underlying72 rfl ti26 rfl (by decide)) _) rfl rfl ?_
   refine GoR.op ((oblk (i := 11) 1 hO rfl rfl Try.underlying26 rfl rfl) _ (Same.refl _)) rfl rfl ?_
   refine GoR.op ((op_move rfl) _) rfl rfl ?_
   obtain ⟨uP, H⟩ := H
   obtain ⟨vT, H⟩ := H
   refine GoR.op ((op_index Try.underlying26 ti3 rfl rfl uP (ltn (aX.neq hO 9 rfl) vT) (aX.psome hO 9 rfl uP vT)) _) rfl rfl ?_
   refine GoR.op ((oldInt 9 hO rfl aX uP vT Try.underlying3 rfl rfl) _ (Same.refl _)) rfl rfl ?_
   refine GoR.op ((op_move rfl) _) rfl rfl ?_
   refine GoR.inl (vs := [.pointer (some ⟨dZ, 0, none⟩), .int .i64 (ix d_46 a0.Enum.Done), .int .i64 (k1_12 : Int)]) (caps := []) rfl rfl body67 Try.func67 rfl Try.ntmps67 rfl rfl rfl ?_
   intro RhR102 hR102
   refine Go1.seq ?_
   refine Go1.region ?_
   refine GoR.op ((op_assign rfl) _) rfl rfl ?_
   refine GoR.nil ?_
   refine Go1.seq ?_
   refine Go1.cut [(0, .pointer (some ⟨dZ, 0, none⟩)), (1, .int .i64 (ix d_46 a0.Enum.Done)), (2, .int .i64 (k1_12 : Int))] ⟨rfl, rfl, rfl, trivial⟩ ?_
   intro σ _
   refine Go1.region ?_
   refine GoR.op ((op_move rfl) _) rfl rfl ?_
   refine GoR.op ((op_move rfl) _) rfl rfl ?_
   refine GoR.op ((op_move rfl) _) rfl rfl ?_
   refine GoR.inl (vs := [.pointer (some ⟨dZ, 0, none⟩), .int .i64 (ix d_46 a0.Enum.Done), .int .i64 (k1_12 : Int)]) (caps := []) rfl rfl body66 Try.func66 rfl Try.ntmps66 rfl rfl rfl ?_
   intro RhR103 hR103
   refine Go1.seq ?_
   refine Go1.region ?_
   refine GoR.op ((op_assign rfl) _) rfl rfl ?_
   refine GoR.nil ?_
   refine Go1.seq ?_
   refine Go1.seq ?_
   refine Go1.region ?_
   refine GoR.op ((op_move rfl) _) rfl rfl ?_
   by_cases uQ : (ix d_46 a0.Enum.Done) = (-1 : Int)
   ·replace H := ifp uQ H
    refine GoR.op ((fun w => opB (op_eql rfl rfl w) (decide_eq_true uQ)) _) rfl rfl ?_
    refine GoR.nil ?_
    refine Go1.condT rfl rfl ?_
    refine Go1.seq ?_
    refine Go1.region ?_
    refine GoR.op ((op_move rfl) _) rfl rfl ?_
    refine GoR.op ((op_nilCheck rfl) _) rfl rfl ?_
    refine GoR.op ((op_fieldAddr Try.underlying72 rfl ti26 rfl (by decide)) _) rfl rfl ?_
    refine GoR.op ((oblk (i := 12) 1 hO rfl rfl Try.underlying26 rfl rfl) _ (Same.refl _)) rfl rfl ?_
    refine GoR.op ((op_move rfl) _) rfl rfl ?_
    obtain ⟨zP, H⟩ := H
    obtain ⟨zQ, H⟩ := H
    refine GoR.op ((op_index Try.underlying26 ti3 rfl rfl zP (ltn (ac.neq hO 10 rfl) zQ) (ac.psome hO 10 rfl zP zQ)) _) rfl rfl ?_
    refine GoR.op ((oldInt 10 hO rfl ac zP zQ Try.underlying3 rfl rfl) _ (Same.refl _)) rfl rfl ?_
    refine GoR.op ((op_assign rfl) _) rfl rfl ?_
    refine GoR.nil ?_
    refine Go1.ret1V Try.func66 rfl (show _ = .int .i64 (ix a0.single (k1_12 : Int)) from rfl) ?_
    refine hR103 _ _ ?_
    refine GoR.op ((op_assign rfl) _) rfl rfl ?_
    refine GoR.nil ?_
    refine Go1.seq ?_
    refine Go1.region ?_
    refine GoR.op ((op_move rfl) _) rfl rfl ?_
    refine GoR.op ((op_nilCheck rfl) _) rfl rfl ?_
    refine GoR.op ((op_fieldAddr Try.underlying72 rfl ti29 rfl (by decide)) _) rfl rfl ?_
    refine GoR.op ((op_fieldAddr Try.underlying29 rfl ti26 rfl (by decide)) _) rfl rfl ?_
    refine GoR.op ((oblk (i := 4) 1 hO rfl rfl Try.underlying26 rfl rfl) _ (Same.refl _)) rfl rfl ?_
    refine GoR.op ((op_move rfl) _) rfl rfl ?_
    obtain ⟨zR, H⟩ := H
    obtain ⟨zS, H⟩ := H
    refine GoR.op ((op_index Try.underlying26 ti3 rfl rfl zR (ltn (cG.neq hO 4 rfl) zS) (cG.psome hO 4 rfl zR zS)) _) rfl rfl ?_
    refine GoR.op ((oldInt 4 hO rfl cG zR zS Try.underlying3 rfl rfl) _ (Same.refl _)) rfl rfl ?_
    refine GoR.op ((op_move rfl) _) rfl rfl ?_
    by_cases uR : (ix d_22 (ix a0.single (k1_12 : Int))) = (ix d_46 a0.Enum.Done)
    ·replace H := ifp uR H
     refine GoR.op ((fun w => opB (op_eql rfl rfl w) (decide_eq_true uR)) _) rfl rfl ?_
     refine GoR.op ((op_move rfl) _) rfl rfl ?_
     refine GoR.op ((op_move rfl) _) rfl rfl ?_
     refine GoR.op ((op_nilCheck rfl) _) rfl rfl ?_
     refine GoR.op ((op_fieldAddr Try.underlying72 rfl ti29 rfl (by decide)) _) rfl rfl ?_
     refine GoR.op ((op_fieldAddr Try.underlying29 rfl ti26 rfl (by decide)) _) rfl rfl ?_
     refine GoR.op ((oblk (i := 5) 1 hO rfl rfl Try.underlying26 rfl rfl) _ (Same.refl _)) rfl rfl ?_
     refine GoR.op ((op_move rfl) _) rfl rfl ?_
     obtain ⟨vU, H⟩ := H
     obtain ⟨zT, H⟩ := H
     refine GoR.op ((op_index Try.underlying26 ti3 rfl rfl vU (ltn (cv.neq hO 5 rfl) zT) (cv.psome hO 5 rfl vU zT)) _) rfl rfl ?_
     refine GoR.op ((oldInt 5 hO rfl cv vU zT Try.underlying3 rfl rfl) _ (Same.refl _)) rfl rfl ?_
     refine GoR.op ((op_move rfl) _) rfl rfl ?_
     by_cases yK : (ix d_28 (ix a0.single (k1_12 : Int))) = (k1_12 : Int)
     ·replace H := ifp yK H
      refine GoR.op ((fun w => opB (op_eql rfl rfl w) (decide_eq_true yK)) _) rfl rfl ?_
      refine GoR.op ((op_pickT rfl rfl rfl) _) rfl rfl ?_
      refine GoR.op ((op_assign rfl) _) rfl rfl ?_
      refine GoR.nil ?_
      refine Go1.ret1V Try.func67 rfl (show _ = .bool true from rfl) ?_
      refine hR102 _ _ ?_
      refine GoR.op ((op_pickT rfl rfl rfl) _) rfl rfl ?_
      refine GoR.op ((op_assign rfl) _) rfl rfl ?_
      refine GoR.nil ?_
      refine Go1.condT rfl rfl ?_
      refine Go1.cut [(0, .pointer (some ⟨dZ, 0, none⟩)), (3, .int .i64 a0.Enum.Done), (4, .slice p2 a0.Enum.Gens.length a0.Enum.Gens.length), (5, .int .i64 (k1_12 : Int)), (8, .int .i64 (mgt m1_52 r75)), (10, .string (gstr ((ix d_40 a0.Enum.Done) ++ (chr (IntKind.i32.wrap ((97 : Int) + (k1_12 : Int))))))), (27, .slice ap ao aq), (28, .int .i64 (a0.Enum.Gens.length : Int)), (29, .int .i64 (k1_12 : Int))] ⟨rfl, rfl, rfl, rfl, rfl, rfl, rfl, rfl, rfl, trivial⟩ ?_
      intro σ _
      refine Go1.drawS 5 [(0, .pure), (1, .pure), (2, .pure), (3, .pure), (4, .pure), (5, .stable), (6, .pure), (7, .pure), (8, .pure), (9, .pure), (10, .stable), (11, .pure), (12, .pure), (13, .stable), (14, .pure), (15, .loud), (16, .last), (17, .pure), (18, .pure), (19, .pure), (20, .last)] mixed (by kernel_rfl) ?_
      intro La EP
      have nf := Stp.same hO EP
      replace b6 := b6.ch nf.ch
      replace aa := aa.ch nf.ch
      replace dj := dj.ch nf.ch
      replace cG := cG.ch nf.ch
      replace cv := cv.ch nf.ch
      replace ab := ab.ch nf.ch
      replace ca := ca.ch nf.ch
      replace bf := bf.ch nf.ch
      replace aX := aX.ch nf.ch
      replace ac := ac.ch nf.ch
      replace hO := nf.own
      replace cj := cj.ch nf.ch
      replace ck := ck.ch nf.ch
      replace bK := bK.ch nf.ch
      replace hB := hB.trans nf.fr
      refine GoQ.pure rfl (op_move rfl) rfl rfl ?_
      refine GoQ.pure rfl (op_move rfl) rfl rfl ?_
      refine GoQ.pure rfl (op_nilCheck rfl) rfl rfl ?_
      refine GoQ.pure rfl (op_fieldAddr Try.underlying72 rfl ti29 rfl (by decide)) rfl rfl ?_
      refine GoQ.pure rfl (op_fieldAddr Try.underlying29 rfl ti27 rfl (by decide)) rfl rfl ?_
      refine GoQ.stable rfl (oblk (i := 7) 1 hO rfl rfl Try.underlying27 rfl rfl) rfl rfl ?_
      refine GoQ.pure rfl (op_move rfl) rfl rfl ?_
      refine GoQ.pure rfl (op_move rfl) rfl rfl ?_
      refine GoQ.pure rfl (op_nilCheck rfl) rfl rfl ?_
      refine GoQ.pure rfl (op_fieldAddr Try.underlying72 rfl ti70 rfl (by decide)) rfl rfl ?_
      refine GoQ.stable rfl (oblk (i := 10) 1 hO rfl rfl Try.underlying70 rfl rfl) rfl rfl ?_
      refine GoQ.pure rfl (op_move rfl) rfl rfl ?_
      obtain ⟨uv, H⟩ := H
      obtain ⟨yL, H⟩ := H
      refine GoQ.pure rfl (op_index Try.underlying70 ti9 rfl rfl uv (ltn (bf.neq hO 8 rfl) yL) (bf.psome hO 8 rfl uv yL)) rfl rfl ?_
      refine GoQ.stable rfl (oldStr 8 hO rfl bf uv yL Try.underlying9 rfl rfl) rfl rfl ?_
      have hle118 := Els.str_le bf uv yL
      refine GoQ.pure rfl (op_build Try.underlying39 ti39 (pl := [(0, 1), (1, 1)]) (vs := [(0, .string (gstr ((ix d_40 a0.Enum.Done) ++ (chr (IntKind.i32.wrap ((97 : Int) + (k1_12 : Int))))))), (1, .string (gstr (ix d_40 (mgt m1_52 r75))))]) (cs := #[.string (gstr ((ix d_40 a0.Enum.Done) ++ (chr (IntKind.i32.wrap ((97 : Int) + (k1_12 : Int)))))), .string (gstr (ix d_40 (mgt m1_52 r75)))]) (by kernel_rfl) rfl (by kernel_rfl)) rfl rfl ?_
      have hobt := obuildN (r := rpRule) (n := 1) (parts := [(0, .agg #[.string (gstr ((ix d_40 a0.Enum.Done) ++ (chr (IntKind.i32.wrap ((97 : Int) + (k1_12 : Int)))))), .string (gstr (ix d_40 (mgt m1_52 r75)))])]) (vs := [.string (gstr ((ix d_40 a0.Enum.Done) ++ (chr (IntKind.i32.wrap ((97 : Int) + (k1_12 : Int)))))), .string (gstr (ix d_40 (mgt m1_52 r75)))]) (xs := [(⟨(ix d_40 a0.Enum.Done) ++ (chr (IntKind.i32.wrap ((97 : Int) + (k1_12 : Int)))), ix d_40 (mgt m1_52 r75)⟩ : Rule)]) Try.underlying27 ti39 hO (by decide) (by decide) (by kernel_rfl) (Els.flat1 (⟨(ix d_40 a0.Enum.Done) ++ (chr (IntKind.i32.wrap ((97 : Int) + (k1_12 : Int)))), ix d_40 (mgt m1_52 r75)⟩ : Rule) ⟨(lenApp h88), hle118⟩) rfl
      obtain ⟨Lb, jl, ng, EQ, ER, B8⟩ := hobt
      refine GoQ.loud rfl (B8 rfl) ER rfl rfl ?_
      replace b6 := b6.ch ng.ch
      replace aa := aa.ch ng.ch
      replace dj := dj.ch ng.ch
      replace cG := cG.ch ng.ch
      replace cv := cv.ch ng.ch
      replace ab := ab.ch ng.ch
      replace ca := ca.ch ng.ch
      replace bf := bf.ch ng.ch
      replace aX := aX.ch ng.ch
      replace ac := ac.ch ng.ch
      replace hO := ng.own
      replace cj := cj.ch ng.ch
      replace ck := ck.ch ng.ch
      replace bK := bK.ch ng.ch
      replace hB := hB.trans ng.fr
      have hobt := freeze 0 hO rfl EQ
      obtain ⟨hO1, qx, tG, ES⟩ := hobt
      dsimp only [eS, eZ] at hO1 qx tG
      replace cj := cj.ch qx
      replace ck := ck.ch qx
      replace bK := bK.ch qx
      replace b6 := b6.ch qx
      replace aa := aa.ch qx
      replace dj := dj.ch qx
      replace cG := cG.ch qx
      replace cv := cv.ch qx
      replace ab := ab.ch qx
      replace ca := ca.ch qx
      replace bf := bf.ch qx
      replace aX := aX.ch qx
      replace ac := ac.ch qx
      replace hB := hB.trans (Owns.dropFr _ _ 0)
      dsimp only [eS, eZ] at hB
      replace hO := hO1; clear hO1
      obtain ⟨HV, H⟩ := H
      have hobt := oapp Try.underlying27 ti39 rfl 7 hO rfl ca tG ES HV (by decide)
      obtain ⟨Lc, zU, zV, ET, mE, vf, Ca⟩ := hobt
      dsimp only [sS, sZ] at mE vf
      refine GoQ.last rfl (Ca (by exact rfl) (by exact rfl)) rfl rfl ?_
      replace b6 := b6.ch mE.ch
      replace aa := aa.ch mE.ch
      replace dj := dj.ch mE.ch
      replace cG := cG.ch mE.ch
      replace cv := cv.ch mE.ch
      replace ab := ab.ch mE.ch
      replace bf := bf.ch mE.ch
      replace aX := aX.ch mE.ch
      replace ac := ac.ch mE.ch
      replace hO := mE.own
      replace cj := cj.ch mE.ch
      replace ck := ck.ch mE.ch
      replace bK := bK.ch mE.ch
      replace tG := tG.ch mE.ch
      replace hB := hB.trans mE.fr
      refine GoQ.pure rfl (op_nilCheck rfl) rfl rfl ?_
      refine GoQ.pure rfl (op_fieldAddr Try.underlying72 rfl ti29 rfl (by decide)) rfl rfl ?_
      refine GoQ.pure rfl (op_fieldAddr Try.underlying29 rfl ti27 rfl (by decide)) rfl rfl ?_
      have hobt := oblkSt2 (v := .slice zU (n39 + 1) zV) (i := 7) (cs' := #[.int .i64 a0.Enum.Points, .bool a0.Enum.Monoid, .slice ap ao aq, .slice p19 n21 c20, .slice p25 n27 c26, .slice p31 n33 c32, .slice aU aE aV, .slice zU (n39 + 1) zV, .int .i64 a0.Enum.Done, .map (some aW), .slice p43 n45 c44, .slice p49 n51 c50, .slice bE bD bF]) 1 hO rfl rfl rfl rfl
      obtain ⟨Ld, jm, Cb⟩ := hobt
      dsimp only [sS, sZ] at jm
      refine GoQ.last rfl (Cb Try.underlying27 rfl ti27 (by exact rfl) (by exact rfl)) rfl rfl ?_
      replace b6 := b6.ch jm.ch
      replace aa := aa.ch jm.ch
      replace dj := dj.ch jm.ch
      replace cG := cG.ch jm.ch
      replace cv := cv.ch jm.ch
      replace ab := ab.ch jm.ch
      replace vf := vf.ch jm.ch
      replace bf := bf.ch jm.ch
      replace aX := aX.ch jm.ch
      replace ac := ac.ch jm.ch
      replace hO := jm.own
      replace cj := cj.ch jm.ch
      replace ck := ck.ch jm.ch
      replace bK := bK.ch jm.ch
      replace tG := tG.ch jm.ch
      replace hB := hB.trans jm.fr
      refine GoQ.nil ?_
      refine Go1.inBlock ?_
      refine Go1.cut [(0, .pointer (some ⟨dZ, 0, none⟩)), (3, .int .i64 a0.Enum.Done), (4, .slice p2 a0.Enum.Gens.length a0.Enum.Gens.length), (5, .int .i64 (k1_12 : Int)), (8, .int .i64 (mgt m1_52 r75)), (27, .slice ap ao aq), (28, .int .i64 (a0.Enum.Gens.length : Int)), (29, .int .i64 (k1_12 : Int))] ⟨rfl, rfl, rfl, rfl, rfl, rfl, rfl, rfl, trivial⟩ ?_
      intro σ _
      refine Go1.region ?_
      refine GoR.op ((op_move rfl) _) rfl rfl ?_
      refine GoR.op ((op_move rfl) _) rfl rfl ?_
      refine GoR.op ((op_move rfl) _) rfl rfl ?_
      obtain ⟨zW, H⟩ := H
      obtain ⟨zX, H⟩ := H
      refine GoR.op ((op_index Try.underlying26 ti3 rfl rfl zW (ltn (b6.neq hO 0 rfl) zX) (b6.psome hO 0 rfl zW zX)) _) rfl rfl ?_
      have hobt := ost (r := Rp.int .i64) rfl 0 hO rfl b6 zW zX (v := .int .i64 (mgt m1_52 r75)) (u := (mgt m1_52 r75)) rfl rfl
      obtain ⟨Le, EU, mF, AC, Cc⟩ := hobt
      dsimp only [sS, sZ] at mF AC
      refine GoR.op (Cc Try.underlying3 rfl ti3 (by exact rfl) (by exact rfl)) rfl rfl ?_
      replace aa := aa.ch mF.ch
      replace dj := dj.ch mF.ch
      replace cG := cG.ch mF.ch
      replace cv := cv.ch mF.ch
      replace ab := ab.ch mF.ch
      replace vf := vf.ch mF.ch
      replace bf := bf.ch mF.ch
      replace aX := aX.ch mF.ch
      replace ac := ac.ch mF.ch
      replace hO := mF.own
      replace cj := cj.ch mF.ch
      replace ck := ck.ch mF.ch
      replace bK := bK.ch mF.ch
      replace tG := tG.ch mF.ch
      replace hB := hB.trans mF.fr
      refine GoR.nil ?_
      refine Go1.inBlock ?_
      refine Go1.region ?_
      refine GoR.op ((op_add rfl rfl (wrap_i64 (natbd h53 aa.bd))) _) rfl rfl ?_
      refine GoR.op ((op_move rfl) _) rfl rfl ?_
      refine GoR.nil ?_
      exact hX1 _ H _ _ ⟨EU, n21, p19, c20, mt, n27, p25, c26, nb, n33, p31, c32, nc, n39 + 1, zU, zV, ET, n45, p43, c44, eB, n51, p49, c50, eC, ⟨rfl, rfl, rfl, rfl, rfl, rfl, trivial⟩, hO, AC, aa, dj, cG, cv, ab, vf, bf, aX, ac, hB⟩
     replace H := ifn yK H
     refine GoR.op ((fun w => opB (op_eql rfl rfl w) (decide_eq_false yK)) _) rfl rfl ?_
     refine GoR.op ((op_pickT rfl rfl rfl) _) rfl rfl ?_
     refine GoR.op ((op_assign rfl) _) rfl rfl ?_
     refine GoR.nil ?_
     refine Go1.ret1V Try.func67 rfl (show _ = .bool false from rfl) ?_
     refine hR102 _ _ ?_
     refine GoR.op ((op_pickT rfl rfl rfl) _) rfl rfl ?_
     refine GoR.op ((op_assign rfl) _) rfl rfl ?_
     refine GoR.nil ?_
     refine Go1.condF rfl rfl ?_
     refine Go1.skip ?_
     refine Go1.inBlock ?_
     refine Go1.region ?_
     refine GoR.op ((op_move rfl) _) rfl rfl ?_
     refine GoR.op ((op_move rfl) _) rfl rfl ?_
     refine GoR.op ((op_move rfl) _) rfl rfl ?_
     obtain ⟨zY, H⟩ := H
     obtain ⟨uS, H⟩ := H
     refine GoR.op ((op_index Try.underlying26 ti3 rfl rfl zY (ltn (b6.neq hO 0 rfl) uS) (b6.psome hO 0 rfl zY uS)) _) rfl rfl ?_
     have hobt := ost (r := Rp.int .i64) rfl 0 hO rfl b6 zY uS (v := .int .i64 (mgt m1_52 r75)) (u := (mgt m1_52 r75)) rfl rfl
     obtain ⟨HW, EV, nh, AD, Cd⟩ := hobt
     dsimp only [sS, sZ] at nh AD
     refine GoR.op (Cd Try.underlying3 rfl ti3 (by exact rfl) (by exact rfl)) rfl rfl ?_
     replace aa := aa.ch nh.ch
     replace dj := dj.ch nh.ch
     replace cG := cG.ch nh.ch
     replace cv := cv.ch nh.ch
     replace ab := ab.ch nh.ch
     replace ca := ca.ch nh.ch
     replace bf := bf.ch nh.ch
     replace aX := aX.ch nh.ch
     replace ac := ac.ch nh.ch
     replace hO := nh.own
     replace cj := cj.ch nh.ch
     replace ck := ck.ch nh.ch
     replace bK := bK.ch nh.ch
     replace hB := hB.trans nh.fr
     refine GoR.nil ?_
     refine Go1.inBlock ?_
     refine Go1.region ?_
     refine GoR.op ((op_add rfl rfl (wrap_i64 (natbd h53 aa.bd))) _) rfl rfl ?_
     refine GoR.op ((op_move rfl) _) rfl rfl ?_
     refine GoR.nil ?_
     exact hX1 _ H _ _ ⟨EV, n21, p19, c20, mt, n27, p25, c26, nb, n33, p31, c32, nc, n39, p37, c38, ne, n45, p43, c44, eB, n51, p49, c50, eC, ⟨rfl, rfl, rfl, rfl, rfl, rfl, trivial⟩, hO, AD, aa, dj, cG, cv, ab, ca, bf, aX, ac, hB⟩
    replace H := ifn uR H
    refine GoR.op ((fun w => opB (op_eql rfl rfl w) (decide_eq_false uR)) _) rfl rfl ?_
    refine GoR.op ((op_move rfl) _) rfl rfl ?_
    refine GoR.pass rfl rfl ?_
    refine GoR.pass rfl rfl ?_
    refine GoR.pass rfl rfl ?_
    refine GoR.pass rfl rfl ?_
    refine GoR.pass rfl rfl ?_
    refine GoR.pass rfl rfl ?_
    refine GoR.pass rfl rfl ?_
    refine GoR.pass rfl rfl ?_
    refine GoR.pass rfl rfl ?_
    refine GoR.pass rfl rfl ?_
    refine GoR.op ((op_pickF rfl rfl rfl) _) rfl rfl ?_
    refine GoR.op ((op_assign rfl) _) rfl rfl ?_
    refine GoR.nil ?_
    refine Go1.ret1V Try.func67 rfl (show _ = .bool false from rfl) ?_
    refine hR102 _ _ ?_
    refine GoR.op ((op_pickT rfl rfl rfl) _) rfl rfl ?_
    refine GoR.op ((op_assign rfl) _) rfl rfl ?_
    refine GoR.nil ?_
    refine Go1.condF rfl rfl ?_
    refine Go1.skip ?_
    refine Go1.inBlock ?_
    refine Go1.cut [(0, .pointer (some ⟨dZ, 0, none⟩)), (3, .int .i64 a0.Enum.Done), (4, .slice p2 a0.Enum.Gens.length a0.Enum.Gens.length), (5, .int .i64 (k1_12 : Int)), (8, .int .i64 (mgt m1_52 r75)), (27, .slice ap ao aq), (28, .int .i64 (a0.Enum.Gens.length : Int)), (29, .int .i64 (k1_12 : Int))] ⟨rfl, rfl, rfl, rfl, rfl, rfl, rfl, rfl, trivial⟩ ?_
    intro σ _
    refine Go1.region ?_
    refine GoR.op ((op_move rfl) _) rfl rfl ?_
    refine GoR.op ((op_move rfl) _) rfl rfl ?_
    refine GoR.op ((op_move rfl) _) rfl rfl ?_
    obtain ⟨sU, H⟩ := H
    obtain ⟨vL, H⟩ := H
    refine GoR.op ((op_index Try.underlying26 ti3 rfl rfl sU (ltn (b6.neq hO 0 rfl) vL) (b6.psome hO 0 rfl sU vL)) _) rfl rfl ?_
    have hobt := ost (r := Rp.int .i64) rfl 0 hO rfl b6 sU vL (v := .int .i64 (mgt m1_52 r75)) (u := (mgt m1_52 r75)) rfl rfl
    obtain ⟨HX, EW, iP, AE, xR⟩ := hobt
    dsimp only [sS, sZ] at iP AE
    refine GoR.op (xR Try.underlying3 rfl ti3 (by exact rfl) (by exact rfl)) rfl rfl ?_
    replace aa := aa.ch iP.ch
    replace dj := dj.ch iP.ch
    replace cG := cG.ch iP.ch
    replace cv := cv.ch iP.ch
    replace ab := ab.ch iP.ch
    replace ca := ca.ch iP.ch
    replace bf := bf.ch iP.ch
    replace aX := aX.ch iP.ch
    replace ac := ac.ch iP.ch
    replace hO := iP.own
    replace cj := cj.ch iP.ch
    replace ck := ck.ch iP.ch
    replace bK := bK.ch iP.ch
    replace hB := hB.trans iP.fr
    refine GoR.nil ?_
    refine Go1.inBlock ?_
    refine Go1.region ?_
    refine GoR.op ((op_add rfl rfl (wrap_i64 (natbd h53 aa.bd))) _) rfl rfl ?_
    refine GoR.op ((op_move rfl) _) rfl rfl ?_
    refine GoR.nil ?_
    exact hX1 _ H _ _ ⟨EW, n21, p19, c20, mt, n27, p25, c26, nb, n33, p31, c32, nc, n39, p37, c38, ne, n45, p43, c44, eB, n51, p49, c50, eC, ⟨rfl, rfl, rfl, rfl, rfl, rfl, trivial⟩, hO, AE, aa, dj, cG, cv, ab, ca, bf, aX, ac, hB⟩
   replace H := ifn uQ H
   refine GoR.op ((fun w => opB (op_eql rfl rfl w) (decide_eq_false uQ)) _) rfl rfl ?_
   refine GoR.nil ?_
   refine Go1.condF rfl rfl ?_
   refine Go1.skip ?_
   refine Go1.seq ?_
   refine Go1.region ?_
   refine GoR.op ((op_move rfl) _) rfl rfl ?_
   refine GoR.op ((op_nilCheck rfl) _) rfl rfl ?_
   refine GoR.op ((op_fieldAddr Try.underlying72 rfl ti29 rfl (by decide)) _) rfl rfl ?_
   refine GoR.op ((op_fieldAddr Try.underlying29 rfl ti22 rfl (by decide)) _) rfl rfl ?_
   refine GoR.op ((oblk (i := 6) 1 hO rfl rfl Try.underlying22 rfl rfl) _ (Same.refl _)) rfl rfl ?_
   refine GoR.op ((op_move rfl) _) rfl rfl ?_
   obtain ⟨xI, H⟩ := H
   obtain ⟨xJ, H⟩ := H
   refine GoR.op ((op_index Try.underlying22 ti26 rfl rfl xI (ltn (ab.neq hO 6 rfl) xJ) (ab.psome hO 6 rfl xI xJ)) _) rfl rfl ?_
   have hobt := oldSl 6 hO rfl ab xI xJ
   obtain ⟨Lf, Lg, np, EX⟩ := hobt
   refine GoR.op ((EX Try.underlying26 rfl rfl) _ (Same.refl _)) rfl rfl ?_
   refine GoR.op ((op_move rfl) _) rfl rfl ?_
   obtain ⟨zZ, H⟩ := H
   obtain ⟨z3, H⟩ := H
   refine GoR.op ((op_index Try.underlying26 ti3 rfl rfl zZ z3 (np.some_ zZ z3)) _) rfl rfl ?_
   refine GoR.op ((ldInt np zZ z3 Try.underlying3 rfl rfl) _ (Same.refl _)) rfl rfl ?_
   refine GoR.op ((op_assign rfl) _) rfl rfl ?_
   refine GoR.nil ?_
   refine Go1.ret1V Try.func66 rfl (show _ = .int .i64 (ix (ix a0.Enum.Right (ix d_46 a0.Enum.Done)) (k1_12 : Int)) from rfl) ?_
   refine hR103 _ _ ?_
   refine GoR.op ((op_assign rfl) _) rfl rfl ?_
   refine GoR.nil ?_
   refine Go1.seq ?_
   refine Go1.cut [(0, .pointer (some ⟨dZ, 0, none⟩)), (1, .int .i64 (ix d_46 a0.Enum.Done)), (2, .int .i64 (k1_12 : Int)), (7, .int .i64 (ix (ix a0.Enum.Right (ix d_46 a0.Enum.Done)) (k1_12 : Int)))] ⟨rfl, rfl, rfl, rfl, trivial⟩ ?_
   intro σ _
   refine Go1.region ?_
   refine GoR.op ((op_move rfl) _) rfl rfl ?_
   refine GoR.op ((op_nilCheck rfl) _) rfl rfl ?_
   refine GoR.op ((op_fieldAddr Try.underlying72 rfl ti29 rfl (by decide)) _) rfl rfl ?_
   refine GoR.op ((op_fieldAddr Try.underlying29 rfl ti26 rfl (by decide)) _) rfl rfl ?_
   refine GoR.op ((oblk (i := 4) 1 hO rfl rfl Try.underlying26 rfl rfl) _ (Same.refl _)) rfl rfl ?_
   refine GoR.op ((op_move rfl) _) rfl rfl ?_
   obtain ⟨z4, H⟩ := H
   obtain ⟨z5, H⟩ := H
   refine GoR.op ((op_index Try.underlying26 ti3 rfl rfl z4 (ltn (cG.neq hO 4 rfl) z5) (cG.psome hO 4 rfl z4 z5)) _) rfl rfl ?_
   refine GoR.op ((oldInt 4 hO rfl cG z4 z5 Try.underlying3 rfl rfl) _ (Same.refl _)) rfl rfl ?_
   refine GoR.op ((op_move rfl) _) rfl rfl ?_
   by_cases yM : (ix d_22 (ix (ix a0.Enum.Right (ix d_46 a0.Enum.Done)) (k1_12 : Int))) = (ix d_46 a0.Enum.Done)
   ·replace H := ifp yM H
    refine GoR.op ((fun w => opB (op_eql rfl rfl w) (decide_eq_true yM)) _) rfl rfl ?_
    refine GoR.op ((op_move rfl) _) rfl rfl ?_
    refine GoR.op ((op_move rfl) _) rfl rfl ?_
    refine GoR.op ((op_nilCheck rfl) _) rfl rfl ?_
    refine GoR.op ((op_fieldAddr Try.underlying72 rfl ti29 rfl (by decide)) _) rfl rfl ?_
    refine GoR.op ((op_fieldAddr Try.underlying29 rfl ti26 rfl (by decide)) _) rfl rfl ?_
    refine GoR.op ((oblk (i := 5) 1 hO rfl rfl Try.underlying26 rfl rfl) _ (Same.refl _)) rfl rfl ?_
    refine GoR.op ((op_move rfl) _) rfl rfl ?_
    obtain ⟨uD, H⟩ := H
    obtain ⟨z6, H⟩ := H
    refine GoR.op ((op_index Try.underlying26 ti3 rfl rfl uD (ltn (cv.neq hO 5 rfl) z6) (cv.psome hO 5 rfl uD z6)) _) rfl rfl ?_
    refine GoR.op ((oldInt 5 hO rfl cv uD z6 Try.underlying3 rfl rfl) _ (Same.refl _)) rfl rfl ?_
    refine GoR.op ((op_move rfl) _) rfl rfl ?_
    by_cases yN : (ix d_28 (ix (ix a0.Enum.Right (ix d_46 a0.Enum.Done)) (k1_12 : Int))) = (k1_12 : Int)
    ·replace H := ifp yN H
     refine GoR.op ((fun w => opB (op_eql rfl rfl w) (decide_eq_true yN)) _) rfl rfl ?_
     refine GoR.op ((op_pickT rfl rfl rfl) _) rfl rfl ?_
     refine GoR.op ((op_assign rfl) _) rfl rfl ?_
     refine GoR.nil ?_
     refine Go1.ret1V Try.func67 rfl (show _ = .bool true from rfl) ?_
     refine hR102 _ _ ?_
     refine GoR.op ((op_pickT rfl rfl rfl) _) rfl rfl ?_
     refine GoR.op ((op_assign rfl) _) rfl rfl ?_
     refine GoR.nil ?_
     refine Go1.condT rfl rfl ?_
     refine Go1.cut [(0, .pointer (some ⟨dZ, 0, none⟩)), (3, .int .i64 a0.Enum.Done), (4, .slice p2 a0.Enum.Gens.length a0.Enum.Gens.length), (5, .int .i64 (k1_12 : Int)), (8, .int .i64 (mgt m1_52 r75)), (10, .string (gstr ((ix d_40 a0.Enum.Done) ++ (chr (IntKind.i32.wrap ((97 : Int) + (k1_12 : Int))))))), (27, .slice ap ao aq), (28, .int .i64 (a0.Enum.Gens.length : Int)), (29, .int .i64 (k1_12 : Int))] ⟨rfl, rfl, rfl, rfl, rfl, rfl, rfl, rfl, rfl, trivial⟩ ?_
     intro σ _
     refine Go1.drawS 5 [(0, .pure), (1, .pure), (2, .pure), (3, .pure), (4, .pure), (5, .stable), (6, .pure), (7, .pure), (8, .pure), (9, .pure), (10, .stable), (11, .pure), (12, .pure), (13, .stable), (14, .pure), (15, .loud), (16, .last), (17, .pure), (18, .pure), (19, .pure), (20, .last)] mixed (by kernel_rfl) ?_
     intro HY yO
     have mG := Stp.same hO yO
     replace b6 := b6.ch mG.ch
     replace aa := aa.ch mG.ch
     replace dj := dj.ch mG.ch
     replace cG := cG.ch mG.ch
     replace cv := cv.ch mG.ch
     replace ab := ab.ch mG.ch
     replace ca := ca.ch mG.ch
     replace bf := bf.ch mG.ch
     replace aX := aX.ch mG.ch
     replace ac := ac.ch mG.ch
     replace hO := mG.own
     replace cj := cj.ch mG.ch
     replace ck := ck.ch mG.ch
     replace bK := bK.ch mG.ch
     replace np := np.ch mG.ch
     replace hB := hB.trans mG.fr
     refine GoQ.pure rfl (op_move rfl) rfl rfl ?_
     refine GoQ.pure rfl (op_move rfl) rfl rfl ?_
     refine GoQ.pure rfl (op_nilCheck rfl) rfl rfl ?_
     refine GoQ.pure rfl (op_fieldAddr Try.underlying72 rfl ti29 rfl (by decide)) rfl rfl ?_
     refine GoQ.pure rfl (op_fieldAddr Try.underlying29 rfl ti27 rfl (by decide)) rfl rfl ?_
     refine GoQ.stable rfl (oblk (i := 7) 1 hO rfl rfl Try.underlying27 rfl rfl) rfl rfl ?_
     refine GoQ.pure rfl (op_move rfl) rfl rfl ?_
     refine GoQ.pure rfl (op_move rfl) rfl rfl ?_
     refine GoQ.pure rfl (op_nilCheck rfl) rfl rfl ?_
     refine GoQ.pure rfl (op_fieldAddr Try.underlying72 rfl ti70 rfl (by decide)) rfl rfl ?_
     refine GoQ.stable rfl (oblk (i := 10) 1 hO rfl rfl Try.underlying70 rfl rfl) rfl rfl ?_
     refine GoQ.pure rfl (op_move rfl) rfl rfl ?_
     obtain ⟨yP, H⟩ := H
     obtain ⟨yQ, H⟩ := H
     refine GoQ.pure rfl (op_index Try.underlying70 ti9 rfl rfl yP (ltn (bf.neq hO 8 rfl) yQ) (bf.psome hO 8 rfl yP yQ)) rfl rfl ?_
     refine GoQ.stable rfl (oldStr 8 hO rfl bf yP yQ Try.underlying9 rfl rfl) rfl rfl ?_
     have hle181 := Els.str_le bf yP yQ
     refine GoQ.pure rfl (op_build Try.underlying39 ti39 (pl := [(0, 1), (1, 1)]) (vs := [(0, .string (gstr ((ix d_40 a0.Enum.Done) ++ (chr (IntKind.i32.wrap ((97 : Int) + (k1_12 : Int))))))), (1, .string (gstr (ix d_40 (mgt m1_52 r75))))]) (cs := #[.string (gstr ((ix d_40 a0.Enum.Done) ++ (chr (IntKind.i32.wrap ((97 : Int) + (k1_12 : Int)))))), .string (gstr (ix d_40 (mgt m1_52 r75)))]) (by kernel_rfl) rfl (by kernel_rfl)) rfl rfl ?_
     have hobt := obuildN (r := rpRule) (n := 1) (parts := [(0, .agg #[.string (gstr ((ix d_40 a0.Enum.Done) ++ (chr (IntKind.i32.wrap ((97 : Int) + (k1_12 : Int)))))), .string (gstr (ix d_40 (mgt m1_52 r75)))])]) (vs := [.string (gstr ((ix d_40 a0.Enum.Done) ++ (chr (IntKind.i32.wrap ((97 : Int) + (k1_12 : Int)))))), .string (gstr (ix d_40 (mgt m1_52 r75)))]) (xs := [(⟨(ix d_40 a0.Enum.Done) ++ (chr (IntKind.i32.wrap ((97 : Int) + (k1_12 : Int)))), ix d_40 (mgt m1_52 r75)⟩ : Rule)]) Try.underlying27 ti39 hO (by decide) (by decide) (by kernel_rfl) (Els.flat1 (⟨(ix d_40 a0.Enum.Done) ++ (chr (IntKind.i32.wrap ((97 : Int) + (k1_12 : Int)))), ix d_40 (mgt m1_52 r75)⟩ : Rule) ⟨(lenApp h88), hle181⟩) rfl
     obtain ⟨HZ, Lh, mH, EY, yR, Ce⟩ := hobt
     refine GoQ.loud rfl (Ce rfl) yR rfl rfl ?_
     replace b6 := b6.ch mH.ch
     replace aa := aa.ch mH.ch
     replace dj := dj.ch mH.ch
     replace cG := cG.ch mH.ch
     replace cv := cv.ch mH.ch
     replace ab := ab.ch mH.ch
     replace ca := ca.ch mH.ch
     replace bf := bf.ch mH.ch
     replace aX := aX.ch mH.ch
     replace ac := ac.ch mH.ch
     replace hO := mH.own
     replace cj := cj.ch mH.ch
     replace ck := ck.ch mH.ch
     replace bK := bK.ch mH.ch
     replace np := np.ch mH.ch
     replace hB := hB.trans mH.fr
     have hobt := freeze 0 hO rfl EY
     obtain ⟨hO1, o3, tH, EZ⟩ := hobt
     dsimp only [eS, eZ] at hO1 o3 tH
     replace cj := cj.ch o3
     replace ck := ck.ch o3
     replace bK := bK.ch o3
     replace np := np.ch o3
     replace b6 := b6.ch o3
     replace aa := aa.ch o3
     replace dj := dj.ch o3
     replace cG := cG.ch o3
     replace cv := cv.ch o3
     replace ab := ab.ch o3
     replace ca := ca.ch o3
     replace bf := bf.ch o3
     replace aX := aX.ch o3
     replace ac := ac.ch o3
     replace hB := hB.trans (Owns.dropFr _ _ 0)
     dsimp only [eS, eZ] at hB
     replace hO := hO1; clear hO1
     obtain ⟨H0, H⟩ := H
     have hobt := oapp Try.underlying27 ti39 rfl 7 hO rfl ca tH EZ H0 (by decide)
     obtain ⟨Li, z7, z8, E0, lH, vg, Cf⟩ := hobt
     dsimp only [sS, sZ] at lH vg
     refine GoQ.last rfl (Cf (by exact rfl) (by exact rfl)) rfl rfl ?_
     replace b6 := b6.ch lH.ch
     replace aa := aa.ch lH.ch
     replace dj := dj.ch lH.ch
     replace cG := cG.ch lH.ch
     replace cv := cv.ch lH.ch
     replace ab := ab.ch lH.ch
     replace bf := bf.ch lH.ch
     replace aX := aX.ch lH.ch
     replace ac := ac.ch lH.ch
     replace hO := lH.own
     replace cj := cj.ch lH.ch
     replace ck := ck.ch lH.ch
     replace bK := bK.ch lH.ch
     replace np := np.ch lH.ch
     replace tH := tH.ch lH.ch
     replace hB := hB.trans lH.fr
     refine GoQ.pure rfl (op_nilCheck rfl) rfl rfl ?_
     refine GoQ.pure rfl (op_fieldAddr Try.underlying72 rfl ti29 rfl (by decide)) rfl rfl ?_
     refine GoQ.pure rfl (op_fieldAddr Try.underlying29 rfl ti27 rfl (by decide)) rfl rfl ?_
     have hobt := oblkSt2 (v := .slice z7 (n39 + 1) z8) (i := 7) (cs' := #[.int .i64 a0.Enum.Points, .bool a0.Enum.Monoid, .slice ap ao aq, .slice p19 n21 c20, .slice p25 n27 c26, .slice p31 n33 c32, .slice aU aE aV, .slice z7 (n39 + 1) z8, .int .i64 a0.Enum.Done, .map (some aW), .slice p43 n45 c44, .slice p49 n51 c50, .slice bE bD bF]) 1 hO rfl rfl rfl rfl
     obtain ⟨Lj, li, Cg⟩ := hobt
     dsimp only [sS, sZ] at li
     refine GoQ.last rfl (Cg Try.underlying27 rfl ti27 (by exact rfl) (by exact rfl)) rfl rfl ?_
     replace b6 := b6.ch li.ch
     replace aa := aa.ch li.ch
     replace dj := dj.ch li.ch
     replace cG := cG.ch li.ch
     replace cv := cv.ch li.ch
     replace ab := ab.ch li.ch
     replace vg := vg.ch li.ch
     replace bf := bf.ch li.ch
     replace aX := aX.ch li.ch
     replace ac := ac.ch li.ch
     replace hO := li.own
     replace cj := cj.ch li.ch
     replace ck := ck.ch li.ch
     replace bK := bK.ch li.ch
     replace np := np.ch li.ch
     replace tH := tH.ch li.ch
     replace hB := hB.trans li.fr
     refine GoQ.nil ?_
     refine Go1.inBlock ?_
     refine Go1.cut [(0, .pointer (some ⟨dZ, 0, none⟩)), (3, .int .i64 a0.Enum.Done), (4, .slice p2 a0.Enum.Gens.length a0.Enum.Gens.length), (5, .int .i64 (k1_12 : Int)), (8, .int .i64 (mgt m1_52 r75)), (27, .slice ap ao aq), (28, .int .i64 (a0.Enum.Gens.length : Int)), (29, .int .i64 (k1_12 : Int))] ⟨rfl, rfl, rfl, rfl, rfl, rfl, rfl, rfl, trivial⟩ ?_
     intro σ _
     refine Go1.region ?_
     refine GoR.op ((op_move rfl) _) rfl rfl ?_
     refine GoR.op ((op_move rfl) _) rfl rfl ?_
     refine GoR.op ((op_move rfl) _) rfl rfl ?_
     obtain ⟨z9, H⟩ := H
     obtain ⟨Aa, H⟩ := H
     refine GoR.op ((op_index Try.underlying26 ti3 rfl rfl z9 (ltn (b6.neq hO 0 rfl) Aa) (b6.psome hO 0 rfl z9 Aa)) _) rfl rfl ?_
     have hobt := ost (r := Rp.int .i64) rfl 0 hO rfl b6 z9 Aa (v := .int .i64 (mgt m1_52 r75)) (u := (mgt m1_52 r75)) rfl rfl
     obtain ⟨Lk, gi, lI, AF, Ci⟩ := hobt
     dsimp only [sS, sZ] at lI AF
     refine GoR.op (Ci Try.underlying3 rfl ti3 (by exact rfl) (by exact rfl)) rfl rfl ?_
     replace aa := aa.ch lI.ch
     replace dj := dj.ch lI.ch
     replace cG := cG.ch lI.ch
     replace cv := cv.ch lI.ch
     replace ab := ab.ch lI.ch
     replace vg := vg.ch lI.ch
     replace bf := bf.ch lI.ch
     replace aX := aX.ch lI.ch
     replace ac := ac.ch lI.ch
     replace hO := lI.own
     replace cj := cj.ch lI.ch
     replace ck := ck.ch lI.ch
     replace bK := bK.ch lI.ch
     replace np := np.ch lI.ch
     replace tH := tH.ch lI.ch
     replace hB := hB.trans lI.fr
     refine GoR.nil ?_
     refine Go1.inBlock ?_
     refine Go1.region ?_
     refine GoR.op ((op_add rfl rfl (wrap_i64 (natbd h53 aa.bd))) _) rfl rfl ?_
     refine GoR.op ((op_move rfl) _) rfl rfl ?_
     refine GoR.nil ?_
     exact hX1 _ H _ _ ⟨gi, n21, p19, c20, mt, n27, p25, c26, nb, n33, p31, c32, nc, n39 + 1, z7, z8, E0, n45, p43, c44, eB, n51, p49, c50, eC, ⟨rfl, rfl, rfl, rfl, rfl, rfl, trivial⟩, hO, AF, aa, dj, cG, cv, ab, vg, bf, aX, ac, hB⟩
    replace H := ifn yN H
    refine GoR.op ((fun w => opB (op_eql rfl rfl w) (decide_eq_false yN)) _) rfl rfl ?_
    refine GoR.op ((op_pickT rfl rfl rfl) _) rfl rfl ?_
    refine GoR.op ((op_assign rfl) _) rfl rfl ?_
    refine GoR.nil ?_
    refine Go1.ret1V Try.func67 rfl (show _ = .bool false from rfl) ?_
    refine hR102 _ _ ?_
    refine GoR.op ((op_pickT rfl rfl rfl) _) rfl rfl ?_
    refine GoR.op ((op_assign rfl) _) rfl rfl ?_
    refine GoR.nil ?_
    refine Go1.condF rfl rfl ?_
    refine Go1.skip ?_
    refine Go1.inBlock ?_
    refine Go1.region ?_
    refine GoR.op ((op_move rfl) _) rfl rfl ?_
    refine GoR.op ((op_move rfl) _) rfl rfl ?_
    refine GoR.op ((op_move rfl) _) rfl rfl ?_
    obtain ⟨Ab, H⟩ := H
    obtain ⟨xK, H⟩ := H
    refine GoR.op ((op_index Try.underlying26 ti3 rfl rfl Ab (ltn (b6.neq hO 0 rfl) xK) (b6.psome hO 0 rfl Ab xK)) _) rfl rfl ?_
    have hobt := ost (r := Rp.int .i64) rfl 0 hO rfl b6 Ab xK (v := .int .i64 (mgt m1_52 r75)) (u := (mgt m1_52 r75)) rfl rfl
    obtain ⟨Hf, E3, mI, AG, Cj⟩ := hobt
    dsimp only [sS, sZ] at mI AG
    refine GoR.op (Cj Try.underlying3 rfl ti3 (by exact rfl) (by exact rfl)) rfl rfl ?_
    replace aa := aa.ch mI.ch
    replace dj := dj.ch mI.ch
    replace cG := cG.ch mI.ch
    replace cv := cv.ch mI.ch
    replace ab := ab.ch mI.ch
    replace ca := ca.ch mI.ch
    replace bf := bf.ch mI.ch
    replace aX := aX.ch mI.ch
    replace ac := ac.ch mI.ch
    replace hO := mI.own
    replace cj := cj.ch mI.ch
    replace ck := ck.ch mI.ch
    replace bK := bK.ch mI.ch
    replace np := np.ch mI.ch
    replace hB := hB.trans mI.fr
    refine GoR.nil ?_
    refine Go1.inBlock ?_
    refine Go1.region ?_
    refine GoR.op ((op_add rfl rfl (wrap_i64 (natbd h53 aa.bd))) _) rfl rfl ?_
    refine GoR.op ((op_move rfl) _) rfl rfl ?_
    refine GoR.nil ?_
    exact hX1 _ H _ _ ⟨E3, n21, p19, c20, mt, n27, p25, c26, nb, n33, p31, c32, nc, n39, p37, c38, ne, n45, p43, c44, eB, n51, p49, c50, eC, ⟨rfl, rfl, rfl, rfl, rfl, rfl, trivial⟩, hO, AG, aa, dj, cG, cv, ab, ca, bf, aX, ac, hB⟩
   replace H := ifn yM H
   refine GoR.op ((fun w => opB (op_eql rfl rfl w) (decide_eq_false yM)) _) rfl rfl ?_
   refine GoR.op ((op_move rfl) _) rfl rfl ?_
   refine GoR.pass rfl rfl ?_
   refine GoR.pass rfl rfl ?_
   refine GoR.pass rfl rfl ?_
   refine GoR.pass rfl rfl ?_
   refine GoR.pass rfl rfl ?_
   refine GoR.pass rfl rfl ?_
   refine GoR.pass rfl rfl ?_
   refine GoR.pass rfl rfl ?_
   refine GoR.pass rfl rfl ?_
   refine GoR.pass rfl rfl ?_
   refine GoR.op ((op_pickF rfl rfl rfl) _) rfl rfl ?_
   refine GoR.op ((op_assign rfl) _) rfl rfl ?_
   refine GoR.nil ?_
   refine Go1.ret1V Try.func67 rfl (show _ = .bool false from rfl) ?_
   refine hR102 _ _ ?_
   refine GoR.op ((op_pickT rfl rfl rfl) _) rfl rfl ?_
   refine GoR.op ((op_assign rfl) _) rfl rfl ?_
   refine GoR.nil ?_
   refine Go1.condF rfl rfl ?_
   refine Go1.skip ?_
   refine Go1.inBlock ?_
   refine Go1.cut [(0, .pointer (some ⟨dZ, 0, none⟩)), (3, .int .i64 a0.Enum.Done), (4, .slice p2 a0.Enum.Gens.length a0.Enum.Gens.length), (5, .int .i64 (k1_12 : Int)), (8, .int .i64 (mgt m1_52 r75)), (27, .slice ap ao aq), (28, .int .i64 (a0.Enum.Gens.length : Int)), (29, .int .i64 (k1_12 : Int))] ⟨rfl, rfl, rfl, rfl, rfl, rfl, rfl, rfl, trivial⟩ ?_
   intro σ _
   refine Go1.region ?_
   refine GoR.op ((op_move rfl) _) rfl rfl ?_
   refine GoR.op ((op_move rfl) _) rfl rfl ?_
   refine GoR.op ((op_move rfl) _) rfl rfl ?_
   obtain ⟨Ac, H⟩ := H
   obtain ⟨Ad, H⟩ := H
   refine GoR.op ((op_index Try.underlying26 ti3 rfl rfl Ac (ltn (b6.neq hO 0 rfl) Ad) (b6.psome hO 0 rfl Ac Ad)) _) rfl rfl ?_
   have hobt := ost (r := Rp.int .i64) rfl 0 hO rfl b6 Ac Ad (v := .int .i64 (mgt m1_52 r75)) (u := (mgt m1_52 r75)) rfl rfl
   obtain ⟨Ll, E4, fH, AH, Ck⟩ := hobt
   dsimp only [sS, sZ] at fH AH
   refine GoR.op (Ck Try.underlying3 rfl ti3 (by exact rfl) (by exact rfl)) rfl rfl ?_
   replace aa := aa.ch fH.ch
   replace dj := dj.ch fH.ch
   replace cG := cG.ch fH.ch
   replace cv := cv.ch fH.ch
   replace ab := ab.ch fH.ch
   replace ca := ca.ch fH.ch
   replace bf := bf.ch fH.ch
   replace aX := aX.ch fH.ch
   replace ac := ac.ch fH.ch
   replace hO := fH.own
   replace cj := cj.ch fH.ch
   replace ck := ck.ch fH.ch
   replace bK := bK.ch fH.ch
   replace np := np.ch fH.ch
   replace hB := hB.trans fH.fr
   refine GoR.nil ?_
   refine Go1.inBlock ?_
   refine Go1.region ?_
   refine GoR.op ((op_add rfl rfl (wrap_i64 (natbd h53 aa.bd))) _) rfl rfl ?_
   refine GoR.op ((op_move rfl) _) rfl rfl ?_
   refine GoR.nil ?_
   exact hX1 _ H _ _ ⟨E4, n21, p19, c20, mt, n27, p25, c26, nb, n33, p31, c32, nc, n39, p37, c38, ne, n45, p43, c44, eB, n51, p49, c50, eC, ⟨rfl, rfl, rfl, rfl, rfl, rfl, trivial⟩, hO, AH, aa, dj, cG, cv, ab, ca, bf, aX, ac, hB⟩
  replace H := ifn h81 H
  refine GoQ.stable rfl (olookF (a := r75) (MK.str Try.underlying9) 11 hO rfl Try.underlying69 ti3 rfl rfl h81) rfl rfl ?_
  refine GoQ.pure rfl (op_move rfl) rfl rfl ?_
  refine GoQ.pure rfl (op_extract rfl rfl) rfl rfl ?_
  refine GoQ.pure rfl (op_extract rfl rfl) rfl rfl ?_
  refine GoQ.pure rfl (op_assign rfl) rfl rfl ?_
  refine GoQ.pure rfl (op_assign rfl) rfl rfl ?_
  refine GoQ.nil ?_
  refine Go1.seq ?_
  refine Go1.region ?_
  refine GoR.op ((op_move rfl) _) rfl rfl ?_
  refine GoR.op ((op_nilCheck rfl) _) rfl rfl ?_
  refine GoR.op ((op_fieldAddr Try.underlying72 rfl ti70 rfl (by decide)) _) rfl rfl ?_
  refine GoR.op ((oblk (i := 10) 1 hO rfl rfl Try.underlying70 rfl rfl) _ (Same.refl _)) rfl rfl ?_
  refine GoR.op ((op_move rfl) _) rfl rfl ?_
  obtain ⟨yS, H⟩ := H
  obtain ⟨yT, H⟩ := H
  refine GoR.op ((op_index Try.underlying70 ti9 rfl rfl yS (ltn (bf.neq hO 8 rfl) yT) (bf.psome hO 8 rfl yS yT)) _) rfl rfl ?_
  refine GoR.op ((oldStr 8 hO rfl bf yS yT Try.underlying9 rfl rfl) _ (Same.refl _)) rfl rfl ?_
  have hle227 := Els.str_le bf yS yT
  refine GoR.op ((op_move rfl) _) rfl rfl ?_
  obtain ⟨H1, H⟩ := H
  refine GoR.op ((op_add rfl rfl (wrap_i64 H1)) _) rfl rfl ?_
  refine GoR.op ((op_conv Try.underlying3 Try.underlying21 rfl rfl) _) rfl rfl ?_
  obtain ⟨H2, H⟩ := H
  obtain ⟨H3, H⟩ := H
  refine GoR.op ((op_convRS Try.underlying21 Try.underlying9 rfl H2 H3) _) rfl rfl ?_
  obtain ⟨Ae, H⟩ := H
  refine GoR.op ((op_addS rfl rfl Ae) _) rfl rfl ?_
  refine GoR.op ((op_assign rfl) _) rfl rfl ?_
  refine GoR.nil ?_
  refine Go1.seq ?_
  refine Go1.block ?_
  refine Go1.seq ?_
  refine Go1.cut [(0, .pointer (some ⟨dZ, 0, none⟩)), (3, .int .i64 a0.Enum.Done), (4, .slice p2 a0.Enum.Gens.length a0.Enum.Gens.length), (5, .int .i64 (k1_12 : Int)), (7, .slice qW r66.length qX), (8, .int .i64 (0 : Int)), (9, .bool false), (10, .string (gstr ((ix d_40 a0.Enum.Done) ++ (chr (IntKind.i32.wrap ((97 : Int) + (k1_12 : Int))))))), (27, .slice ap ao aq), (28, .int .i64 (a0.Enum.Gens.length : Int)), (29, .int .i64 (k1_12 : Int))] ⟨rfl, rfl, rfl, rfl, rfl, rfl, rfl, rfl, rfl, rfl, rfl, trivial⟩ ?_
  intro σ _
  refine Go1.region ?_
  refine GoR.op ((op_move rfl) _) rfl rfl ?_
  refine GoR.op ((op_not rfl) _) rfl rfl ?_
  refine GoR.op ((op_move rfl) _) rfl rfl ?_
  refine GoR.op ((op_move rfl) _) rfl rfl ?_
  refine GoR.op ((op_nilCheck rfl) _) rfl rfl ?_
  refine GoR.op ((op_fieldAddr Try.underlying72 rfl ti29 rfl (by decide)) _) rfl rfl ?_
  refine GoR.op ((op_fieldAddr Try.underlying29 rfl ti22 rfl (by decide)) _) rfl rfl ?_
  refine GoR.op ((oblk (i := 3) 1 hO rfl rfl Try.underlying22 rfl rfl) _ (Same.refl _)) rfl rfl ?_
  refine GoR.op ((op_lenN Try.underlying22 rfl (dj.neq hO 3 rfl)) _) rfl rfl ?_
  by_cases yU : (d_16.length : Int) = (2000 : Int)
  ·replace H := ifp yU H
   refine GoR.op ((fun w => opB (op_eql rfl rfl w) (decide_eq_true yU)) _) rfl rfl ?_
   refine GoR.op ((op_pickT rfl rfl rfl) _) rfl rfl ?_
   refine GoR.op ((op_assign rfl) _) rfl rfl ?_
   refine GoR.nil ?_
   refine Go1.condT rfl rfl ?_
   refine Go1.seq ?_
   refine Go1.region ?_
   refine GoR.op ((op_assign rfl) _) rfl rfl ?_
   refine GoR.nil ?_
   replace cj := cj.ch (Owns.dropCh _ _ 0)
   replace ck := ck.ch (Owns.dropCh _ _ 0)
   replace bK := bK.ch (Owns.dropCh _ _ 0)
   replace aa := aa.ch (Owns.dropCh _ _ 0)
   replace dj := dj.ch (Owns.dropCh _ _ 0)
   replace cG := cG.ch (Owns.dropCh _ _ 0)
   replace cv := cv.ch (Owns.dropCh _ _ 0)
   replace ab := ab.ch (Owns.dropCh _ _ 0)
   replace ca := ca.ch (Owns.dropCh _ _ 0)
   replace bf := bf.ch (Owns.dropCh _ _ 0)
   replace aX := aX.ch (Owns.dropCh _ _ 0)
   replace ac := ac.ch (Owns.dropCh _ _ 0)
   replace hB := hB.trans (Owns.dropFr _ _ 0)
   replace hO := hO.drop 0
   dsimp only [eS, eZ] at hB hO cj ck bK aa dj cG cv ab ca bf aX ac
   refine Go1.ret1 Try.func51 rfl ?_
   exact ⟨((3 : Int)), (⟨(⟨a0.Enum.Points, a0.Enum.Monoid, a0.Enum.Gens, d_16, d_22, d_28, a0.Enum.Right, d_34, a0.Enum.Done⟩ : Enum), m1_52, d_40, d_46, a0.single⟩ : run), ao, ap, aq, cL, n21, p19, c20, mt, n27, p25, c26, nb, n33, p31, c32, nc, aE, aU, aV, cE, n39, p37, c38, ne, n45, p43, c44, eB, n51, p49, c50, eC, bD, bE, bF, du, rfl, hO, aa, dj, cG, cv, ab, ca, bf, aX, ac, hB, H⟩
  replace H := ifn yU H
  refine GoR.op ((fun w => opB (op_eql rfl rfl w) (decide_eq_false yU)) _) rfl rfl ?_
  refine GoR.op ((op_pickT rfl rfl rfl) _) rfl rfl ?_
  refine GoR.op ((op_assign rfl) _) rfl rfl ?_
  refine GoR.nil ?_
  refine Go1.condF rfl rfl ?_
  refine Go1.seq ?_
  refine Go1.region ?_
  refine GoR.op ((op_move rfl) _) rfl rfl ?_
  refine GoR.op ((op_not rfl) _) rfl rfl ?_
  refine GoR.op ((op_assign rfl) _) rfl rfl ?_
  refine GoR.nil ?_
  refine Go1.condT rfl rfl ?_
  refine Go1.region ?_
  refine GoR.op ((op_move rfl) _) rfl rfl ?_
  refine GoR.op ((op_move rfl) _) rfl rfl ?_
  refine GoR.op ((op_move rfl) _) rfl rfl ?_
  refine GoR.op ((op_move rfl) _) rfl rfl ?_
  refine GoR.op ((op_move rfl) _) rfl rfl ?_
  refine GoR.op ((op_move rfl) _) rfl rfl ?_
  refine GoR.op ((op_move rfl) _) rfl rfl ?_
  refine GoR.op ((op_nilCheck rfl) _) rfl rfl ?_
  refine GoR.op ((op_fieldAddr Try.underlying72 rfl ti26 rfl (by decide)) _) rfl rfl ?_
  refine GoR.op ((oblk (i := 11) 1 hO rfl rfl Try.underlying26 rfl rfl) _ (Same.refl _)) rfl rfl ?_
  refine GoR.op ((op_move rfl) _) rfl rfl ?_
  obtain ⟨Af, H⟩ := H
  obtain ⟨Ag, H⟩ := H
  refine GoR.op ((op_index Try.underlying26 ti3 rfl rfl Af (ltn (aX.neq hO 9 rfl) Ag) (aX.psome hO 9 rfl Af Ag)) _) rfl rfl ?_
  refine GoR.op ((oldInt 9 hO rfl aX Af Ag Try.underlying3 rfl rfl) _ (Same.refl _)) rfl rfl ?_
  refine GoR.op ((op_move rfl) _) rfl rfl ?_
  refine GoR.inl (vs := [.pointer (some ⟨dZ, 0, none⟩), .int .i64 (ix d_46 a0.Enum.Done), .int .i64 (k1_12 : Int)]) (caps := []) rfl rfl body66 Try.func66 rfl Try.ntmps66 rfl rfl rfl ?_
  intro RhR235 hR235
  refine Go1.seq ?_
  refine Go1.cut [(0, .pointer (some ⟨dZ, 0, none⟩)), (1, .int .i64 (ix d_46 a0.Enum.Done)), (2, .int .i64 (k1_12 : Int))] ⟨rfl, rfl, rfl, trivial⟩ ?_
  intro σ _
  refine Go1.region ?_
  refine GoR.op ((op_assign rfl) _) rfl rfl ?_
  refine GoR.nil ?_
  refine Go1.seq ?_
  refine Go1.seq ?_
  refine Go1.region ?_
  refine GoR.op ((op_move rfl) _) rfl rfl ?_
  by_cases yV : (ix d_46 a0.Enum.Done) = (-1 : Int)
  ·replace H := ifp yV H
   refine GoR.op ((fun w => opB (op_eql rfl rfl w) (decide_eq_true yV)) _) rfl rfl ?_
   refine GoR.nil ?_
   refine Go1.condT rfl rfl ?_
   refine Go1.seq ?_
   refine Go1.region ?_
   refine GoR.op ((op_move rfl) _) rfl rfl ?_
   refine GoR.op ((op_nilCheck rfl) _) rfl rfl ?_
   refine GoR.op ((op_fieldAddr Try.underlying72 rfl ti26 rfl (by decide)) _) rfl rfl ?_
   refine GoR.op ((oblk (i := 12) 1 hO rfl rfl Try.underlying26 rfl rfl) _ (Same.refl _)) rfl rfl ?_
   refine GoR.op ((op_move rfl) _) rfl rfl ?_
   obtain ⟨Ah, H⟩ := H
   obtain ⟨Ai, H⟩ := H
   refine GoR.op ((op_index Try.underlying26 ti3 rfl rfl Ah (ltn (ac.neq hO 10 rfl) Ai) (ac.psome hO 10 rfl Ah Ai)) _) rfl rfl ?_
   refine GoR.op ((oldInt 10 hO rfl ac Ah Ai Try.underlying3 rfl rfl) _ (Same.refl _)) rfl rfl ?_
   refine GoR.op ((op_assign rfl) _) rfl rfl ?_
   refine GoR.nil ?_
   refine Go1.ret1V Try.func66 rfl (show _ = .int .i64 (ix a0.single (k1_12 : Int)) from rfl) ?_
   refine hR235 _ _ ?_
   refine GoR.inl (vs := [.pointer (some ⟨dZ, 0, none⟩), .slice qW r66.length qX, .int .i64 a0.Enum.Done, .int .i64 (k1_12 : Int), .string (gstr ((ix d_40 a0.Enum.Done) ++ (chr (IntKind.i32.wrap ((97 : Int) + (k1_12 : Int)))))), .int .i64 (ix a0.single (k1_12 : Int))]) (caps := []) rfl rfl body65 Try.func65 rfl Try.ntmps65 rfl rfl rfl ?_
   intro RhR239 hR239
   refine Go1.seq ?_
   refine Go1.region ?_
   refine GoR.op ((op_assign rfl) _) rfl rfl ?_
   refine GoR.nil ?_
   refine Go1.seq ?_
   refine Go1.region ?_
   refine GoR.op ((op_move rfl) _) rfl rfl ?_
   refine GoR.op ((op_nilCheck rfl) _) rfl rfl ?_
   refine GoR.op ((op_fieldAddr Try.underlying72 rfl ti29 rfl (by decide)) _) rfl rfl ?_
   refine GoR.op ((op_fieldAddr Try.underlying29 rfl ti22 rfl (by decide)) _) rfl rfl ?_
   refine GoR.op ((oblk (i := 3) 1 hO rfl rfl Try.underlying22 rfl rfl) _ (Same.refl _)) rfl rfl ?_
   refine GoR.op ((op_lenN Try.underlying22 rfl (dj.neq hO 3 rfl)) _) rfl rfl ?_
   refine GoR.op ((op_assign rfl) _) rfl rfl ?_
   refine GoR.nil ?_
   refine Go1.seq ?_
   refine Go1.cut [(0, .pointer (some ⟨dZ, 0, none⟩)), (1, .slice qW r66.length qX), (2, .int .i64 a0.Enum.Done), (3, .int .i64 (k1_12 : Int)), (4, .string (gstr ((ix d_40 a0.Enum.Done) ++ (chr (IntKind.i32.wrap ((97 : Int) + (k1_12 : Int))))))), (5, .int .i64 (ix a0.single (k1_12 : Int))), (13, .int .i64 (d_16.length : Int))] ⟨rfl, rfl, rfl, rfl, rfl, rfl, rfl, trivial⟩ ?_
   intro σ _
   refine Go1.drawS 1 [(0, .pure), (1, .pure), (2, .pure), (3, .stable), (4, .pure), (6, .pure), (5, .loud), (7, .last)] mixed (by kernel_rfl) ?_
   intro Hg yv
   have ni := Stp.same hO yv
   replace b6 := b6.ch ni.ch
   replace aa := aa.ch ni.ch
   replace dj := dj.ch ni.ch
   replace cG := cG.ch ni.ch
   replace cv := cv.ch ni.ch
   replace ab := ab.ch ni.ch
   replace ca := ca.ch ni.ch
   replace bf := bf.ch ni.ch
   replace aX := aX.ch ni.ch
   replace ac := ac.ch ni.ch
   replace hO := ni.own
   replace cj := cj.ch ni.ch
   replace ck := ck.ch ni.ch
   replace bK := bK.ch ni.ch
   replace hB := hB.trans ni.fr
   refine GoQ.pure rfl (op_move rfl) rfl rfl ?_
   refine GoQ.pure rfl (op_nilCheck rfl) rfl rfl ?_
   refine GoQ.pure rfl (op_fieldAddr Try.underlying72 rfl ti69 rfl (by decide)) rfl rfl ?_
   refine GoQ.stable rfl (oblk (i := 9) 1 hO rfl rfl Try.underlying69 rfl rfl) rfl rfl ?_
   refine GoQ.pure rfl (op_move rfl) rfl rfl ?_
   refine GoQ.pure rfl (op_move rfl) rfl rfl ?_
   refine GoQ.call rfl (op_call body61 rfl (walk_enumerate_text hO.lt bK H)) (fun v w hr => by obtain ⟨_, _, hs, _, _⟩ := hr; assumption) rfl rfl ?_
   rintro Lm Ln ⟨r243, rfl, E5, IT, H⟩
   have nj := Stp.same hO E5
   replace b6 := b6.ch nj.ch
   replace aa := aa.ch nj.ch
   replace dj := dj.ch nj.ch
   replace cG := cG.ch nj.ch
   replace cv := cv.ch nj.ch
   replace ab := ab.ch nj.ch
   replace ca := ca.ch nj.ch
   replace bf := bf.ch nj.ch
   replace aX := aX.ch nj.ch
   replace ac := ac.ch nj.ch
   replace hO := nj.own
   replace cj := cj.ch nj.ch
   replace ck := ck.ch nj.ch
   replace bK := bK.ch nj.ch
   replace hB := hB.trans nj.fr
   have hobt := omapUpd (MK.str Try.underlying9) 11 hO rfl Try.underlying69 r243 (d_16.length : Int)
   obtain ⟨Lo, mJ, Cl⟩ := hobt
   dsimp only [sS, sZ] at mJ
   refine GoQ.last rfl (Cl (by exact rfl) (by exact rfl) (by exact rfl)) rfl rfl ?_
   replace b6 := b6.ch mJ.ch
   replace aa := aa.ch mJ.ch
   replace dj := dj.ch mJ.ch
   replace cG := cG.ch mJ.ch
   replace cv := cv.ch mJ.ch
   replace ab := ab.ch mJ.ch
   replace ca := ca.ch mJ.ch
   replace bf := bf.ch mJ.ch
   replace aX := aX.ch mJ.ch
   replace ac := ac.ch mJ.ch
   replace hO := mJ.own
   replace cj := cj.ch mJ.ch
   replace ck := ck.ch mJ.ch
   replace bK := bK.ch mJ.ch
   replace hB := hB.trans mJ.fr
   refine GoQ.nil ?_
   refine Go1.seq ?_
   refine Go1.region ?_
   refine GoR.op ((op_move rfl) _) rfl rfl ?_
   refine GoR.op ((op_move rfl) _) rfl rfl ?_
   refine GoR.op ((op_nilCheck rfl) _) rfl rfl ?_
   refine GoR.op ((op_fieldAddr Try.underlying72 rfl ti29 rfl (by decide)) _) rfl rfl ?_
   refine GoR.op ((op_fieldAddr Try.underlying29 rfl ti22 rfl (by decide)) _) rfl rfl ?_
   refine GoR.op ((oblk (i := 3) 1 hO rfl rfl Try.underlying22 rfl rfl) _ (Same.refl _)) rfl rfl ?_
   refine GoR.op ((op_move rfl) _) rfl rfl ?_
   have hobt := obuild (r := Rp.sl (Rp.int .i64)) (n := 1) (parts := [(0, .slice qW r66.length qX)]) (vs := [.slice qW r66.length qX]) (xs := [r66]) rfl Try.underlying22 ti26 hO (by decide) (by kernel_rfl) (Els.cons rfl ⟨qW, qX, rfl, bK⟩ (Els.nil _ _ _) (by simp [mx])) rfl
   obtain ⟨Lp, Lr, nk, E6, Jj, Cm⟩ := hobt
   refine GoR.op (Cm rfl) rfl rfl ?_
   replace b6 := b6.ch nk.ch
   replace aa := aa.ch nk.ch
   replace dj := dj.ch nk.ch
   replace cG := cG.ch nk.ch
   replace cv := cv.ch nk.ch
   replace ab := ab.ch nk.ch
   replace ca := ca.ch nk.ch
   replace bf := bf.ch nk.ch
   replace aX := aX.ch nk.ch
   replace ac := ac.ch nk.ch
   replace hO := nk.own
   replace cj := cj.ch nk.ch
   replace ck := ck.ch nk.ch
   replace bK := bK.ch nk.ch
   replace hB := hB.trans nk.fr
   have hobt := freeze 0 hO rfl E6
   obtain ⟨hO1, qy, fw, E7⟩ := hobt
   dsimp only [eS, eZ] at hO1 qy fw
   replace cj := cj.ch qy
   replace ck := ck.ch qy
   replace bK := bK.ch qy
   replace b6 := b6.ch qy
   replace aa := aa.ch qy
   replace dj := dj.ch qy
   replace cG := cG.ch qy
   replace cv := cv.ch qy
   replace ab := ab.ch qy
   replace ca := ca.ch qy
   replace bf := bf.ch qy
   replace aX := aX.ch qy
   replace ac := ac.ch qy
   replace hB := hB.trans (Owns.dropFr _ _ 0)
   dsimp only [eS, eZ] at hB
   replace hO := hO1; clear hO1
   obtain ⟨H4, H⟩ := H
   have hobt := oapp Try.underlying22 ti26 rfl 3 hO rfl dj fw E7 H4 (by decide)
   obtain ⟨Ls, vV, vW, E8, mK, fF, Cn⟩ := hobt
   dsimp only [sS, sZ] at mK fF
   refine GoR.op (Cn (by exact rfl) (by exact rfl)) rfl rfl ?_
   replace b6 := b6.ch mK.ch
   replace aa := aa.ch mK.ch
   replace cG := cG.ch mK.ch
   replace cv := cv.ch mK.ch
   replace ab := ab.ch mK.ch
   replace ca := ca.ch mK.ch
   replace bf := bf.ch mK.ch
   replace aX := aX.ch mK.ch
   replace ac := ac.ch mK.ch
   replace hO := mK.own
   replace cj := cj.ch mK.ch
   replace ck := ck.ch mK.ch
   replace bK := bK.ch mK.ch
   replace fw := fw.ch mK.ch
   replace hB := hB.trans mK.fr
   refine GoR.op ((op_nilCheck rfl) _) rfl rfl ?_
   refine GoR.op ((op_fieldAddr Try.underlying72 rfl ti29 rfl (by decide)) _) rfl rfl ?_
   refine GoR.op ((op_fieldAddr Try.underlying29 rfl ti22 rfl (by decide)) _) rfl rfl ?_
   have hobt := oblkSt2 (v := .slice vV (n21 + 1) vW) (i := 3) (cs' := #[.int .i64 a0.Enum.Points, .bool a0.Enum.Monoid, .slice ap ao aq, .slice vV (n21 + 1) vW, .slice p25 n27 c26, .slice p31 n33 c32, .slice aU aE aV, .slice p37 n39 c38, .int .i64 a0.Enum.Done, .map (some aW), .slice p43 n45 c44, .slice p49 n51 c50, .slice bE bD bF]) 1 hO rfl rfl rfl rfl
   obtain ⟨Lt, lJ, Co⟩ := hobt
   dsimp only [sS, sZ] at lJ
   refine GoR.op (Co Try.underlying22 rfl ti22 (by exact rfl) (by exact rfl)) rfl rfl ?_
   replace b6 := b6.ch lJ.ch
   replace aa := aa.ch lJ.ch
   replace fF := fF.ch lJ.ch
   replace cG := cG.ch lJ.ch
   replace cv := cv.ch lJ.ch
   replace ab := ab.ch lJ.ch
   replace ca := ca.ch lJ.ch
   replace bf := bf.ch lJ.ch
   replace aX := aX.ch lJ.ch
   replace ac := ac.ch lJ.ch
   replace hO := lJ.own
   replace cj := cj.ch lJ.ch
   replace ck := ck.ch lJ.ch
   replace bK := bK.ch lJ.ch
   replace fw := fw.ch lJ.ch
   replace hB := hB.trans lJ.fr
   refine GoR.nil ?_
   refine Go1.seq ?_
   refine Go1.cut [(0, .pointer (some ⟨dZ, 0, none⟩)), (2, .int .i64 a0.Enum.Done), (3, .int .i64 (k1_12 : Int)), (4, .string (gstr ((ix d_40 a0.Enum.Done) ++ (chr (IntKind.i32.wrap ((97 : Int) + (k1_12 : Int))))))), (5, .int .i64 (ix a0.single (k1_12 : Int))), (13, .int .i64 (d_16.length : Int))] ⟨rfl, rfl, rfl, rfl, rfl, rfl, trivial⟩ ?_
   intro σ _
   refine Go1.region ?_
   refine GoR.op ((op_move rfl) _) rfl rfl ?_
   refine GoR.op ((op_move rfl) _) rfl rfl ?_
   refine GoR.op ((op_nilCheck rfl) _) rfl rfl ?_
   refine GoR.op ((op_fieldAddr Try.underlying72 rfl ti29 rfl (by decide)) _) rfl rfl ?_
   refine GoR.op ((op_fieldAddr Try.underlying29 rfl ti26 rfl (by decide)) _) rfl rfl ?_
   refine GoR.op ((oblk (i := 4) 1 hO rfl rfl Try.underlying26 rfl rfl) _ (Same.refl _)) rfl rfl ?_
   refine GoR.op ((op_move rfl) _) rfl rfl ?_
   have hobt := obuild (r := Rp.int .i64) (n := 1) (parts := [(0, .int .i64 a0.Enum.Done)]) (vs := [.int .i64 a0.Enum.Done]) (xs := [a0.Enum.Done]) rfl Try.underlying26 ti3 hO (by decide) (by kernel_rfl) (Els.cons rfl rfl (Els.nil _ _ _) (by simp [mx])) rfl
   obtain ⟨Lu, Lv, mM, E9, Jk, Cp⟩ := hobt
   refine GoR.op (Cp rfl) rfl rfl ?_
   replace b6 := b6.ch mM.ch
   replace aa := aa.ch mM.ch
   replace fF := fF.ch mM.ch
   replace cG := cG.ch mM.ch
   replace cv := cv.ch mM.ch
   replace ab := ab.ch mM.ch
   replace ca := ca.ch mM.ch
   replace bf := bf.ch mM.ch
   replace aX := aX.ch mM.ch
   replace ac := ac.ch mM.ch
   replace hO := mM.own
   replace cj := cj.ch mM.ch
   replace ck := ck.ch mM.ch
   replace bK := bK.ch mM.ch
   replace fw := fw.ch mM.ch
   replace hB := hB.trans mM.fr
   have hobt := freeze 0 hO rfl E9
   obtain ⟨hO1, o4, gT, Fa⟩ := hobt
   dsimp only [eS, eZ] at hO1 o4 gT
   replace cj := cj.ch o4
   replace ck := ck.ch o4
   replace bK := bK.ch o4
   replace fw := fw.ch o4
   replace b6 := b6.ch o4
   replace aa := aa.ch o4
   replace fF := fF.ch o4
   replace cG := cG.ch o4
   replace cv := cv.ch o4
   replace ab := ab.ch o4
   replace ca := ca.ch o4
   replace bf := bf.ch o4
   replace aX := aX.ch o4
   replace ac := ac.ch o4
   replace hB := hB.trans (Owns.dropFr _ _ 0)
   dsimp only [eS, eZ] at hB
   replace hO := hO1; clear hO1
   obtain ⟨H5, H⟩ := H
   have hobt := oapp Try.underlying26 ti3 rfl 4 hO rfl cG gT Fa H5 (by decide)
   obtain ⟨Lw, wT, wU, Fb, lK, iF, Cq⟩ := hobt
   dsimp only [sS, sZ] at lK iF
   refine GoR.op (Cq (by exact rfl) (by exact rfl)) rfl rfl ?_
   replace b6 := b6.ch lK.ch
   replace aa := aa.ch lK.ch
   replace fF := fF.ch lK.ch
   replace cv := cv.ch lK.ch
   replace ab := ab.ch lK.ch
   replace ca := ca.ch lK.ch
   replace bf := bf.ch lK.ch
   replace aX := aX.ch lK.ch
   replace ac := ac.ch lK.ch
   replace hO := lK.own
   replace cj := cj.ch lK.ch
   replace ck := ck.ch lK.ch
   replace bK := bK.ch lK.ch
   replace fw := fw.ch lK.ch
   replace gT := gT.ch lK.ch
   replace hB := hB.trans lK.fr
   refine GoR.op ((op_nilCheck rfl) _) rfl rfl ?_
   refine GoR.op ((op_fieldAddr Try.underlying72 rfl ti29 rfl (by decide)) _) rfl rfl ?_
   refine GoR.op ((op_fieldAddr Try.underlying29 rfl ti26 rfl (by decide)) _) rfl rfl ?_
   have hobt := oblkSt2 (v := .slice wT (n27 + 1) wU) (i := 4) (cs' := #[.int .i64 a0.Enum.Points, .bool a0.Enum.Monoid, .slice ap ao aq, .slice vV (n21 + 1) vW, .slice wT (n27 + 1) wU, .slice p31 n33 c32, .slice aU aE aV, .slice p37 n39 c38, .int .i64 a0.Enum.Done, .map (some aW), .slice p43 n45 c44, .slice p49 n51 c50, .slice bE bD bF]) 1 hO rfl rfl rfl rfl
   obtain ⟨Lx, lj, Cr⟩ := hobt
   dsimp only [sS, sZ] at lj
   refine GoR.op (Cr Try.underlying26 rfl ti26 (by exact rfl) (by exact rfl)) rfl rfl ?_
   replace b6 := b6.ch lj.ch
   replace aa := aa.ch lj.ch
   replace fF := fF.ch lj.ch
   replace iF := iF.ch lj.ch
   replace cv := cv.ch lj.ch
   replace ab := ab.ch lj.ch
   replace ca := ca.ch lj.ch
   replace bf := bf.ch lj.ch
   replace aX := aX.ch lj.ch
   replace ac := ac.ch lj.ch
   replace hO := lj.own
   replace cj := cj.ch lj.ch
   replace ck := ck.ch lj.ch
   replace bK := bK.ch lj.ch
   replace fw := fw.ch lj.ch
   replace gT := gT.ch lj.ch
   replace hB := hB.trans lj.fr
   refine GoR.nil ?_
   refine Go1.seq ?_
   refine Go1.region ?_
   refine GoR.op ((op_move rfl) _) rfl rfl ?_
   refine GoR.op ((op_move rfl) _) rfl rfl ?_
   refine GoR.op ((op_nilCheck rfl) _) rfl rfl ?_
   refine GoR.op ((op_fieldAddr Try.underlying72 rfl ti29 rfl (by decide)) _) rfl rfl ?_
   refine GoR.op ((op_fieldAddr Try.underlying29 rfl ti26 rfl (by decide)) _) rfl rfl ?_
   refine GoR.op ((oblk (i := 5) 1 hO rfl rfl Try.underlying26 rfl rfl) _ (Same.refl _)) rfl rfl ?_
   refine GoR.op ((op_move rfl) _) rfl rfl ?_
   have hobt := obuild (r := Rp.int .i64) (n := 1) (parts := [(0, .int .i64 (k1_12 : Int))]) (vs := [.int .i64 (k1_12 : Int)]) (xs := [(k1_12 : Int)]) rfl Try.underlying26 ti3 hO (by decide) (by kernel_rfl) (Els.cons rfl rfl (Els.nil _ _ _) (by simp [mx])) rfl
   obtain ⟨Ly, Lz, lL, Fc, AI, Cs⟩ := hobt
   refine GoR.op (Cs rfl) rfl rfl ?_
   replace b6 := b6.ch lL.ch
   replace aa := aa.ch lL.ch
   replace fF := fF.ch lL.ch
   replace iF := iF.ch lL.ch
   replace cv := cv.ch lL.ch
   replace ab := ab.ch lL.ch
   replace ca := ca.ch lL.ch
   replace bf := bf.ch lL.ch
   replace aX := aX.ch lL.ch
   replace ac := ac.ch lL.ch
   replace hO := lL.own
   replace cj := cj.ch lL.ch
   replace ck := ck.ch lL.ch
   replace bK := bK.ch lL.ch
   replace fw := fw.ch lL.ch
   replace gT := gT.ch lL.ch
   replace hB := hB.trans lL.fr
   have hobt := freeze 0 hO rfl Fc
   obtain ⟨hO1, nW, kb, Fd⟩ := hobt
   dsimp only [eS, eZ] at hO1 nW kb
   replace cj := cj.ch nW
   replace ck := ck.ch nW
   replace bK := bK.ch nW
   replace fw := fw.ch nW
   replace gT := gT.ch nW
   replace b6 := b6.ch nW
   replace aa := aa.ch nW
   replace fF := fF.ch nW
   replace iF := iF.ch nW
   replace cv := cv.ch nW
   replace ab := ab.ch nW
   replace ca := ca.ch nW
   replace bf := bf.ch nW
   replace aX := aX.ch nW
   replace ac := ac.ch nW
   replace hB := hB.trans (Owns.dropFr _ _ 0)
   dsimp only [eS, eZ] at hB
   replace hO := hO1; clear hO1
   obtain ⟨H6, H⟩ := H
   have hobt := oapp Try.underlying26 ti3 rfl 5 hO rfl cv kb Fd H6 (by decide)
   obtain ⟨LA, xS, xT, Fe, lk, kZ, Ct⟩ := hobt
   dsimp only [sS, sZ] at lk kZ
   refine GoR.op (Ct (by exact rfl) (by exact rfl)) rfl rfl ?_
   replace b6 := b6.ch lk.ch
   replace aa := aa.ch lk.ch
   replace fF := fF.ch lk.ch
   replace iF := iF.ch lk.ch
   replace ab := ab.ch lk.ch
   replace ca := ca.ch lk.ch
   replace bf := bf.ch lk.ch
   replace aX := aX.ch lk.ch
   replace ac := ac.ch lk.ch
   replace hO := lk.own
   replace cj := cj.ch lk.ch
   replace ck := ck.ch lk.ch
   replace bK := bK.ch lk.ch
   replace fw := fw.ch lk.ch
   replace gT := gT.ch lk.ch
   replace kb := kb.ch lk.ch
   replace hB := hB.trans lk.fr
   refine GoR.op ((op_nilCheck rfl) _) rfl rfl ?_
   refine GoR.op ((op_fieldAddr Try.underlying72 rfl ti29 rfl (by decide)) _) rfl rfl ?_
   refine GoR.op ((op_fieldAddr Try.underlying29 rfl ti26 rfl (by decide)) _) rfl rfl ?_
   have hobt := oblkSt2 (v := .slice xS (n33 + 1) xT) (i := 5) (cs' := #[.int .i64 a0.Enum.Points, .bool a0.Enum.Monoid, .slice ap ao aq, .slice vV (n21 + 1) vW, .slice wT (n27 + 1) wU, .slice xS (n33 + 1) xT, .slice aU aE aV, .slice p37 n39 c38, .int .i64 a0.Enum.Done, .map (some aW), .slice p43 n45 c44, .slice p49 n51 c50, .slice bE bD bF]) 1 hO rfl rfl rfl rfl
   obtain ⟨LB, kz, Cu⟩ := hobt
   dsimp only [sS, sZ] at kz
   refine GoR.op (Cu Try.underlying26 rfl ti26 (by exact rfl) (by exact rfl)) rfl rfl ?_
   replace b6 := b6.ch kz.ch
   replace aa := aa.ch kz.ch
   replace fF := fF.ch kz.ch
   replace iF := iF.ch kz.ch
   replace kZ := kZ.ch kz.ch
   replace ab := ab.ch kz.ch
   replace ca := ca.ch kz.ch
   replace bf := bf.ch kz.ch
   replace aX := aX.ch kz.ch
   replace ac := ac.ch kz.ch
   replace hO := kz.own
   replace cj := cj.ch kz.ch
   replace ck := ck.ch kz.ch
   replace bK := bK.ch kz.ch
   replace fw := fw.ch kz.ch
   replace gT := gT.ch kz.ch
   replace kb := kb.ch kz.ch
   replace hB := hB.trans kz.fr
   refine GoR.nil ?_
   refine Go1.seq ?_
   refine Go1.cut [(0, .pointer (some ⟨dZ, 0, none⟩)), (4, .string (gstr ((ix d_40 a0.Enum.Done) ++ (chr (IntKind.i32.wrap ((97 : Int) + (k1_12 : Int))))))), (5, .int .i64 (ix a0.single (k1_12 : Int))), (13, .int .i64 (d_16.length : Int))] ⟨rfl, rfl, rfl, rfl, trivial⟩ ?_
   intro σ _
   refine Go1.region ?_
   refine GoR.op ((op_move rfl) _) rfl rfl ?_
   refine GoR.op ((op_move rfl) _) rfl rfl ?_
   refine GoR.op ((op_nilCheck rfl) _) rfl rfl ?_
   refine GoR.op ((op_fieldAddr Try.underlying72 rfl ti70 rfl (by decide)) _) rfl rfl ?_
   refine GoR.op ((oblk (i := 10) 1 hO rfl rfl Try.underlying70 rfl rfl) _ (Same.refl _)) rfl rfl ?_
   refine GoR.op ((op_move rfl) _) rfl rfl ?_
   have hobt := obuild (r := Rp.str) (n := 1) (parts := [(0, .string (gstr ((ix d_40 a0.Enum.Done) ++ (chr (IntKind.i32.wrap ((97 : Int) + (k1_12 : Int)))))))]) (vs := [.string (gstr ((ix d_40 a0.Enum.Done) ++ (chr (IntKind.i32.wrap ((97 : Int) + (k1_12 : Int))))))]) (xs := [(ix d_40 a0.Enum.Done) ++ (chr (IntKind.i32.wrap ((97 : Int) + (k1_12 : Int))))]) rfl Try.underlying70 ti9 hO (by decide) (by kernel_rfl) (Els.cons rfl ⟨rfl, (lenApp Ae)⟩ (Els.nil _ _ _) (by simp [mx])) rfl
   obtain ⟨LD, LE, ll, Ff, Jl, Cv⟩ := hobt
   refine GoR.op (Cv rfl) rfl rfl ?_
   replace b6 := b6.ch ll.ch
   replace aa := aa.ch ll.ch
   replace fF := fF.ch ll.ch
   replace iF := iF.ch ll.ch
   replace kZ := kZ.ch ll.ch
   replace ab := ab.ch ll.ch
   replace ca := ca.ch ll.ch
   replace bf := bf.ch ll.ch
   replace aX := aX.ch ll.ch
   replace ac := ac.ch ll.ch
   replace hO := ll.own
   replace cj := cj.ch ll.ch
   replace ck := ck.ch ll.ch
   replace bK := bK.ch ll.ch
   replace fw := fw.ch ll.ch
   replace gT := gT.ch ll.ch
   replace kb := kb.ch ll.ch
   replace hB := hB.trans ll.fr
   have hobt := freeze 0 hO rfl Ff
   obtain ⟨hO1, nE, nX, Fg⟩ := hobt
   dsimp only [eS, eZ] at hO1 nE nX
   replace cj := cj.ch nE
   replace ck := ck.ch nE
   replace bK := bK.ch nE
   replace fw := fw.ch nE
   replace gT := gT.ch nE
   replace kb := kb.ch nE
   replace b6 := b6.ch nE
   replace aa := aa.ch nE
   replace fF := fF.ch nE
   replace iF := iF.ch nE
   replace kZ := kZ.ch nE
   replace ab := ab.ch nE
   replace ca := ca.ch nE
   replace bf := bf.ch nE
   replace aX := aX.ch nE
   replace ac := ac.ch nE
   replace hB := hB.trans (Owns.dropFr _ _ 0)
   dsimp only [eS, eZ] at hB
   replace hO := hO1; clear hO1
   obtain ⟨H7, H⟩ := H
   have hobt := oapp Try.underlying70 ti9 rfl 8 hO rfl bf nX Fg H7 (by decide)
   obtain ⟨LF, yW, yX, Fh, kA, qz, Cw⟩ := hobt
   dsimp only [sS, sZ] at kA qz
   refine GoR.op (Cw (by exact rfl) (by exact rfl)) rfl rfl ?_
   replace b6 := b6.ch kA.ch
   replace aa := aa.ch kA.ch
   replace fF := fF.ch kA.ch
   replace iF := iF.ch kA.ch
   replace kZ := kZ.ch kA.ch
   replace ab := ab.ch kA.ch
   replace ca := ca.ch kA.ch
   replace aX := aX.ch kA.ch
   replace ac := ac.ch kA.ch
   replace hO := kA.own
   replace cj := cj.ch kA.ch
   replace ck := ck.ch kA.ch
   replace bK := bK.ch kA.ch
   replace fw := fw.ch kA.ch
   replace gT := gT.ch kA.ch
   replace kb := kb.ch kA.ch
   replace nX := nX.ch kA.ch
   replace hB := hB.trans kA.fr
   refine GoR.op ((op_nilCheck rfl) _) rfl rfl ?_
   refine GoR.op ((op_fieldAddr Try.underlying72 rfl ti70 rfl (by decide)) _) rfl rfl ?_
   have hobt := oblkSt2 (v := .slice yW (n45 + 1) yX) (i := 10) (cs' := #[.int .i64 a0.Enum.Points, .bool a0.Enum.Monoid, .slice ap ao aq, .slice vV (n21 + 1) vW, .slice wT (n27 + 1) wU, .slice xS (n33 + 1) xT, .slice aU aE aV, .slice p37 n39 c38, .int .i64 a0.Enum.Done, .map (some aW), .slice yW (n45 + 1) yX, .slice p49 n51 c50, .slice bE bD bF]) 1 hO rfl rfl rfl rfl
   obtain ⟨LG, j5, Cx⟩ := hobt
   dsimp only [sS, sZ] at j5
   refine GoR.op (Cx Try.underlying70 rfl ti70 (by exact rfl) (by exact rfl)) rfl rfl ?_
   replace b6 := b6.ch j5.ch
   replace aa := aa.ch j5.ch
   replace fF := fF.ch j5.ch
   replace iF := iF.ch j5.ch
   replace kZ := kZ.ch j5.ch
   replace ab := ab.ch j5.ch
   replace ca := ca.ch j5.ch
   replace qz := qz.ch j5.ch
   replace aX := aX.ch j5.ch
   replace ac := ac.ch j5.ch
   replace hO := j5.own
   replace cj := cj.ch j5.ch
   replace ck := ck.ch j5.ch
   replace bK := bK.ch j5.ch
   replace fw := fw.ch j5.ch
   replace gT := gT.ch j5.ch
   replace kb := kb.ch j5.ch
   replace nX := nX.ch j5.ch
   replace hB := hB.trans j5.fr
   refine GoR.nil ?_
   refine Go1.seq ?_
   refine Go1.region ?_
   refine GoR.op ((op_move rfl) _) rfl rfl ?_
   refine GoR.op ((op_move rfl) _) rfl rfl ?_
   refine GoR.op ((op_nilCheck rfl) _) rfl rfl ?_
   refine GoR.op ((op_fieldAddr Try.underlying72 rfl ti26 rfl (by decide)) _) rfl rfl ?_
   refine GoR.op ((oblk (i := 11) 1 hO rfl rfl Try.underlying26 rfl rfl) _ (Same.refl _)) rfl rfl ?_
   refine GoR.op ((op_move rfl) _) rfl rfl ?_
   have hobt := obuild (r := Rp.int .i64) (n := 1) (parts := [(0, .int .i64 (ix a0.single (k1_12 : Int)))]) (vs := [.int .i64 (ix a0.single (k1_12 : Int))]) (xs := [(ix a0.single (k1_12 : Int))]) rfl Try.underlying26 ti3 hO (by decide) (by kernel_rfl) (Els.cons rfl rfl (Els.nil _ _ _) (by simp [mx])) rfl
   obtain ⟨LH, LI, kB, Fi, Jm, Cy⟩ := hobt
   refine GoR.op (Cy rfl) rfl rfl ?_
   replace b6 := b6.ch kB.ch
   replace aa := aa.ch kB.ch
   replace fF := fF.ch kB.ch
   replace iF := iF.ch kB.ch
   replace kZ := kZ.ch kB.ch
   replace ab := ab.ch kB.ch
   replace ca := ca.ch kB.ch
   replace qz := qz.ch kB.ch
   replace aX := aX.ch kB.ch
   replace ac := ac.ch kB.ch
   replace hO := kB.own
   replace cj := cj.ch kB.ch
   replace ck := ck.ch kB.ch
   replace bK := bK.ch kB.ch
   replace fw := fw.ch kB.ch
   replace gT := gT.ch kB.ch
   replace kb := kb.ch kB.ch
   replace nX := nX.ch kB.ch
   replace hB := hB.trans kB.fr
   have hobt := freeze 0 hO rfl Fi
   obtain ⟨hO1, nq, tI, Fj⟩ := hobt
   dsimp only [eS, eZ] at hO1 nq tI
   replace cj := cj.ch nq
   replace ck := ck.ch nq
   replace bK := bK.ch nq
   replace fw := fw.ch nq
   replace gT := gT.ch nq
   replace kb := kb.ch nq
   replace nX := nX.ch nq
   replace b6 := b6.ch nq
   replace aa := aa.ch nq
   replace fF := fF.ch nq
   replace iF := iF.ch nq
   replace kZ := kZ.ch nq
   replace ab := ab.ch nq
   replace ca := ca.ch nq
   replace qz := qz.ch nq
   replace aX := aX.ch nq
   replace ac := ac.ch nq
   replace hB := hB.trans (Owns.dropFr _ _ 0)
   dsimp only [eS, eZ] at hB
   replace hO := hO1; clear hO1
   obtain ⟨H8, H⟩ := H
   have hobt := oapp Try.underlying26 ti3 rfl 9 hO rfl aX tI Fj H8 (by decide)
   obtain ⟨LJ, Aj, Ak, Fk, j6, vh, Cz⟩ := hobt
   dsimp only [sS, sZ] at j6 vh
   refine GoR.op (Cz (by exact rfl) (by exact rfl)) rfl rfl ?_
   replace b6 := b6.ch j6.ch
   replace aa := aa.ch j6.ch
   replace fF := fF.ch j6.ch
   replace iF := iF.ch j6.ch
   replace kZ := kZ.ch j6.ch
   replace ab := ab.ch j6.ch
   replace ca := ca.ch j6.ch
   replace qz := qz.ch j6.ch
   replace ac := ac.ch j6.ch
   replace hO := j6.own
   replace cj := cj.ch j6.ch
   replace ck := ck.ch j6.ch
   replace bK := bK.ch j6.ch
   replace fw := fw.ch j6.ch
   replace gT := gT.ch j6.ch
   replace kb := kb.ch j6.ch
   replace nX := nX.ch j6.ch
   replace tI := tI.ch j6.ch
   replace hB := hB.trans j6.fr
   refine GoR.op ((op_nilCheck rfl) _) rfl rfl ?_
   refine GoR.op ((op_fieldAddr Try.underlying72 rfl ti26 rfl (by decide)) _) rfl rfl ?_
   have hobt := oblkSt2 (v := .slice Aj (n51 + 1) Ak) (i := 11) (cs' := #[.int .i64 a0.Enum.Points, .bool a0.Enum.Monoid, .slice ap ao aq, .slice vV (n21 + 1) vW, .slice wT (n27 + 1) wU, .slice xS (n33 + 1) xT, .slice aU aE aV, .slice p37 n39 c38, .int .i64 a0.Enum.Done, .map (some aW), .slice yW (n45 + 1) yX, .slice Aj (n51 + 1) Ak, .slice bE bD bF]) 1 hO rfl rfl rfl rfl
   obtain ⟨LK, jo, CA⟩ := hobt
   dsimp only [sS, sZ] at jo
   refine GoR.op (CA Try.underlying26 rfl ti26 (by exact rfl) (by exact rfl)) rfl rfl ?_
   replace b6 := b6.ch jo.ch
   replace aa := aa.ch jo.ch
   replace fF := fF.ch jo.ch
   replace iF := iF.ch jo.ch
   replace kZ := kZ.ch jo.ch
   replace ab := ab.ch jo.ch
   replace ca := ca.ch jo.ch
   replace qz := qz.ch jo.ch
   replace vh := vh.ch jo.ch
   replace ac := ac.ch jo.ch
   replace hO := jo.own
   replace cj := cj.ch jo.ch
   replace ck := ck.ch jo.ch
   replace bK := bK.ch jo.ch
   replace fw := fw.ch jo.ch
   replace gT := gT.ch jo.ch
   replace kb := kb.ch jo.ch
   replace nX := nX.ch jo.ch
   replace tI := tI.ch jo.ch
   replace hB := hB.trans jo.fr
   refine GoR.nil ?_
   refine Go1.seq ?_
   refine Go1.cut [(13, .int .i64 (d_16.length : Int))] ⟨rfl, trivial⟩ ?_
   intro σ _
   refine Go1.region ?_
   refine GoR.op ((op_move rfl) _) rfl rfl ?_
   refine GoR.op ((op_assign rfl) _) rfl rfl ?_
   refine GoR.nil ?_
   refine Go1.ret1V Try.func65 rfl (show _ = .int .i64 (d_16.length : Int) from rfl) ?_
   refine hR239 _ _ ?_
   refine GoR.op ((op_assign rfl) _) rfl rfl ?_
   refine GoR.nil ?_
   refine Go1.inBlock ?_
   refine Go1.region ?_
   refine GoR.op ((op_move rfl) _) rfl rfl ?_
   refine GoR.op ((op_move rfl) _) rfl rfl ?_
   refine GoR.op ((op_move rfl) _) rfl rfl ?_
   obtain ⟨Al, H⟩ := H
   obtain ⟨Am, H⟩ := H
   refine GoR.op ((op_index Try.underlying26 ti3 rfl rfl Al (ltn (b6.neq hO 0 rfl) Am) (b6.psome hO 0 rfl Al Am)) _) rfl rfl ?_
   have hobt := ost (r := Rp.int .i64) rfl 0 hO rfl b6 Al Am (v := .int .i64 (d_16.length : Int)) (u := (d_16.length : Int)) rfl rfl
   obtain ⟨LM, Fm, j7, AJ, CB⟩ := hobt
   dsimp only [sS, sZ] at j7 AJ
   refine GoR.op (CB Try.underlying3 rfl ti3 (by exact rfl) (by exact rfl)) rfl rfl ?_
   replace aa := aa.ch j7.ch
   replace fF := fF.ch j7.ch
   replace iF := iF.ch j7.ch
   replace kZ := kZ.ch j7.ch
   replace ab := ab.ch j7.ch
   replace ca := ca.ch j7.ch
   replace qz := qz.ch j7.ch
   replace vh := vh.ch j7.ch
   replace ac := ac.ch j7.ch
   replace hO := j7.own
   replace cj := cj.ch j7.ch
   replace ck := ck.ch j7.ch
   replace bK := bK.ch j7.ch
   replace fw := fw.ch j7.ch
   replace gT := gT.ch j7.ch
   replace kb := kb.ch j7.ch
   replace nX := nX.ch j7.ch
   replace tI := tI.ch j7.ch
   replace hB := hB.trans j7.fr
   refine GoR.nil ?_
   refine Go1.inBlock ?_
   refine Go1.region ?_
   refine GoR.op ((op_add rfl rfl (wrap_i64 (natbd h53 aa.bd))) _) rfl rfl ?_
   refine GoR.op ((op_move rfl) _) rfl rfl ?_
   refine GoR.nil ?_
   exact hX1 _ H _ _ ⟨Fm, n21 + 1, vV, vW, E8, n27 + 1, wT, wU, Fb, n33 + 1, xS, xT, Fe, n39, p37, c38, ne, n45 + 1, yW, yX, Fh, n51 + 1, Aj, Ak, Fk, ⟨rfl, rfl, rfl, rfl, rfl, rfl, trivial⟩, hO, AJ, aa, fF, iF, kZ, ab, ca, qz, vh, ac, hB⟩
  replace H := ifn yV H
  refine GoR.op ((fun w => opB (op_eql rfl rfl w) (decide_eq_false yV)) _) rfl rfl ?_
  refine GoR.nil ?_
  refine Go1.condF rfl rfl ?_
  refine Go1.skip ?_
  refine Go1.seq ?_
  refine Go1.region ?_
  refine GoR.op ((op_move rfl) _) rfl rfl ?_
  refine GoR.op ((op_nilCheck rfl) _) rfl rfl ?_
  refine GoR.op ((op_fieldAddr Try.underlying72 rfl ti29 rfl (by decide)) _) rfl rfl ?_
  refine GoR.op ((op_fieldAddr Try.underlying29 rfl ti22 rfl (by decide)) _) rfl rfl ?_
  refine GoR.op ((oblk (i := 6) 1 hO rfl rfl Try.underlying22 rfl rfl) _ (Same.refl _)) rfl rfl ?_
  refine GoR.op ((op_move rfl) _) rfl rfl ?_
  obtain ⟨Ao, H⟩ := H
  obtain ⟨Ap, H⟩ := H
  refine GoR.op ((op_index Try.underlying22 ti26 rfl rfl Ao (ltn (ab.neq hO 6 rfl) Ap) (ab.psome hO 6 rfl Ao Ap)) _) rfl rfl ?_
  have hobt := oldSl 6 hO rfl ab Ao Ap
  obtain ⟨LN, LO, d9, Fn⟩ := hobt
  refine GoR.op ((Fn Try.underlying26 rfl rfl) _ (Same.refl _)) rfl rfl ?_
  refine GoR.op ((op_move rfl) _) rfl rfl ?_
  obtain ⟨Aq, H⟩ := H
  obtain ⟨Ar, H⟩ := H
  refine GoR.op ((op_index Try.underlying26 ti3 rfl rfl Aq Ar (d9.some_ Aq Ar)) _) rfl rfl ?_
  refine GoR.op ((ldInt d9 Aq Ar Try.underlying3 rfl rfl) _ (Same.refl _)) rfl rfl ?_
  refine GoR.op ((op_assign rfl) _) rfl rfl ?_
  refine GoR.nil ?_
  refine Go1.ret1V Try.func66 rfl (show _ = .int .i64 (ix (ix a0.Enum.Right (ix d_46 a0.Enum.Done)) (k1_12 : Int)) from rfl) ?_
  refine hR235 _ _ ?_
  refine GoR.inl (vs := [.pointer (some ⟨dZ, 0, none⟩), .slice qW r66.length qX, .int .i64 a0.Enum.Done, .int .i64 (k1_12 : Int), .string (gstr ((ix d_40 a0.Enum.Done) ++ (chr (IntKind.i32.wrap ((97 : Int) + (k1_12 : Int)))))), .int .i64 (ix (ix a0.Enum.Right (ix d_46 a0.Enum.Done)) (k1_12 : Int))]) (caps := []) rfl rfl body65 Try.func65 rfl Try.ntmps65 rfl rfl rfl ?_
  intro RhR377 hR377
  refine Go1.seq ?_
  refine Go1.cut [(0, .pointer (some ⟨dZ, 0, none⟩)), (1, .slice qW r66.length qX), (2, .int .i64 a0.Enum.Done), (3, .int .i64 (k1_12 : Int)), (4, .string (gstr ((ix d_40 a0.Enum.Done) ++ (chr (IntKind.i32.wrap ((97 : Int) + (k1_12 : Int))))))), (5, .int .i64 (ix (ix a0.Enum.Right (ix d_46 a0.Enum.Done)) (k1_12 : Int)))] ⟨rfl, rfl, rfl, rfl, rfl, rfl, trivial⟩ ?_
  intro σ _
  refine Go1.region ?_
  refine GoR.op ((op_assign rfl) _) rfl rfl ?_
  refine GoR.nil ?_
  refine Go1.seq ?_
  refine Go1.region ?_
  refine GoR.op ((op_move rfl) _) rfl rfl ?_
  refine GoR.op ((op_nilCheck rfl) _) rfl rfl ?_
  refine GoR.op ((op_fieldAddr Try.underlying72 rfl ti29 rfl (by decide)) _) rfl rfl ?_
  refine GoR.op ((op_fieldAddr Try.underlying29 rfl ti22 rfl (by decide)) _) rfl rfl ?_
  refine GoR.op ((oblk (i := 3) 1 hO rfl rfl Try.underlying22 rfl rfl) _ (Same.refl _)) rfl rfl ?_
  refine GoR.op ((op_lenN Try.underlying22 rfl (dj.neq hO 3 rfl)) _) rfl rfl ?_
  refine GoR.op ((op_assign rfl) _) rfl rfl ?_
  refine GoR.nil ?_
  refine Go1.seq ?_
  refine Go1.drawS 1 [(0, .pure), (1, .pure), (2, .pure), (3, .stable), (4, .pure), (6, .pure), (5, .loud), (7, .last)] mixed (by kernel_rfl) ?_
  intro LP Fo
  have mO := Stp.same hO Fo
  replace b6 := b6.ch mO.ch
  replace aa := aa.ch mO.ch
  replace dj := dj.ch mO.ch
  replace cG := cG.ch mO.ch
  replace cv := cv.ch mO.ch
  replace ab := ab.ch mO.ch
  replace ca := ca.ch mO.ch
  replace bf := bf.ch mO.ch
  replace aX := aX.ch mO.ch
  replace ac := ac.ch mO.ch
  replace hO := mO.own
  replace cj := cj.ch mO.ch
  replace ck := ck.ch mO.ch
  replace bK := bK.ch mO.ch
  replace d9 := d9.ch mO.ch
  replace hB := hB.trans mO.fr
  refine GoQ.pure rfl (op_move rfl) rfl rfl ?_
  refine GoQ.pure rfl (op_nilCheck rfl) rfl rfl ?_
  refine GoQ.pure rfl (op_fieldAddr Try.underlying72 rfl ti69 rfl (by decide)) rfl rfl ?_
  refine GoQ.stable rfl (oblk (i := 9) 1 hO rfl rfl Try.underlying69 rfl rfl) rfl rfl ?_
  refine GoQ.pure rfl (op_move rfl) rfl rfl ?_
  refine GoQ.pure rfl (op_move rfl) rfl rfl ?_
  refine GoQ.call rfl (op_call body61 rfl (walk_enumerate_text hO.lt bK H)) (fun v w hr => by obtain ⟨_, _, hs, _, _⟩ := hr; assumption) rfl rfl ?_
  rintro LQ LS ⟨r381, rfl, Fp, IU, H⟩
  have fU := Stp.same hO Fp
  replace b6 := b6.ch fU.ch
  replace aa := aa.ch fU.ch
  replace dj := dj.ch fU.ch
  replace cG := cG.ch fU.ch
  replace cv := cv.ch fU.ch
  replace ab := ab.ch fU.ch
  replace ca := ca.ch fU.ch
  replace bf := bf.ch fU.ch
  replace aX := aX.ch fU.ch
  replace ac := ac.ch fU.ch
  replace hO := fU.own
  replace cj := cj.ch fU.ch
  replace ck := ck.ch fU.ch
  replace bK := bK.ch fU.ch
  replace d9 := d9.ch fU.ch
  replace hB := hB.trans fU.fr
  have hobt := omapUpd (MK.str Try.underlying9) 11 hO rfl Try.underlying69 r381 (d_16.length : Int)
  obtain ⟨LT, fO, CC⟩ := hobt
  dsimp only [sS, sZ] at fO
  refine GoQ.last rfl (CC (by exact rfl) (by exact rfl) (by exact rfl)) rfl rfl ?_
  replace b6 := b6.ch fO.ch
  replace aa := aa.ch fO.ch
  replace dj := dj.ch fO.ch
  replace cG := cG.ch fO.ch
  replace cv := cv.ch fO.ch
  replace ab := ab.ch fO.ch
  replace ca := ca.ch fO.ch
  replace bf := bf.ch fO.ch
  replace aX := aX.ch fO.ch
  replace ac := ac.ch fO.ch
  replace hO := fO.own
  replace cj := cj.ch fO.ch
  replace ck := ck.ch fO.ch
  replace bK := bK.ch fO.ch
  replace d9 := d9.ch fO.ch
  replace hB := hB.trans fO.fr
  refine GoQ.nil ?_
  refine Go1.seq ?_
  refine Go1.region ?_
  refine GoR.op ((op_move rfl) _) rfl rfl ?_
  refine GoR.op ((op_move rfl) _) rfl rfl ?_
  refine GoR.op ((op_nilCheck rfl) _) rfl rfl ?_
  refine GoR.op ((op_fieldAddr Try.underlying72 rfl ti29 rfl (by decide)) _) rfl rfl ?_
  refine GoR.op ((op_fieldAddr Try.underlying29 rfl ti22 rfl (by decide)) _) rfl rfl ?_
  refine GoR.op ((oblk (i := 3) 1 hO rfl rfl Try.underlying22 rfl rfl) _ (Same.refl _)) rfl rfl ?_
  refine GoR.op ((op_move rfl) _) rfl rfl ?_
  have hobt := obuild (r := Rp.sl (Rp.int .i64)) (n := 1) (parts := [(0, .slice qW r66.length qX)]) (vs := [.slice qW r66.length qX]) (xs := [r66]) rfl Try.underlying22 ti26 hO (by decide) (by kernel_rfl) (Els.cons rfl ⟨qW, qX, rfl, bK⟩ (Els.nil _ _ _) (by simp [mx])) rfl
  obtain ⟨LU, LV, fV, Fq, Jo, CD⟩ := hobt
  refine GoR.op (CD rfl) rfl rfl ?_
  replace b6 := b6.ch fV.ch
  replace aa := aa.ch fV.ch
  replace dj := dj.ch fV.ch
  replace cG := cG.ch fV.ch
  replace cv := cv.ch fV.ch
  replace ab := ab.ch fV.ch
  replace ca := ca.ch fV.ch
  replace bf := bf.ch fV.ch
  replace aX := aX.ch fV.ch
  replace ac := ac.ch fV.ch
  replace hO := fV.own
  replace cj := cj.ch fV.ch
  replace ck := ck.ch fV.ch
  replace bK := bK.ch fV.ch
  replace d9 := d9.ch fV.ch
  replace hB := hB.trans fV.fr
  have hobt := freeze 0 hO rfl Fq
  obtain ⟨hO1, o5, fx, Fs⟩ := hobt
  dsimp only [eS, eZ] at hO1 o5 fx
  replace cj := cj.ch o5
  replace ck := ck.ch o5
  replace bK := bK.ch o5
  replace d9 := d9.ch o5
  replace b6 := b6.ch o5
  replace aa := aa.ch o5
  replace dj := dj.ch o5
  replace cG := cG.ch o5
  replace cv := cv.ch o5
  replace ab := ab.ch o5
  replace ca := ca.ch o5
  replace bf := bf.ch o5
  replace aX := aX.ch o5
  replace ac := ac.ch o5
  replace hB := hB.trans (Owns.dropFr _ _ 0)
  dsimp only [eS, eZ] at hB
  replace hO := hO1; clear hO1
  obtain ⟨H9, H⟩ := H
  have hobt := oapp Try.underlying22 ti26 rfl 3 hO rfl dj fx Fs H9 (by decide)
  obtain ⟨LW, vX, vY, Ft, lM, fG, CE⟩ := hobt
  dsimp only [sS, sZ] at lM fG
  refine GoR.op (CE (by exact rfl) (by exact rfl)) rfl rfl ?_
  replace b6 := b6.ch lM.ch
  replace aa := aa.ch lM.ch
  replace cG := cG.ch lM.ch
  replace cv := cv.ch lM.ch
  replace ab := ab.ch lM.ch
  replace ca := ca.ch lM.ch
  replace bf := bf.ch lM.ch
  replace aX := aX.ch lM.ch
  replace ac := ac.ch lM.ch
  replace hO := lM.own
  replace cj := cj.ch lM.ch
  replace ck := ck.ch lM.ch
  replace bK := bK.ch lM.ch
  replace d9 := d9.ch lM.ch
  replace fx := fx.ch lM.ch
  replace hB := hB.trans lM.fr
  refine GoR.op ((op_nilCheck rfl) _) rfl rfl ?_
  refine GoR.op ((op_fieldAddr Try.underlying72 rfl ti29 rfl (by decide)) _) rfl rfl ?_
  refine GoR.op ((op_fieldAddr Try.underlying29 rfl ti22 rfl (by decide)) _) rfl rfl ?_
  have hobt := oblkSt2 (v := .slice vX (n21 + 1) vY) (i := 3) (cs' := #[.int .i64 a0.Enum.Points, .bool a0.Enum.Monoid, .slice ap ao aq, .slice vX (n21 + 1) vY, .slice p25 n27 c26, .slice p31 n33 c32, .slice aU aE aV, .slice p37 n39 c38, .int .i64 a0.Enum.Done, .map (some aW), .slice p43 n45 c44, .slice p49 n51 c50, .slice bE bD bF]) 1 hO rfl rfl rfl rfl
  obtain ⟨LX, lm, CF⟩ := hobt
  dsimp only [sS, sZ] at lm
  refine GoR.op (CF Try.underlying22 rfl ti22 (by exact rfl) (by exact rfl)) rfl rfl ?_
  replace b6 := b6.ch lm.ch
  replace aa := aa.ch lm.ch
  replace fG := fG.ch lm.ch
  replace cG := cG.ch lm.ch
  replace cv := cv.ch lm.ch
  replace ab := ab.ch lm.ch
  replace ca := ca.ch lm.ch
  replace bf := bf.ch lm.ch
  replace aX := aX.ch lm.ch
  replace ac := ac.ch lm.ch
  replace hO := lm.own
  replace cj := cj.ch lm.ch
  replace ck := ck.ch lm.ch
  replace bK := bK.ch lm.ch
  replace d9 := d9.ch lm.ch
  replace fx := fx.ch lm.ch
  replace hB := hB.trans lm.fr
  refine GoR.nil ?_
  refine Go1.seq ?_
  refine Go1.cut [(0, .pointer (some ⟨dZ, 0, none⟩)), (2, .int .i64 a0.Enum.Done), (3, .int .i64 (k1_12 : Int)), (4, .string (gstr ((ix d_40 a0.Enum.Done) ++ (chr (IntKind.i32.wrap ((97 : Int) + (k1_12 : Int))))))), (5, .int .i64 (ix (ix a0.Enum.Right (ix d_46 a0.Enum.Done)) (k1_12 : Int))), (13, .int .i64 (d_16.length : Int))] ⟨rfl, rfl, rfl, rfl, rfl, rfl, trivial⟩ ?_
  intro σ _
  refine Go1.region ?_
  refine GoR.op ((op_move rfl) _) rfl rfl ?_
  refine GoR.op ((op_move rfl) _) rfl rfl ?_
  refine GoR.op ((op_nilCheck rfl) _) rfl rfl ?_
  refine GoR.op ((op_fieldAddr Try.underlying72 rfl ti29 rfl (by decide)) _) rfl rfl ?_
  refine GoR.op ((op_fieldAddr Try.underlying29 rfl ti26 rfl (by decide)) _) rfl rfl ?_
  refine GoR.op ((oblk (i := 4) 1 hO rfl rfl Try.underlying26 rfl rfl) _ (Same.refl _)) rfl rfl ?_
  refine GoR.op ((op_move rfl) _) rfl rfl ?_
  have hobt := obuild (r := Rp.int .i64) (n := 1) (parts := [(0, .int .i64 a0.Enum.Done)]) (vs := [.int .i64 a0.Enum.Done]) (xs := [a0.Enum.Done]) rfl Try.underlying26 ti3 hO (by decide) (by kernel_rfl) (Els.cons rfl rfl (Els.nil _ _ _) (by simp [mx])) rfl
  obtain ⟨LY, LZ, i6, Fu, Jp, CG⟩ := hobt
  refine GoR.op (CG rfl) rfl rfl ?_
  replace b6 := b6.ch i6.ch
  replace aa := aa.ch i6.ch
  replace fG := fG.ch i6.ch
  replace cG := cG.ch i6.ch
  replace cv := cv.ch i6.ch
  replace ab := ab.ch i6.ch
  replace ca := ca.ch i6.ch
  replace bf := bf.ch i6.ch
  replace aX := aX.ch i6.ch
  replace ac := ac.ch i6.ch
  replace hO := i6.own
  replace cj := cj.ch i6.ch
  replace ck := ck.ch i6.ch
  replace bK := bK.ch i6.ch
  replace d9 := d9.ch i6.ch
  replace fx := fx.ch i6.ch
  replace hB := hB.trans i6.fr
  have hobt := freeze 0 hO rfl Fu
  obtain ⟨hO1, nY, gU, Fv⟩ := hobt
  dsimp only [eS, eZ] at hO1 nY gU
  replace cj := cj.ch nY
  replace ck := ck.ch nY
  replace bK := bK.ch nY
  replace d9 := d9.ch nY
  replace fx := fx.ch nY
  replace b6 := b6.ch nY
  replace aa := aa.ch nY
  replace fG := fG.ch nY
  replace cG := cG.ch nY
  replace cv := cv.ch nY
  replace ab := ab.ch nY
  replace ca := ca.ch nY
  replace bf := bf.ch nY
  replace aX := aX.ch nY
  replace ac := ac.ch nY
  replace hB := hB.trans (Owns.dropFr _ _ 0)
  dsimp only [eS, eZ] at hB
  replace hO := hO1; clear hO1
  obtain ⟨Ia, H⟩ := H
  have hobt := oapp Try.underlying26 ti3 rfl 4 hO rfl cG gU Fv Ia (by decide)
  obtain ⟨L1, wV, wW, Fw, iC, gR, CH⟩ := hobt
  dsimp only [sS, sZ] at iC gR
  refine GoR.op (CH (by exact rfl) (by exact rfl)) rfl rfl ?_
  replace b6 := b6.ch iC.ch
  replace aa := aa.ch iC.ch
  replace fG := fG.ch iC.ch
  replace cv := cv.ch iC.ch
  replace ab := ab.ch iC.ch
  replace ca := ca.ch iC.ch
  replace bf := bf.ch iC.ch
  replace aX := aX.ch iC.ch
  replace ac := ac.ch iC.ch
  replace hO := iC.own
  replace cj := cj.ch iC.ch
  replace ck := ck.ch iC.ch
  replace bK := bK.ch iC.ch
  replace d9 := d9.ch iC.ch
  replace fx := fx.ch iC.ch
  replace gU := gU.ch iC.ch
  replace hB := hB.trans iC.fr
  refine GoR.op ((op_nilCheck rfl) _) rfl rfl ?_
  refine GoR.op ((op_fieldAddr Try.underlying72 rfl ti29 rfl (by decide)) _) rfl rfl ?_
  refine GoR.op ((op_fieldAddr Try.underlying29 rfl ti26 rfl (by decide)) _) rfl rfl ?_
  have hobt := oblkSt2 (v := .slice wV (n27 + 1) wW) (i := 4) (cs' := #[.int .i64 a0.Enum.Points, .bool a0.Enum.Monoid, .slice ap ao aq, .slice vX (n21 + 1) vY, .slice wV (n27 + 1) wW, .slice p31 n33 c32, .slice aU aE aV, .slice p37 n39 c38, .int .i64 a0.Enum.Done, .map (some aW), .slice p43 n45 c44, .slice p49 n51 c50, .slice bE bD bF]) 1 hO rfl rfl rfl rfl
  obtain ⟨L5, kC, CJ⟩ := hobt
  dsimp only [sS, sZ] at kC
  refine GoR.op (CJ Try.underlying26 rfl ti26 (by exact rfl) (by exact rfl)) rfl rfl ?_
  replace b6 := b6.ch kC.ch
  replace aa := aa.ch kC.ch
  replace fG := fG.ch kC.ch
  replace gR := gR.ch kC.ch
  replace cv := cv.ch kC.ch
  replace ab := ab.ch kC.ch
  replace ca := ca.ch kC.ch
  replace bf := bf.ch kC.ch
  replace aX := aX.ch kC.ch
  replace ac := ac.ch kC.ch
  replace hO := kC.own
  replace cj := cj.ch kC.ch
  replace ck := ck.ch kC.ch
  replace bK := bK.ch kC.ch
  replace d9 := d9.ch kC.ch
  replace fx := fx.ch kC.ch
  replace gU := gU.ch kC.ch
  replace hB := hB.trans kC.fr
  refine GoR.nil ?_
  refine Go1.seq ?_
  refine Go1.region ?_
  refine GoR.op ((op_move rfl) _) rfl rfl ?_
  refine GoR.op ((op_move rfl) _) rfl rfl ?_
  refine GoR.op ((op_nilCheck rfl) _) rfl rfl ?_
  refine GoR.op ((op_fieldAddr Try.underlying72 rfl ti29 rfl (by decide)) _) rfl rfl ?_
  refine GoR.op ((op_fieldAddr Try.underlying29 rfl ti26 rfl (by decide)) _) rfl rfl ?_
  refine GoR.op ((oblk (i := 5) 1 hO rfl rfl Try.underlying26 rfl rfl) _ (Same.refl _)) rfl rfl ?_
  refine GoR.op ((op_move rfl) _) rfl rfl ?_
  have hobt := obuild (r := Rp.int .i64) (n := 1) (parts := [(0, .int .i64 (k1_12 : Int))]) (vs := [.int .i64 (k1_12 : Int)]) (xs := [(k1_12 : Int)]) rfl Try.underlying26 ti3 hO (by decide) (by kernel_rfl) (Els.cons rfl rfl (Els.nil _ _ _) (by simp [mx])) rfl
  obtain ⟨L6, L7, lp, Fx, Jq, CK⟩ := hobt
  refine GoR.op (CK rfl) rfl rfl ?_
  replace b6 := b6.ch lp.ch
  replace aa := aa.ch lp.ch
  replace fG := fG.ch lp.ch
  replace gR := gR.ch lp.ch
  replace cv := cv.ch lp.ch
  replace ab := ab.ch lp.ch
  replace ca := ca.ch lp.ch
  replace bf := bf.ch lp.ch
  replace aX := aX.ch lp.ch
  replace ac := ac.ch lp.ch
  replace hO := lp.own
  replace cj := cj.ch lp.ch
  replace ck := ck.ch lp.ch
  replace bK := bK.ch lp.ch
  replace d9 := d9.ch lp.ch
  replace fx := fx.ch lp.ch
  replace gU := gU.ch lp.ch
  replace hB := hB.trans lp.fr
  have hobt := freeze 0 hO rfl Fx
  obtain ⟨hO1, nF, kc, Fy⟩ := hobt
  dsimp only [eS, eZ] at hO1 nF kc
  replace cj := cj.ch nF
  replace ck := ck.ch nF
  replace bK := bK.ch nF
  replace d9 := d9.ch nF
  replace fx := fx.ch nF
  replace gU := gU.ch nF
  replace b6 := b6.ch nF
  replace aa := aa.ch nF
  replace fG := fG.ch nF
  replace gR := gR.ch nF
  replace cv := cv.ch nF
  replace ab := ab.ch nF
  replace ca := ca.ch nF
  replace bf := bf.ch nF
  replace aX := aX.ch nF
  replace ac := ac.ch nF
  replace hB := hB.trans (Owns.dropFr _ _ 0)
  dsimp only [eS, eZ] at hB
  replace hO := hO1; clear hO1
  obtain ⟨Ib, H⟩ := H
  have hobt := oapp Try.underlying26 ti3 rfl 5 hO rfl cv kc Fy Ib (by decide)
  obtain ⟨L8, xU, xV, Fz, kD, k8, CM⟩ := hobt
  dsimp only [sS, sZ] at kD k8
  refine GoR.op (CM (by exact rfl) (by exact rfl)) rfl rfl ?_
  replace b6 := b6.ch kD.ch
  replace aa := aa.ch kD.ch
  replace fG := fG.ch kD.ch
  replace gR := gR.ch kD.ch
  replace ab := ab.ch kD.ch
  replace ca := ca.ch kD.ch
  replace bf := bf.ch kD.ch
  replace aX := aX.ch kD.ch
  replace ac := ac.ch kD.ch
  replace hO := kD.own
  replace cj := cj.ch kD.ch
  replace ck := ck.ch kD.ch
  replace bK := bK.ch kD.ch
  replace d9 := d9.ch kD.ch
  replace fx := fx.ch kD.ch
  replace gU := gU.ch kD.ch
  replace kc := kc.ch kD.ch
  replace hB := hB.trans kD.fr
  refine GoR.op ((op_nilCheck rfl) _) rfl rfl ?_
  refine GoR.op ((op_fieldAddr Try.underlying72 rfl ti29 rfl (by decide)) _) rfl rfl ?_
  refine GoR.op ((op_fieldAddr Try.underlying29 rfl ti26 rfl (by decide)) _) rfl rfl ?_
  have hobt := oblkSt2 (v := .slice xU (n33 + 1) xV) (i := 5) (cs' := #[.int .i64 a0.Enum.Points, .bool a0.Enum.Monoid, .slice ap ao aq, .slice vX (n21 + 1) vY, .slice wV (n27 + 1) wW, .slice xU (n33 + 1) xV, .slice aU aE aV, .slice p37 n39 c38, .int .i64 a0.Enum.Done, .map (some aW), .slice p43 n45 c44, .slice p49 n51 c50, .slice bE bD bF]) 1 hO rfl rfl rfl rfl
  obtain ⟨L9, j8, CO⟩ := hobt
  dsimp only [sS, sZ] at j8
  refine GoR.op (CO Try.underlying26 rfl ti26 (by exact rfl) (by exact rfl)) rfl rfl ?_
  replace b6 := b6.ch j8.ch
  replace aa := aa.ch j8.ch
  replace fG := fG.ch j8.ch
  replace gR := gR.ch j8.ch
  replace k8 := k8.ch j8.ch
  replace ab := ab.ch j8.ch
  replace ca := ca.ch j8.ch
  replace bf := bf.ch j8.ch
  replace aX := aX.ch j8.ch
  replace ac := ac.ch j8.ch
  replace hO := j8.own
  replace cj := cj.ch j8.ch
  replace ck := ck.ch j8.ch
  replace bK := bK.ch j8.ch
  replace d9 := d9.ch j8.ch
  replace fx := fx.ch j8.ch
  replace gU := gU.ch j8.ch
  replace kc := kc.ch j8.ch
  replace hB := hB.trans j8.fr
  refine GoR.nil ?_
  refine Go1.seq ?_
  refine Go1.cut [(0, .pointer (some ⟨dZ, 0, none⟩)), (4, .string (gstr ((ix d_40 a0.Enum.Done) ++ (chr (IntKind.i32.wrap ((97 : Int) + (k1_12 : Int))))))), (5, .int .i64 (ix (ix a0.Enum.Right (ix d_46 a0.Enum.Done)) (k1_12 : Int))), (13, .int .i64 (d_16.length : Int))] ⟨rfl, rfl, rfl, rfl, trivial⟩ ?_
  intro σ _
  refine Go1.region ?_
  refine GoR.op ((op_move rfl) _) rfl rfl ?_
  refine GoR.op ((op_move rfl) _) rfl rfl ?_
  refine GoR.op ((op_nilCheck rfl) _) rfl rfl ?_
  refine GoR.op ((op_fieldAddr Try.underlying72 rfl ti70 rfl (by decide)) _) rfl rfl ?_
  refine GoR.op ((oblk (i := 10) 1 hO rfl rfl Try.underlying70 rfl rfl) _ (Same.refl _)) rfl rfl ?_
  refine GoR.op ((op_move rfl) _) rfl rfl ?_
  have hobt := obuild (r := Rp.str) (n := 1) (parts := [(0, .string (gstr ((ix d_40 a0.Enum.Done) ++ (chr (IntKind.i32.wrap ((97 : Int) + (k1_12 : Int)))))))]) (vs := [.string (gstr ((ix d_40 a0.Enum.Done) ++ (chr (IntKind.i32.wrap ((97 : Int) + (k1_12 : Int))))))]) (xs := [(ix d_40 a0.Enum.Done) ++ (chr (IntKind.i32.wrap ((97 : Int) + (k1_12 : Int))))]) rfl Try.underlying70 ti9 hO (by decide) (by kernel_rfl) (Els.cons rfl ⟨rfl, (lenApp Ae)⟩ (Els.nil _ _ _) (by simp [mx])) rfl
  obtain ⟨Ma, Mb, kE, FA, Jr, xN⟩ := hobt
  refine GoR.op (xN rfl) rfl rfl ?_
  replace b6 := b6.ch kE.ch
  replace aa := aa.ch kE.ch
  replace fG := fG.ch kE.ch
  replace gR := gR.ch kE.ch
  replace k8 := k8.ch kE.ch
  replace ab := ab.ch kE.ch
  replace ca := ca.ch kE.ch
  replace bf := bf.ch kE.ch
  replace aX := aX.ch kE.ch
  replace ac := ac.ch kE.ch
  replace hO := kE.own
  replace cj := cj.ch kE.ch
  replace ck := ck.ch kE.ch
  replace bK := bK.ch kE.ch
  replace d9 := d9.ch kE.ch
  replace fx := fx.ch kE.ch
  replace gU := gU.ch kE.ch
  replace kc := kc.ch kE.ch
  replace hB := hB.trans kE.fr
  have hobt := freeze 0 hO rfl FA
  obtain ⟨hO1, nr, nZ, FB⟩ := hobt
  dsimp only [eS, eZ] at hO1 nr nZ
  replace cj := cj.ch nr
  replace ck := ck.ch nr
  replace bK := bK.ch nr
  replace d9 := d9.ch nr
  replace fx := fx.ch nr
  replace gU := gU.ch nr
  replace kc := kc.ch nr
  replace b6 := b6.ch nr
  replace aa := aa.ch nr
  replace fG := fG.ch nr
  replace gR := gR.ch nr
  replace k8 := k8.ch nr
  replace ab := ab.ch nr
  replace ca := ca.ch nr
  replace bf := bf.ch nr
  replace aX := aX.ch nr
  replace ac := ac.ch nr
  replace hB := hB.trans (Owns.dropFr _ _ 0)
  dsimp only [eS, eZ] at hB
  replace hO := hO1; clear hO1
  obtain ⟨Ic, H⟩ := H
  have hobt := oapp Try.underlying70 ti9 rfl 8 hO rfl bf nZ FB Ic (by decide)
  obtain ⟨Mc, yY, yZ, FC, j9, qA, CP⟩ := hobt
  dsimp only [sS, sZ] at j9 qA
  refine GoR.op (CP (by exact rfl) (by exact rfl)) rfl rfl ?_
  replace b6 := b6.ch j9.ch
  replace aa := aa.ch j9.ch
  replace fG := fG.ch j9.ch
  replace gR := gR.ch j9.ch
  replace k8 := k8.ch j9.ch
  replace ab := ab.ch j9.ch
  replace ca := ca.ch j9.ch
  replace aX := aX.ch j9.ch
  replace ac := ac.ch j9.ch
  replace hO := j9.own
  replace cj := cj.ch j9.ch
  replace ck := ck.ch j9.ch
  replace bK := bK.ch j9.ch
  replace d9 := d9.ch j9.ch
  replace fx := fx.ch j9.ch
  replace gU := gU.ch j9.ch
  replace kc := kc.ch j9.ch
  replace nZ := nZ.ch j9.ch
  replace hB := hB.trans j9.fr
  refine GoR.op ((op_nilCheck rfl) _) rfl rfl ?_
  refine GoR.op ((op_fieldAddr Try.underlying72 rfl ti70 rfl (by decide)) _) rfl rfl ?_
  have hobt := oblkSt2 (v := .slice yY (n45 + 1) yZ) (i := 10) (cs' := #[.int .i64 a0.Enum.Points, .bool a0.Enum.Monoid, .slice ap ao aq, .slice vX (n21 + 1) vY, .slice wV (n27 + 1) wW, .slice xU (n33 + 1) xV, .slice aU aE aV, .slice p37 n39 c38, .int .i64 a0.Enum.Done, .map (some aW), .slice yY (n45 + 1) yZ, .slice p49 n51 c50, .slice bE bD bF]) 1 hO rfl rfl rfl rfl
  obtain ⟨Me, jp, CQ⟩ := hobt
  dsimp only [sS, sZ] at jp
  refine GoR.op (CQ Try.underlying70 rfl ti70 (by exact rfl) (by exact rfl)) rfl rfl ?_
  replace b6 := b6.ch jp.ch
  replace aa := aa.ch jp.ch
  replace fG := fG.ch jp.ch
  replace gR := gR.ch jp.ch
  replace k8 := k8.ch jp.ch
  replace ab := ab.ch jp.ch
  replace ca := ca.ch jp.ch
  replace qA := qA.ch jp.ch
  replace aX := aX.ch jp.ch
  replace ac := ac.ch jp.ch
  replace hO := jp.own
  replace cj := cj.ch jp.ch
  replace ck := ck.ch jp.ch
  replace bK := bK.ch jp.ch
  replace d9 := d9.ch jp.ch
  replace fx := fx.ch jp.ch
  replace gU := gU.ch jp.ch
  replace kc := kc.ch jp.ch
  replace nZ := nZ.ch jp.ch
  replace hB := hB.trans jp.fr
  refine GoR.nil ?_
  refine Go1.seq ?_
  refine Go1.region ?_
  refine GoR.op ((op_move rfl) _) rfl rfl ?_
  refine GoR.op ((op_move rfl) _) rfl rfl ?_
  refine GoR.op ((op_nilCheck rfl) _) rfl rfl ?_
  refine GoR.op ((op_fieldAddr Try.underlying72 rfl ti26 rfl (by decide)) _) rfl rfl ?_
  refine GoR.op ((oblk (i := 11) 1 hO rfl rfl Try.underlying26 rfl rfl) _ (Same.refl _)) rfl rfl ?_
  refine GoR.op ((op_move rfl) _) rfl rfl ?_
  have hobt := obuild (r := Rp.int .i64) (n := 1) (parts := [(0, .int .i64 (ix (ix a0.Enum.Right (ix d_46 a0.Enum.Done)) (k1_12 : Int)))]) (vs := [.int .i64 (ix (ix a0.Enum.Right (ix d_46 a0.Enum.Done)) (k1_12 : Int))]) (xs := [(ix (ix a0.Enum.Right (ix d_46 a0.Enum.Done)) (k1_12 : Int))]) rfl Try.underlying26 ti3 hO (by decide) (by kernel_rfl) (Els.cons rfl rfl (Els.nil _ _ _) (by simp [mx])) rfl
  obtain ⟨Mf, Mg, ka, FD, Js, CR⟩ := hobt
  refine GoR.op (CR rfl) rfl rfl ?_
  replace b6 := b6.ch ka.ch
  replace aa := aa.ch ka.ch
  replace fG := fG.ch ka.ch
  replace gR := gR.ch ka.ch
  replace k8 := k8.ch ka.ch
  replace ab := ab.ch ka.ch
  replace ca := ca.ch ka.ch
  replace qA := qA.ch ka.ch
  replace aX := aX.ch ka.ch
  replace ac := ac.ch ka.ch
  replace hO := ka.own
  replace cj := cj.ch ka.ch
  replace ck := ck.ch ka.ch
  replace bK := bK.ch ka.ch
  replace d9 := d9.ch ka.ch
  replace fx := fx.ch ka.ch
  replace gU := gU.ch ka.ch
  replace kc := kc.ch ka.ch
  replace nZ := nZ.ch ka.ch
  replace hB := hB.trans ka.fr
  have hobt := freeze 0 hO rfl FD
  obtain ⟨hO1, mY, tJ, FE⟩ := hobt
  dsimp only [eS, eZ] at hO1 mY tJ
  replace cj := cj.ch mY
  replace ck := ck.ch mY
  replace bK := bK.ch mY
  replace d9 := d9.ch mY
  replace fx := fx.ch mY
  replace gU := gU.ch mY
  replace kc := kc.ch mY
  replace nZ := nZ.ch mY
  replace b6 := b6.ch mY
  replace aa := aa.ch mY
  replace fG := fG.ch mY
  replace gR := gR.ch mY
  replace k8 := k8.ch mY
  replace ab := ab.ch mY
  replace ca := ca.ch mY
  replace qA := qA.ch mY
  replace aX := aX.ch mY
  replace ac := ac.ch mY
  replace hB := hB.trans (Owns.dropFr _ _ 0)
  dsimp only [eS, eZ] at hB
  replace hO := hO1; clear hO1
  obtain ⟨Id, H⟩ := H
  have hobt := oapp Try.underlying26 ti3 rfl 9 hO rfl aX tJ FE Id (by decide)
  obtain ⟨Mh, At, Au, FF, fy, tE, CT⟩ := hobt
  dsimp only [sS, sZ] at fy tE
  refine GoR.op (CT (by exact rfl) (by exact rfl)) rfl rfl ?_
  replace b6 := b6.ch fy.ch
  replace aa := aa.ch fy.ch
  replace fG := fG.ch fy.ch
  replace gR := gR.ch fy.ch
  replace k8 := k8.ch fy.ch
  replace ab := ab.ch fy.ch
  replace ca := ca.ch fy.ch
  replace qA := qA.ch fy.ch
  replace ac := ac.ch fy.ch
  replace hO := fy.own
  replace cj := cj.ch fy.ch
  replace ck := ck.ch fy.ch
  replace bK := bK.ch fy.ch
  replace d9 := d9.ch fy.ch
  replace fx := fx.ch fy.ch
  replace gU := gU.ch fy.ch
  replace kc := kc.ch fy.ch
  replace nZ := nZ.ch fy.ch
  replace tJ := tJ.ch fy.ch
  replace hB := hB.trans fy.fr
  refine GoR.op ((op_nilCheck rfl) _) rfl rfl ?_
  refine GoR.op ((op_fieldAddr Try.underlying72 rfl ti26 rfl (by decide)) _) rfl rfl ?_
  have hobt := oblkSt2 (v := .slice At (n51 + 1) Au) (i := 11) (cs' := #[.int .i64 a0.Enum.Points, .bool a0.Enum.Monoid, .slice ap ao aq, .slice vX (n21 + 1) vY, .slice wV (n27 + 1) wW, .slice xU (n33 + 1) xV, .slice aU aE aV, .slice p37 n39 c38, .int .i64 a0.Enum.Done, .map (some aW), .slice yY (n45 + 1) yZ, .slice At (n51 + 1) Au, .slice bE bD bF]) 1 hO rfl rfl rfl rfl
  obtain ⟨Mi, ji, CU⟩ := hobt
  dsimp only [sS, sZ] at ji
  refine GoR.op (CU Try.underlying26 rfl ti26 (by exact rfl) (by exact rfl)) rfl rfl ?_
  replace b6 := b6.ch ji.ch
  replace aa := aa.ch ji.ch
  replace fG := fG.ch ji.ch
  replace gR := gR.ch ji.ch
  replace k8 := k8.ch ji.ch
  replace ab := ab.ch ji.ch
  replace ca := ca.ch ji.ch
  replace qA := qA.ch ji.ch
  replace tE := tE.ch ji.ch
  replace ac := ac.ch ji.ch
  replace hO := ji.own
  replace cj := cj.ch ji.ch
  replace ck := ck.ch ji.ch
  replace bK := bK.ch ji.ch
  replace d9 := d9.ch ji.ch
  replace fx := fx.ch ji.ch
  replace gU := gU.ch ji.ch
  replace kc := kc.ch ji.ch
  replace nZ := nZ.ch ji.ch
  replace tJ := tJ.ch ji.ch
  replace hB := hB.trans ji.fr
  refine GoR.nil ?_
  refine Go1.seq ?_
  refine Go1.cut [(13, .int .i64 (d_16.length : Int))] ⟨rfl, trivial⟩ ?_
  intro σ _
  refine Go1.region ?_
  refine GoR.op ((op_move rfl) _) rfl rfl ?_
  refine GoR.op ((op_assign rfl) _) rfl rfl ?_
  refine GoR.nil ?_
  refine Go1.ret1V Try.func65 rfl (show _ = .int .i64 (d_16.length : Int) from rfl) ?_
  refine hR377 _ _ ?_
  refine GoR.op ((op_assign rfl) _) rfl rfl ?_
  refine GoR.nil ?_
  refine Go1.inBlock ?_
  refine Go1.region ?_
  refine GoR.op ((op_move rfl) _) rfl rfl ?_
  refine GoR.op ((op_move rfl) _) rfl rfl ?_
  refine GoR.op ((op_move rfl) _) rfl rfl ?_
  obtain ⟨Aw, H⟩ := H
  obtain ⟨Ax, H⟩ := H
  refine GoR.op ((op_index Try.underlying26 ti3 rfl rfl Aw (ltn (b6.neq hO 0 rfl) Ax) (b6.psome hO 0 rfl Aw Ax)) _) rfl rfl ?_
  have hobt := ost (r := Rp.int .i64) rfl 0 hO rfl b6 Aw Ax (v := .int .i64 (d_16.length : Int)) (u := (d_16.length : Int)) rfl rfl
  obtain ⟨Mj, FG, jq, AK, CV⟩ := hobt
  dsimp only [sS, sZ] at jq AK
  refine GoR.op (CV Try.underlying3 rfl ti3 (by exact rfl) (by exact rfl)) rfl rfl ?_
  replace aa := aa.ch jq.ch
  replace fG := fG.ch jq.ch
  replace gR := gR.ch jq.ch
  replace k8 := k8.ch jq.ch
  replace ab := ab.ch jq.ch
  replace ca := ca.ch jq.ch
  replace qA := qA.ch jq.ch
  replace tE := tE.ch jq.ch
  replace ac := ac.ch jq.ch
  replace hO := jq.own
  replace cj := cj.ch jq.ch
  replace ck := ck.ch jq.ch
  replace bK := bK.ch jq.ch
  replace d9 := d9.ch jq.ch
  replace fx := fx.ch jq.ch
  replace gU := gU.ch jq.ch
  replace kc := kc.ch jq.ch
  replace nZ := nZ.ch jq.ch
  replace tJ := tJ.ch jq.ch
  replace hB := hB.trans jq.fr
  refine GoR.nil ?_
  refine Go1.inBlock ?_
  refine Go1.region ?_
  refine GoR.op ((op_add rfl rfl (wrap_i64 (natbd h53 aa.bd))) _) rfl rfl ?_
  refine GoR.op ((op_move rfl) _) rfl rfl ?_
  refine GoR.nil ?_
  exact hX1 _ H _ _ ⟨FG, n21 + 1, vX, vY, Ft, n27 + 1, wV, wW, Fw, n33 + 1, xU, xV, Fz, n39, p37, c38, ne, n45 + 1, yY, yZ, FC, n51 + 1, At, Au, FF, ⟨rfl, rfl, rfl, rfl, rfl, rfl, trivial⟩, hO, AK, aa, fG, gR, k8, ab, ca, qA, tE, ac, hB⟩
 replace H := ifn h53 H
 refine GoR.op ((fun w => opB (op_lss rfl rfl w) (decide_eq_false h53)) _) rfl rfl ?_
 refine GoR.nil ?_
 refine Go1.seq ?_
 refine Go1.condF rfl rfl ?_
 refine Go1.exit rfl ?_
 refine Go1.seq ?_
 refine Go1.region ?_
 refine GoR.op ((op_move rfl) _) rfl rfl ?_
 refine GoR.op ((op_move rfl) _) rfl rfl ?_
 refine GoR.op ((op_nilCheck rfl) _) rfl rfl ?_
 refine GoR.op ((op_fieldAddr Try.underlying72 rfl ti29 rfl (by decide)) _) rfl rfl ?_
 refine GoR.op ((op_fieldAddr Try.underlying29 rfl ti22 rfl (by decide)) _) rfl rfl ?_
 refine GoR.op ((oblk (i := 6) 1 hO rfl rfl Try.underlying22 rfl rfl) _ (Same.refl _)) rfl rfl ?_
 refine GoR.op ((op_move rfl) _) rfl rfl ?_
 have hobt := freeze 0 hO rfl b6
 obtain ⟨hO1, sA, rE, FH⟩ := hobt
 dsimp only [eS, eZ] at hO1 sA rE
 replace aa := aa.ch sA
 replace dj := dj.ch sA
 replace cG := cG.ch sA
 replace cv := cv.ch sA
 replace ab := ab.ch sA
 replace ca := ca.ch sA
 replace bf := bf.ch sA
 replace aX := aX.ch sA
 replace ac := ac.ch sA
 replace hB := hB.trans (Owns.dropFr _ _ 0)
 dsimp only [eS, eZ] at hB
 replace hO := hO1; clear hO1
 have hobt := obuild (r := Rp.sl (Rp.int .i64)) (n := 1) (parts := [(0, .slice p2 a0.Enum.Gens.length a0.Enum.Gens.length)]) (vs := [.slice p2 a0.Enum.Gens.length a0.Enum.Gens.length]) (xs := [d_13]) rfl Try.underlying22 ti26 hO (by decide) (by kernel_rfl) (Els.cons rfl ⟨p2, a0.Enum.Gens.length, congrArg some (congrArg (fun nn => Value.slice p2 nn a0.Enum.Gens.length) FH), rE⟩ (Els.nil _ _ _) (by simp [mx])) rfl
 obtain ⟨Mk, Ml, p5, FI, Jt, xO⟩ := hobt
 refine GoR.op (xO rfl) rfl rfl ?_
 replace aa := aa.ch p5.ch
 replace dj := dj.ch p5.ch
 replace cG := cG.ch p5.ch
 replace cv := cv.ch p5.ch
 replace ab := ab.ch p5.ch
 replace ca := ca.ch p5.ch
 replace bf := bf.ch p5.ch
 replace aX := aX.ch p5.ch
 replace ac := ac.ch p5.ch
 replace hO := p5.own
 replace rE := rE.ch p5.ch
 replace hB := hB.trans p5.fr
 have hobt := freeze 0 hO rfl FI
 obtain ⟨hO1, rT, tK, FJ⟩ := hobt
 dsimp only [eS, eZ] at hO1 rT tK
 replace rE := rE.ch rT
 replace aa := aa.ch rT
 replace dj := dj.ch rT
 replace cG := cG.ch rT
 replace cv := cv.ch rT
 replace ab := ab.ch rT
 replace ca := ca.ch rT
 replace bf := bf.ch rT
 replace aX := aX.ch rT
 replace ac := ac.ch rT
 replace hB := hB.trans (Owns.dropFr _ _ 0)
 dsimp only [eS, eZ] at hB
 replace hO := hO1; clear hO1
 obtain ⟨Ie, H⟩ := H
 have hobt := oapp Try.underlying22 ti26 rfl 5 hO rfl ab tK FJ Ie (by decide)
 obtain ⟨Mm, y3, y4, FK, ov, vi, CW⟩ := hobt
 dsimp only [sS, sZ] at ov vi
 refine GoR.op (CW (by exact rfl) (by exact rfl)) rfl rfl ?_
 replace aa := aa.ch ov.ch
 replace dj := dj.ch ov.ch
 replace cG := cG.ch ov.ch
 replace cv := cv.ch ov.ch
 replace ca := ca.ch ov.ch
 replace bf := bf.ch ov.ch
 replace aX := aX.ch ov.ch
 replace ac := ac.ch ov.ch
 replace hO := ov.own
 replace rE := rE.ch ov.ch
 replace tK := tK.ch ov.ch
 replace hB := hB.trans ov.fr
 refine GoR.op ((op_nilCheck rfl) _) rfl rfl ?_
 refine GoR.op ((op_fieldAddr Try.underlying72 rfl ti29 rfl (by decide)) _) rfl rfl ?_
 refine GoR.op ((op_fieldAddr Try.underlying29 rfl ti22 rfl (by decide)) _) rfl rfl ?_
 have hobt := oblkSt2 (v := .slice y3 (aE + 1) y4) (i := 6) (cs' := #[.int .i64 a0.Enum.Points, .bool a0.Enum.Monoid, .slice ap ao aq, .slice p19 n21 c20, .slice p25 n27 c26, .slice p31 n33 c32, .slice y3 (aE + 1) y4, .slice p37 n39 c38, .int .i64 a0.Enum.Done, .map (some aW), .slice p43 n45 c44, .slice p49 n51 c50, .slice bE bD bF]) 0 hO rfl rfl rfl rfl
 obtain ⟨Mn, nG, CX⟩ := hobt
 dsimp only [sS, sZ] at nG
 refine GoR.op (CX Try.underlying22 rfl ti22 (by exact rfl) (by exact rfl)) rfl rfl ?_
 replace aa := aa.ch nG.ch
 replace dj := dj.ch nG.ch
 replace cG := cG.ch nG.ch
 replace cv := cv.ch nG.ch
 replace vi := vi.ch nG.ch
 replace ca := ca.ch nG.ch
 replace bf := bf.ch nG.ch
 replace aX := aX.ch nG.ch
 replace ac := ac.ch nG.ch
 replace hO := nG.own
 replace rE := rE.ch nG.ch
 replace tK := tK.ch nG.ch
 replace hB := hB.trans nG.fr
 refine GoR.nil ?_
 refine Go1.seq ?_
 refine Go1.cut [(0, .pointer (some ⟨dZ, 0, none⟩))] ⟨rfl, trivial⟩ ?_
 intro σ _
 refine Go1.region ?_
 refine GoR.op ((op_move rfl) _) rfl rfl ?_
 refine GoR.op ((op_nilCheck rfl) _) rfl rfl ?_
 refine GoR.op ((op_fieldAddr Try.underlying72 rfl ti29 rfl (by decide)) _) rfl rfl ?_
 refine GoR.op ((op_fieldAddr Try.underlying29 rfl ti3 rfl (by decide)) _) rfl rfl ?_
 refine GoR.op ((oblk (i := 8) 0 hO rfl rfl Try.underlying3 rfl rfl) _ (Same.refl _)) rfl rfl ?_
 obtain ⟨Ig, H⟩ := H
 refine GoR.op ((op_add rfl rfl (wrap_i64 Ig)) _) rfl rfl ?_
 refine GoR.op ((op_nilCheck rfl) _) rfl rfl ?_
 refine GoR.op ((op_fieldAddr Try.underlying72 rfl ti29 rfl (by decide)) _) rfl rfl ?_
 refine GoR.op ((op_fieldAddr Try.underlying29 rfl ti3 rfl (by decide)) _) rfl rfl ?_
 have hobt := oblkSt2 (v := .int .i64 (a0.Enum.Done + (1 : Int))) (i := 8) (cs' := #[.int .i64 a0.Enum.Points, .bool a0.Enum.Monoid, .slice ap ao aq, .slice p19 n21 c20, .slice p25 n27 c26, .slice p31 n33 c32, .slice y3 (aE + 1) y4, .slice p37 n39 c38, .int .i64 (a0.Enum.Done + (1 : Int)), .map (some aW), .slice p43 n45 c44, .slice p49 n51 c50, .slice bE bD bF]) 0 hO rfl rfl rfl rfl
 obtain ⟨Mo, fP, CZ⟩ := hobt
 dsimp only [sS, sZ] at fP
 refine GoR.op (CZ Try.underlying3 rfl ti3 (by exact rfl) (by exact rfl)) rfl rfl ?_
 replace aa := aa.ch fP.ch
 replace dj := dj.ch fP.ch
 replace cG := cG.ch fP.ch
 replace cv := cv.ch fP.ch
 replace vi := vi.ch fP.ch
 replace ca := ca.ch fP.ch
 replace bf := bf.ch fP.ch
 replace aX := aX.ch fP.ch
 replace ac := ac.ch fP.ch
 replace hO := fP.own
 replace rE := rE.ch fP.ch
 replace tK := tK.ch fP.ch
 replace hB := hB.trans fP.fr
 refine GoR.nil ?_
 refine Go1.seq ?_
 refine Go1.region ?_
 refine GoR.op ((op_assign rfl) _) rfl rfl ?_
 refine GoR.nil ?_
 refine Go1.ret1 Try.func51 rfl ?_
 exact ⟨((0 : Int)), (⟨(⟨a0.Enum.Points, a0.Enum.Monoid, a0.Enum.Gens, d_16, d_22, d_28, a0.Enum.Right ++ ([d_13]), d_34, (a0.Enum.Done + (1 : Int))⟩ : Enum), m1_52, d_40, d_46, a0.single⟩ : run), ao, ap, aq, cL, n21, p19, c20, mt, n27, p25, c26, nb, n33, p31, c32, nc, (aE + 1), y3, y4, FK, n39, p37, c38, ne, n45, p43, c44, eB, n51, p49, c50, eC, bD, bE, bF, du, rfl, hO, aa, dj, cG, cv, vi, ca, bf, aX, ac, hB, H⟩
theorem body50 : Body Try.prog 50 := ⟨Try.f50, Try.func50, rfl, by kernel_rfl⟩
theorem body17 : Body Try.prog 17 := ⟨Try.f17, Try.func17, rfl, by kernel_rfl⟩
theorem walk_enumerate_Build {A : List Nat} {w0 : World} {k9 : Option Addr} {la : Nat} {gens : List (List Int)} {monoid : Bool} (hA : ∀ b ∈ A, b < w0.heap.size) (eF : ISl (Rp.sl (Rp.int .i64)) A w0 k9 la gens) {K : Enum → Int → Prop} (H : enumerate_Build gens monoid K) :
    CallsV Try.prog 17 #[.slice k9 gens.length la, .bool monoid] w0 (fun v w' => ∃ (r0 : Enum), ∃ (r1 : Int), ∃ (xg : Option Addr), ∃ (xh : Nat), ∃ (ws : Option Addr), ∃ (wt : Nat), ∃ (vz : Option Addr), ∃ (vA : Nat), ∃ (xi : Option Addr), ∃ (xj : Nat), ∃ (wu : Option Addr), ∃ (wv : Nat), ∃ (ww : Option Addr), ∃ (wx : Nat), v = .tuple #[.agg #[.int .i64 r0.Points, .bool r0.Monoid, .slice xg r0.Gens.length xh, .slice ws r0.Elems.length wt, .slice vz r0.Prefix.length vA, .slice xi r0.Last.length xj, .slice wu r0.Right.length wv, .slice ww r0.Rules.length wx, .int .i64 r0.Done], .int .i64 r1] ∧ Same w0 w' ∧ ISl (Rp.sl (Rp.int .i64)) A w' xg xh r0.Gens ∧ ISl (Rp.sl (Rp.int .i64)) A w' ws wt r0.Elems ∧ ISl (Rp.int .i64) A w' vz vA r0.Prefix ∧ ISl (Rp.int .i64) A w' xi xj r0.Last ∧ ISl (Rp.sl (Rp.int .i64)) A w' wu wv r0.Right ∧ ISl (rpRule) A w' ww wx r0.Rules ∧ K r0 r1) := by
 refine CallsV.of (l := [.slice k9 gens.length la, .bool monoid]) Try.func17 rfl Try.ntmps17 rfl ?_
 have hO := Owns.start hA
 have hB := Fr.refl (bl []) w0
 unfold enumerate_Build at H
 replace eF := eF.ch (Ch.start A w0)
 refine Go1.seq ?_
 refine Go1.region ?_
 have hobt := oalloc (t := 29) (cs := #[.int .i64 (0 : Int), .bool false, .slice none 0 0, .slice none 0 0, .slice none 0 0, .slice none 0 0, .slice none 0 0, .slice none 0 0, .int .i64 (0 : Int)]) ti29 hO rfl
 obtain ⟨w1, B2, jj, hs4, vZ⟩ := hobt
 refine GoR.op vZ rfl rfl ?_
 replace hO := jj.own
 replace eF := eF.ch jj.ch
 replace hB := hB.trans jj.fr
 refine GoR.op ((op_assign rfl) _) rfl rfl ?_
 refine GoR.nil ?_
 refine Go1.seq ?_
 refine Go1.region ?_
 refine GoR.op ((op_move rfl) _) rfl rfl ?_
 refine GoR.op ((op_move rfl) _) rfl rfl ?_
 refine GoR.call (op_call body49 rfl (walk_enumerate_begin hO.lt eF H)) rfl rfl ?_
 intro v9 w10 hcase13
 refine Or.elim hcase13 ?_ ?_
 ·refine exE fun r8 => andE fun hv14 => andE fun uT => fun H => ?_
  subst hv14
  clear hcase13
  replace H := oElimN H
  have rF := Stp.same hO uT
  replace hO := rF.own
  replace eF := eF.ch rF.ch
  replace hB := hB.trans rF.fr
  refine GoR.op ((op_move rfl) _) rfl rfl ?_
  refine GoR.op ((op_extract rfl rfl) _) rfl rfl ?_
  refine GoR.op ((op_extract rfl rfl) _) rfl rfl ?_
  refine GoR.op ((op_assign rfl) _) rfl rfl ?_
  refine GoR.op ((op_assign rfl) _) rfl rfl ?_
  refine GoR.nil ?_
  refine Go1.seq ?_
  refine Go1.seq ?_
  refine Go1.region ?_
  refine GoR.op ((op_move rfl) _) rfl rfl ?_
  by_cases h16 : r8 = (0 : Int)
  ·replace H := ifp h16 H
   refine GoR.op ((fun w => opB (op_neq rfl rfl w) (ndT h16)) _) rfl rfl ?_
   refine GoR.nil ?_
   refine Go1.condF rfl rfl ?_
   refine Go1.skip ?_
   refine Go1.seq ?_
   refine Go1.block ?_
   refine Go1.loopW (S := Unit) (fun s σ w => agrees σ [(4, .pointer (some ⟨B2, 0, none⟩)), (6, .pointer none)] ∧ Owns w0.heap.size w [.blk B2 (.cells #[.int .i64 (0 : Int), .bool false, .slice none 0 0, .slice none 0 0, .slice none 0 0, .slice none 0 0, .slice none 0 0, .slice none 0 0, .int .i64 (0 : Int)] 29 (0, 0))] A ∧ Fr (bl []) w0 (bl [.blk B2 (.cells #[.int .i64 (0 : Int), .bool false, .slice none 0 0, .slice none 0 0, .slice none 0 0, .slice none 0 0, .slice none 0 0, .slice none 0 0, .int .i64 (0 : Int)] 29 (0, 0))]) w) H ⟨⟨rfl, rfl, trivial⟩, hO, hB⟩ ?_
   intro X1 _
   intro H hX1 σ w17
   refine andE fun hag => andE fun hO => fun hB => ?_
   refine Go1.keep [(4, .pointer (some ⟨B2, 0, none⟩)), (6, .pointer none)] hag ?_
   refine Go1.seq ?_
   refine Go1.seq ?_
   refine Go1.region ?_
   refine GoR.op ((op_move rfl) _) rfl rfl ?_
   refine GoR.inl (vs := [.pointer none]) (caps := []) rfl rfl body50 Try.func50 rfl Try.ntmps50 rfl rfl rfl ?_
   intro RhR18 hR18
   refine Go1.seq ?_
   refine Go1.region ?_
   refine GoR.op ((op_assign rfl) _) rfl rfl ?_
   refine GoR.nil ?_
   refine Go1.seq ?_
   refine Go1.drawS 0 [(0, .pure), (1, .pure), (2, .pure), (3, .pure), (4, .stable), (5, .pure), (6, .pure), (7, .pure), (8, .pure), (9, .stable), (10, .pure), (11, .pure), (12, .pure)] mixed (by kernel_rfl) ?_
   intro w19 Ay
   have rU := Stp.same hO Ay
   replace hO := rU.own
   replace hB := hB.trans rU.fr
   refine GoQ.pure rfl (op_move rfl) rfl rfl ?_
   exact H.elim
  replace H := ifn h16 H
  refine GoR.op ((fun w => opB (op_neq rfl rfl w) (ndF h16)) _) rfl rfl ?_
  refine GoR.nil ?_
  refine Go1.condT rfl rfl ?_
  refine Go1.seq ?_
  refine Go1.region ?_
  refine GoR.op ((op_build Try.underlying29 ti29 (pl := [(0, 1), (1, 1), (2, 1), (3, 1), (4, 1), (5, 1), (6, 1), (7, 1), (8, 1)]) (vs := []) (cs := #[.int .i64 (0 : Int), .bool false, .slice none 0 0, .slice none 0 0, .slice none 0 0, .slice none 0 0, .slice none 0 0, .slice none 0 0, .int .i64 (0 : Int)]) (by kernel_rfl) rfl (by kernel_rfl)) _) rfl rfl ?_
  refine GoR.op ((op_move rfl) _) rfl rfl ?_
  have hobt := oblkStAgg (us := [.int .i64 (0 : Int), .bool false, .slice none 0 0, .slice none 0 0, .slice none 0 0, .slice none 0 0, .slice none 0 0, .slice none 0 0, .int .i64 (0 : Int)]) (o := 0) (cs' := #[.int .i64 (0 : Int), .bool false, .slice none 0 0, .slice none 0 0, .slice none 0 0, .slice none 0 0, .slice none 0 0, .slice none 0 0, .int .i64 (0 : Int)]) 0 hO rfl rfl (Nat.le_of_ble_eq_true rfl) rfl
  obtain ⟨w22, jt, FL⟩ := hobt
  refine GoR.op (FL ti29 (by exact rfl) (by exact rfl) rfl) rfl rfl ?_
  replace hO := jt.own
  replace eF := eF.ch jt.ch
  replace hB := hB.trans jt.fr
  refine GoR.op ((op_assign rfl) _) rfl rfl ?_
  refine GoR.nil ?_
  refine Go1.retC2 Try.func17 rfl rfl (run_loadBlk (vs := [.int .i64 (0 : Int), .bool false, .slice none 0 0, .slice none 0 0, .slice none 0 0, .slice none 0 0, .slice none 0 0, .slice none 0 0, .int .i64 (0 : Int)]) 0 hO rfl rfl Try.underlying29 rfl ti29) ?_
  exact ⟨(⟨(0 : Int), false, ([] : List (List Int)), ([] : List (List Int)), ([] : List Int), ([] : List Int), ([] : List (List Int)), ([] : List Rule), (0 : Int)⟩ : Enum), r8, none, 0, none, 0, none, 0, none, 0, none, 0, none, 0, rfl, hB.same, (ISl.null _ _ _), (ISl.null _ _ _), (ISl.null _ _ _), (ISl.null _ _ _), (ISl.null _ _ _), (ISl.null _ _ _), H⟩
 ·refine exE fun r7 => exE fun r8 => exE fun lN => exE fun ug => exE fun uh => exE fun ui => exE fun tL => exE fun tM => exE fun tN => exE fun tO => exE fun tt => exE fun tu => exE fun tv => exE fun tw => exE fun sY => exE fun uj => exE fun uk => exE fun ul => exE fun tP => exE fun tQ => exE fun tR => exE fun tS => exE fun tx => exE fun tT => exE fun tU => exE fun tV => exE fun tz => exE fun cF => exE fun wy => exE fun wz => exE fun wA => exE fun vB => exE fun vC => exE fun vD => exE fun vE => exE fun uU => exE fun vF => exE fun vG => exE fun vH => exE fun uV => andE fun hv25 => andE fun uT => andE fun hN12 => andE fun gV => andE fun fJ => andE fun fL => andE fun gW => andE fun gc => andE fun gf => andE fun gX => andE fun jr => andE fun js => fun H => ?_
  subst hv25
  clear hcase13
  replace H := oElimS H
  have qY := Stp.more hO uT hN12
  dsimp only [List.cons_append, List.nil_append] at qY
  replace hO := qY.own
  replace eF := eF.ch qY.ch
  replace hB := hB.trans qY.fr
  replace gV := gV.ch (Ch.assoc _ _ _ _)
  dsimp only [List.cons_append, List.nil_append] at gV
  replace fJ := fJ.ch (Ch.assoc _ _ _ _)
  dsimp only [List.cons_append, List.nil_append] at fJ
  replace fL := fL.ch (Ch.assoc _ _ _ _)
  dsimp only [List.cons_append, List.nil_append] at fL
  replace gW := gW.ch (Ch.assoc _ _ _ _)
  dsimp only [List.cons_append, List.nil_append] at gW
  replace gc := gc.ch (Ch.assoc _ _ _ _)
  dsimp only [List.cons_append, List.nil_append] at gc
  replace gf := gf.ch (Ch.assoc _ _ _ _)
  dsimp only [List.cons_append, List.nil_append] at gf
  replace gX := gX.ch (Ch.assoc _ _ _ _)
  dsimp only [List.cons_append, List.nil_append] at gX
  replace jr := jr.ch (Ch.assoc _ _ _ _)
  dsimp only [List.cons_append, List.nil_append] at jr
  replace js := js.ch (Ch.assoc _ _ _ _)
  dsimp only [List.cons_append, List.nil_append] at js
  refine GoR.op ((op_move rfl) _) rfl rfl ?_
  refine GoR.op ((op_extract rfl rfl) _) rfl rfl ?_
  refine GoR.op ((op_extract rfl rfl) _) rfl rfl ?_
  refine GoR.op ((op_assign rfl) _) rfl rfl ?_
  refine GoR.op ((op_assign rfl) _) rfl rfl ?_
  refine GoR.nil ?_
  refine Go1.seq ?_
  refine Go1.seq ?_
  refine Go1.region ?_
  refine GoR.op ((op_move rfl) _) rfl rfl ?_
  by_cases h38 : r8 = (0 : Int)
  ·replace H := ifp h38 H
   refine GoR.op ((fun w => opB (op_neq rfl rfl w) (ndT h38)) _) rfl rfl ?_
   refine GoR.nil ?_
   refine Go1.condF rfl rfl ?_
   refine Go1.skip ?_
   refine Go1.seq ?_
   refine Go1.block ?_
   refine Go1.loopW (S := Int × Bool × Int × List (List Int) × List (List Int) × List Int × List Int × List (List Int) × List Rule × List Str × List Int × List Int × (List (Str × Int))) (fun s σ w => match s with | (k2_40, b2_41, k2_42, d_43, d_49, d_55, d_61, d_67, d_73, d_79, d_85, d_91, m2_97) => ∃ (n48 : Nat), ∃ (p46 : Option Addr), ∃ (c47 : Nat), ∃ (qe : List Value), ∃ (n54 : Nat), ∃ (p52 : Option Addr), ∃ (c53 : Nat), ∃ (qf : List Value), ∃ (n60 : Nat), ∃ (p58 : Option Addr), ∃ (c59 : Nat), ∃ (qg : List Value), ∃ (n66 : Nat), ∃ (p64 : Option Addr), ∃ (c65 : Nat), ∃ (qh : List Value), ∃ (n72 : Nat), ∃ (p70 : Option Addr), ∃ (c71 : Nat), ∃ (qi : List Value), ∃ (n78 : Nat), ∃ (p76 : Option Addr), ∃ (c77 : Nat), ∃ (qj : List Value), ∃ (n84 : Nat), ∃ (p82 : Option Addr), ∃ (c83 : Nat), ∃ (oa : List Value), ∃ (n90 : Nat), ∃ (p88 : Option Addr), ∃ (c89 : Nat), ∃ (qk : List Value), ∃ (n96 : Nat), ∃ (p94 : Option Addr), ∃ (c95 : Nat), ∃ (ql : List Value), agrees σ [(4, .pointer (some ⟨B2, 0, none⟩)), (6, .pointer (some ⟨lN, 0, none⟩))] ∧ Owns w0.heap.size w [.blk lN (.cells #[.int .i64 k2_40, .bool b2_41, .slice p46 n48 c47, .slice p52 n54 c53, .slice p58 n60 c59, .slice p64 n66 c65, .slice p70 n72 c71, .slice p76 n78 c77, .int .i64 k2_42, .map (some cF), .slice p82 n84 c83, .slice p88 n90 c89, .slice p94 n96 c95] 72 (0, 0)), .row 26 1 p46 n48 c47 qe, .row 26 1 p52 n54 c53 qf, .row 3 1 p58 n60 c59 qg, .row 3 1 p64 n66 c65 qh, .row 26 1 p70 n72 c71 qi, .row 39 2 p76 n78 c77 qj, .row 9 1 p82 n84 c83 oa, .row 3 1 p88 n90 c89 qk, .row 3 1 p94 n96 c95 ql, .any (mapE (fun a : List UInt8 => Value.string (gstr a)) (fun a : Int => Value.int .i64 a) cF m2_97), .blk B2 (.cells #[.int .i64 (0 : Int), .bool false, .slice none 0 0, .slice none 0 0, .slice none 0 0, .slice none 0 0, .slice none 0 0, .slice none 0 0, .int .i64 (0 : Int)] 29 (0, 0))] A ∧ Els (Rp.sl (Rp.int .i64)) (bl [.blk lN (.cells #[.int .i64 k2_40, .bool b2_41, .slice p46 n48 c47, .slice p52 n54 c53, .slice p58 n60 c59, .slice p64 n66 c65, .slice p70 n72 c71, .slice p76 n78 c77, .int .i64 k2_42, .map (some cF), .slice p82 n84 c83, .slice p88 n90 c89, .slice p94 n96 c95] 72 (0, 0)), .row 26 1 p46 n48 c47 qe, .row 26 1 p52 n54 c53 qf, .row 3 1 p58 n60 c59 qg, .row 3 1 p64 n66 c65 qh, .row 26 1 p70 n72 c71 qi, .row 39 2 p76 n78 c77 qj, .row 9 1 p82 n84 c83 oa, .row 3 1 p88 n90 c89 qk, .row 3 1 p94 n96 c95 ql, .any (mapE (fun a : List UInt8 => Value.string (gstr a)) (fun a : Int => Value.int .i64 a) cF m2_97), .blk B2 (.cells #[.int .i64 (0 : Int), .bool false, .slice none 0 0, .slice none 0 0, .slice none 0 0, .slice none 0 0, .slice none 0 0, .slice none 0 0, .int .i64 (0 : Int)] 29 (0, 0))] ++ A) w qe d_43 ∧ Els (Rp.sl (Rp.int .i64)) (bl [.blk lN (.cells #[.int .i64 k2_40, .bool b2_41, .slice p46 n48 c47, .slice p52 n54 c53, .slice p58 n60 c59, .slice p64 n66 c65, .slice p70 n72 c71, .slice p76 n78 c77, .int .i64 k2_42, .map (some cF), .slice p82 n84 c83, .slice p88 n90 c89, .slice p94 n96 c95] 72 (0, 0)), .row 26 1 p46 n48 c47 qe, .row 26 1 p52 n54 c53 qf, .row 3 1 p58 n60 c59 qg, .row 3 1 p64 n66 c65 qh, .row 26 1 p70 n72 c71 qi, .row 39 2 p76 n78 c77 qj, .row 9 1 p82 n84 c83 oa, .row 3 1 p88 n90 c89 qk, .row 3 1 p94 n96 c95 ql, .any (mapE (fun a : List UInt8 => Value.string (gstr a)) (fun a : Int => Value.int .i64 a) cF m2_97), .blk B2 (.cells #[.int .i64 (0 : Int), .bool false, .slice none 0 0, .slice none 0 0, .slice none 0 0, .slice none 0 0, .slice none 0 0, .slice none 0 0, .int .i64 (0 : Int)] 29 (0, 0))] ++ A) w qf d_49 ∧ Els (Rp.int .i64) (bl [.blk lN (.cells #[.int .i64 k2_40, .bool b2_41, .slice p46 n48 c47, .slice p52 n54 c53, .slice p58 n60 c59, .slice p64 n66 c65, .slice p70 n72 c71, .slice p76 n78 c77, .int .i64 k2_42, .map (some cF), .slice p82 n84 c83, .slice p88 n90 c89, .slice p94 n96 c95] 72 (0, 0)), .row 26 1 p46 n48 c47 qe, .row 26 1 p52 n54 c53 qf, .row 3 1 p58 n60 c59 qg, .row 3 1 p64 n66 c65 qh, .row 26 1 p70 n72 c71 qi, .row 39 2 p76 n78 c77 qj, .row 9 1 p82 n84 c83 oa, .row 3 1 p88 n90 c89 qk, .row 3 1 p94 n96 c95 ql, .any (mapE (fun a : List UInt8 => Value.string (gstr a)) (fun a : Int => Value.int .i64 a) cF m2_97), .blk B2 (.cells #[.int .i64 (0 : Int), .bool false, .slice none 0 0, .slice none 0 0, .slice none 0 0, .slice none 0 0, .slice none 0 0, .slice none 0 0, .int .i64 (0 : Int)] 29 (0, 0))] ++ A) w qg d_55 ∧ Els (Rp.int .i64) (bl [.blk lN (.cells #[.int .i64 k2_40, .bool b2_41, .slice p46 n48 c47, .slice p52 n54 c53, .slice p58 n60 c59, .slice p64 n66 c65, .slice p70 n72 c71, .slice p76 n78 c77, .int .i64 k2_42, .map (some cF), .slice p82 n84 c83, .slice p88 n90 c89, .slice p94 n96 c95] 72 (0, 0)), .row 26 1 p46 n48 c47 qe, .row 26 1 p52 n54 c53 qf, .row 3 1 p58 n60 c59 qg, .row 3 1 p64 n66 c65 qh, .row 26 1 p70 n72 c71 qi, .row 39 2 p76 n78 c77 qj, .row 9 1 p82 n84 c83 oa, .row 3 1 p88 n90 c89 qk, .row 3 1 p94 n96 c95 ql, .any (mapE (fun a : List UInt8 => Value.string (gstr a)) (fun a : Int => Value.int .i64 a) cF m2_97), .blk B2 (.cells #[.int .i64 (0 : Int), .bool false, .slice none 0 0, .slice none 0 0, .slice none 0 0, .slice none 0 0, .slice none 0 0, .slice none 0 0, .int .i64 (0 : Int)] 29 (0, 0))] ++ A) w qh d_61 ∧ Els (Rp.sl (Rp.int .i64)) (bl [.blk lN (.cells #[.int .i64 k2_40, .bool b2_41, .slice p46 n48 c47, .slice p52 n54 c53, .slice p58 n60 c59, .slice p64 n66 c65, .slice p70 n72 c71, .slice p76 n78 c77, .int .i64 k2_42, .map (some cF), .slice p82 n84 c83, .slice p88 n90 c89, .slice p94 n96 c95] 72 (0, 0)), .row 26 1 p46 n48 c47 qe, .row 26 1 p52 n54 c53 qf, .row 3 1 p58 n60 c59 qg, .row 3 1 p64 n66 c65 qh, .row 26 1 p70 n72 c71 qi, .row 39 2 p76 n78 c77 qj, .row 9 1 p82 n84 c83 oa, .row 3 1 p88 n90 c89 qk, .row 3 1 p94 n96 c95 ql, .any (mapE (fun a : List UInt8 => Value.string (gstr a)) (fun a : Int => Value.int .i64 a) cF m2_97), .blk B2 (.cells #[.int .i64 (0 : Int), .bool false, .slice none 0 0, .slice none 0 0, .slice none 0 0, .slice none 0 0, .slice none 0 0, .slice none 0 0, .int .i64 (0 : Int)] 29 (0, 0))] ++ A) w qi d_67 ∧ Els (rpRule) (bl [.blk lN (.cells #[.int .i64 k2_40, .bool b2_41, .slice p46 n48 c47, .slice p52 n54 c53, .slice p58 n60 c59, .slice p64 n66 c65, .slice p70 n72 c71, .slice p76 n78 c77, .int .i64 k2_42, .map (some cF), .slice p82 n84 c83, .slice p88 n90 c89, .slice p94 n96 c95] 72 (0, 0)), .row 26 1 p46 n48 c47 qe, .row 26 1 p52 n54 c53 qf, .row 3 1 p58 n60 c59 qg, .row 3 1 p64 n66 c65 qh, .row 26 1 p70 n72 c71 qi, .row 39 2 p76 n78 c77 qj, .row 9 1 p82 n84 c83 oa, .row 3 1 p88 n90 c89 qk, .row 3 1 p94 n96 c95 ql, .any (mapE (fun a : List UInt8 => Value.string (gstr a)) (fun a : Int => Value.int .i64 a) cF m2_97), .blk B2 (.cells #[.int .i64 (0 : Int), .bool false, .slice none 0 0, .slice none 0 0, .slice none 0 0, .slice none 0 0, .slice none 0 0, .slice none 0 0, .int .i64 (0 : Int)] 29 (0, 0))] ++ A) w qj d_73 ∧ Els (Rp.str) (bl [.blk lN (.cells #[.int .i64 k2_40, .bool b2_41, .slice p46 n48 c47, .slice p52 n54 c53, .slice p58 n60 c59, .slice p64 n66 c65, .slice p70 n72 c71, .slice p76 n78 c77, .int .i64 k2_42, .map (some cF), .slice p82 n84 c83, .slice p88 n90 c89, .slice p94 n96 c95] 72 (0, 0)), .row 26 1 p46 n48 c47 qe, .row 26 1 p52 n54 c53 qf, .row 3 1 p58 n60 c59 qg, .row 3 1 p64 n66 c65 qh, .row 26 1 p70 n72 c71 qi, .row 39 2 p76 n78 c77 qj, .row 9 1 p82 n84 c83 oa, .row 3 1 p88 n90 c89 qk, .row 3 1 p94 n96 c95 ql, .any (mapE (fun a : List UInt8 => Value.string (gstr a)) (fun a : Int => Value.int .i64 a) cF m2_97), .blk B2 (.cells #[.int .i64 (0 : Int), .bool false, .slice none 0 0, .slice none 0 0, .slice none 0 0, .slice none 0 0, .slice none 0 0, .slice none 0 0, .int .i64 (0 : Int)] 29 (0, 0))] ++ A) w oa d_79 ∧ Els (Rp.int .i64) (bl [.blk lN (.cells #[.int .i64 k2_40, .bool b2_41, .slice p46 n48 c47, .slice p52 n54 c53, .slice p58 n60 c59, .slice p64 n66 c65, .slice p70 n72 c71, .slice p76 n78 c77, .int .i64 k2_42, .map (some cF), .slice p82 n84 c83, .slice p88 n90 c89, .slice p94 n96 c95] 72 (0, 0)), .row 26 1 p46 n48 c47 qe, .row 26 1 p52 n54 c53 qf, .row 3 1 p58 n60 c59 qg, .row 3 1 p64 n66 c65 qh, .row 26 1 p70 n72 c71 qi, .row 39 2 p76 n78 c77 qj, .row 9 1 p82 n84 c83 oa, .row 3 1 p88 n90 c89 qk, .row 3 1 p94 n96 c95 ql, .any (mapE (fun a : List UInt8 => Value.string (gstr a)) (fun a : Int => Value.int .i64 a) cF m2_97), .blk B2 (.cells #[.int .i64 (0 : Int), .bool false, .slice none 0 0, .slice none 0 0, .slice none 0 0, .slice none 0 0, .slice none 0 0, .slice none 0 0, .int .i64 (0 : Int)] 29 (0, 0))] ++ A) w qk d_85 ∧ Els (Rp.int .i64) (bl [.blk lN (.cells #[.int .i64 k2_40, .bool b2_41, .slice p46 n48 c47, .slice p52 n54 c53, .slice p58 n60 c59, .slice p64 n66 c65, .slice p70 n72 c71, .slice p76 n78 c77, .int .i64 k2_42, .map (some cF), .slice p82 n84 c83, .slice p88 n90 c89, .slice p94 n96 c95] 72 (0, 0)), .row 26 1 p46 n48 c47 qe, .row 26 1 p52 n54 c53 qf, .row 3 1 p58 n60 c59 qg, .row 3 1 p64 n66 c65 qh, .row 26 1 p70 n72 c71 qi, .row 39 2 p76 n78 c77 qj, .row 9 1 p82 n84 c83 oa, .row 3 1 p88 n90 c89 qk, .row 3 1 p94 n96 c95 ql, .any (mapE (fun a : List UInt8 => Value.string (gstr a)) (fun a : Int => Value.int .i64 a) cF m2_97), .blk B2 (.cells #[.int .i64 (0 : Int), .bool false, .slice none 0 0, .slice none 0 0, .slice none 0 0, .slice none 0 0, .slice none 0 0, .slice none 0 0, .int .i64 (0 : Int)] 29 (0, 0))] ++ A) w ql d_91 ∧ Fr (bl []) w0 (bl [.blk lN (.cells #[.int .i64 k2_40, .bool b2_41, .slice p46 n48 c47, .slice p52 n54 c53, .slice p58 n60 c59, .slice p64 n66 c65, .slice p70 n72 c71, .slice p76 n78 c77, .int .i64 k2_42, .map (some cF), .slice p82 n84 c83, .slice p88 n90 c89, .slice p94 n96 c95] 72 (0, 0)), .row 26 1 p46 n48 c47 qe, .row 26 1 p52 n54 c53 qf, .row 3 1 p58 n60 c59 qg, .row 3 1 p64 n66 c65 qh, .row 26 1 p70 n72 c71 qi, .row 39 2 p76 n78 c77 qj, .row 9 1 p82 n84 c83 oa, .row 3 1 p88 n90 c89 qk, .row 3 1 p94 n96 c95 ql, .any (mapE (fun a : List UInt8 => Value.string (gstr a)) (fun a : Int => Value.int .i64 a) cF m2_97), .blk B2 (.cells #[.int .i64 (0 : Int), .bool false, .slice none 0 0, .slice none 0 0, .slice none 0 0, .slice none 0 0, .slice none 0 0, .slice none 0 0, .int .i64 (0 : Int)] 29 (0, 0))]) w) H ⟨ug, uh, ui, tL, tM, tN, tO, tt, tu, tv, tw, sY, uj, uk, ul, tP, tQ, tR, tS, tx, tT, tU, tV, tz, wy, wz, wA, vB, vC, vD, vE, uU, vF, vG, vH, uV, ⟨rfl, rfl, trivial⟩, hO, gV, fJ, fL, gW, gc, gf, gX, jr, js, hB⟩ ?_
   intro X2
   refine prE fun k2_40 => prE fun b2_41 => prE fun k2_42 => prE fun d_43 => prE fun d_49 => prE fun d_55 => prE fun d_61 => prE fun d_67 => prE fun d_73 => prE fun d_79 => prE fun d_85 => prE fun d_91 => fun m2_97 => ?_
   intro H hX2 σ w39
   refine exE fun n48 => exE fun p46 => exE fun c47 => exE fun qe => exE fun n54 => exE fun p52 => exE fun c53 => exE fun qf => exE fun n60 => exE fun p58 => exE fun c59 => exE fun qg => exE fun n66 => exE fun p64 => exE fun c65 => exE fun qh => exE fun n72 => exE fun p70 => exE fun c71 => exE fun qi => exE fun n78 => exE fun p76 => exE fun c77 => exE fun qj => exE fun n84 => exE fun p82 => exE fun c83 => exE fun oa => exE fun n90 => exE fun p88 => exE fun c89 => exE fun qk => exE fun n96 => exE fun p94 => exE fun c95 => exE fun ql => andE fun hag => andE fun hO => andE fun wX => andE fun uw => andE fun t8 => andE fun sV => andE fun q8 => andE fun rc => andE fun qL => andE fun qM => andE fun kn => fun hB => ?_
   dsimp only at H
   refine Go1.keep [(4, .pointer (some ⟨B2, 0, none⟩)), (6, .pointer (some ⟨lN, 0, none⟩))] hag ?_
   refine Go1.seq ?_
   refine Go1.seq ?_
   refine Go1.region ?_
   refine GoR.op ((op_move rfl) _) rfl rfl ?_
   refine GoR.inl (vs := [.pointer (some ⟨lN, 0, none⟩)]) (caps := []) rfl rfl body50 Try.func50 rfl Try.ntmps50 rfl rfl rfl ?_
   intro RhR98 hR98
   refine Go1.seq ?_
   refine Go1.region ?_
   refine GoR.op ((op_assign rfl) _) rfl rfl ?_
   refine GoR.nil ?_
   refine Go1.seq ?_
   refine Go1.drawS 0 [(0, .pure), (1, .pure), (2, .pure), (3, .pure), (4, .stable), (5, .pure), (6, .pure), (7, .pure), (8, .pure), (9, .stable), (10, .pure), (11, .pure), (12, .pure)] mixed (by kernel_rfl) ?_
   intro w99 FM
   have j3 := Stp.same hO FM
   replace wX := wX.ch j3.ch
   replace uw := uw.ch j3.ch
   replace t8 := t8.ch j3.ch
   replace sV := sV.ch j3.ch
   replace q8 := q8.ch j3.ch
   replace rc := rc.ch j3.ch
   replace qL := qL.ch j3.ch
   replace qM := qM.ch j3.ch
   replace kn := kn.ch j3.ch
   replace hO := j3.own
   replace hB := hB.trans j3.fr
   refine GoQ.pure rfl (op_move rfl) rfl rfl ?_
   refine GoQ.pure rfl (op_nilCheck rfl) rfl rfl ?_
   refine GoQ.pure rfl (op_fieldAddr Try.underlying72 rfl ti29 rfl (by decide)) rfl rfl ?_
   refine GoQ.pure rfl (op_fieldAddr Try.underlying29 rfl ti3 rfl (by decide)) rfl rfl ?_
   refine GoQ.stable rfl (oblk (i := 8) 0 hO rfl rfl Try.underlying3 rfl rfl) rfl rfl ?_
   refine GoQ.pure rfl (op_move rfl) rfl rfl ?_
   refine GoQ.pure rfl (op_nilCheck rfl) rfl rfl ?_
   refine GoQ.pure rfl (op_fieldAddr Try.underlying72 rfl ti29 rfl (by decide)) rfl rfl ?_
   refine GoQ.pure rfl (op_fieldAddr Try.underlying29 rfl ti22 rfl (by decide)) rfl rfl ?_
   refine GoQ.stable rfl (oblk (i := 3) 0 hO rfl rfl Try.underlying22 rfl rfl) rfl rfl ?_
   refine GoQ.pure rfl (op_lenN Try.underlying22 rfl (uw.neq hO 2 rfl)) rfl rfl ?_
   by_cases uW : k2_42 = (d_49.length : Int)
   ·replace H := ifp uW H
    refine GoQ.pure rfl (fun w => opB (op_eql rfl rfl w) (decide_eq_true uW)) rfl rfl ?_
    refine GoQ.pure rfl (op_assign rfl) rfl rfl ?_
    refine GoQ.nil ?_
    refine Go1.ret1V Try.func50 rfl (show _ = .bool true from rfl) ?_
    refine hR98 _ _ ?_
    refine GoR.op ((op_not rfl) _) rfl rfl ?_
    refine GoR.nil ?_
    refine Go1.condF rfl rfl ?_
    refine Go1.exit rfl ?_
    refine Go1.seq ?_
    refine Go1.region ?_
    refine GoR.op ((op_move rfl) _) rfl rfl ?_
    refine GoR.op ((op_nilCheck rfl) _) rfl rfl ?_
    refine GoR.op ((op_fieldAddr Try.underlying72 rfl ti29 rfl (by decide)) _) rfl rfl ?_
    refine GoR.op ((oblkAgg (vs := [.int .i64 k2_40, .bool b2_41, .slice p46 n48 c47, .slice p52 n54 c53, .slice p58 n60 c59, .slice p64 n66 c65, .slice p70 n72 c71, .slice p76 n78 c77, .int .i64 k2_42]) (i := 0) 0 hO rfl rfl Try.underlying29 rfl ti29 rfl) _ (Same.refl _)) rfl rfl ?_
    have hobt := oblkStAgg (us := [.int .i64 k2_40, .bool b2_41, .slice p46 n48 c47, .slice p52 n54 c53, .slice p58 n60 c59, .slice p64 n66 c65, .slice p70 n72 c71, .slice p76 n78 c77, .int .i64 k2_42]) (o := 0) (cs' := #[.int .i64 k2_40, .bool b2_41, .slice p46 n48 c47, .slice p52 n54 c53, .slice p58 n60 c59, .slice p64 n66 c65, .slice p70 n72 c71, .slice p76 n78 c77, .int .i64 k2_42]) 11 hO rfl rfl (Nat.le_of_ble_eq_true rfl) rfl
    obtain ⟨Mp, jh, C0⟩ := hobt
    dsimp only [sS, sZ] at jh
    refine GoR.op (C0 ti29 (by exact rfl) (by exact rfl) rfl) rfl rfl ?_
    replace wX := wX.ch jh.ch
    replace uw := uw.ch jh.ch
    replace t8 := t8.ch jh.ch
    replace sV := sV.ch jh.ch
    replace q8 := q8.ch jh.ch
    replace rc := rc.ch jh.ch
    replace qL := qL.ch jh.ch
    replace qM := qM.ch jh.ch
    replace kn := kn.ch jh.ch
    replace hO := jh.own
    replace hB := hB.trans jh.fr
    refine GoR.op ((op_assign rfl) _) rfl rfl ?_
    refine GoR.nil ?_
    have hobt := freeze 1 hO rfl wX
    obtain ⟨hO1, tc, rG, FN⟩ := hobt
    dsimp only [eS, eZ] at hO1 tc rG
    replace uw := uw.ch tc
    replace t8 := t8.ch tc
    replace sV := sV.ch tc
    replace q8 := q8.ch tc
    replace rc := rc.ch tc
    replace qL := qL.ch tc
    replace qM := qM.ch tc
    replace kn := kn.ch tc
    replace hB := hB.trans (Owns.dropFr _ _ 1)
    dsimp only [eS, eZ] at hB
    replace hO := hO1; clear hO1
    have hobt := freeze 1 hO rfl uw
    obtain ⟨hO1, te, sB, FO⟩ := hobt
    dsimp only [eS, eZ] at hO1 te sB
    replace rG := rG.ch te
    replace t8 := t8.ch te
    replace sV := sV.ch te
    replace q8 := q8.ch te
    replace rc := rc.ch te
    replace qL := qL.ch te
    replace qM := qM.ch te
    replace kn := kn.ch te
    replace hB := hB.trans (Owns.dropFr _ _ 1)
    dsimp only [eS, eZ] at hB
    replace hO := hO1; clear hO1
    have hobt := freeze 1 hO rfl t8
    obtain ⟨hO1, tf, tW, FP⟩ := hobt
    dsimp only [eS, eZ] at hO1 tf tW
    replace rG := rG.ch tf
    replace sB := sB.ch tf
    replace sV := sV.ch tf
    replace q8 := q8.ch tf
    replace rc := rc.ch tf
    replace qL := qL.ch tf
    replace qM := qM.ch tf
    replace kn := kn.ch tf
    replace hB := hB.trans (Owns.dropFr _ _ 1)
    dsimp only [eS, eZ] at hB
    replace hO := hO1; clear hO1
    have hobt := freeze 1 hO rfl sV
    obtain ⟨hO1, tg, vj, FQ⟩ := hobt
    dsimp only [eS, eZ] at hO1 tg vj
    replace rG := rG.ch tg
    replace sB := sB.ch tg
    replace tW := tW.ch tg
    replace q8 := q8.ch tg
    replace rc := rc.ch tg
    replace qL := qL.ch tg
    replace qM := qM.ch tg
    replace kn := kn.ch tg
    replace hB := hB.trans (Owns.dropFr _ _ 1)
    dsimp only [eS, eZ] at hB
    replace hO := hO1; clear hO1
    have hobt := freeze 1 hO rfl q8
    obtain ⟨hO1, th, xE, FS⟩ := hobt
    dsimp only [eS, eZ] at hO1 th xE
    replace rG := rG.ch th
    replace sB := sB.ch th
    replace tW := tW.ch th
    replace vj := vj.ch th
    replace rc := rc.ch th
    replace qL := qL.ch th
    replace qM := qM.ch th
    replace kn := kn.ch th
    replace hB := hB.trans (Owns.dropFr _ _ 1)
    dsimp only [eS, eZ] at hB
    replace hO := hO1; clear hO1
    have hobt := freeze 1 hO rfl rc
    obtain ⟨hO1, tj, AM, FT⟩ := hobt
    dsimp only [eS, eZ] at hO1 tj AM
    replace rG := rG.ch tj
    replace sB := sB.ch tj
    replace tW := tW.ch tj
    replace vj := vj.ch tj
    replace xE := xE.ch tj
    replace qL := qL.ch tj
    replace qM := qM.ch tj
    replace kn := kn.ch tj
    replace hB := hB.trans (Owns.dropFr _ _ 1)
    dsimp only [eS, eZ] at hB
    replace hO := hO1; clear hO1
    refine Go1.retC2 Try.func17 rfl rfl (run_loadBlk (vs := [.int .i64 k2_40, .bool b2_41, .slice p46 n48 c47, .slice p52 n54 c53, .slice p58 n60 c59, .slice p64 n66 c65, .slice p70 n72 c71, .slice p76 n78 c77, .int .i64 k2_42]) 5 hO rfl rfl Try.underlying29 rfl ti29) ?_
    exact ⟨(⟨k2_40, b2_41, d_43, d_49, d_55, d_61, d_67, d_73, k2_42⟩ : Enum), (0 : Int), p46, c47, p52, c53, p58, c59, p64, c65, p70, c71, p76, c77, (congrArg (fun l => Value.tuple (List.toArray l)) (cons_eq (congrArg (fun l => Value.agg (List.toArray l)) (cons_eq rfl (cons_eq rfl (cons_eq (congrArg (fun nn => Value.slice p46 nn c47) FN) (cons_eq (congrArg (fun nn => Value.slice p52 nn c53) FO) (cons_eq (congrArg (fun nn => Value.slice p58 nn c59) FP) (cons_eq (congrArg (fun nn => Value.slice p64 nn c65) FQ) (cons_eq (congrArg (fun nn => Value.slice p70 nn c71) FS) (cons_eq (congrArg (fun nn => Value.slice p76 nn c77) FT) (cons_eq rfl rfl)))))))))) (cons_eq rfl rfl))), hB.same, (rG.ch (Ch.weak _ _ _)), (sB.ch (Ch.weak _ _ _)), (tW.ch (Ch.weak _ _ _)), (vj.ch (Ch.weak _ _ _)), (xE.ch (Ch.weak _ _ _)), (AM.ch (Ch.weak _ _ _)), H⟩
   replace H := ifn uW H
   refine GoQ.pure rfl (fun w => opB (op_eql rfl rfl w) (decide_eq_false uW)) rfl rfl ?_
   refine GoQ.pure rfl (op_assign rfl) rfl rfl ?_
   refine GoQ.nil ?_
   refine Go1.ret1V Try.func50 rfl (show _ = .bool false from rfl) ?_
   refine hR98 _ _ ?_
   refine GoR.op ((op_not rfl) _) rfl rfl ?_
   refine GoR.nil ?_
   refine Go1.condT rfl rfl ?_
   refine Go1.skip ?_
   refine Go1.block ?_
   refine Go1.seq ?_
   refine Go1.cut [(4, .pointer (some ⟨B2, 0, none⟩)), (6, .pointer (some ⟨lN, 0, none⟩))] ⟨rfl, rfl, trivial⟩ ?_
   intro σ _
   refine Go1.region ?_
   refine GoR.op ((op_move rfl) _) rfl rfl ?_
   have AN : Owns w0.heap.size w99 ([.blk lN (.cells #[.int .i64 k2_40, .bool b2_41, .slice p46 n48 c47, .slice p52 n54 c53, .slice p58 n60 c59, .slice p64 n66 c65, .slice p70 n72 c71, .slice p76 n78 c77, .int .i64 k2_42, .map (some cF), .slice p82 n84 c83, .slice p88 n90 c89, .slice p94 n96 c95] 72 (0, 0)), .row 26 1 p46 n48 c47 qe, .row 26 1 p52 n54 c53 qf, .row 3 1 p58 n60 c59 qg, .row 3 1 p64 n66 c65 qh, .row 26 1 p70 n72 c71 qi, .row 39 2 p76 n78 c77 qj, .row 9 1 p82 n84 c83 oa, .row 3 1 p88 n90 c89 qk, .row 3 1 p94 n96 c95 ql, .any (mapE (fun a : List UInt8 => Value.string (gstr a)) (fun a : Int => Value.int .i64 a) cF m2_97)] ++ [.blk B2 (.cells #[.int .i64 (0 : Int), .bool false, .slice none 0 0, .slice none 0 0, .slice none 0 0, .slice none 0 0, .slice none 0 0, .slice none 0 0, .int .i64 (0 : Int)] 29 (0, 0))]) A := hO
   have FU := Owns.split AN
   have hca126 : Ch (bl [.blk lN (.cells #[.int .i64 k2_40, .bool b2_41, .slice p46 n48 c47, .slice p52 n54 c53, .slice p58 n60 c59, .slice p64 n66 c65, .slice p70 n72 c71, .slice p76 n78 c77, .int .i64 k2_42, .map (some cF), .slice p82 n84 c83, .slice p88 n90 c89, .slice p94 n96 c95] 72 (0, 0)), .row 26 1 p46 n48 c47 qe, .row 26 1 p52 n54 c53 qf, .row 3 1 p58 n60 c59 qg, .row 3 1 p64 n66 c65 qh, .row 26 1 p70 n72 c71 qi, .row 39 2 p76 n78 c77 qj, .row 9 1 p82 n84 c83 oa, .row 3 1 p88 n90 c89 qk, .row 3 1 p94 n96 c95 ql, .any (mapE (fun a : List UInt8 => Value.string (gstr a)) (fun a : Int => Value.int .i64 a) cF m2_97), .blk B2 (.cells #[.int .i64 (0 : Int), .bool false, .slice none 0 0, .slice none 0 0, .slice none 0 0, .slice none 0 0, .slice none 0 0, .slice none 0 0, .int .i64 (0 : Int)] 29 (0, 0))] ++ A) w99 (bl [.blk lN (.cells #[.int .i64 k2_40, .bool b2_41, .slice p46 n48 c47, .slice p52 n54 c53, .slice p58 n60 c59, .slice p64 n66 c65, .slice p70 n72 c71, .slice p76 n78 c77, .int .i64 k2_42, .map (some cF), .slice p82 n84 c83, .slice p88 n90 c89, .slice p94 n96 c95] 72 (0, 0)), .row 26 1 p46 n48 c47 qe, .row 26 1 p52 n54 c53 qf, .row 3 1 p58 n60 c59 qg, .row 3 1 p64 n66 c65 qh, .row 26 1 p70 n72 c71 qi, .row 39 2 p76 n78 c77 qj, .row 9 1 p82 n84 c83 oa, .row 3 1 p88 n90 c89 qk, .row 3 1 p94 n96 c95 ql, .any (mapE (fun a : List UInt8 => Value.string (gstr a)) (fun a : Int => Value.int .i64 a) cF m2_97)] ++ (bl [.blk B2 (.cells #[.int .i64 (0 : Int), .bool false, .slice none 0 0, .slice none 0 0, .slice none 0 0, .slice none 0 0, .slice none 0 0, .slice none 0 0, .int .i64 (0 : Int)] 29 (0, 0))] ++ A)) w99 := Ch.assoc' [.blk lN (.cells #[.int .i64 k2_40, .bool b2_41, .slice p46 n48 c47, .slice p52 n54 c53, .slice p58 n60 c59, .slice p64 n66 c65, .slice p70 n72 c71, .slice p76 n78 c77, .int .i64 k2_42, .map (some cF), .slice p82 n84 c83, .slice p88 n90 c89, .slice p94 n96 c95] 72 (0, 0)), .row 26 1 p46 n48 c47 qe, .row 26 1 p52 n54 c53 qf, .row 3 1 p58 n60 c59 qg, .row 3 1 p64 n66 c65 qh, .row 26 1 p70 n72 c71 qi, .row 39 2 p76 n78 c77 qj, .row 9 1 p82 n84 c83 oa, .row 3 1 p88 n90 c89 qk, .row 3 1 p94 n96 c95 ql, .any (mapE (fun a : List UInt8 => Value.string (gstr a)) (fun a : Int => Value.int .i64 a) cF m2_97)] [.blk B2 (.cells #[.int .i64 (0 : Int), .bool false, .slice none 0 0, .slice none 0 0, .slice none 0 0, .slice none 0 0, .slice none 0 0, .slice none 0 0, .int .i64 (0 : Int)] 29 (0, 0))] A w99
   refine GoR.call (op_call body51 rfl (walk_enumerate_run_process (a0 := (⟨(⟨k2_40, b2_41, d_43, d_49, d_55, d_61, d_67, d_73, k2_42⟩ : Enum), m2_97, d_79, d_85, d_91⟩ : run)) FU (wX.ch hca126) (uw.ch hca126) (t8.ch hca126) (sV.ch hca126) (q8.ch hca126) (rc.ch hca126) (qL.ch hca126) (qM.ch hca126) (kn.ch hca126) H)) rfl rfl ?_
   intro Mq y5
   refine exE fun r127 => exE fun q128 => exE fun gZ => exE fun g0 => exE fun g5 => exE fun mP => exE fun gj => exE fun gk => exE fun gl => exE fun lO => exE fun fW => exE fun fX => exE fun fY => exE fun lq => exE fun g6 => exE fun g7 => exE fun g8 => exE fun mQ => exE fun gm => exE fun gn => exE fun gp => exE fun lP => exE fun gq => exE fun gr => exE fun gs => exE fun lQ => exE fun kF => exE fun kG => exE fun kI => exE fun p6 => exE fun ju => exE fun jv => exE fun jw => exE fun ow => exE fun jx => exE fun jy => exE fun jz => exE fun ox => andE fun hv134 => andE fun hN131 => andE fun mS => andE fun lR => andE fun lr => andE fun mT => andE fun lS => andE fun lT => andE fun qa => andE fun oy => andE fun oz => andE fun hF132 => fun H => ?_
   subst hv134
   have zw : Stp w0.heap.size A w99 [.blk lN (.cells #[.int .i64 k2_40, .bool b2_41, .slice p46 n48 c47, .slice p52 n54 c53, .slice p58 n60 c59, .slice p64 n66 c65, .slice p70 n72 c71, .slice p76 n78 c77, .int .i64 k2_42, .map (some cF), .slice p82 n84 c83, .slice p88 n90 c89, .slice p94 n96 c95] 72 (0, 0)), .row 26 1 p46 n48 c47 qe, .row 26 1 p52 n54 c53 qf, .row 3 1 p58 n60 c59 qg, .row 3 1 p64 n66 c65 qh, .row 26 1 p70 n72 c71 qi, .row 39 2 p76 n78 c77 qj, .row 9 1 p82 n84 c83 oa, .row 3 1 p88 n90 c89 qk, .row 3 1 p94 n96 c95 ql, .any (mapE (fun a : List UInt8 => Value.string (gstr a)) (fun a : Int => Value.int .i64 a) cF m2_97), .blk B2 (.cells #[.int .i64 (0 : Int), .bool false, .slice none 0 0, .slice none 0 0, .slice none 0 0, .slice none 0 0, .slice none 0 0, .slice none 0 0, .int .i64 (0 : Int)] 29 (0, 0))] y5 [.blk lN (.cells #[.int .i64 q128.Enum.Points, .bool q128.Enum.Monoid, .slice g0 gZ g5, .slice gk gj gl, .slice fX fW fY, .slice g7 g6 g8, .slice gn gm gp, .slice gr gq gs, .int .i64 q128.Enum.Done, .map (some cF), .slice kG kF kI, .slice jv ju jw, .slice jy jx jz] 72 (0, 0)), .row 26 1 g0 gZ g5 mP, .row 26 1 gk gj gl lO, .row 3 1 fX fW fY lq, .row 3 1 g7 g6 g8 mQ, .row 26 1 gn gm gp lP, .row 39 2 gr gq gs lQ, .row 9 1 kG kF kI p6, .row 3 1 jv ju jw ow, .row 3 1 jy jx jz ox, .any (mapE (fun a : List UInt8 => Value.string (gstr a)) (fun a : Int => Value.int .i64 a) cF q128.number), .blk B2 (.cells #[.int .i64 (0 : Int), .bool false, .slice none 0 0, .slice none 0 0, .slice none 0 0, .slice none 0 0, .slice none 0 0, .slice none 0 0, .int .i64 (0 : Int)] 29 (0, 0))] := Stp.join AN hN131 hF132
   replace hO := zw.own
   replace hB := hB.trans zw.fr
   have hca135 : Ch (bl [.blk lN (.cells #[.int .i64 q128.Enum.Points, .bool q128.Enum.Monoid, .slice g0 gZ g5, .slice gk gj gl, .slice fX fW fY, .slice g7 g6 g8, .slice gn gm gp, .slice gr gq gs, .int .i64 q128.Enum.Done, .map (some cF), .slice kG kF kI, .slice jv ju jw, .slice jy jx jz] 72 (0, 0)), .row 26 1 g0 gZ g5 mP, .row 26 1 gk gj gl lO, .row 3 1 fX fW fY lq, .row 3 1 g7 g6 g8 mQ, .row 26 1 gn gm gp lP, .row 39 2 gr gq gs lQ, .row 9 1 kG kF kI p6, .row 3 1 jv ju jw ow, .row 3 1 jy jx jz ox, .any (mapE (fun a : List UInt8 => Value.string (gstr a)) (fun a : Int => Value.int .i64 a) cF q128.number)] ++ (bl [.blk B2 (.cells #[.int .i64 (0 : Int), .bool false, .slice none 0 0, .slice none 0 0, .slice none 0 0, .slice none 0 0, .slice none 0 0, .slice none 0 0, .int .i64 (0 : Int)] 29 (0, 0))] ++ A)) y5 (bl [.blk lN (.cells #[.int .i64 q128.Enum.Points, .bool q128.Enum.Monoid, .slice g0 gZ g5, .slice gk gj gl, .slice fX fW fY, .slice g7 g6 g8, .slice gn gm gp, .slice gr gq gs, .int .i64 q128.Enum.Done, .map (some cF), .slice kG kF kI, .slice jv ju jw, .slice jy jx jz] 72 (0, 0)), .row 26 1 g0 gZ g5 mP, .row 26 1 gk gj gl lO, .row 3 1 fX fW fY lq, .row 3 1 g7 g6 g8 mQ, .row 26 1 gn gm gp lP, .row 39 2 gr gq gs lQ, .row 9 1 kG kF kI p6, .row 3 1 jv ju jw ow, .row 3 1 jy jx jz ox, .any (mapE (fun a : List UInt8 => Value.string (gstr a)) (fun a : Int => Value.int .i64 a) cF q128.number), .blk B2 (.cells #[.int .i64 (0 : Int), .bool false, .slice none 0 0, .slice none 0 0, .slice none 0 0, .slice none 0 0, .slice none 0 0, .slice none 0 0, .int .i64 (0 : Int)] 29 (0, 0))] ++ A) y5 := Ch.assoc [.blk lN (.cells #[.int .i64 q128.Enum.Points, .bool q128.Enum.Monoid, .slice g0 gZ g5, .slice gk gj gl, .slice fX fW fY, .slice g7 g6 g8, .slice gn gm gp, .slice gr gq gs, .int .i64 q128.Enum.Done, .map (some cF), .slice kG kF kI, .slice jv ju jw, .slice jy jx jz] 72 (0, 0)), .row 26 1 g0 gZ g5 mP, .row 26 1 gk gj gl lO, .row 3 1 fX fW fY lq, .row 3 1 g7 g6 g8 mQ, .row 26 1 gn gm gp lP, .row 39 2 gr gq gs lQ, .row 9 1 kG kF kI p6, .row 3 1 jv ju jw ow, .row 3 1 jy jx jz ox, .any (mapE (fun a : List UInt8 => Value.string (gstr a)) (fun a : Int => Value.int .i64 a) cF q128.number)] [.blk B2 (.cells #[.int .i64 (0 : Int), .bool false, .slice none 0 0, .slice none 0 0, .slice none 0 0, .slice none 0 0, .slice none 0 0, .slice none 0 0, .int .i64 (0 : Int)] 29 (0, 0))] A y5
   replace mS := mS.ch hca135
   replace lR := lR.ch hca135
   replace lr := lr.ch hca135
   replace mT := mT.ch hca135
   replace lS := lS.ch hca135
   replace lT := lT.ch hca135
   replace qa := qa.ch hca135
   replace oy := oy.ch hca135
   replace oz := oz.ch hca135
   refine GoR.op ((op_assign rfl) _) rfl rfl ?_
   refine GoR.nil ?_
   refine Go1.seq ?_
   refine Go1.region ?_
   refine GoR.op ((op_move rfl) _) rfl rfl ?_
   by_cases y6 : r127 = (0 : Int)
   ·replace H := ifp y6 H
    refine GoR.op ((fun w => opB (op_neq rfl rfl w) (ndT y6)) _) rfl rfl ?_
    refine GoR.nil ?_
    refine Go1.condF rfl rfl ?_
    refine Go1.skip ?_
    refine Go1.inBlock ?_
    exact hX2 _ H _ _ ⟨gZ, g0, g5, mP, gj, gk, gl, lO, fW, fX, fY, lq, g6, g7, g8, mQ, gm, gn, gp, lP, gq, gr, gs, lQ, kF, kG, kI, p6, ju, jv, jw, ow, jx, jy, jz, ox, ⟨rfl, rfl, trivial⟩, hO, mS, lR, lr, mT, lS, lT, qa, oy, oz, hB⟩
   replace H := ifn y6 H
   refine GoR.op ((fun w => opB (op_neq rfl rfl w) (ndF y6)) _) rfl rfl ?_
   refine GoR.nil ?_
   refine Go1.condT rfl rfl ?_
   refine Go1.seq ?_
   refine Go1.region ?_
   refine GoR.op ((op_build Try.underlying29 ti29 (pl := [(0, 1), (1, 1), (2, 1), (3, 1), (4, 1), (5, 1), (6, 1), (7, 1), (8, 1)]) (vs := []) (cs := #[.int .i64 (0 : Int), .bool false, .slice none 0 0, .slice none 0 0, .slice none 0 0, .slice none 0 0, .slice none 0 0, .slice none 0 0, .int .i64 (0 : Int)]) (by kernel_rfl) rfl (by kernel_rfl)) _) rfl rfl ?_
   refine GoR.op ((op_move rfl) _) rfl rfl ?_
   have hobt := oblkStAgg (us := [.int .i64 (0 : Int), .bool false, .slice none 0 0, .slice none 0 0, .slice none 0 0, .slice none 0 0, .slice none 0 0, .slice none 0 0, .int .i64 (0 : Int)]) (o := 0) (cs' := #[.int .i64 (0 : Int), .bool false, .slice none 0 0, .slice none 0 0, .slice none 0 0, .slice none 0 0, .slice none 0 0, .slice none 0 0, .int .i64 (0 : Int)]) 11 hO rfl rfl (Nat.le_of_ble_eq_true rfl) rfl
   obtain ⟨Mr, qb, C1⟩ := hobt
   dsimp only [sS, sZ] at qb
   refine GoR.op (C1 ti29 (by exact rfl) (by exact rfl) rfl) rfl rfl ?_
   replace mS := mS.ch qb.ch
   replace lR := lR.ch qb.ch
   replace lr := lr.ch qb.ch
   replace mT := mT.ch qb.ch
   replace lS := lS.ch qb.ch
   replace lT := lT.ch qb.ch
   replace qa := qa.ch qb.ch
   replace oy := oy.ch qb.ch
   replace oz := oz.ch qb.ch
   replace hO := qb.own
   replace hB := hB.trans qb.fr
   refine GoR.op ((op_assign rfl) _) rfl rfl ?_
   refine GoR.nil ?_
   refine Go1.retC2 Try.func17 rfl rfl (run_loadBlk (vs := [.int .i64 (0 : Int), .bool false, .slice none 0 0, .slice none 0 0, .slice none 0 0, .slice none 0 0, .slice none 0 0, .slice none 0 0, .int .i64 (0 : Int)]) 11 hO rfl rfl Try.underlying29 rfl ti29) ?_
   exact ⟨(⟨(0 : Int), false, ([] : List (List Int)), ([] : List (List Int)), ([] : List Int), ([] : List Int), ([] : List (List Int)), ([] : List Rule), (0 : Int)⟩ : Enum), r127, none, 0, none, 0, none, 0, none, 0, none, 0, none, 0, rfl, hB.same, (ISl.null _ _ _), (ISl.null _ _ _), (ISl.null _ _ _), (ISl.null _ _ _), (ISl.null _ _ _), (ISl.null _ _ _), H⟩
  replace H := ifn h38 H
  refine GoR.op ((fun w => opB (op_neq rfl rfl w) (ndF h38)) _) rfl rfl ?_
  refine GoR.nil ?_
  refine Go1.condT rfl rfl ?_
  refine Go1.seq ?_
  refine Go1.region ?_
  refine GoR.op ((op_build Try.underlying29 ti29 (pl := [(0, 1), (1, 1), (2, 1), (3, 1), (4, 1), (5, 1), (6, 1), (7, 1), (8, 1)]) (vs := []) (cs := #[.int .i64 (0 : Int), .bool false, .slice none 0 0, .slice none 0 0, .slice none 0 0, .slice none 0 0, .slice none 0 0, .slice none 0 0, .int .i64 (0 : Int)]) (by kernel_rfl) rfl (by kernel_rfl)) _) rfl rfl ?_
  refine GoR.op ((op_move rfl) _) rfl rfl ?_
  have hobt := oblkStAgg (us := [.int .i64 (0 : Int), .bool false, .slice none 0 0, .slice none 0 0, .slice none 0 0, .slice none 0 0, .slice none 0 0, .slice none 0 0, .int .i64 (0 : Int)]) (o := 0) (cs' := #[.int .i64 (0 : Int), .bool false, .slice none 0 0, .slice none 0 0, .slice none 0 0, .slice none 0 0, .slice none 0 0, .slice none 0 0, .int .i64 (0 : Int)]) 11 hO rfl rfl (Nat.le_of_ble_eq_true rfl) rfl
  obtain ⟨Ih, oA, C2⟩ := hobt
  dsimp only [sS, sZ] at oA
  refine GoR.op (C2 ti29 (by exact rfl) (by exact rfl) rfl) rfl rfl ?_
  replace gV := gV.ch oA.ch
  replace fJ := fJ.ch oA.ch
  replace fL := fL.ch oA.ch
  replace gW := gW.ch oA.ch
  replace gc := gc.ch oA.ch
  replace gf := gf.ch oA.ch
  replace gX := gX.ch oA.ch
  replace jr := jr.ch oA.ch
  replace js := js.ch oA.ch
  replace hO := oA.own
  replace eF := eF.ch oA.ch
  replace hB := hB.trans oA.fr
  refine GoR.op ((op_assign rfl) _) rfl rfl ?_
  refine GoR.nil ?_
  refine Go1.retC2 Try.func17 rfl rfl (run_loadBlk (vs := [.int .i64 (0 : Int), .bool false, .slice none 0 0, .slice none 0 0, .slice none 0 0, .slice none 0 0, .slice none 0 0, .slice none 0 0, .int .i64 (0 : Int)]) 11 hO rfl rfl Try.underlying29 rfl ti29) ?_
  exact ⟨(⟨(0 : Int), false, ([] : List (List Int)), ([] : List (List Int)), ([] : List Int), ([] : List Int), ([] : List (List Int)), ([] : List Rule), (0 : Int)⟩ : Enum), r8, none, 0, none, 0, none, 0, none, 0, none, 0, none, 0, rfl, hB.same, (ISl.null _ _ _), (ISl.null _ _ _), (ISl.null _ _ _), (ISl.null _ _ _), (ISl.null _ _ _), (ISl.null _ _ _), H⟩
theorem body70 : Body Try.prog 70 := ⟨Try.f70, Try.func70, rfl, by kernel_rfl⟩
theorem walk_slices_Equal_int {A : List Nat} {w0 : World} {nO : Option Addr} {nP : Nat} {nQ : Option Addr} {nS : Nat} {s1 : List Int} {s2 : List Int} (hA : ∀ b ∈ A, b < w0.heap.size) (iS : ISl (Rp.int .i64) A w0 nO nP s1) (jk : ISl (Rp.int .i64) A w0 nQ nS s2) {K : Bool → Prop} (H : slices_Equal_int s1 s2 K) :
    CallsV Try.prog 70 #[.slice nO s1.length nP, .slice nQ s2.length nS] w0 (fun v w' => ∃ (r0 : Bool), v = .bool r0 ∧ Same w0 w' ∧ K r0) := by
 refine CallsV.of (l := [.slice nO s1.length nP, .slice nQ s2.length nS]) Try.func70 rfl Try.ntmps70 rfl ?_
 have hO := Owns.start hA
 have hB := Fr.refl (bl []) w0
 unfold slices_Equal_int at H
 replace iS := iS.ch (Ch.start A w0)
 replace jk := jk.ch (Ch.start A w0)
 refine Go1.seq ?_
 refine Go1.region ?_
 refine GoR.op ((op_assign rfl) _) rfl rfl ?_
 refine GoR.nil ?_
 refine Go1.seq ?_
 refine Go1.seq ?_
 refine Go1.region ?_
 refine GoR.op ((op_move rfl) _) rfl rfl ?_
 refine GoR.op ((op_len Try.underlying26 rfl) _) rfl rfl ?_
 replace H := H iS.bd
 refine GoR.op ((op_move rfl) _) rfl rfl ?_
 refine GoR.op ((op_len Try.underlying26 rfl) _) rfl rfl ?_
 replace H := H jk.bd
 by_cases h1 : (s1.length : Int) = (s2.length : Int)
 ·replace H := ifp h1 H
  refine GoR.op ((fun w => opB (op_neq rfl rfl w) (ndT h1)) _) rfl rfl ?_
  refine GoR.nil ?_
  refine Go1.condF rfl rfl ?_
  refine Go1.skip ?_
  refine Go1.seq ?_
  refine Go1.seq ?_
  refine Go1.region ?_
  refine GoR.op ((op_move rfl) _) rfl rfl ?_
  refine GoR.op ((op_len Try.underlying26 rfl) _) rfl rfl ?_
  refine GoR.op ((op_move rfl) _) rfl rfl ?_
  refine GoR.nil ?_
  refine Go1.block ?_
  refine Go1.loopW (S := Nat) (fun s σ w => agrees σ [(0, .slice nO s1.length nP), (1, .slice nQ s2.length nS), (12, .int .i64 (s1.length : Int)), (13, .int .i64 (s : Int))] ∧ Owns w0.heap.size w [] A ∧ ISl (Rp.int .i64) (bl [] ++ A) w nO nP s1 ∧ ISl (Rp.int .i64) (bl [] ++ A) w nQ nS s2 ∧ Fr (bl []) w0 (bl []) w) H ⟨⟨rfl, rfl, rfl, rfl, trivial⟩, hO, iS, jk, hB⟩ ?_
  intro X1 k1_3
  intro H hX1 σ w2
  refine andE fun hag => andE fun hO => andE fun iS => andE fun jk => fun hB => ?_
  refine Go1.keep [(0, .slice nO s1.length nP), (1, .slice nQ s2.length nS), (12, .int .i64 (s1.length : Int)), (13, .int .i64 (k1_3 : Int))] hag ?_
  refine Go1.seq ?_
  refine Go1.region ?_
  by_cases h4 : (k1_3 : Int) < (s1.length : Int)
  ·replace H := ifp h4 H
   refine GoR.op ((fun w => opB (op_lss rfl rfl w) (decide_eq_true h4)) _) rfl rfl ?_
   refine GoR.nil ?_
   refine Go1.seq ?_
   refine Go1.condT rfl rfl ?_
   refine Go1.skip ?_
   refine Go1.seq ?_
   refine Go1.block ?_
   refine Go1.seq ?_
   refine Go1.region ?_
   refine GoR.op ((op_move rfl) _) rfl rfl ?_
   refine GoR.op ((op_assign rfl) _) rfl rfl ?_
   refine GoR.nil ?_
   refine Go1.seq ?_
   refine Go1.drawS 0 [(0, .pure), (1, .pure), (2, .pure), (3, .stable), (4, .pure), (5, .pure), (6, .pure), (7, .stable), (8, .pure)] mixed (by kernel_rfl) ?_
   intro w5 hs6
   have rR := Stp.same hO hs6
   replace hO := rR.own
   replace iS := iS.ch rR.ch
   replace jk := jk.ch rR.ch
   replace hB := hB.trans rR.fr
   refine GoQ.pure rfl (op_move rfl) rfl rfl ?_
   refine GoQ.pure rfl (op_move rfl) rfl rfl ?_
   obtain ⟨h8, H⟩ := H
   obtain ⟨h9, H⟩ := H
   refine GoQ.pure rfl (op_index Try.underlying26 ti3 rfl rfl h8 h9 (iS.some_ h8 h9)) rfl rfl ?_
   refine GoQ.stable rfl (ldInt iS h8 h9 Try.underlying3 rfl rfl) rfl rfl ?_
   refine GoQ.pure rfl (op_move rfl) rfl rfl ?_
   refine GoQ.pure rfl (op_move rfl) rfl rfl ?_
   obtain ⟨h10, H⟩ := H
   obtain ⟨h11, H⟩ := H
   refine GoQ.pure rfl (op_index Try.underlying26 ti3 rfl rfl h10 h11 (jk.some_ h10 h11)) rfl rfl ?_
   refine GoQ.stable rfl (ldInt jk h10 h11 Try.underlying3 rfl rfl) rfl rfl ?_
   by_cases h12 : (ix s1 (k1_3 : Int)) = (ix s2 (k1_3 : Int))
   ·replace H := ifp h12 H
    refine GoQ.pure rfl (fun w => opB (op_neq rfl rfl w) (ndT h12)) rfl rfl ?_
    refine GoQ.nil ?_
    refine Go1.condF rfl rfl ?_
    refine Go1.skip ?_
    refine Go1.inBlock ?_
    refine Go1.region ?_
    refine GoR.op ((op_add rfl rfl (wrap_i64 (natbd h4 iS.bd))) _) rfl rfl ?_
    refine GoR.op ((op_move rfl) _) rfl rfl ?_
    refine GoR.nil ?_
    exact hX1 _ H _ _ ⟨⟨rfl, rfl, rfl, rfl, trivial⟩, hO, iS, jk, hB⟩
   replace H := ifn h12 H
   refine GoQ.pure rfl (fun w => opB (op_neq rfl rfl w) (ndF h12)) rfl rfl ?_
   refine GoQ.nil ?_
   refine Go1.condT rfl rfl ?_
   refine Go1.seq ?_
   refine Go1.region ?_
   refine GoR.op ((op_assign rfl) _) rfl rfl ?_
   refine GoR.nil ?_
   refine Go1.ret1 Try.func70 rfl ?_
   exact ⟨false, rfl, hB.same, H⟩
  replace H := ifn h4 H
  refine GoR.op ((fun w => opB (op_lss rfl rfl w) (decide_eq_false h4)) _) rfl rfl ?_
  refine GoR.nil ?_
  refine Go1.seq ?_
  refine Go1.condF rfl rfl ?_
  refine Go1.exit rfl ?_
  refine Go1.seq ?_
  refine Go1.region ?_
  refine GoR.op ((op_assign rfl) _) rfl rfl ?_
  refine GoR.nil ?_
  refine Go1.ret1 Try.func70 rfl ?_
  exact ⟨true, rfl, hB.same, H⟩
 replace H := ifn h1 H
 refine GoR.op ((fun w => opB (op_neq rfl rfl w) (ndF h1)) _) rfl rfl ?_
 refine GoR.nil ?_
 refine Go1.condT rfl rfl ?_
 refine Go1.seq ?_
 refine Go1.region ?_
 refine GoR.op ((op_assign rfl) _) rfl rfl ?_
 refine GoR.nil ?_
 refine Go1.ret1 Try.func70 rfl ?_
 exact ⟨false, rfl, hB.same, H⟩
theorem body69 : Body Try.prog 69 := ⟨Try.f69, Try.func69, rfl, by kernel_rfl⟩
theorem walk_slices_EqualFunc_int {A : List Nat} {w0 : World} {nO : Option Addr} {nP : Nat} {nQ : Option Addr} {nS : Nat} {s1 : List (List Int)} {s2 : List (List Int)} (hA : ∀ b ∈ A, b < w0.heap.size) (iS : ISl (Rp.sl (Rp.int .i64)) A w0 nO nP s1) (jk : ISl (Rp.sl (Rp.int .i64)) A w0 nQ nS s2) {K : Bool → Prop} (H : slices_EqualFunc_int s1 s2 K) :
    CallsV Try.prog 69 #[.slice nO s1.length nP, .slice nQ s2.length nS, .func (.func 70) #[] #[]] w0 (fun v w' => ∃ (r0 : Bool), v = .bool r0 ∧ Same w0 w' ∧ K r0) := by
 refine CallsV.of (l := [.slice nO s1.length nP, .slice nQ s2.length nS, .func (.func 70) #[] #[]]) Try.func69 rfl Try.ntmps69 rfl ?_
 have hO := Owns.start hA
 have hB := Fr.refl (bl []) w0
 unfold slices_EqualFunc_int at H
 replace iS := iS.ch (Ch.start A w0)
 replace jk := jk.ch (Ch.start A w0)
 refine Go1.seq ?_
 refine Go1.region ?_
 refine GoR.op ((op_assign rfl) _) rfl rfl ?_
 refine GoR.nil ?_
 refine Go1.seq ?_
 refine Go1.seq ?_
 refine Go1.region ?_
 refine GoR.op ((op_move rfl) _) rfl rfl ?_
 refine GoR.op ((op_len Try.underlying22 rfl) _) rfl rfl ?_
 replace H := H iS.bd
 refine GoR.op ((op_move rfl) _) rfl rfl ?_
 refine GoR.op ((op_len Try.underlying22 rfl) _) rfl rfl ?_
 replace H := H jk.bd
 by_cases h1 : (s1.length : Int) = (s2.length : Int)
 ·replace H := ifp h1 H
  refine GoR.op ((fun w => opB (op_neq rfl rfl w) (ndT h1)) _) rfl rfl ?_
  refine GoR.nil ?_
  refine Go1.condF rfl rfl ?_
  refine Go1.skip ?_
  refine Go1.seq ?_
  refine Go1.seq ?_
  refine Go1.region ?_
  refine GoR.op ((op_move rfl) _) rfl rfl ?_
  refine GoR.op ((op_len Try.underlying22 rfl) _) rfl rfl ?_
  refine GoR.op ((op_move rfl) _) rfl rfl ?_
  refine GoR.nil ?_
  refine Go1.block ?_
  refine Go1.loopW (S := Nat) (fun s σ w => agrees σ [(1, .slice nQ s2.length nS), (2, .func (.func 70) #[] #[]), (15, .slice nO s1.length nP), (16, .int .i64 (s1.length : Int)), (17, .int .i64 (s : Int))] ∧ Owns w0.heap.size w [] A ∧ ISl (Rp.sl (Rp.int .i64)) (bl [] ++ A) w nO nP s1 ∧ ISl (Rp.sl (Rp.int .i64)) (bl [] ++ A) w nQ nS s2 ∧ Fr (bl []) w0 (bl []) w) H ⟨⟨rfl, rfl, rfl, rfl, rfl, trivial⟩, hO, iS, jk, hB⟩ ?_
  intro X1 k1_3
  intro H hX1 σ w2
  refine andE fun hag => andE fun hO => andE fun iS => andE fun jk => fun hB => ?_
  refine Go1.keep [(1, .slice nQ s2.length nS), (2, .func (.func 70) #[] #[]), (15, .slice nO s1.length nP), (16, .int .i64 (s1.length : Int)), (17, .int .i64 (k1_3 : Int))] hag ?_
  refine Go1.seq ?_
  refine Go1.region ?_
  by_cases h4 : (k1_3 : Int) < (s1.length : Int)
  ·replace H := ifp h4 H
   refine GoR.op ((fun w => opB (op_lss rfl rfl w) (decide_eq_true h4)) _) rfl rfl ?_
   refine GoR.nil ?_
   refine Go1.seq ?_
   refine Go1.condT rfl rfl ?_
   refine Go1.skip ?_
   refine Go1.seq ?_
   refine Go1.block ?_
   refine Go1.seq ?_
   refine Go1.region ?_
   refine GoR.op ((op_move rfl) _) rfl rfl ?_
   obtain ⟨h5, H⟩ := H
   obtain ⟨h6, H⟩ := H
   refine GoR.op ((op_index Try.underlying22 ti26 rfl rfl h5 h6 (iS.some_ h5 h6)) _) rfl rfl ?_
   have hobt := ldSl iS h5 h6
   obtain ⟨p7, c8, hi9, Ii⟩ := hobt
   refine GoR.op ((Ii Try.underlying26 rfl rfl) _ (Same.refl _)) rfl rfl ?_
   refine GoR.op ((op_assign rfl) _) rfl rfl ?_
   refine GoR.op ((op_assign rfl) _) rfl rfl ?_
   refine GoR.nil ?_
   refine Go1.seq ?_
   refine Go1.region ?_
   refine GoR.op ((op_move rfl) _) rfl rfl ?_
   refine GoR.op ((op_move rfl) _) rfl rfl ?_
   obtain ⟨h11, H⟩ := H
   obtain ⟨h12, H⟩ := H
   refine GoR.op ((op_index Try.underlying22 ti26 rfl rfl h11 h12 (jk.some_ h11 h12)) _) rfl rfl ?_
   have hobt := ldSl jk h11 h12
   obtain ⟨p13, c14, o6, Ij⟩ := hobt
   refine GoR.op ((Ij Try.underlying26 rfl rfl) _ (Same.refl _)) rfl rfl ?_
   refine GoR.op ((op_assign rfl) _) rfl rfl ?_
   refine GoR.nil ?_
   refine Go1.seq ?_
   refine Go1.region ?_
   refine GoR.op ((op_move rfl) _) rfl rfl ?_
   refine GoR.op ((op_move rfl) _) rfl rfl ?_
   refine GoR.op ((op_move rfl) _) rfl rfl ?_
   refine GoR.call (op_callV (caps := []) body70 rfl rfl (walk_slices_Equal_int hO.lt hi9 o6 H)) rfl rfl ?_
   rintro v21 w18 ⟨r17, rfl, B5, H⟩
   have mq := Stp.same hO B5
   replace hO := mq.own
   replace iS := iS.ch mq.ch
   replace jk := jk.ch mq.ch
   replace hi9 := hi9.ch mq.ch
   replace o6 := o6.ch mq.ch
   replace hB := hB.trans mq.fr
   cases r17
   ·replace H := ifn Bool.false_ne_true H
    refine GoR.op ((op_not rfl) _) rfl rfl ?_
    refine GoR.nil ?_
    refine Go1.condT rfl rfl ?_
    refine Go1.seq ?_
    refine Go1.region ?_
    refine GoR.op ((op_assign rfl) _) rfl rfl ?_
    refine GoR.nil ?_
    refine Go1.ret1 Try.func69 rfl ?_
    exact ⟨false, rfl, hB.same, H⟩
   replace H := ifp rfl H
   refine GoR.op ((op_not rfl) _) rfl rfl ?_
   refine GoR.nil ?_
   refine Go1.condF rfl rfl ?_
   refine Go1.skip ?_
   refine Go1.inBlock ?_
   refine Go1.cut [(1, .slice nQ s2.length nS), (2, .func (.func 70) #[] #[]), (15, .slice nO s1.length nP), (16, .int .i64 (s1.length : Int)), (17, .int .i64 (k1_3 : Int))] ⟨rfl, rfl, rfl, rfl, rfl, trivial⟩ ?_
   intro σ _
   refine Go1.region ?_
   refine GoR.op ((op_add rfl rfl (wrap_i64 (natbd h4 iS.bd))) _) rfl rfl ?_
   refine GoR.op ((op_move rfl) _) rfl rfl ?_
   refine GoR.nil ?_
   exact hX1 _ H _ _ ⟨⟨rfl, rfl, rfl, rfl, rfl, trivial⟩, hO, iS, jk, hB⟩
  replace H := ifn h4 H
  refine GoR.op ((fun w => opB (op_lss rfl rfl w) (decide_eq_false h4)) _) rfl rfl ?_
  refine GoR.nil ?_
  refine Go1.seq ?_
  refine Go1.condF rfl rfl ?_
  refine Go1.exit rfl ?_
  refine Go1.seq ?_
  refine Go1.region ?_
  refine GoR.op ((op_assign rfl) _) rfl rfl ?_
  refine GoR.nil ?_
  refine Go1.ret1 Try.func69 rfl ?_
  exact ⟨true, rfl, hB.same, H⟩
 replace H := ifn h1 H
 refine GoR.op ((fun w => opB (op_neq rfl rfl w) (ndF h1)) _) rfl rfl ?_
 refine GoR.nil ?_
 refine Go1.condT rfl rfl ?_
 refine Go1.seq ?_
 refine Go1.region ?_
 refine GoR.op ((op_assign rfl) _) rfl rfl ?_
 refine GoR.nil ?_
 refine Go1.ret1 Try.func69 rfl ?_
 exact ⟨false, rfl, hB.same, H⟩
theorem body71 : Body Try.prog 71 := ⟨Try.f71, Try.func71, rfl, by kernel_rfl⟩
theorem walk_slices_Equal_api_Rule {A : List Nat} {w0 : World} {nO : Option Addr} {nP : Nat} {nQ : Option Addr} {nS : Nat} {s1 : List Rule} {s2 : List Rule} (hA : ∀ b ∈ A, b < w0.heap.size) (iS : ISl (rpRule) A w0 nO nP s1) (jk : ISl (rpRule) A w0 nQ nS s2) {K : Bool → Prop} (H : slices_Equal_api_Rule s1 s2 K) :
    CallsV Try.prog 71 #[.slice nO s1.length nP, .slice nQ s2.length nS] w0 (fun v w' => ∃ (r0 : Bool), v = .bool r0 ∧ Same w0 w' ∧ K r0) := by
 refine CallsV.of (l := [.slice nO s1.length nP, .slice nQ s2.length nS]) Try.func71 rfl Try.ntmps71 rfl ?_
 have hO := Owns.start hA
 have hB := Fr.refl (bl []) w0
 unfold slices_Equal_api_Rule at H
 replace iS := iS.ch (Ch.start A w0)
 replace jk := jk.ch (Ch.start A w0)
 refine Go1.seq ?_
 refine Go1.region ?_
 refine GoR.op ((op_assign rfl) _) rfl rfl ?_
 refine GoR.nil ?_
 refine Go1.seq ?_
 refine Go1.seq ?_
 refine Go1.region ?_
 refine GoR.op ((op_move rfl) _) rfl rfl ?_
 refine GoR.op ((op_len Try.underlying27 rfl) _) rfl rfl ?_
 replace H := H iS.bd
 refine GoR.op ((op_move rfl) _) rfl rfl ?_
 refine GoR.op ((op_len Try.underlying27 rfl) _) rfl rfl ?_
 replace H := H jk.bd
 by_cases h1 : (s1.length : Int) = (s2.length : Int)
 ·replace H := ifp h1 H
  refine GoR.op ((fun w => opB (op_neq rfl rfl w) (ndT h1)) _) rfl rfl ?_
  refine GoR.nil ?_
  refine Go1.condF rfl rfl ?_
  refine Go1.skip ?_
  refine Go1.seq ?_
  refine Go1.seq ?_
  refine Go1.region ?_
  refine GoR.op ((op_move rfl) _) rfl rfl ?_
  refine GoR.op ((op_len Try.underlying27 rfl) _) rfl rfl ?_
  refine GoR.op ((op_move rfl) _) rfl rfl ?_
  refine GoR.nil ?_
  refine Go1.block ?_
  refine Go1.loopW (S := Nat) (fun s σ w => agrees σ [(0, .slice nO s1.length nP), (1, .slice nQ s2.length nS), (12, .int .i64 (s1.length : Int)), (13, .int .i64 (s : Int))] ∧ Owns w0.heap.size w [] A ∧ ISl (rpRule) (bl [] ++ A) w nO nP s1 ∧ ISl (rpRule) (bl [] ++ A) w nQ nS s2 ∧ Fr (bl []) w0 (bl []) w) H ⟨⟨rfl, rfl, rfl, rfl, trivial⟩, hO, iS, jk, hB⟩ ?_
  intro X1 k1_3
  intro H hX1 σ w2
  refine andE fun hag => andE fun hO => andE fun iS => andE fun jk => fun hB => ?_
  refine Go1.keep [(0, .slice nO s1.length nP), (1, .slice nQ s2.length nS), (12, .int .i64 (s1.length : Int)), (13, .int .i64 (k1_3 : Int))] hag ?_
  refine Go1.seq ?_
  refine Go1.region ?_
  by_cases h4 : (k1_3 : Int) < (s1.length : Int)
  ·replace H := ifp h4 H
   refine GoR.op ((fun w => opB (op_lss rfl rfl w) (decide_eq_true h4)) _) rfl rfl ?_
   refine GoR.nil ?_
   refine Go1.seq ?_
   refine Go1.condT rfl rfl ?_
   refine Go1.skip ?_
   refine Go1.seq ?_
   refine Go1.block ?_
   refine Go1.seq ?_
   refine Go1.region ?_
   refine GoR.op ((op_move rfl) _) rfl rfl ?_
   refine GoR.op ((op_assign rfl) _) rfl rfl ?_
   refine GoR.nil ?_
   refine Go1.seq ?_
   refine Go1.drawS 0 [(0, .pure), (1, .pure), (2, .pure), (3, .stable), (4, .pure), (5, .pure), (6, .pure), (7, .stable), (8, .pure)] mixed (by kernel_rfl) ?_
   intro w5 hs6
   have rR := Stp.same hO hs6
   replace hO := rR.own
   replace iS := iS.ch rR.ch
   replace jk := jk.ch rR.ch
   replace hB := hB.trans rR.fr
   refine GoQ.pure rfl (op_move rfl) rfl rfl ?_
   refine GoQ.pure rfl (op_move rfl) rfl rfl ?_
   obtain ⟨h8, H⟩ := H
   obtain ⟨h9, H⟩ := H
   refine GoQ.pure rfl (op_index Try.underlying27 ti39 rfl rfl h8 h9 (iS.some_ h8 h9)) rfl rfl ?_
   have hok10 := ldFlatOk iS h8 h9
   refine GoQ.stable rfl (ldFlat iS h8 h9 Try.underlying39 rfl ti39 rfl) rfl rfl ?_
   refine GoQ.pure rfl (op_move rfl) rfl rfl ?_
   refine GoQ.pure rfl (op_move rfl) rfl rfl ?_
   obtain ⟨h11, H⟩ := H
   obtain ⟨h12, H⟩ := H
   refine GoQ.pure rfl (op_index Try.underlying27 ti39 rfl rfl h11 h12 (jk.some_ h11 h12)) rfl rfl ?_
   have hok13 := ldFlatOk jk h11 h12
   refine GoQ.stable rfl (ldFlat jk h11 h12 Try.underlying39 rfl ti39 rfl) rfl rfl ?_
   by_cases h14 : (((ix s1 (k1_3 : Int)).Left) = ((ix s2 (k1_3 : Int)).Left) ∧ ((ix s1 (k1_3 : Int)).Right) = ((ix s2 (k1_3 : Int)).Right))
   ·replace H := ifp h14 H
    refine GoQ.pure rfl (fun w => opB (op_neqSS Try.underlying39 eqh39 eqg39 (by decide) (by decide) rfl rfl Try.underlying9 Try.underlying9 rfl rfl w) (ndT h14)) rfl rfl ?_
    refine GoQ.nil ?_
    refine Go1.condF rfl rfl ?_
    refine Go1.skip ?_
    refine Go1.inBlock ?_
    refine Go1.region ?_
    refine GoR.op ((op_add rfl rfl (wrap_i64 (natbd h4 iS.bd))) _) rfl rfl ?_
    refine GoR.op ((op_move rfl) _) rfl rfl ?_
    refine GoR.nil ?_
    exact hX1 _ H _ _ ⟨⟨rfl, rfl, rfl, rfl, trivial⟩, hO, iS, jk, hB⟩
   replace H := ifn h14 H
   refine GoQ.pure rfl (fun w => opB (op_neqSS Try.underlying39 eqh39 eqg39 (by decide) (by decide) rfl rfl Try.underlying9 Try.underlying9 rfl rfl w) (ndF h14)) rfl rfl ?_
   refine GoQ.nil ?_
   refine Go1.condT rfl rfl ?_
   refine Go1.seq ?_
   refine Go1.region ?_
   refine GoR.op ((op_assign rfl) _) rfl rfl ?_
   refine GoR.nil ?_
   refine Go1.ret1 Try.func71 rfl ?_
   exact ⟨false, rfl, hB.same, H⟩
  replace H := ifn h4 H
  refine GoR.op ((fun w => opB (op_lss rfl rfl w) (decide_eq_false h4)) _) rfl rfl ?_
  refine GoR.nil ?_
  refine Go1.seq ?_
  refine Go1.condF rfl rfl ?_
  refine Go1.exit rfl ?_
  refine Go1.seq ?_
  refine Go1.region ?_
  refine GoR.op ((op_assign rfl) _) rfl rfl ?_
  refine GoR.nil ?_
  refine Go1.ret1 Try.func71 rfl ?_
  exact ⟨true, rfl, hB.same, H⟩
 replace H := ifn h1 H
 refine GoR.op ((fun w => opB (op_neq rfl rfl w) (ndF h1)) _) rfl rfl ?_
 refine GoR.nil ?_
 refine Go1.condT rfl rfl ?_
 refine Go1.seq ?_
 refine Go1.region ?_
 refine GoR.op ((op_assign rfl) _) rfl rfl ?_
 refine GoR.nil ?_
 refine Go1.ret1 Try.func71 rfl ?_
 exact ⟨false, rfl, hB.same, H⟩
end Sg
