/- The walks: each call keeps to its plain transformer. Printed by walkgen.py. -/
import Derived.Test.YtjegjjdfgefkoaaTi
import Derived.Test.YtjegjjdfgefkoaaWEnumerateBuilds
namespace Sg
open Go Go.RowKit Go.Proofs
set_option linter.unusedVariables false
set_option linter.unusedSimpArgs false
set_option maxRecDepth 100000
set_option maxHeartbeats 4000000
theorem body66 : Body Try.prog 66 := ⟨Try.f66, Try.func66, rfl, by kernel_rfl⟩
theorem body67 : Body Try.prog 67 := ⟨Try.f67, Try.func67, rfl, by kernel_rfl⟩
theorem body51 : Body Try.prog 51 := ⟨Try.f51, Try.func51, rfl, by kernel_rfl⟩
theorem walk_enumerate_run_process {A : List Nat} {n0 : Nat} {w0 : World} {d4 : Nat} {ao : Nat} {ap : Option Addr} {aq : Nat} {cL : List Value} {cS : Nat} {cT : Option Addr} {cU : Nat} {d6 : List Value} {cM : Nat} {cN : Option Addr} {cO : Nat} {dZ : List Value} {dh : Nat} {di : Option Addr} {dj : Nat} {en : List Value} {aE : Nat} {aU : Option Addr} {aV : Nat} {cE : List Value} {cV : Nat} {cW : Option Addr} {cX : Nat} {d7 : List Value} {aW : Nat} {dQ : Nat} {dR : Option Addr} {dS : Nat} {gf : List Value} {dM : Nat} {dN : Option Addr} {dO : Nat} {fK : List Value} {bD : Nat} {bE : Option Addr} {bF : Nat} {dw : List Value} {a0 : run} (hO : Owns n0 w0 [.blk d4 (.cells #[.int .i64 a0.Enum.Points, .bool a0.Enum.Monoid, .slice ap ao aq, .slice cT cS cU, .slice cN cM cO, .slice di dh dj, .slice aU aE aV, .slice cW cV cX, .int .i64 a0.Enum.Done, .map (some aW), .slice dR dQ dS, .slice dN dM dO, .slice bE bD bF] 72 (0, 0)), .row 26 1 ap ao aq cL, .row 26 1 cT cS cU d6, .row 3 1 cN cM cO dZ, .row 3 1 di dh dj en, .row 26 1 aU aE aV cE, .row 39 2 cW cV cX d7, .row 9 1 dR dQ dS gf, .row 3 1 dN dM dO fK, .row 3 1 bE bD bF dw, .any (mapE (fun a : List UInt8 => Value.string (gstr a)) (fun a : Int => Value.int .i64 a) aW a0.number)] A) (aa : Els (Rp.sl (Rp.int .i64)) (bl [.blk d4 (.cells #[.int .i64 a0.Enum.Points, .bool a0.Enum.Monoid, .slice ap ao aq, .slice cT cS cU, .slice cN cM cO, .slice di dh dj, .slice aU aE aV, .slice cW cV cX, .int .i64 a0.Enum.Done, .map (some aW), .slice dR dQ dS, .slice dN dM dO, .slice bE bD bF] 72 (0, 0)), .row 26 1 ap ao aq cL, .row 26 1 cT cS cU d6, .row 3 1 cN cM cO dZ, .row 3 1 di dh dj en, .row 26 1 aU aE aV cE, .row 39 2 cW cV cX d7, .row 9 1 dR dQ dS gf, .row 3 1 dN dM dO fK, .row 3 1 bE bD bF dw, .any (mapE (fun a : List UInt8 => Value.string (gstr a)) (fun a : Int => Value.int .i64 a) aW a0.number)] ++ A) w0 cL a0.Enum.Gens) (rW : Els (Rp.sl (Rp.int .i64)) (bl [.blk d4 (.cells #[.int .i64 a0.Enum.Points, .bool a0.Enum.Monoid, .slice ap ao aq, .slice cT cS cU, .slice cN cM cO, .slice di dh dj, .slice aU aE aV, .slice cW cV cX, .int .i64 a0.Enum.Done, .map (some aW), .slice dR dQ dS, .slice dN dM dO, .slice bE bD bF] 72 (0, 0)), .row 26 1 ap ao aq cL, .row 26 1 cT cS cU d6, .row 3 1 cN cM cO dZ, .row 3 1 di dh dj en, .row 26 1 aU aE aV cE, .row 39 2 cW cV cX d7, .row 9 1 dR dQ dS gf, .row 3 1 dN dM dO fK, .row 3 1 bE bD bF dw, .any (mapE (fun a : List UInt8 => Value.string (gstr a)) (fun a : Int => Value.int .i64 a) aW a0.number)] ++ A) w0 d6 a0.Enum.Elems) (rv : Els (Rp.int .i64) (bl [.blk d4 (.cells #[.int .i64 a0.Enum.Points, .bool a0.Enum.Monoid, .slice ap ao aq, .slice cT cS cU, .slice cN cM cO, .slice di dh dj, .slice aU aE aV, .slice cW cV cX, .int .i64 a0.Enum.Done, .map (some aW), .slice dR dQ dS, .slice dN dM dO, .slice bE bD bF] 72 (0, 0)), .row 26 1 ap ao aq cL, .row 26 1 cT cS cU d6, .row 3 1 cN cM cO dZ, .row 3 1 di dh dj en, .row 26 1 aU aE aV cE, .row 39 2 cW cV cX d7, .row 9 1 dR dQ dS gf, .row 3 1 dN dM dO fK, .row 3 1 bE bD bF dw, .any (mapE (fun a : List UInt8 => Value.string (gstr a)) (fun a : Int => Value.int .i64 a) aW a0.number)] ++ A) w0 dZ a0.Enum.Prefix) (sf : Els (Rp.int .i64) (bl [.blk d4 (.cells #[.int .i64 a0.Enum.Points, .bool a0.Enum.Monoid, .slice ap ao aq, .slice cT cS cU, .slice cN cM cO, .slice di dh dj, .slice aU aE aV, .slice cW cV cX, .int .i64 a0.Enum.Done, .map (some aW), .slice dR dQ dS, .slice dN dM dO, .slice bE bD bF] 72 (0, 0)), .row 26 1 ap ao aq cL, .row 26 1 cT cS cU d6, .row 3 1 cN cM cO dZ, .row 3 1 di dh dj en, .row 26 1 aU aE aV cE, .row 39 2 cW cV cX d7, .row 9 1 dR dQ dS gf, .row 3 1 dN dM dO fK, .row 3 1 bE bD bF dw, .any (mapE (fun a : List UInt8 => Value.string (gstr a)) (fun a : Int => Value.int .i64 a) aW a0.number)] ++ A) w0 en a0.Enum.Last) (ab : Els (Rp.sl (Rp.int .i64)) (bl [.blk d4 (.cells #[.int .i64 a0.Enum.Points, .bool a0.Enum.Monoid, .slice ap ao aq, .slice cT cS cU, .slice cN cM cO, .slice di dh dj, .slice aU aE aV, .slice cW cV cX, .int .i64 a0.Enum.Done, .map (some aW), .slice dR dQ dS, .slice dN dM dO, .slice bE bD bF] 72 (0, 0)), .row 26 1 ap ao aq cL, .row 26 1 cT cS cU d6, .row 3 1 cN cM cO dZ, .row 3 1 di dh dj en, .row 26 1 aU aE aV cE, .row 39 2 cW cV cX d7, .row 9 1 dR dQ dS gf, .row 3 1 dN dM dO fK, .row 3 1 bE bD bF dw, .any (mapE (fun a : List UInt8 => Value.string (gstr a)) (fun a : Int => Value.int .i64 a) aW a0.number)] ++ A) w0 cE a0.Enum.Right) (rX : Els (rpRule) (bl [.blk d4 (.cells #[.int .i64 a0.Enum.Points, .bool a0.Enum.Monoid, .slice ap ao aq, .slice cT cS cU, .slice cN cM cO, .slice di dh dj, .slice aU aE aV, .slice cW cV cX, .int .i64 a0.Enum.Done, .map (some aW), .slice dR dQ dS, .slice dN dM dO, .slice bE bD bF] 72 (0, 0)), .row 26 1 ap ao aq cL, .row 26 1 cT cS cU d6, .row 3 1 cN cM cO dZ, .row 3 1 di dh dj en, .row 26 1 aU aE aV cE, .row 39 2 cW cV cX d7, .row 9 1 dR dQ dS gf, .row 3 1 dN dM dO fK, .row 3 1 bE bD bF dw, .any (mapE (fun a : List UInt8 => Value.string (gstr a)) (fun a : Int => Value.int .i64 a) aW a0.number)] ++ A) w0 d7 a0.Enum.Rules) (uk : Els (Rp.str) (bl [.blk d4 (.cells #[.int .i64 a0.Enum.Points, .bool a0.Enum.Monoid, .slice ap ao aq, .slice cT cS cU, .slice cN cM cO, .slice di dh dj, .slice aU aE aV, .slice cW cV cX, .int .i64 a0.Enum.Done, .map (some aW), .slice dR dQ dS, .slice dN dM dO, .slice bE bD bF] 72 (0, 0)), .row 26 1 ap ao aq cL, .row 26 1 cT cS cU d6, .row 3 1 cN cM cO dZ, .row 3 1 di dh dj en, .row 26 1 aU aE aV cE, .row 39 2 cW cV cX d7, .row 9 1 dR dQ dS gf, .row 3 1 dN dM dO fK, .row 3 1 bE bD bF dw, .any (mapE (fun a : List UInt8 => Value.string (gstr a)) (fun a : Int => Value.int .i64 a) aW a0.number)] ++ A) w0 gf a0.words) (tG : Els (Rp.int .i64) (bl [.blk d4 (.cells #[.int .i64 a0.Enum.Points, .bool a0.Enum.Monoid, .slice ap ao aq, .slice cT cS cU, .slice cN cM cO, .slice di dh dj, .slice aU aE aV, .slice cW cV cX, .int .i64 a0.Enum.Done, .map (some aW), .slice dR dQ dS, .slice dN dM dO, .slice bE bD bF] 72 (0, 0)), .row 26 1 ap ao aq cL, .row 26 1 cT cS cU d6, .row 3 1 cN cM cO dZ, .row 3 1 di dh dj en, .row 26 1 aU aE aV cE, .row 39 2 cW cV cX d7, .row 9 1 dR dQ dS gf, .row 3 1 dN dM dO fK, .row 3 1 bE bD bF dw, .any (mapE (fun a : List UInt8 => Value.string (gstr a)) (fun a : Int => Value.int .i64 a) aW a0.number)] ++ A) w0 fK a0.behind) (ac : Els (Rp.int .i64) (bl [.blk d4 (.cells #[.int .i64 a0.Enum.Points, .bool a0.Enum.Monoid, .slice ap ao aq, .slice cT cS cU, .slice cN cM cO, .slice di dh dj, .slice aU aE aV, .slice cW cV cX, .int .i64 a0.Enum.Done, .map (some aW), .slice dR dQ dS, .slice dN dM dO, .slice bE bD bF] 72 (0, 0)), .row 26 1 ap ao aq cL, .row 26 1 cT cS cU d6, .row 3 1 cN cM cO dZ, .row 3 1 di dh dj en, .row 26 1 aU aE aV cE, .row 39 2 cW cV cX d7, .row 9 1 dR dQ dS gf, .row 3 1 dN dM dO fK, .row 3 1 bE bD bF dw, .any (mapE (fun a : List UInt8 => Value.string (gstr a)) (fun a : Int => Value.int .i64 a) aW a0.number)] ++ A) w0 dw a0.single) {K : Int → run → Prop} (H : enumerate_run_process a0 K) :
    CallsV Try.prog 51 #[.pointer (some ⟨d4, 0, none⟩)] w0 (fun v w' => ∃ (r0 : Int), ∃ (q : run), ∃ (bi : Nat), ∃ (bj : Option Addr), ∃ (bk : Nat), ∃ (cq : List Value), ∃ (aY : Nat), ∃ (aZ : Option Addr), ∃ (a5 : Nat), ∃ (cl : List Value), ∃ (aL : Nat), ∃ (aM : Option Addr), ∃ (aN : Nat), ∃ (cb : List Value), ∃ (bm : Nat), ∃ (bn : Option Addr), ∃ (bo : Nat), ∃ (cr : List Value), ∃ (a6 : Nat), ∃ (a7 : Option Addr), ∃ (a8 : Nat), ∃ (co : List Value), ∃ (a9 : Nat), ∃ (ba : Option Addr), ∃ (bc : Nat), ∃ (cp : List Value), ∃ (cf : Nat), ∃ (cg : Option Addr), ∃ (ci : Nat), ∃ (dr : List Value), ∃ (bQ : Nat), ∃ (bS : Option Addr), ∃ (bT : Nat), ∃ (da : List Value), ∃ (bU : Nat), ∃ (bV : Option Addr), ∃ (bW : Nat), ∃ (db : List Value), v = .int .i64 r0 ∧ Owns n0 w' [.blk d4 (.cells #[.int .i64 q.Enum.Points, .bool q.Enum.Monoid, .slice bj bi bk, .slice aZ aY a5, .slice aM aL aN, .slice bn bm bo, .slice a7 a6 a8, .slice ba a9 bc, .int .i64 q.Enum.Done, .map (some aW), .slice cg cf ci, .slice bS bQ bT, .slice bV bU bW] 72 (0, 0)), .row 26 1 bj bi bk cq, .row 26 1 aZ aY a5 cl, .row 3 1 aM aL aN cb, .row 3 1 bn bm bo cr, .row 26 1 a7 a6 a8 co, .row 39 2 ba a9 bc cp, .row 9 1 cg cf ci dr, .row 3 1 bS bQ bT da, .row 3 1 bV bU bW db, .any (mapE (fun a : List UInt8 => Value.string (gstr a)) (fun a : Int => Value.int .i64 a) aW q.number)] A ∧ Els (Rp.sl (Rp.int .i64)) (bl [.blk d4 (.cells #[.int .i64 q.Enum.Points, .bool q.Enum.Monoid, .slice bj bi bk, .slice aZ aY a5, .slice aM aL aN, .slice bn bm bo, .slice a7 a6 a8, .slice ba a9 bc, .int .i64 q.Enum.Done, .map (some aW), .slice cg cf ci, .slice bS bQ bT, .slice bV bU bW] 72 (0, 0)), .row 26 1 bj bi bk cq, .row 26 1 aZ aY a5 cl, .row 3 1 aM aL aN cb, .row 3 1 bn bm bo cr, .row 26 1 a7 a6 a8 co, .row 39 2 ba a9 bc cp, .row 9 1 cg cf ci dr, .row 3 1 bS bQ bT da, .row 3 1 bV bU bW db, .any (mapE (fun a : List UInt8 => Value.string (gstr a)) (fun a : Int => Value.int .i64 a) aW q.number)] ++ A) w' cq q.Enum.Gens ∧ Els (Rp.sl (Rp.int .i64)) (bl [.blk d4 (.cells #[.int .i64 q.Enum.Points, .bool q.Enum.Monoid, .slice bj bi bk, .slice aZ aY a5, .slice aM aL aN, .slice bn bm bo, .slice a7 a6 a8, .slice ba a9 bc, .int .i64 q.Enum.Done, .map (some aW), .slice cg cf ci, .slice bS bQ bT, .slice bV bU bW] 72 (0, 0)), .row 26 1 bj bi bk cq, .row 26 1 aZ aY a5 cl, .row 3 1 aM aL aN cb, .row 3 1 bn bm bo cr, .row 26 1 a7 a6 a8 co, .row 39 2 ba a9 bc cp, .row 9 1 cg cf ci dr, .row 3 1 bS bQ bT da, .row 3 1 bV bU bW db, .any (mapE (fun a : List UInt8 => Value.string (gstr a)) (fun a : Int => Value.int .i64 a) aW q.number)] ++ A) w' cl q.Enum.Elems ∧ Els (Rp.int .i64) (bl [.blk d4 (.cells #[.int .i64 q.Enum.Points, .bool q.Enum.Monoid, .slice bj bi bk, .slice aZ aY a5, .slice aM aL aN, .slice bn bm bo, .slice a7 a6 a8, .slice ba a9 bc, .int .i64 q.Enum.Done, .map (some aW), .slice cg cf ci, .slice bS bQ bT, .slice bV bU bW] 72 (0, 0)), .row 26 1 bj bi bk cq, .row 26 1 aZ aY a5 cl, .row 3 1 aM aL aN cb, .row 3 1 bn bm bo cr, .row 26 1 a7 a6 a8 co, .row 39 2 ba a9 bc cp, .row 9 1 cg cf ci dr, .row 3 1 bS bQ bT da, .row 3 1 bV bU bW db, .any (mapE (fun a : List UInt8 => Value.string (gstr a)) (fun a : Int => Value.int .i64 a) aW q.number)] ++ A) w' cb q.Enum.Prefix ∧ Els (Rp.int .i64) (bl [.blk d4 (.cells #[.int .i64 q.Enum.Points, .bool q.Enum.Monoid, .slice bj bi bk, .slice aZ aY a5, .slice aM aL aN, .slice bn bm bo, .slice a7 a6 a8, .slice ba a9 bc, .int .i64 q.Enum.Done, .map (some aW), .slice cg cf ci, .slice bS bQ bT, .slice bV bU bW] 72 (0, 0)), .row 26 1 bj bi bk cq, .row 26 1 aZ aY a5 cl, .row 3 1 aM aL aN cb, .row 3 1 bn bm bo cr, .row 26 1 a7 a6 a8 co, .row 39 2 ba a9 bc cp, .row 9 1 cg cf ci dr, .row 3 1 bS bQ bT da, .row 3 1 bV bU bW db, .any (mapE (fun a : List UInt8 => Value.string (gstr a)) (fun a : Int => Value.int .i64 a) aW q.number)] ++ A) w' cr q.Enum.Last ∧ Els (Rp.sl (Rp.int .i64)) (bl [.blk d4 (.cells #[.int .i64 q.Enum.Points, .bool q.Enum.Monoid, .slice bj bi bk, .slice aZ aY a5, .slice aM aL aN, .slice bn bm bo, .slice a7 a6 a8, .slice ba a9 bc, .int .i64 q.Enum.Done, .map (some aW), .slice cg cf ci, .slice bS bQ bT, .slice bV bU bW] 72 (0, 0)), .row 26 1 bj bi bk cq, .row 26 1 aZ aY a5 cl, .row 3 1 aM aL aN cb, .row 3 1 bn bm bo cr, .row 26 1 a7 a6 a8 co, .row 39 2 ba a9 bc cp, .row 9 1 cg cf ci dr, .row 3 1 bS bQ bT da, .row 3 1 bV bU bW db, .any (mapE (fun a : List UInt8 => Value.string (gstr a)) (fun a : Int => Value.int .i64 a) aW q.number)] ++ A) w' co q.Enum.Right ∧ Els (rpRule) (bl [.blk d4 (.cells #[.int .i64 q.Enum.Points, .bool q.Enum.Monoid, .slice bj bi bk, .slice aZ aY a5, .slice aM aL aN, .slice bn bm bo, .slice a7 a6 a8, .slice ba a9 bc, .int .i64 q.Enum.Done, .map (some aW), .slice cg cf ci, .slice bS bQ bT, .slice bV bU bW] 72 (0, 0)), .row 26 1 bj bi bk cq, .row 26 1 aZ aY a5 cl, .row 3 1 aM aL aN cb, .row 3 1 bn bm bo cr, .row 26 1 a7 a6 a8 co, .row 39 2 ba a9 bc cp, .row 9 1 cg cf ci dr, .row 3 1 bS bQ bT da, .row 3 1 bV bU bW db, .any (mapE (fun a : List UInt8 => Value.string (gstr a)) (fun a : Int => Value.int .i64 a) aW q.number)] ++ A) w' cp q.Enum.Rules ∧ Els (Rp.str) (bl [.blk d4 (.cells #[.int .i64 q.Enum.Points, .bool q.Enum.Monoid, .slice bj bi bk, .slice aZ aY a5, .slice aM aL aN, .slice bn bm bo, .slice a7 a6 a8, .slice ba a9 bc, .int .i64 q.Enum.Done, .map (some aW), .slice cg cf ci, .slice bS bQ bT, .slice bV bU bW] 72 (0, 0)), .row 26 1 bj bi bk cq, .row 26 1 aZ aY a5 cl, .row 3 1 aM aL aN cb, .row 3 1 bn bm bo cr, .row 26 1 a7 a6 a8 co, .row 39 2 ba a9 bc cp, .row 9 1 cg cf ci dr, .row 3 1 bS bQ bT da, .row 3 1 bV bU bW db, .any (mapE (fun a : List UInt8 => Value.string (gstr a)) (fun a : Int => Value.int .i64 a) aW q.number)] ++ A) w' dr q.words ∧ Els (Rp.int .i64) (bl [.blk d4 (.cells #[.int .i64 q.Enum.Points, .bool q.Enum.Monoid, .slice bj bi bk, .slice aZ aY a5, .slice aM aL aN, .slice bn bm bo, .slice a7 a6 a8, .slice ba a9 bc, .int .i64 q.Enum.Done, .map (some aW), .slice cg cf ci, .slice bS bQ bT, .slice bV bU bW] 72 (0, 0)), .row 26 1 bj bi bk cq, .row 26 1 aZ aY a5 cl, .row 3 1 aM aL aN cb, .row 3 1 bn bm bo cr, .row 26 1 a7 a6 a8 co, .row 39 2 ba a9 bc cp, .row 9 1 cg cf ci dr, .row 3 1 bS bQ bT da, .row 3 1 bV bU bW db, .any (mapE (fun a : List UInt8 => Value.string (gstr a)) (fun a : Int => Value.int .i64 a) aW q.number)] ++ A) w' da q.behind ∧ Els (Rp.int .i64) (bl [.blk d4 (.cells #[.int .i64 q.Enum.Points, .bool q.Enum.Monoid, .slice bj bi bk, .slice aZ aY a5, .slice aM aL aN, .slice bn bm bo, .slice a7 a6 a8, .slice ba a9 bc, .int .i64 q.Enum.Done, .map (some aW), .slice cg cf ci, .slice bS bQ bT, .slice bV bU bW] 72 (0, 0)), .row 26 1 bj bi bk cq, .row 26 1 aZ aY a5 cl, .row 3 1 aM aL aN cb, .row 3 1 bn bm bo cr, .row 26 1 a7 a6 a8 co, .row 39 2 ba a9 bc cp, .row 9 1 cg cf ci dr, .row 3 1 bS bQ bT da, .row 3 1 bV bU bW db, .any (mapE (fun a : List UInt8 => Value.string (gstr a)) (fun a : Int => Value.int .i64 a) aW q.number)] ++ A) w' db q.single ∧ Fr (bl [.blk d4 (.cells #[.int .i64 a0.Enum.Points, .bool a0.Enum.Monoid, .slice ap ao aq, .slice cT cS cU, .slice cN cM cO, .slice di dh dj, .slice aU aE aV, .slice cW cV cX, .int .i64 a0.Enum.Done, .map (some aW), .slice dR dQ dS, .slice dN dM dO, .slice bE bD bF] 72 (0, 0)), .row 26 1 ap ao aq cL, .row 26 1 cT cS cU d6, .row 3 1 cN cM cO dZ, .row 3 1 di dh dj en, .row 26 1 aU aE aV cE, .row 39 2 cW cV cX d7, .row 9 1 dR dQ dS gf, .row 3 1 dN dM dO fK, .row 3 1 bE bD bF dw, .any (mapE (fun a : List UInt8 => Value.string (gstr a)) (fun a : Int => Value.int .i64 a) aW a0.number)]) w0 (bl [.blk d4 (.cells #[.int .i64 q.Enum.Points, .bool q.Enum.Monoid, .slice bj bi bk, .slice aZ aY a5, .slice aM aL aN, .slice bn bm bo, .slice a7 a6 a8, .slice ba a9 bc, .int .i64 q.Enum.Done, .map (some aW), .slice cg cf ci, .slice bS bQ bT, .slice bV bU bW] 72 (0, 0)), .row 26 1 bj bi bk cq, .row 26 1 aZ aY a5 cl, .row 3 1 aM aL aN cb, .row 3 1 bn bm bo cr, .row 26 1 a7 a6 a8 co, .row 39 2 ba a9 bc cp, .row 9 1 cg cf ci dr, .row 3 1 bS bQ bT da, .row 3 1 bV bU bW db, .any (mapE (fun a : List UInt8 => Value.string (gstr a)) (fun a : Int => Value.int .i64 a) aW q.number)]) w' ∧ K r0 q) := by
 refine CallsV.of (l := [.pointer (some ⟨d4, 0, none⟩)]) Try.func51 rfl Try.ntmps51 rfl ?_
 have hB := Fr.refl (bl [.blk d4 (.cells #[.int .i64 a0.Enum.Points, .bool a0.Enum.Monoid, .slice ap ao aq, .slice cT cS cU, .slice cN cM cO, .slice di dh dj, .slice aU aE aV, .slice cW cV cX, .int .i64 a0.Enum.Done, .map (some aW), .slice dR dQ dS, .slice dN dM dO, .slice bE bD bF] 72 (0, 0)), .row 26 1 ap ao aq cL, .row 26 1 cT cS cU d6, .row 3 1 cN cM cO dZ, .row 3 1 di dh dj en, .row 26 1 aU aE aV cE, .row 39 2 cW cV cX d7, .row 9 1 dR dQ dS gf, .row 3 1 dN dM dO fK, .row 3 1 bE bD bF dw, .any (mapE (fun a : List UInt8 => Value.string (gstr a)) (fun a : Int => Value.int .i64 a) aW a0.number)]) w0
 unfold enumerate_run_process at H
 refine Go1.seq ?_
 refine Go1.region ?_
 refine GoR.op ((op_assign rfl) _) rfl rfl ?_
 refine GoR.nil ?_
 refine Go1.seq ?_
 refine Go1.region ?_
 refine GoR.op ((op_move rfl) _) rfl rfl ?_
 refine GoR.op ((op_nilCheck rfl) _) rfl rfl ?_
 refine GoR.op ((op_fieldAddr Try.underlying72 rfl ti29 rfl (by decide)) _) rfl rfl ?_
 refine GoR.op ((op_fieldAddr Try.underlying29 rfl ti3 rfl (by decide)) _) rfl rfl ?_
 refine GoR.op ((oblk (i := 8) 0 hO rfl rfl Try.underlying3 rfl rfl) _ (Same.refl _)) rfl rfl ?_
 refine GoR.op ((op_assign rfl) _) rfl rfl ?_
 refine GoR.nil ?_
 refine Go1.seq ?_
 refine Go1.region ?_
 refine GoR.op ((op_move rfl) _) rfl rfl ?_
 refine GoR.op ((op_nilCheck rfl) _) rfl rfl ?_
 refine GoR.op ((op_fieldAddr Try.underlying72 rfl ti29 rfl (by decide)) _) rfl rfl ?_
 refine GoR.op ((op_fieldAddr Try.underlying29 rfl ti22 rfl (by decide)) _) rfl rfl ?_
 refine GoR.op ((oblk (i := 2) 0 hO rfl rfl Try.underlying22 rfl rfl) _ (Same.refl _)) rfl rfl ?_
 refine GoR.op ((op_lenN Try.underlying22 rfl (aa.neq hO 1 rfl)) _) rfl rfl ?_
 obtain ⟨h8, H⟩ := H
 obtain ⟨h9, H⟩ := H
 have hobt := omake (n := (a0.Enum.Gens.length : Int)) (r := Rp.int .i64) (d := (0 : Int)) Try.underlying26 ti3 (fun _ _ => rfl) rfl hO h8 h9 (by decide)
 obtain ⟨w1, p2, vs3, oR, hE5, hs6, xT⟩ := hobt
 refine GoR.op (xT rfl rfl) rfl rfl ?_
 replace aa := aa.ch oR.ch
 replace rW := rW.ch oR.ch
 replace rv := rv.ch oR.ch
 replace sf := sf.ch oR.ch
 replace ab := ab.ch oR.ch
 replace rX := rX.ch oR.ch
 replace uk := uk.ch oR.ch
 replace tG := tG.ch oR.ch
 replace ac := ac.ch oR.ch
 replace hO := oR.own
 replace hB := hB.trans oR.fr
 refine GoR.op ((op_assign rfl) _) rfl rfl ?_
 refine GoR.nil ?_
 refine Go1.seq ?_
 refine Go1.seq ?_
 refine Go1.region ?_
 refine GoR.op ((op_move rfl) _) rfl rfl ?_
 refine GoR.op ((op_nilCheck rfl) _) rfl rfl ?_
 refine GoR.op ((op_fieldAddr Try.underlying72 rfl ti29 rfl (by decide)) _) rfl rfl ?_
 refine GoR.op ((op_fieldAddr Try.underlying29 rfl ti22 rfl (by decide)) _) rfl rfl ?_
 refine GoR.op ((oblk (i := 2) 1 hO rfl rfl Try.underlying22 rfl rfl) _ (Same.refl _)) rfl rfl ?_
 refine GoR.op ((op_lenN Try.underlying22 rfl (aa.neq hO 2 rfl)) _) rfl rfl ?_
 refine GoR.op ((op_move rfl) _) rfl rfl ?_
 refine GoR.nil ?_
 refine Go1.block ?_
 refine Go1.loopW (S := Nat × List Int × List (List Int) × List Int × List Int × List Rule × List Str × List Int × (List (Str × Int))) (fun s σ w => match s with | (k1_12, d_13, d_16, d_22, d_28, d_34, d_40, d_46, m1_52) => ∃ (nX : List Value), ∃ (n21 : Nat), ∃ (p19 : Option Addr), ∃ (c20 : Nat), ∃ (mE : List Value), ∃ (n27 : Nat), ∃ (p25 : Option Addr), ∃ (c26 : Nat), ∃ (nl : List Value), ∃ (n33 : Nat), ∃ (p31 : Option Addr), ∃ (c32 : Nat), ∃ (nm : List Value), ∃ (n39 : Nat), ∃ (p37 : Option Addr), ∃ (c38 : Nat), ∃ (np : List Value), ∃ (n45 : Nat), ∃ (p43 : Option Addr), ∃ (c44 : Nat), ∃ (eC : List Value), ∃ (n51 : Nat), ∃ (p49 : Option Addr), ∃ (c50 : Nat), ∃ (eF : List Value), agrees σ [(0, .pointer (some ⟨d4, 0, none⟩)), (3, .int .i64 a0.Enum.Done), (4, .slice p2 a0.Enum.Gens.length a0.Enum.Gens.length), (27, .slice ap ao aq), (28, .int .i64 (a0.Enum.Gens.length : Int)), (29, .int .i64 (k1_12 : Int))] ∧ Owns n0 w [.row 3 1 p2 a0.Enum.Gens.length a0.Enum.Gens.length nX, .blk d4 (.cells #[.int .i64 a0.Enum.Points, .bool a0.Enum.Monoid, .slice ap ao aq, .slice p19 n21 c20, .slice p25 n27 c26, .slice p31 n33 c32, .slice aU aE aV, .slice p37 n39 c38, .int .i64 a0.Enum.Done, .map (some aW), .slice p43 n45 c44, .slice p49 n51 c50, .slice bE bD bF] 72 (0, 0)), .row 26 1 ap ao aq cL, .row 26 1 p19 n21 c20 mE, .row 3 1 p25 n27 c26 nl, .row 3 1 p31 n33 c32 nm, .row 26 1 aU aE aV cE, .row 39 2 p37 n39 c38 np, .row 9 1 p43 n45 c44 eC, .row 3 1 p49 n51 c50 eF, .row 3 1 bE bD bF dw, .any (mapE (fun a : List UInt8 => Value.string (gstr a)) (fun a : Int => Value.int .i64 a) aW m1_52)] A ∧ Els (Rp.int .i64) (bl [.row 3 1 p2 a0.Enum.Gens.length a0.Enum.Gens.length nX, .blk d4 (.cells #[.int .i64 a0.Enum.Points, .bool a0.Enum.Monoid, .slice ap ao aq, .slice p19 n21 c20, .slice p25 n27 c26, .slice p31 n33 c32, .slice aU aE aV, .slice p37 n39 c38, .int .i64 a0.Enum.Done, .map (some aW), .slice p43 n45 c44, .slice p49 n51 c50, .slice bE bD bF] 72 (0, 0)), .row 26 1 ap ao aq cL, .row 26 1 p19 n21 c20 mE, .row 3 1 p25 n27 c26 nl, .row 3 1 p31 n33 c32 nm, .row 26 1 aU aE aV cE, .row 39 2 p37 n39 c38 np, .row 9 1 p43 n45 c44 eC, .row 3 1 p49 n51 c50 eF, .row 3 1 bE bD bF dw, .any (mapE (fun a : List UInt8 => Value.string (gstr a)) (fun a : Int => Value.int .i64 a) aW m1_52)] ++ A) w nX d_13 ∧ Els (Rp.sl (Rp.int .i64)) (bl [.row 3 1 p2 a0.Enum.Gens.length a0.Enum.Gens.length nX, .blk d4 (.cells #[.int .i64 a0.Enum.Points, .bool a0.Enum.Monoid, .slice ap ao aq, .slice p19 n21 c20, .slice p25 n27 c26, .slice p31 n33 c32, .slice aU aE aV, .slice p37 n39 c38, .int .i64 a0.Enum.Done, .map (some aW), .slice p43 n45 c44, .slice p49 n51 c50, .slice bE bD bF] 72 (0, 0)), .row 26 1 ap ao aq cL, .row 26 1 p19 n21 c20 mE, .row 3 1 p25 n27 c26 nl, .row 3 1 p31 n33 c32 nm, .row 26 1 aU aE aV cE, .row 39 2 p37 n39 c38 np, .row 9 1 p43 n45 c44 eC, .row 3 1 p49 n51 c50 eF, .row 3 1 bE bD bF dw, .any (mapE (fun a : List UInt8 => Value.string (gstr a)) (fun a : Int => Value.int .i64 a) aW m1_52)] ++ A) w cL a0.Enum.Gens ∧ Els (Rp.sl (Rp.int .i64)) (bl [.row 3 1 p2 a0.Enum.Gens.length a0.Enum.Gens.length nX, .blk d4 (.cells #[.int .i64 a0.Enum.Points, .bool a0.Enum.Monoid, .slice ap ao aq, .slice p19 n21 c20, .slice p25 n27 c26, .slice p31 n33 c32, .slice aU aE aV, .slice p37 n39 c38, .int .i64 a0.Enum.Done, .map (some aW), .slice p43 n45 c44, .slice p49 n51 c50, .slice bE bD bF] 72 (0, 0)), .row 26 1 ap ao aq cL, .row 26 1 p19 n21 c20 mE, .row 3 1 p25 n27 c26 nl, .row 3 1 p31 n33 c32 nm, .row 26 1 aU aE aV cE, .row 39 2 p37 n39 c38 np, .row 9 1 p43 n45 c44 eC, .row 3 1 p49 n51 c50 eF, .row 3 1 bE bD bF dw, .any (mapE (fun a : List UInt8 => Value.string (gstr a)) (fun a : Int => Value.int .i64 a) aW m1_52)] ++ A) w mE d_16 ∧ Els (Rp.int .i64) (bl [.row 3 1 p2 a0.Enum.Gens.length a0.Enum.Gens.length nX, .blk d4 (.cells #[.int .i64 a0.Enum.Points, .bool a0.Enum.Monoid, .slice ap ao aq, .slice p19 n21 c20, .slice p25 n27 c26, .slice p31 n33 c32, .slice aU aE aV, .slice p37 n39 c38, .int .i64 a0.Enum.Done, .map (some aW), .slice p43 n45 c44, .slice p49 n51 c50, .slice bE bD bF] 72 (0, 0)), .row 26 1 ap ao aq cL, .row 26 1 p19 n21 c20 mE, .row 3 1 p25 n27 c26 nl, .row 3 1 p31 n33 c32 nm, .row 26 1 aU aE aV cE, .row 39 2 p37 n39 c38 np, .row 9 1 p43 n45 c44 eC, .row 3 1 p49 n51 c50 eF, .row 3 1 bE bD bF dw, .any (mapE (fun a : List UInt8 => Value.string (gstr a)) (fun a : Int => Value.int .i64 a) aW m1_52)] ++ A) w nl d_22 ∧ Els (Rp.int .i64) (bl [.row 3 1 p2 a0.Enum.Gens.length a0.Enum.Gens.length nX, .blk d4 (.cells #[.int .i64 a0.Enum.Points, .bool a0.Enum.Monoid, .slice ap ao aq, .slice p19 n21 c20, .slice p25 n27 c26, .slice p31 n33 c32, .slice aU aE aV, .slice p37 n39 c38, .int .i64 a0.Enum.Done, .map (some aW), .slice p43 n45 c44, .slice p49 n51 c50, .slice bE bD bF] 72 (0, 0)), .row 26 1 ap ao aq cL, .row 26 1 p19 n21 c20 mE, .row 3 1 p25 n27 c26 nl, .row 3 1 p31 n33 c32 nm, .row 26 1 aU aE aV cE, .row 39 2 p37 n39 c38 np, .row 9 1 p43 n45 c44 eC, .row 3 1 p49 n51 c50 eF, .row 3 1 bE bD bF dw, .any (mapE (fun a : List UInt8 => Value.string (gstr a)) (fun a : Int => Value.int .i64 a) aW m1_52)] ++ A) w nm d_28 ∧ Els (Rp.sl (Rp.int .i64)) (bl [.row 3 1 p2 a0.Enum.Gens.length a0.Enum.Gens.length nX, .blk d4 (.cells #[.int .i64 a0.Enum.Points, .bool a0.Enum.Monoid, .slice ap ao aq, .slice p19 n21 c20, .slice p25 n27 c26, .slice p31 n33 c32, .slice aU aE aV, .slice p37 n39 c38, .int .i64 a0.Enum.Done, .map (some aW), .slice p43 n45 c44, .slice p49 n51 c50, .slice bE bD bF] 72 (0, 0)), .row 26 1 ap ao aq cL, .row 26 1 p19 n21 c20 mE, .row 3 1 p25 n27 c26 nl, .row 3 1 p31 n33 c32 nm, .row 26 1 aU aE aV cE, .row 39 2 p37 n39 c38 np, .row 9 1 p43 n45 c44 eC, .row 3 1 p49 n51 c50 eF, .row 3 1 bE bD bF dw, .any (mapE (fun a : List UInt8 => Value.string (gstr a)) (fun a : Int => Value.int .i64 a) aW m1_52)] ++ A) w cE a0.Enum.Right ∧ Els (rpRule) (bl [.row 3 1 p2 a0.Enum.Gens.length a0.Enum.Gens.length nX, .blk d4 (.cells #[.int .i64 a0.Enum.Points, .bool a0.Enum.Monoid, .slice ap ao aq, .slice p19 n21 c20, .slice p25 n27 c26, .slice p31 n33 c32, .slice aU aE aV, .slice p37 n39 c38, .int .i64 a0.Enum.Done, .map (some aW), .slice p43 n45 c44, .slice p49 n51 c50, .slice bE bD bF] 72 (0, 0)), .row 26 1 ap ao aq cL, .row 26 1 p19 n21 c20 mE, .row 3 1 p25 n27 c26 nl, .row 3 1 p31 n33 c32 nm, .row 26 1 aU aE aV cE, .row 39 2 p37 n39 c38 np, .row 9 1 p43 n45 c44 eC, .row 3 1 p49 n51 c50 eF, .row 3 1 bE bD bF dw, .any (mapE (fun a : List UInt8 => Value.string (gstr a)) (fun a : Int => Value.int .i64 a) aW m1_52)] ++ A) w np d_34 ∧ Els (Rp.str) (bl [.row 3 1 p2 a0.Enum.Gens.length a0.Enum.Gens.length nX, .blk d4 (.cells #[.int .i64 a0.Enum.Points, .bool a0.Enum.Monoid, .slice ap ao aq, .slice p19 n21 c20, .slice p25 n27 c26, .slice p31 n33 c32, .slice aU aE aV, .slice p37 n39 c38, .int .i64 a0.Enum.Done, .map (some aW), .slice p43 n45 c44, .slice p49 n51 c50, .slice bE bD bF] 72 (0, 0)), .row 26 1 ap ao aq cL, .row 26 1 p19 n21 c20 mE, .row 3 1 p25 n27 c26 nl, .row 3 1 p31 n33 c32 nm, .row 26 1 aU aE aV cE, .row 39 2 p37 n39 c38 np, .row 9 1 p43 n45 c44 eC, .row 3 1 p49 n51 c50 eF, .row 3 1 bE bD bF dw, .any (mapE (fun a : List UInt8 => Value.string (gstr a)) (fun a : Int => Value.int .i64 a) aW m1_52)] ++ A) w eC d_40 ∧ Els (Rp.int .i64) (bl [.row 3 1 p2 a0.Enum.Gens.length a0.Enum.Gens.length nX, .blk d4 (.cells #[.int .i64 a0.Enum.Points, .bool a0.Enum.Monoid, .slice ap ao aq, .slice p19 n21 c20, .slice p25 n27 c26, .slice p31 n33 c32, .slice aU aE aV, .slice p37 n39 c38, .int .i64 a0.Enum.Done, .map (some aW), .slice p43 n45 c44, .slice p49 n51 c50, .slice bE bD bF] 72 (0, 0)), .row 26 1 ap ao aq cL, .row 26 1 p19 n21 c20 mE, .row 3 1 p25 n27 c26 nl, .row 3 1 p31 n33 c32 nm, .row 26 1 aU aE aV cE, .row 39 2 p37 n39 c38 np, .row 9 1 p43 n45 c44 eC, .row 3 1 p49 n51 c50 eF, .row 3 1 bE bD bF dw, .any (mapE (fun a : List UInt8 => Value.string (gstr a)) (fun a : Int => Value.int .i64 a) aW m1_52)] ++ A) w eF d_46 ∧ Els (Rp.int .i64) (bl [.row 3 1 p2 a0.Enum.Gens.length a0.Enum.Gens.length nX, .blk d4 (.cells #[.int .i64 a0.Enum.Points, .bool a0.Enum.Monoid, .slice ap ao aq, .slice p19 n21 c20, .slice p25 n27 c26, .slice p31 n33 c32, .slice aU aE aV, .slice p37 n39 c38, .int .i64 a0.Enum.Done, .map (some aW), .slice p43 n45 c44, .slice p49 n51 c50, .slice bE bD bF] 72 (0, 0)), .row 26 1 ap ao aq cL, .row 26 1 p19 n21 c20 mE, .row 3 1 p25 n27 c26 nl, .row 3 1 p31 n33 c32 nm, .row 26 1 aU aE aV cE, .row 39 2 p37 n39 c38 np, .row 9 1 p43 n45 c44 eC, .row 3 1 p49 n51 c50 eF, .row 3 1 bE bD bF dw, .any (mapE (fun a : List UInt8 => Value.string (gstr a)) (fun a : Int => Value.int .i64 a) aW m1_52)] ++ A) w dw a0.single ∧ Fr (bl [.blk d4 (.cells #[.int .i64 a0.Enum.Points, .bool a0.Enum.Monoid, .slice ap ao aq, .slice cT cS cU, .slice cN cM cO, .slice di dh dj, .slice aU aE aV, .slice cW cV cX, .int .i64 a0.Enum.Done, .map (some aW), .slice dR dQ dS, .slice dN dM dO, .slice bE bD bF] 72 (0, 0)), .row 26 1 ap ao aq cL, .row 26 1 cT cS cU d6, .row 3 1 cN cM cO dZ, .row 3 1 di dh dj en, .row 26 1 aU aE aV cE, .row 39 2 cW cV cX d7, .row 9 1 dR dQ dS gf, .row 3 1 dN dM dO fK, .row 3 1 bE bD bF dw, .any (mapE (fun a : List UInt8 => Value.string (gstr a)) (fun a : Int => Value.int .i64 a) aW a0.number)]) w0 (bl [.row 3 1 p2 a0.Enum.Gens.length a0.Enum.Gens.length nX, .blk d4 (.cells #[.int .i64 a0.Enum.Points, .bool a0.Enum.Monoid, .slice ap ao aq, .slice p19 n21 c20, .slice p25 n27 c26, .slice p31 n33 c32, .slice aU aE aV, .slice p37 n39 c38, .int .i64 a0.Enum.Done, .map (some aW), .slice p43 n45 c44, .slice p49 n51 c50, .slice bE bD bF] 72 (0, 0)), .row 26 1 ap ao aq cL, .row 26 1 p19 n21 c20 mE, .row 3 1 p25 n27 c26 nl, .row 3 1 p31 n33 c32 nm, .row 26 1 aU aE aV cE, .row 39 2 p37 n39 c38 np, .row 9 1 p43 n45 c44 eC, .row 3 1 p49 n51 c50 eF, .row 3 1 bE bD bF dw, .any (mapE (fun a : List UInt8 => Value.string (gstr a)) (fun a : Int => Value.int .i64 a) aW m1_52)]) w) H ⟨vs3, cS, cT, cU, d6, cM, cN, cO, dZ, dh, di, dj, en, cV, cW, cX, d7, dQ, dR, dS, gf, dM, dN, dO, fK, ⟨rfl, rfl, rfl, rfl, rfl, rfl, trivial⟩, hO, hE5, aa, rW, rv, sf, ab, rX, uk, tG, ac, hB⟩ ?_
 intro X1
 refine prE fun k1_12 => prE fun d_13 => prE fun d_16 => prE fun d_22 => prE fun d_28 => prE fun d_34 => prE fun d_40 => prE fun d_46 => fun m1_52 => ?_
 intro H hX1 σ w11
 refine exE fun nX => exE fun n21 => exE fun p19 => exE fun c20 => exE fun mE => exE fun n27 => exE fun p25 => exE fun c26 => exE fun nl => exE fun n33 => exE fun p31 => exE fun c32 => exE fun nm => exE fun n39 => exE fun p37 => exE fun c38 => exE fun np => exE fun n45 => exE fun p43 => exE fun c44 => exE fun eC => exE fun n51 => exE fun p49 => exE fun c50 => exE fun eF => andE fun hag => andE fun hO => andE fun b6 => andE fun aa => andE fun dk => andE fun cG => andE fun cv => andE fun ab => andE fun ca => andE fun bf => andE fun aX => andE fun ac => fun hB => ?_
 dsimp only at H
 refine Go1.keep [(0, .pointer (some ⟨d4, 0, none⟩)), (3, .int .i64 a0.Enum.Done), (4, .slice p2 a0.Enum.Gens.length a0.Enum.Gens.length), (27, .slice ap ao aq), (28, .int .i64 (a0.Enum.Gens.length : Int)), (29, .int .i64 (k1_12 : Int))] hag ?_
 refine Go1.seq ?_
 refine Go1.region ?_
 by_cases h53 : (k1_12 : Int) < (a0.Enum.Gens.length : Int)
 ·replace H := ifp h53 H
  refine GoR.op ((fun w => opB (op_lss rfl rfl w) (decide_eq_true h53)) _) rfl rfl ?_
  refine GoR.nil ?_
  refine Go1.seq ?_
  refine Go1.condT rfl rfl ?_
  refine Go1.skip ?_
  refine Go1.seq ?_
  refine Go1.block ?_
  refine Go1.seq ?_
  refine Go1.region ?_
  refine GoR.op ((op_move rfl) _) rfl rfl ?_
  obtain ⟨h54, H⟩ := H
  obtain ⟨h55, H⟩ := H
  refine GoR.op ((op_index Try.underlying22 ti26 rfl rfl h54 (ltn (aa.neq hO 2 rfl) h55) (aa.psome hO 2 rfl h54 h55)) _) rfl rfl ?_
  have hobt := oldSl 2 hO rfl aa h54 h55
  obtain ⟨p56, c57, cj, H7⟩ := hobt
  refine GoR.op ((H7 Try.underlying26 rfl rfl) _ (Same.refl _)) rfl rfl ?_
  refine GoR.op ((op_assign rfl) _) rfl rfl ?_
  refine GoR.op ((op_assign rfl) _) rfl rfl ?_
  refine GoR.nil ?_
  refine Go1.seq ?_
  refine Go1.region ?_
  refine GoR.op ((op_move rfl) _) rfl rfl ?_
  refine GoR.op ((op_nilCheck rfl) _) rfl rfl ?_
  refine GoR.op ((op_fieldAddr Try.underlying72 rfl ti29 rfl (by decide)) _) rfl rfl ?_
  refine GoR.op ((op_fieldAddr Try.underlying29 rfl ti22 rfl (by decide)) _) rfl rfl ?_
  refine GoR.op ((oblk (i := 3) 1 hO rfl rfl Try.underlying22 rfl rfl) _ (Same.refl _)) rfl rfl ?_
  refine GoR.op ((op_move rfl) _) rfl rfl ?_
  obtain ⟨h60, H⟩ := H
  obtain ⟨h61, H⟩ := H
  refine GoR.op ((op_index Try.underlying22 ti26 rfl rfl h60 (ltn (dk.neq hO 3 rfl) h61) (dk.psome hO 3 rfl h60 h61)) _) rfl rfl ?_
  have hobt := oldSl 3 hO rfl dk h60 h61
  obtain ⟨p62, c63, ck, H8⟩ := hobt
  refine GoR.op ((H8 Try.underlying26 rfl rfl) _ (Same.refl _)) rfl rfl ?_
  refine GoR.op ((op_move rfl) _) rfl rfl ?_
  refine GoR.call (op_call body37 rfl (walk_trans_Compose hO.lt ck cj H)) rfl rfl ?_
  rintro v70 w67 ⟨r66, ri, rk, rfl, H9, bK, H⟩
  have kF := Stp.same hO H9
  replace b6 := b6.ch kF.ch
  replace aa := aa.ch kF.ch
  replace dk := dk.ch kF.ch
  replace cG := cG.ch kF.ch
  replace cv := cv.ch kF.ch
  replace ab := ab.ch kF.ch
  replace ca := ca.ch kF.ch
  replace bf := bf.ch kF.ch
  replace aX := aX.ch kF.ch
  replace ac := ac.ch kF.ch
  replace hO := kF.own
  replace cj := cj.ch kF.ch
  replace ck := ck.ch kF.ch
  replace hB := hB.trans kF.fr
  refine GoR.op ((op_assign rfl) _) rfl rfl ?_
  refine GoR.nil ?_
  refine Go1.seq ?_
  refine Go1.drawS 0 [(0, .pure), (1, .pure), (2, .pure), (3, .stable), (4, .pure), (5, .loud), (6, .stable), (7, .pure), (8, .pure), (9, .pure), (10, .pure), (11, .pure)] mixed (by kernel_rfl) ?_
  intro w72 Ia
  have ph := Stp.same hO Ia
  replace b6 := b6.ch ph.ch
  replace aa := aa.ch ph.ch
  replace dk := dk.ch ph.ch
  replace cG := cG.ch ph.ch
  replace cv := cv.ch ph.ch
  replace ab := ab.ch ph.ch
  replace ca := ca.ch ph.ch
  replace bf := bf.ch ph.ch
  replace aX := aX.ch ph.ch
  replace ac := ac.ch ph.ch
  replace hO := ph.own
  replace cj := cj.ch ph.ch
  replace ck := ck.ch ph.ch
  replace bK := bK.ch ph.ch
  replace hB := hB.trans ph.fr
  refine GoQ.pure rfl (op_move rfl) rfl rfl ?_
  refine GoQ.pure rfl (op_nilCheck rfl) rfl rfl ?_
  refine GoQ.pure rfl (op_fieldAddr Try.underlying72 rfl ti69 rfl (by decide)) rfl rfl ?_
  refine GoQ.stable rfl (oblk (i := 9) 1 hO rfl rfl Try.underlying69 rfl rfl) rfl rfl ?_
  refine GoQ.pure rfl (op_move rfl) rfl rfl ?_
  refine GoQ.call rfl (op_call body61 rfl (walk_enumerate_text hO.lt bK H)) (fun v w hr => by obtain ⟨_, _, hs, _, _⟩ := hr; assumption) rfl rfl ?_
  rintro v79 w76 ⟨r75, rfl, Ib, Jf, H⟩
  have pi := Stp.same hO Ib
  replace b6 := b6.ch pi.ch
  replace aa := aa.ch pi.ch
  replace dk := dk.ch pi.ch
  replace cG := cG.ch pi.ch
  replace cv := cv.ch pi.ch
  replace ab := ab.ch pi.ch
  replace ca := ca.ch pi.ch
  replace bf := bf.ch pi.ch
  replace aX := aX.ch pi.ch
  replace ac := ac.ch pi.ch
  replace hO := pi.own
  replace cj := cj.ch pi.ch
  replace ck := ck.ch pi.ch
  replace bK := bK.ch pi.ch
  replace hB := hB.trans pi.fr
  by_cases h81 : mhas m1_52 r75 = true
  ·replace H := ifp h81 H
   refine GoQ.stable rfl (olookT (a := r75) (MK.str Try.underlying9) 11 hO rfl Try.underlying69 rfl rfl h81) rfl rfl ?_
   refine GoQ.pure rfl (op_move rfl) rfl rfl ?_
   refine GoQ.pure rfl (op_extract rfl rfl) rfl rfl ?_
   refine GoQ.pure rfl (op_extract rfl rfl) rfl rfl ?_
   refine GoQ.pure rfl (op_assign rfl) rfl rfl ?_
   refine GoQ.pure rfl (op_assign rfl) rfl rfl ?_
   refine GoQ.nil ?_
   refine Go1.seq ?_
   refine Go1.cut [(0, .pointer (some ⟨d4, 0, none⟩)), (3, .int .i64 a0.Enum.Done), (4, .slice p2 a0.Enum.Gens.length a0.Enum.Gens.length), (5, .int .i64 (k1_12 : Int)), (7, .slice ri r66.length rk), (8, .int .i64 (mgt m1_52 r75)), (9, .bool true), (27, .slice ap ao aq), (28, .int .i64 (a0.Enum.Gens.length : Int)), (29, .int .i64 (k1_12 : Int))] ⟨rfl, rfl, rfl, rfl, rfl, rfl, rfl, rfl, rfl, rfl, trivial⟩ ?_
   intro σ _
   refine Go1.region ?_
   refine GoR.op ((op_move rfl) _) rfl rfl ?_
   refine GoR.op ((op_nilCheck rfl) _) rfl rfl ?_
   refine GoR.op ((op_fieldAddr Try.underlying72 rfl ti70 rfl (by decide)) _) rfl rfl ?_
   refine GoR.op ((oblk (i := 10) 1 hO rfl rfl Try.underlying70 rfl rfl) _ (Same.refl _)) rfl rfl ?_
   refine GoR.op ((op_move rfl) _) rfl rfl ?_
   obtain ⟨h82, H⟩ := H
   obtain ⟨h83, H⟩ := H
   refine GoR.op ((op_index Try.underlying70 ti9 rfl rfl h82 (ltn (bf.neq hO 8 rfl) h83) (bf.psome hO 8 rfl h82 h83)) _) rfl rfl ?_
   refine GoR.op ((oldStr 8 hO rfl bf h82 h83 Try.underlying9 rfl rfl) _ (Same.refl _)) rfl rfl ?_
   have hle84 := Els.str_le bf h82 h83
   refine GoR.op ((op_move rfl) _) rfl rfl ?_
   obtain ⟨h85, H⟩ := H
   refine GoR.op ((op_add rfl rfl (wrap_i64 h85)) _) rfl rfl ?_
   refine GoR.op ((op_conv Try.underlying3 Try.underlying21 rfl rfl) _) rfl rfl ?_
   obtain ⟨h86, H⟩ := H
   obtain ⟨h87, H⟩ := H
   refine GoR.op ((op_convRS Try.underlying21 Try.underlying9 rfl h86 h87) _) rfl rfl ?_
   obtain ⟨h88, H⟩ := H
   refine GoR.op ((op_addS rfl rfl h88) _) rfl rfl ?_
   refine GoR.op ((op_assign rfl) _) rfl rfl ?_
   refine GoR.nil ?_
   refine Go1.seq ?_
   refine Go1.block ?_
   refine Go1.seq ?_
   refine Go1.region ?_
   refine GoR.op ((op_move rfl) _) rfl rfl ?_
   refine GoR.op ((op_not rfl) _) rfl rfl ?_
   refine GoR.op ((op_move rfl) _) rfl rfl ?_
   refine GoR.pass rfl rfl ?_
   refine GoR.pass rfl rfl ?_
   refine GoR.pass rfl rfl ?_
   refine GoR.pass rfl rfl ?_
   refine GoR.pass rfl rfl ?_
   refine GoR.pass rfl rfl ?_
   refine GoR.pass rfl rfl ?_
   refine GoR.op ((op_pickF rfl rfl rfl) _) rfl rfl ?_
   refine GoR.op ((op_assign rfl) _) rfl rfl ?_
   refine GoR.nil ?_
   refine Go1.condF rfl rfl ?_
   refine Go1.seq ?_
   refine Go1.cut [(0, .pointer (some ⟨d4, 0, none⟩)), (3, .int .i64 a0.Enum.Done), (4, .slice p2 a0.Enum.Gens.length a0.Enum.Gens.length), (5, .int .i64 (k1_12 : Int)), (7, .slice ri r66.length rk), (8, .int .i64 (mgt m1_52 r75)), (9, .bool true), (10, .string (gstr ((ix d_40 a0.Enum.Done) ++ (chr (IntKind.i32.wrap ((97 : Int) + (k1_12 : Int))))))), (27, .slice ap ao aq), (28, .int .i64 (a0.Enum.Gens.length : Int)), (29, .int .i64 (k1_12 : Int))] ⟨rfl, rfl, rfl, rfl, rfl, rfl, rfl, rfl, rfl, rfl, rfl, trivial⟩ ?_
   intro σ _
   refine Go1.region ?_
   refine GoR.op ((op_move rfl) _) rfl rfl ?_
   refine GoR.op ((op_not rfl) _) rfl rfl ?_
   refine GoR.op ((op_assign rfl) _) rfl rfl ?_
   refine GoR.nil ?_
   refine Go1.condF rfl rfl ?_
   refine Go1.seq ?_
   refine Go1.region ?_
   refine GoR.op ((op_move rfl) _) rfl rfl ?_
   refine GoR.op ((op_nilCheck rfl) _) rfl rfl ?_
   refine GoR.op ((op_fieldAddr Try.underlying72 rfl ti70 rfl (by decide)) _) rfl rfl ?_
   refine GoR.op ((oblk (i := 10) 1 hO rfl rfl Try.underlying70 rfl rfl) _ (Same.refl _)) rfl rfl ?_
   refine GoR.op ((op_move rfl) _) rfl rfl ?_
   obtain ⟨h89, H⟩ := H
   obtain ⟨h90, H⟩ := H
   refine GoR.op ((op_index Try.underlying70 ti9 rfl rfl h89 (ltn (bf.neq hO 8 rfl) h90) (bf.psome hO 8 rfl h89 h90)) _) rfl rfl ?_
   refine GoR.op ((oldStr 8 hO rfl bf h89 h90 Try.underlying9 rfl rfl) _ (Same.refl _)) rfl rfl ?_
   have hle91 := Els.str_le bf h89 h90
   by_cases h92 : (ix d_40 a0.Enum.Done) = (([] : Str))
   ·replace H := ifp h92 H
    refine GoR.op ((fun w => opB (op_neqS rfl rfl w) (ndT h92)) _) rfl rfl ?_
    refine GoR.op ((op_move rfl) _) rfl rfl ?_
    refine GoR.pass rfl rfl ?_
    refine GoR.pass rfl rfl ?_
    refine GoR.pass rfl rfl ?_
    refine GoR.pass rfl rfl ?_
    refine GoR.pass rfl rfl ?_
    refine GoR.pass rfl rfl ?_
    refine GoR.pass rfl rfl ?_
    refine GoR.pass rfl rfl ?_
    refine GoR.pass rfl rfl ?_
    refine GoR.pass rfl rfl ?_
    refine GoR.op ((op_pickF rfl rfl rfl) _) rfl rfl ?_
    refine GoR.op ((op_assign rfl) _) rfl rfl ?_
    refine GoR.nil ?_
    refine Go1.condF rfl rfl ?_
    refine Go1.skip ?_
    refine Go1.inBlock ?_
    refine Go1.cut [(0, .pointer (some ⟨d4, 0, none⟩)), (3, .int .i64 a0.Enum.Done), (4, .slice p2 a0.Enum.Gens.length a0.Enum.Gens.length), (5, .int .i64 (k1_12 : Int)), (8, .int .i64 (mgt m1_52 r75)), (27, .slice ap ao aq), (28, .int .i64 (a0.Enum.Gens.length : Int)), (29, .int .i64 (k1_12 : Int))] ⟨rfl, rfl, rfl, rfl, rfl, rfl, rfl, rfl, trivial⟩ ?_
    intro σ _
    refine Go1.region ?_
    refine GoR.op ((op_move rfl) _) rfl rfl ?_
    refine GoR.op ((op_move rfl) _) rfl rfl ?_
    refine GoR.op ((op_move rfl) _) rfl rfl ?_
    obtain ⟨h93, H⟩ := H
    obtain ⟨h94, H⟩ := H
    refine GoR.op ((op_index Try.underlying26 ti3 rfl rfl h93 (ltn (b6.neq hO 0 rfl) h94) (b6.psome hO 0 rfl h93 h94)) _) rfl rfl ?_
    have hobt := ost (r := Rp.int .i64) rfl 0 hO rfl b6 h93 h94 (v := .int .i64 (mgt m1_52 r75)) (u := (mgt m1_52 r75)) rfl rfl
    obtain ⟨w95, Ic, gj, Cr, E8⟩ := hobt
    dsimp only [sS, sZ] at gj Cr
    refine GoR.op (E8 Try.underlying3 rfl ti3 (by exact rfl) (by exact rfl)) rfl rfl ?_
    replace aa := aa.ch gj.ch
    replace dk := dk.ch gj.ch
    replace cG := cG.ch gj.ch
    replace cv := cv.ch gj.ch
    replace ab := ab.ch gj.ch
    replace ca := ca.ch gj.ch
    replace bf := bf.ch gj.ch
    replace aX := aX.ch gj.ch
    replace ac := ac.ch gj.ch
    replace hO := gj.own
    replace cj := cj.ch gj.ch
    replace ck := ck.ch gj.ch
    replace bK := bK.ch gj.ch
    replace hB := hB.trans gj.fr
    refine GoR.nil ?_
    refine Go1.inBlock ?_
    refine Go1.region ?_
    refine GoR.op ((op_add rfl rfl (wrap_i64 (natbd h53 aa.bd))) _) rfl rfl ?_
    refine GoR.op ((op_move rfl) _) rfl rfl ?_
    refine GoR.nil ?_
    exact hX1 _ H _ _ ⟨Ic, n21, p19, c20, mE, n27, p25, c26, nl, n33, p31, c32, nm, n39, p37, c38, np, n45, p43, c44, eC, n51, p49, c50, eF, ⟨rfl, rfl, rfl, rfl, rfl, rfl, trivial⟩, hO, Cr, aa, dk, cG, cv, ab, ca, bf, aX, ac, hB⟩
   replace H := ifn h92 H
   refine GoR.op ((fun w => opB (op_neqS rfl rfl w) (ndF h92)) _) rfl rfl ?_
   refine GoR.op ((op_move rfl) _) rfl rfl ?_
   refine GoR.op ((op_move rfl) _) rfl rfl ?_
   refine GoR.op ((op_move rfl) _) rfl rfl ?_
   refine GoR.op ((op_nilCheck rfl) _) rfl rfl ?_
   refine GoR.op ((op_fieldAddr Try.underlying72 rfl ti26 rfl (by decide)) _) rfl rfl ?_
   refine GoR.op ((oblk (i := 11) 1 hO rfl rfl Try.underlying26 rfl rfl) _ (Same.refl _)) rfl rfl ?_
   refine GoR.op ((op_move rfl) _) rfl rfl ?_
   obtain ⟨u4, H⟩ := H
   obtain ⟨we, H⟩ := H
   refine GoR.op ((op_index Try.underlying26 ti3 rfl rfl u4 (ltn (aX.neq hO 9 rfl) we) (aX.psome hO 9 rfl u4 we)) _) rfl rfl ?_
   refine GoR.op ((oldInt 9 hO rfl aX u4 we Try.underlying3 rfl rfl) _ (Same.refl _)) rfl rfl ?_
   refine GoR.op ((op_move rfl) _) rfl rfl ?_
   refine GoR.inl (vs := [.pointer (some ⟨d4, 0, none⟩), .int .i64 (ix d_46 a0.Enum.Done), .int .i64 (k1_12 : Int)]) (caps := []) rfl rfl body67 Try.func67 rfl Try.ntmps67 rfl rfl rfl ?_
   intro RhR102 hR102
   refine Go1.seq ?_
   refine Go1.region ?_
   refine GoR.op ((op_assign rfl) _) rfl rfl ?_
   refine GoR.nil ?_
   refine Go1.seq ?_
   refine Go1.cut [(0, .pointer (some ⟨d4, 0, none⟩)), (1, .int .i64 (ix d_46 a0.Enum.Done)), (2, .int .i64 (k1_12 : Int))] ⟨rfl, rfl, rfl, trivial⟩ ?_
   intro σ _
   refine Go1.region ?_
   refine GoR.op ((op_move rfl) _) rfl rfl ?_
   refine GoR.op ((op_move rfl) _) rfl rfl ?_
   refine GoR.op ((op_move rfl) _) rfl rfl ?_
   refine GoR.inl (vs := [.pointer (some ⟨d4, 0, none⟩), .int .i64 (ix d_46 a0.Enum.Done), .int .i64 (k1_12 : Int)]) (caps := []) rfl rfl body66 Try.func66 rfl Try.ntmps66 rfl rfl rfl ?_
   intro RhR103 hR103
   refine Go1.seq ?_
   refine Go1.region ?_
   refine GoR.op ((op_assign rfl) _) rfl rfl ?_
   refine GoR.nil ?_
   refine Go1.seq ?_
   refine Go1.seq ?_
   refine Go1.region ?_
   refine GoR.op ((op_move rfl) _) rfl rfl ?_
   by_cases u5 : (ix d_46 a0.Enum.Done) = (-1 : Int)
   ·replace H := ifp u5 H
    refine GoR.op ((fun w => opB (op_eql rfl rfl w) (decide_eq_true u5)) _) rfl rfl ?_
    refine GoR.nil ?_
    refine Go1.condT rfl rfl ?_
    refine Go1.seq ?_
    refine Go1.region ?_
    refine GoR.op ((op_move rfl) _) rfl rfl ?_
    refine GoR.op ((op_nilCheck rfl) _) rfl rfl ?_
    refine GoR.op ((op_fieldAddr Try.underlying72 rfl ti26 rfl (by decide)) _) rfl rfl ?_
    refine GoR.op ((oblk (i := 12) 1 hO rfl rfl Try.underlying26 rfl rfl) _ (Same.refl _)) rfl rfl ?_
    refine GoR.op ((op_move rfl) _) rfl rfl ?_
    obtain ⟨z6, H⟩ := H
    obtain ⟨z7, H⟩ := H
    refine GoR.op ((op_index Try.underlying26 ti3 rfl rfl z6 (ltn (ac.neq hO 10 rfl) z7) (ac.psome hO 10 rfl z6 z7)) _) rfl rfl ?_
    refine GoR.op ((oldInt 10 hO rfl ac z6 z7 Try.underlying3 rfl rfl) _ (Same.refl _)) rfl rfl ?_
    refine GoR.op ((op_assign rfl) _) rfl rfl ?_
    refine GoR.nil ?_
    refine Go1.ret1V Try.func66 rfl (show _ = .int .i64 (ix a0.single (k1_12 : Int)) from rfl) ?_
    refine hR103 _ _ ?_
    refine GoR.op ((op_assign rfl) _) rfl rfl ?_
    refine GoR.nil ?_
    refine Go1.seq ?_
    refine Go1.region ?_
    refine GoR.op ((op_move rfl) _) rfl rfl ?_
    refine GoR.op ((op_nilCheck rfl) _) rfl rfl ?_
    refine GoR.op ((op_fieldAddr Try.underlying72 rfl ti29 rfl (by decide)) _) rfl rfl ?_
    refine GoR.op ((op_fieldAddr Try.underlying29 rfl ti26 rfl (by decide)) _) rfl rfl ?_
    refine GoR.op ((oblk (i := 4) 1 hO rfl rfl Try.underlying26 rfl rfl) _ (Same.refl _)) rfl rfl ?_
    refine GoR.op ((op_move rfl) _) rfl rfl ?_
    obtain ⟨z8, H⟩ := H
    obtain ⟨z9, H⟩ := H
    refine GoR.op ((op_index Try.underlying26 ti3 rfl rfl z8 (ltn (cG.neq hO 4 rfl) z9) (cG.psome hO 4 rfl z8 z9)) _) rfl rfl ?_
    refine GoR.op ((oldInt 4 hO rfl cG z8 z9 Try.underlying3 rfl rfl) _ (Same.refl _)) rfl rfl ?_
    refine GoR.op ((op_move rfl) _) rfl rfl ?_
    by_cases u6 : (ix d_22 (ix a0.single (k1_12 : Int))) = (ix d_46 a0.Enum.Done)
    ·replace H := ifp u6 H
     refine GoR.op ((fun w => opB (op_eql rfl rfl w) (decide_eq_true u6)) _) rfl rfl ?_
     refine GoR.op ((op_move rfl) _) rfl rfl ?_
     refine GoR.op ((op_move rfl) _) rfl rfl ?_
     refine GoR.op ((op_nilCheck rfl) _) rfl rfl ?_
     refine GoR.op ((op_fieldAddr Try.underlying72 rfl ti29 rfl (by decide)) _) rfl rfl ?_
     refine GoR.op ((op_fieldAddr Try.underlying29 rfl ti26 rfl (by decide)) _) rfl rfl ?_
     refine GoR.op ((oblk (i := 5) 1 hO rfl rfl Try.underlying26 rfl rfl) _ (Same.refl _)) rfl rfl ?_
     refine GoR.op ((op_move rfl) _) rfl rfl ?_
     obtain ⟨wg, H⟩ := H
     obtain ⟨Aa, H⟩ := H
     refine GoR.op ((op_index Try.underlying26 ti3 rfl rfl wg (ltn (cv.neq hO 5 rfl) Aa) (cv.psome hO 5 rfl wg Aa)) _) rfl rfl ?_
     refine GoR.op ((oldInt 5 hO rfl cv wg Aa Try.underlying3 rfl rfl) _ (Same.refl _)) rfl rfl ?_
     refine GoR.op ((op_move rfl) _) rfl rfl ?_
     by_cases yY : (ix d_28 (ix a0.single (k1_12 : Int))) = (k1_12 : Int)
     ·replace H := ifp yY H
      refine GoR.op ((fun w => opB (op_eql rfl rfl w) (decide_eq_true yY)) _) rfl rfl ?_
      refine GoR.op ((op_pickT rfl rfl rfl) _) rfl rfl ?_
      refine GoR.op ((op_assign rfl) _) rfl rfl ?_
      refine GoR.nil ?_
      refine Go1.ret1V Try.func67 rfl (show _ = .bool true from rfl) ?_
      refine hR102 _ _ ?_
      refine GoR.op ((op_pickT rfl rfl rfl) _) rfl rfl ?_
      refine GoR.op ((op_assign rfl) _) rfl rfl ?_
      refine GoR.nil ?_
      refine Go1.condT rfl rfl ?_
      refine Go1.cut [(0, .pointer (some ⟨d4, 0, none⟩)), (3, .int .i64 a0.Enum.Done), (4, .slice p2 a0.Enum.Gens.length a0.Enum.Gens.length), (5, .int .i64 (k1_12 : Int)), (8, .int .i64 (mgt m1_52 r75)), (10, .string (gstr ((ix d_40 a0.Enum.Done) ++ (chr (IntKind.i32.wrap ((97 : Int) + (k1_12 : Int))))))), (27, .slice ap ao aq), (28, .int .i64 (a0.Enum.Gens.length : Int)), (29, .int .i64 (k1_12 : Int))] ⟨rfl, rfl, rfl, rfl, rfl, rfl, rfl, rfl, rfl, trivial⟩ ?_
      intro σ _
      refine Go1.drawS 5 [(0, .pure), (1, .pure), (2, .pure), (3, .pure), (4, .pure), (5, .stable), (6, .pure), (7, .pure), (8, .pure), (9, .pure), (10, .stable), (11, .pure), (12, .pure), (13, .stable), (14, .pure), (15, .loud), (16, .last), (17, .pure), (18, .pure), (19, .pure), (20, .last)] mixed (by kernel_rfl) ?_
      intro Lu E9
      have nq := Stp.same hO E9
      replace b6 := b6.ch nq.ch
      replace aa := aa.ch nq.ch
      replace dk := dk.ch nq.ch
      replace cG := cG.ch nq.ch
      replace cv := cv.ch nq.ch
      replace ab := ab.ch nq.ch
      replace ca := ca.ch nq.ch
      replace bf := bf.ch nq.ch
      replace aX := aX.ch nq.ch
      replace ac := ac.ch nq.ch
      replace hO := nq.own
      replace cj := cj.ch nq.ch
      replace ck := ck.ch nq.ch
      replace bK := bK.ch nq.ch
      replace hB := hB.trans nq.fr
      refine GoQ.pure rfl (op_move rfl) rfl rfl ?_
      refine GoQ.pure rfl (op_move rfl) rfl rfl ?_
      refine GoQ.pure rfl (op_nilCheck rfl) rfl rfl ?_
      refine GoQ.pure rfl (op_fieldAddr Try.underlying72 rfl ti29 rfl (by decide)) rfl rfl ?_
      refine GoQ.pure rfl (op_fieldAddr Try.underlying29 rfl ti27 rfl (by decide)) rfl rfl ?_
      refine GoQ.stable rfl (oblk (i := 7) 1 hO rfl rfl Try.underlying27 rfl rfl) rfl rfl ?_
      refine GoQ.pure rfl (op_move rfl) rfl rfl ?_
      refine GoQ.pure rfl (op_move rfl) rfl rfl ?_
      refine GoQ.pure rfl (op_nilCheck rfl) rfl rfl ?_
      refine GoQ.pure rfl (op_fieldAddr Try.underlying72 rfl ti70 rfl (by decide)) rfl rfl ?_
      refine GoQ.stable rfl (oblk (i := 10) 1 hO rfl rfl Try.underlying70 rfl rfl) rfl rfl ?_
      refine GoQ.pure rfl (op_move rfl) rfl rfl ?_
      obtain ⟨uI, H⟩ := H
      obtain ⟨yZ, H⟩ := H
      refine GoQ.pure rfl (op_index Try.underlying70 ti9 rfl rfl uI (ltn (bf.neq hO 8 rfl) yZ) (bf.psome hO 8 rfl uI yZ)) rfl rfl ?_
      refine GoQ.stable rfl (oldStr 8 hO rfl bf uI yZ Try.underlying9 rfl rfl) rfl rfl ?_
      have hle118 := Els.str_le bf uI yZ
      refine GoQ.pure rfl (op_build Try.underlying39 ti39 (pl := [(0, 1), (1, 1)]) (vs := [(0, .string (gstr ((ix d_40 a0.Enum.Done) ++ (chr (IntKind.i32.wrap ((97 : Int) + (k1_12 : Int))))))), (1, .string (gstr (ix d_40 (mgt m1_52 r75))))]) (cs := #[.string (gstr ((ix d_40 a0.Enum.Done) ++ (chr (IntKind.i32.wrap ((97 : Int) + (k1_12 : Int)))))), .string (gstr (ix d_40 (mgt m1_52 r75)))]) (by kernel_rfl) rfl (by kernel_rfl)) rfl rfl ?_
      have hobt := obuildN (r := rpRule) (n := 1) (parts := [(0, .agg #[.string (gstr ((ix d_40 a0.Enum.Done) ++ (chr (IntKind.i32.wrap ((97 : Int) + (k1_12 : Int)))))), .string (gstr (ix d_40 (mgt m1_52 r75)))])]) (vs := [.string (gstr ((ix d_40 a0.Enum.Done) ++ (chr (IntKind.i32.wrap ((97 : Int) + (k1_12 : Int)))))), .string (gstr (ix d_40 (mgt m1_52 r75)))]) (xs := [(⟨(ix d_40 a0.Enum.Done) ++ (chr (IntKind.i32.wrap ((97 : Int) + (k1_12 : Int)))), ix d_40 (mgt m1_52 r75)⟩ : Rule)]) Try.underlying27 ti39 hO (by decide) (by decide) (by kernel_rfl) (Els.flat1 (⟨(ix d_40 a0.Enum.Done) ++ (chr (IntKind.i32.wrap ((97 : Int) + (k1_12 : Int)))), ix d_40 (mgt m1_52 r75)⟩ : Rule) ⟨(lenApp h88), hle118⟩) rfl
      obtain ⟨Lv, jq, nr, Fa, Fb, Cs⟩ := hobt
      refine GoQ.loud rfl (Cs rfl) Fb rfl rfl ?_
      replace b6 := b6.ch nr.ch
      replace aa := aa.ch nr.ch
      replace dk := dk.ch nr.ch
      replace cG := cG.ch nr.ch
      replace cv := cv.ch nr.ch
      replace ab := ab.ch nr.ch
      replace ca := ca.ch nr.ch
      replace bf := bf.ch nr.ch
      replace aX := aX.ch nr.ch
      replace ac := ac.ch nr.ch
      replace hO := nr.own
      replace cj := cj.ch nr.ch
      replace ck := ck.ch nr.ch
      replace bK := bK.ch nr.ch
      replace hB := hB.trans nr.fr
      have hobt := freeze 0 hO rfl Fa
      obtain ⟨hO1, qJ, tT, Fc⟩ := hobt
      dsimp only [eS, eZ] at hO1 qJ tT
      replace cj := cj.ch qJ
      replace ck := ck.ch qJ
      replace bK := bK.ch qJ
      replace b6 := b6.ch qJ
      replace aa := aa.ch qJ
      replace dk := dk.ch qJ
      replace cG := cG.ch qJ
      replace cv := cv.ch qJ
      replace ab := ab.ch qJ
      replace ca := ca.ch qJ
      replace bf := bf.ch qJ
      replace aX := aX.ch qJ
      replace ac := ac.ch qJ
      replace hB := hB.trans (Owns.dropFr _ _ 0)
      dsimp only [eS, eZ] at hB
      replace hO := hO1; clear hO1
      obtain ⟨Id, H⟩ := H
      have hobt := oapp Try.underlying27 ti39 rfl 7 hO rfl ca tT Fc Id (by decide)
      obtain ⟨Lw, Ab, Ac, Fd, mP, vu, Ct⟩ := hobt
      dsimp only [sS, sZ] at mP vu
      refine GoQ.last rfl (Ct (by exact rfl) (by exact rfl)) rfl rfl ?_
      replace b6 := b6.ch mP.ch
      replace aa := aa.ch mP.ch
      replace dk := dk.ch mP.ch
      replace cG := cG.ch mP.ch
      replace cv := cv.ch mP.ch
      replace ab := ab.ch mP.ch
      replace bf := bf.ch mP.ch
      replace aX := aX.ch mP.ch
      replace ac := ac.ch mP.ch
      replace hO := mP.own
      replace cj := cj.ch mP.ch
      replace ck := ck.ch mP.ch
      replace bK := bK.ch mP.ch
      replace tT := tT.ch mP.ch
      replace hB := hB.trans mP.fr
      refine GoQ.pure rfl (op_nilCheck rfl) rfl rfl ?_
      refine GoQ.pure rfl (op_fieldAddr Try.underlying72 rfl ti29 rfl (by decide)) rfl rfl ?_
      refine GoQ.pure rfl (op_fieldAddr Try.underlying29 rfl ti27 rfl (by decide)) rfl rfl ?_
      have hobt := oblkSt2 (v := .slice Ab (n39 + 1) Ac) (i := 7) (cs' := #[.int .i64 a0.Enum.Points, .bool a0.Enum.Monoid, .slice ap ao aq, .slice p19 n21 c20, .slice p25 n27 c26, .slice p31 n33 c32, .slice aU aE aV, .slice Ab (n39 + 1) Ac, .int .i64 a0.Enum.Done, .map (some aW), .slice p43 n45 c44, .slice p49 n51 c50, .slice bE bD bF]) 1 hO rfl rfl rfl rfl
      obtain ⟨Lx, jr, Cu⟩ := hobt
      dsimp only [sS, sZ] at jr
      refine GoQ.last rfl (Cu Try.underlying27 rfl ti27 (by exact rfl) (by exact rfl)) rfl rfl ?_
      replace b6 := b6.ch jr.ch
      replace aa := aa.ch jr.ch
      replace dk := dk.ch jr.ch
      replace cG := cG.ch jr.ch
      replace cv := cv.ch jr.ch
      replace ab := ab.ch jr.ch
      replace vu := vu.ch jr.ch
      replace bf := bf.ch jr.ch
      replace aX := aX.ch jr.ch
      replace ac := ac.ch jr.ch
      replace hO := jr.own
      replace cj := cj.ch jr.ch
      replace ck := ck.ch jr.ch
      replace bK := bK.ch jr.ch
      replace tT := tT.ch jr.ch
      replace hB := hB.trans jr.fr
      refine GoQ.nil ?_
      refine Go1.inBlock ?_
      refine Go1.cut [(0, .pointer (some ⟨d4, 0, none⟩)), (3, .int .i64 a0.Enum.Done), (4, .slice p2 a0.Enum.Gens.length a0.Enum.Gens.length), (5, .int .i64 (k1_12 : Int)), (8, .int .i64 (mgt m1_52 r75)), (27, .slice ap ao aq), (28, .int .i64 (a0.Enum.Gens.length : Int)), (29, .int .i64 (k1_12 : Int))] ⟨rfl, rfl, rfl, rfl, rfl, rfl, rfl, rfl, trivial⟩ ?_
      intro σ _
      refine Go1.region ?_
      refine GoR.op ((op_move rfl) _) rfl rfl ?_
      refine GoR.op ((op_move rfl) _) rfl rfl ?_
      refine GoR.op ((op_move rfl) _) rfl rfl ?_
      obtain ⟨Ad, H⟩ := H
      obtain ⟨Ae, H⟩ := H
      refine GoR.op ((op_index Try.underlying26 ti3 rfl rfl Ad (ltn (b6.neq hO 0 rfl) Ae) (b6.psome hO 0 rfl Ad Ae)) _) rfl rfl ?_
      have hobt := ost (r := Rp.int .i64) rfl 0 hO rfl b6 Ad Ae (v := .int .i64 (mgt m1_52 r75)) (u := (mgt m1_52 r75)) rfl rfl
      obtain ⟨Ly, Fe, mQ, AR, Cv⟩ := hobt
      dsimp only [sS, sZ] at mQ AR
      refine GoR.op (Cv Try.underlying3 rfl ti3 (by exact rfl) (by exact rfl)) rfl rfl ?_
      replace aa := aa.ch mQ.ch
      replace dk := dk.ch mQ.ch
      replace cG := cG.ch mQ.ch
      replace cv := cv.ch mQ.ch
      replace ab := ab.ch mQ.ch
      replace vu := vu.ch mQ.ch
      replace bf := bf.ch mQ.ch
      replace aX := aX.ch mQ.ch
      replace ac := ac.ch mQ.ch
      replace hO := mQ.own
      replace cj := cj.ch mQ.ch
      replace ck := ck.ch mQ.ch
      replace bK := bK.ch mQ.ch
      replace tT := tT.ch mQ.ch
      replace hB := hB.trans mQ.fr
      refine GoR.nil ?_
      refine Go1.inBlock ?_
      refine Go1.region ?_
      refine GoR.op ((op_add rfl rfl (wrap_i64 (natbd h53 aa.bd))) _) rfl rfl ?_
      refine GoR.op ((op_move rfl) _) rfl rfl ?_
      refine GoR.nil ?_
      exact hX1 _ H _ _ ⟨Fe, n21, p19, c20, mE, n27, p25, c26, nl, n33, p31, c32, nm, n39 + 1, Ab, Ac, Fd, n45, p43, c44, eC, n51, p49, c50, eF, ⟨rfl, rfl, rfl, rfl, rfl, rfl, trivial⟩, hO, AR, aa, dk, cG, cv, ab, vu, bf, aX, ac, hB⟩
     replace H := ifn yY H
     refine GoR.op ((fun w => opB (op_eql rfl rfl w) (decide_eq_false yY)) _) rfl rfl ?_
     refine GoR.op ((op_pickT rfl rfl rfl) _) rfl rfl ?_
     refine GoR.op ((op_assign rfl) _) rfl rfl ?_
     refine GoR.nil ?_
     refine Go1.ret1V Try.func67 rfl (show _ = .bool false from rfl) ?_
     refine hR102 _ _ ?_
     refine GoR.op ((op_pickT rfl rfl rfl) _) rfl rfl ?_
     refine GoR.op ((op_assign rfl) _) rfl rfl ?_
     refine GoR.nil ?_
     refine Go1.condF rfl rfl ?_
     refine Go1.skip ?_
     refine Go1.inBlock ?_
     refine Go1.region ?_
     refine GoR.op ((op_move rfl) _) rfl rfl ?_
     refine GoR.op ((op_move rfl) _) rfl rfl ?_
     refine GoR.op ((op_move rfl) _) rfl rfl ?_
     obtain ⟨Af, H⟩ := H
     obtain ⟨u7, H⟩ := H
     refine GoR.op ((op_index Try.underlying26 ti3 rfl rfl Af (ltn (b6.neq hO 0 rfl) u7) (b6.psome hO 0 rfl Af u7)) _) rfl rfl ?_
     have hobt := ost (r := Rp.int .i64) rfl 0 hO rfl b6 Af u7 (v := .int .i64 (mgt m1_52 r75)) (u := (mgt m1_52 r75)) rfl rfl
     obtain ⟨Ie, Ff, ns, AT, Cw⟩ := hobt
     dsimp only [sS, sZ] at ns AT
     refine GoR.op (Cw Try.underlying3 rfl ti3 (by exact rfl) (by exact rfl)) rfl rfl ?_
     replace aa := aa.ch ns.ch
     replace dk := dk.ch ns.ch
     replace cG := cG.ch ns.ch
     replace cv := cv.ch ns.ch
     replace ab := ab.ch ns.ch
     replace ca := ca.ch ns.ch
     replace bf := bf.ch ns.ch
     replace aX := aX.ch ns.ch
     replace ac := ac.ch ns.ch
     replace hO := ns.own
     replace cj := cj.ch ns.ch
     replace ck := ck.ch ns.ch
     replace bK := bK.ch ns.ch
     replace hB := hB.trans ns.fr
     refine GoR.nil ?_
     refine Go1.inBlock ?_
     refine Go1.region ?_
     refine GoR.op ((op_add rfl rfl (wrap_i64 (natbd h53 aa.bd))) _) rfl rfl ?_
     refine GoR.op ((op_move rfl) _) rfl rfl ?_
     refine GoR.nil ?_
     exact hX1 _ H _ _ ⟨Ff, n21, p19, c20, mE, n27, p25, c26, nl, n33, p31, c32, nm, n39, p37, c38, np, n45, p43, c44, eC, n51, p49, c50, eF, ⟨rfl, rfl, rfl, rfl, rfl, rfl, trivial⟩, hO, AT, aa, dk, cG, cv, ab, ca, bf, aX, ac, hB⟩
    replace H := ifn u6 H
    refine GoR.op ((fun w => opB (op_eql rfl rfl w) (decide_eq_false u6)) _) rfl rfl ?_
    refine GoR.op ((op_move rfl) _) rfl rfl ?_
    refine GoR.pass rfl rfl ?_
    refine GoR.pass rfl rfl ?_
    refine GoR.pass rfl rfl ?_
    refine GoR.pass rfl rfl ?_
    refine GoR.pass rfl rfl ?_
    refine GoR.pass rfl rfl ?_
    refine GoR.pass rfl rfl ?_
    refine GoR.pass rfl rfl ?_
    refine GoR.pass rfl rfl ?_
    refine GoR.pass rfl rfl ?_
    refine GoR.op ((op_pickF rfl rfl rfl) _) rfl rfl ?_
    refine GoR.op ((op_assign rfl) _) rfl rfl ?_
    refine GoR.nil ?_
    refine Go1.ret1V Try.func67 rfl (show _ = .bool false from rfl) ?_
    refine hR102 _ _ ?_
    refine GoR.op ((op_pickT rfl rfl rfl) _) rfl rfl ?_
    refine GoR.op ((op_assign rfl) _) rfl rfl ?_
    refine GoR.nil ?_
    refine Go1.condF rfl rfl ?_
    refine Go1.skip ?_
    refine Go1.inBlock ?_
    refine Go1.cut [(0, .pointer (some ⟨d4, 0, none⟩)), (3, .int .i64 a0.Enum.Done), (4, .slice p2 a0.Enum.Gens.length a0.Enum.Gens.length), (5, .int .i64 (k1_12 : Int)), (8, .int .i64 (mgt m1_52 r75)), (27, .slice ap ao aq), (28, .int .i64 (a0.Enum.Gens.length : Int)), (29, .int .i64 (k1_12 : Int))] ⟨rfl, rfl, rfl, rfl, rfl, rfl, rfl, rfl, trivial⟩ ?_
    intro σ _
    refine Go1.region ?_
    refine GoR.op ((op_move rfl) _) rfl rfl ?_
    refine GoR.op ((op_move rfl) _) rfl rfl ?_
    refine GoR.op ((op_move rfl) _) rfl rfl ?_
    obtain ⟨tm, H⟩ := H
    obtain ⟨vZ, H⟩ := H
    refine GoR.op ((op_index Try.underlying26 ti3 rfl rfl tm (ltn (b6.neq hO 0 rfl) vZ) (b6.psome hO 0 rfl tm vZ)) _) rfl rfl ?_
    have hobt := ost (r := Rp.int .i64) rfl 0 hO rfl b6 tm vZ (v := .int .i64 (mgt m1_52 r75)) (u := (mgt m1_52 r75)) rfl rfl
    obtain ⟨Ig, Fg, iT, AU, x7⟩ := hobt
    dsimp only [sS, sZ] at iT AU
    refine GoR.op (x7 Try.underlying3 rfl ti3 (by exact rfl) (by exact rfl)) rfl rfl ?_
    replace aa := aa.ch iT.ch
    replace dk := dk.ch iT.ch
    replace cG := cG.ch iT.ch
    replace cv := cv.ch iT.ch
    replace ab := ab.ch iT.ch
    replace ca := ca.ch iT.ch
    replace bf := bf.ch iT.ch
    replace aX := aX.ch iT.ch
    replace ac := ac.ch iT.ch
    replace hO := iT.own
    replace cj := cj.ch iT.ch
    replace ck := ck.ch iT.ch
    replace bK := bK.ch iT.ch
    replace hB := hB.trans iT.fr
    refine GoR.nil ?_
    refine Go1.inBlock ?_
    refine Go1.region ?_
    refine GoR.op ((op_add rfl rfl (wrap_i64 (natbd h53 aa.bd))) _) rfl rfl ?_
    refine GoR.op ((op_move rfl) _) rfl rfl ?_
    refine GoR.nil ?_
    exact hX1 _ H _ _ ⟨Fg, n21, p19, c20, mE, n27, p25, c26, nl, n33, p31, c32, nm, n39, p37, c38, np, n45, p43, c44, eC, n51, p49, c50, eF, ⟨rfl, rfl, rfl, rfl, rfl, rfl, trivial⟩, hO, AU, aa, dk, cG, cv, ab, ca, bf, aX, ac, hB⟩
   replace H := ifn u5 H
   refine GoR.op ((fun w => opB (op_eql rfl rfl w) (decide_eq_false u5)) _) rfl rfl ?_
   refine GoR.nil ?_
   refine Go1.condF rfl rfl ?_
   refine Go1.skip ?_
   refine Go1.seq ?_
   refine Go1.region ?_
   refine GoR.op ((op_move rfl) _) rfl rfl ?_
   refine GoR.op ((op_nilCheck rfl) _) rfl rfl ?_
   refine GoR.op ((op_fieldAddr Try.underlying72 rfl ti29 rfl (by decide)) _) rfl rfl ?_
   refine GoR.op ((op_fieldAddr Try.underlying29 rfl ti22 rfl (by decide)) _) rfl rfl ?_
   refine GoR.op ((oblk (i := 6) 1 hO rfl rfl Try.underlying22 rfl rfl) _ (Same.refl _)) rfl rfl ?_
   refine GoR.op ((op_move rfl) _) rfl rfl ?_
   obtain ⟨xW, H⟩ := H
   obtain ⟨xX, H⟩ := H
   refine GoR.op ((op_index Try.underlying22 ti26 rfl rfl xW (ltn (ab.neq hO 6 rfl) xX) (ab.psome hO 6 rfl xW xX)) _) rfl rfl ?_
   have hobt := oldSl 6 hO rfl ab xW xX
   obtain ⟨Lz, LA, nz, Fh⟩ := hobt
   refine GoR.op ((Fh Try.underlying26 rfl rfl) _ (Same.refl _)) rfl rfl ?_
   refine GoR.op ((op_move rfl) _) rfl rfl ?_
   obtain ⟨Ag, H⟩ := H
   obtain ⟨Ah, H⟩ := H
   refine GoR.op ((op_index Try.underlying26 ti3 rfl rfl Ag Ah (nz.some_ Ag Ah)) _) rfl rfl ?_
   refine GoR.op ((ldInt nz Ag Ah Try.underlying3 rfl rfl) _ (Same.refl _)) rfl rfl ?_
   refine GoR.op ((op_assign rfl) _) rfl rfl ?_
   refine GoR.nil ?_
   refine Go1.ret1V Try.func66 rfl (show _ = .int .i64 (ix (ix a0.Enum.Right (ix d_46 a0.Enum.Done)) (k1_12 : Int)) from rfl) ?_
   refine hR103 _ _ ?_
   refine GoR.op ((op_assign rfl) _) rfl rfl ?_
   refine GoR.nil ?_
   refine Go1.seq ?_
   refine Go1.cut [(0, .pointer (some ⟨d4, 0, none⟩)), (1, .int .i64 (ix d_46 a0.Enum.Done)), (2, .int .i64 (k1_12 : Int)), (7, .int .i64 (ix (ix a0.Enum.Right (ix d_46 a0.Enum.Done)) (k1_12 : Int)))] ⟨rfl, rfl, rfl, rfl, trivial⟩ ?_
   intro σ _
   refine Go1.region ?_
   refine GoR.op ((op_move rfl) _) rfl rfl ?_
   refine GoR.op ((op_nilCheck rfl) _) rfl rfl ?_
   refine GoR.op ((op_fieldAddr Try.underlying72 rfl ti29 rfl (by decide)) _) rfl rfl ?_
   refine GoR.op ((op_fieldAddr Try.underlying29 rfl ti26 rfl (by decide)) _) rfl rfl ?_
   refine GoR.op ((oblk (i := 4) 1 hO rfl rfl Try.underlying26 rfl rfl) _ (Same.refl _)) rfl rfl ?_
   refine GoR.op ((op_move rfl) _) rfl rfl ?_
   obtain ⟨Ai, H⟩ := H
   obtain ⟨Aj, H⟩ := H
   refine GoR.op ((op_index Try.underlying26 ti3 rfl rfl Ai (ltn (cG.neq hO 4 rfl) Aj) (cG.psome hO 4 rfl Ai Aj)) _) rfl rfl ?_
   refine GoR.op ((oldInt 4 hO rfl cG Ai Aj Try.underlying3 rfl rfl) _ (Same.refl _)) rfl rfl ?_
   refine GoR.op ((op_move rfl) _) rfl rfl ?_
   by_cases y3 : (ix d_22 (ix (ix a0.Enum.Right (ix d_46 a0.Enum.Done)) (k1_12 : Int))) = (ix d_46 a0.Enum.Done)
   ·replace H := ifp y3 H
    refine GoR.op ((fun w => opB (op_eql rfl rfl w) (decide_eq_true y3)) _) rfl rfl ?_
    refine GoR.op ((op_move rfl) _) rfl rfl ?_
    refine GoR.op ((op_move rfl) _) rfl rfl ?_
    refine GoR.op ((op_nilCheck rfl) _) rfl rfl ?_
    refine GoR.op ((op_fieldAddr Try.underlying72 rfl ti29 rfl (by decide)) _) rfl rfl ?_
    refine GoR.op ((op_fieldAddr Try.underlying29 rfl ti26 rfl (by decide)) _) rfl rfl ?_
    refine GoR.op ((oblk (i := 5) 1 hO rfl rfl Try.underlying26 rfl rfl) _ (Same.refl _)) rfl rfl ?_
    refine GoR.op ((op_move rfl) _) rfl rfl ?_
    obtain ⟨uQ, H⟩ := H
    obtain ⟨Ak, H⟩ := H
    refine GoR.op ((op_index Try.underlying26 ti3 rfl rfl uQ (ltn (cv.neq hO 5 rfl) Ak) (cv.psome hO 5 rfl uQ Ak)) _) rfl rfl ?_
    refine GoR.op ((oldInt 5 hO rfl cv uQ Ak Try.underlying3 rfl rfl) _ (Same.refl _)) rfl rfl ?_
    refine GoR.op ((op_move rfl) _) rfl rfl ?_
    by_cases y4 : (ix d_28 (ix (ix a0.Enum.Right (ix d_46 a0.Enum.Done)) (k1_12 : Int))) = (k1_12 : Int)
    ·replace H := ifp y4 H
     refine GoR.op ((fun w => opB (op_eql rfl rfl w) (decide_eq_true y4)) _) rfl rfl ?_
     refine GoR.op ((op_pickT rfl rfl rfl) _) rfl rfl ?_
     refine GoR.op ((op_assign rfl) _) rfl rfl ?_
     refine GoR.nil ?_
     refine Go1.ret1V Try.func67 rfl (show _ = .bool true from rfl) ?_
     refine hR102 _ _ ?_
     refine GoR.op ((op_pickT rfl rfl rfl) _) rfl rfl ?_
     refine GoR.op ((op_assign rfl) _) rfl rfl ?_
     refine GoR.nil ?_
     refine Go1.condT rfl rfl ?_
     refine Go1.cut [(0, .pointer (some ⟨d4, 0, none⟩)), (3, .int .i64 a0.Enum.Done), (4, .slice p2 a0.Enum.Gens.length a0.Enum.Gens.length), (5, .int .i64 (k1_12 : Int)), (8, .int .i64 (mgt m1_52 r75)), (10, .string (gstr ((ix d_40 a0.Enum.Done) ++ (chr (IntKind.i32.wrap ((97 : Int) + (k1_12 : Int))))))), (27, .slice ap ao aq), (28, .int .i64 (a0.Enum.Gens.length : Int)), (29, .int .i64 (k1_12 : Int))] ⟨rfl, rfl, rfl, rfl, rfl, rfl, rfl, rfl, rfl, trivial⟩ ?_
     intro σ _
     refine Go1.drawS 5 [(0, .pure), (1, .pure), (2, .pure), (3, .pure), (4, .pure), (5, .stable), (6, .pure), (7, .pure), (8, .pure), (9, .pure), (10, .stable), (11, .pure), (12, .pure), (13, .stable), (14, .pure), (15, .loud), (16, .last), (17, .pure), (18, .pure), (19, .pure), (20, .last)] mixed (by kernel_rfl) ?_
     intro Ih y5
     have mS := Stp.same hO y5
     replace b6 := b6.ch mS.ch
     replace aa := aa.ch mS.ch
     replace dk := dk.ch mS.ch
     replace cG := cG.ch mS.ch
     replace cv := cv.ch mS.ch
     replace ab := ab.ch mS.ch
     replace ca := ca.ch mS.ch
     replace bf := bf.ch mS.ch
     replace aX := aX.ch mS.ch
     replace ac := ac.ch mS.ch
     replace hO := mS.own
     replace cj := cj.ch mS.ch
     replace ck := ck.ch mS.ch
     replace bK := bK.ch mS.ch
     replace nz := nz.ch mS.ch
     replace hB := hB.trans mS.fr
     refine GoQ.pure rfl (op_move rfl) rfl rfl ?_
     refine GoQ.pure rfl (op_move rfl) rfl rfl ?_
     refine GoQ.pure rfl (op_nilCheck rfl) rfl rfl ?_
     refine GoQ.pure rfl (op_fieldAddr Try.underlying72 rfl ti29 rfl (by decide)) rfl rfl ?_
     refine GoQ.pure rfl (op_fieldAddr Try.underlying29 rfl ti27 rfl (by decide)) rfl rfl ?_
     refine GoQ.stable rfl (oblk (i := 7) 1 hO rfl rfl Try.underlying27 rfl rfl) rfl rfl ?_
     refine GoQ.pure rfl (op_move rfl) rfl rfl ?_
     refine GoQ.pure rfl (op_move rfl) rfl rfl ?_
     refine GoQ.pure rfl (op_nilCheck rfl) rfl rfl ?_
     refine GoQ.pure rfl (op_fieldAddr Try.underlying72 rfl ti70 rfl (by decide)) rfl rfl ?_
     refine GoQ.stable rfl (oblk (i := 10) 1 hO rfl rfl Try.underlying70 rfl rfl) rfl rfl ?_
     refine GoQ.pure rfl (op_move rfl) rfl rfl ?_
     obtain ⟨y6, H⟩ := H
     obtain ⟨y7, H⟩ := H
     refine GoQ.pure rfl (op_index Try.underlying70 ti9 rfl rfl y6 (ltn (bf.neq hO 8 rfl) y7) (bf.psome hO 8 rfl y6 y7)) rfl rfl ?_
     refine GoQ.stable rfl (oldStr 8 hO rfl bf y6 y7 Try.underlying9 rfl rfl) rfl rfl ?_
     have hle181 := Els.str_le bf y6 y7
     refine GoQ.pure rfl (op_build Try.underlying39 ti39 (pl := [(0, 1), (1, 1)]) (vs := [(0, .string (gstr ((ix d_40 a0.Enum.Done) ++ (chr (IntKind.i32.wrap ((97 : Int) + (k1_12 : Int))))))), (1, .string (gstr (ix d_40 (mgt m1_52 r75))))]) (cs := #[.string (gstr ((ix d_40 a0.Enum.Done) ++ (chr (IntKind.i32.wrap ((97 : Int) + (k1_12 : Int)))))), .string (gstr (ix d_40 (mgt m1_52 r75)))]) (by kernel_rfl) rfl (by kernel_rfl)) rfl rfl ?_
     have hobt := obuildN (r := rpRule) (n := 1) (parts := [(0, .agg #[.string (gstr ((ix d_40 a0.Enum.Done) ++ (chr (IntKind.i32.wrap ((97 : Int) + (k1_12 : Int)))))), .string (gstr (ix d_40 (mgt m1_52 r75)))])]) (vs := [.string (gstr ((ix d_40 a0.Enum.Done) ++ (chr (IntKind.i32.wrap ((97 : Int) + (k1_12 : Int)))))), .string (gstr (ix d_40 (mgt m1_52 r75)))]) (xs := [(⟨(ix d_40 a0.Enum.Done) ++ (chr (IntKind.i32.wrap ((97 : Int) + (k1_12 : Int)))), ix d_40 (mgt m1_52 r75)⟩ : Rule)]) Try.underlying27 ti39 hO (by decide) (by decide) (by kernel_rfl) (Els.flat1 (⟨(ix d_40 a0.Enum.Done) ++ (chr (IntKind.i32.wrap ((97 : Int) + (k1_12 : Int)))), ix d_40 (mgt m1_52 r75)⟩ : Rule) ⟨(lenApp h88), hle181⟩) rfl
     obtain ⟨Ii, LB, mT, Fi, y8, Cx⟩ := hobt
     refine GoQ.loud rfl (Cx rfl) y8 rfl rfl ?_
     replace b6 := b6.ch mT.ch
     replace aa := aa.ch mT.ch
     replace dk := dk.ch mT.ch
     replace cG := cG.ch mT.ch
     replace cv := cv.ch mT.ch
     replace ab := ab.ch mT.ch
     replace ca := ca.ch mT.ch
     replace bf := bf.ch mT.ch
     replace aX := aX.ch mT.ch
     replace ac := ac.ch mT.ch
     replace hO := mT.own
     replace cj := cj.ch mT.ch
     replace ck := ck.ch mT.ch
     replace bK := bK.ch mT.ch
     replace nz := nz.ch mT.ch
     replace hB := hB.trans mT.fr
     have hobt := freeze 0 hO rfl Fi
     obtain ⟨hO1, pk, tU, Fj⟩ := hobt
     dsimp only [eS, eZ] at hO1 pk tU
     replace cj := cj.ch pk
     replace ck := ck.ch pk
     replace bK := bK.ch pk
     replace nz := nz.ch pk
     replace b6 := b6.ch pk
     replace aa := aa.ch pk
     replace dk := dk.ch pk
     replace cG := cG.ch pk
     replace cv := cv.ch pk
     replace ab := ab.ch pk
     replace ca := ca.ch pk
     replace bf := bf.ch pk
     replace aX := aX.ch pk
     replace ac := ac.ch pk
     replace hB := hB.trans (Owns.dropFr _ _ 0)
     dsimp only [eS, eZ] at hB
     replace hO := hO1; clear hO1
     obtain ⟨Ij, H⟩ := H
     have hobt := oapp Try.underlying27 ti39 rfl 7 hO rfl ca tU Fj Ij (by decide)
     obtain ⟨LD, Al, Am, Fk, lP, vw, Cy⟩ := hobt
     dsimp only [sS, sZ] at lP vw
     refine GoQ.last rfl (Cy (by exact rfl) (by exact rfl)) rfl rfl ?_
     replace b6 := b6.ch lP.ch
     replace aa := aa.ch lP.ch
     replace dk := dk.ch lP.ch
     replace cG := cG.ch lP.ch
     replace cv := cv.ch lP.ch
     replace ab := ab.ch lP.ch
     replace bf := bf.ch lP.ch
     replace aX := aX.ch lP.ch
     replace ac := ac.ch lP.ch
     replace hO := lP.own
     replace cj := cj.ch lP.ch
     replace ck := ck.ch lP.ch
     replace bK := bK.ch lP.ch
     replace nz := nz.ch lP.ch
     replace tU := tU.ch lP.ch
     replace hB := hB.trans lP.fr
     refine GoQ.pure rfl (op_nilCheck rfl) rfl rfl ?_
     refine GoQ.pure rfl (op_fieldAddr Try.underlying72 rfl ti29 rfl (by decide)) rfl rfl ?_
     refine GoQ.pure rfl (op_fieldAddr Try.underlying29 rfl ti27 rfl (by decide)) rfl rfl ?_
     have hobt := oblkSt2 (v := .slice Al (n39 + 1) Am) (i := 7) (cs' := #[.int .i64 a0.Enum.Points, .bool a0.Enum.Monoid, .slice ap ao aq, .slice p19 n21 c20, .slice p25 n27 c26, .slice p31 n33 c32, .slice aU aE aV, .slice Al (n39 + 1) Am, .int .i64 a0.Enum.Done, .map (some aW), .slice p43 n45 c44, .slice p49 n51 c50, .slice bE bD bF]) 1 hO rfl rfl rfl rfl
     obtain ⟨LE, lv, Cz⟩ := hobt
     dsimp only [sS, sZ] at lv
     refine GoQ.last rfl (Cz Try.underlying27 rfl ti27 (by exact rfl) (by exact rfl)) rfl rfl ?_
     replace b6 := b6.ch lv.ch
     replace aa := aa.ch lv.ch
     replace dk := dk.ch lv.ch
     replace cG := cG.ch lv.ch
     replace cv := cv.ch lv.ch
     replace ab := ab.ch lv.ch
     replace vw := vw.ch lv.ch
     replace bf := bf.ch lv.ch
     replace aX := aX.ch lv.ch
     replace ac := ac.ch lv.ch
     replace hO := lv.own
     replace cj := cj.ch lv.ch
     replace ck := ck.ch lv.ch
     replace bK := bK.ch lv.ch
     replace nz := nz.ch lv.ch
     replace tU := tU.ch lv.ch
     replace hB := hB.trans lv.fr
     refine GoQ.nil ?_
     refine Go1.inBlock ?_
     refine Go1.cut [(0, .pointer (some ⟨d4, 0, none⟩)), (3, .int .i64 a0.Enum.Done), (4, .slice p2 a0.Enum.Gens.length a0.Enum.Gens.length), (5, .int .i64 (k1_12 : Int)), (8, .int .i64 (mgt m1_52 r75)), (27, .slice ap ao aq), (28, .int .i64 (a0.Enum.Gens.length : Int)), (29, .int .i64 (k1_12 : Int))] ⟨rfl, rfl, rfl, rfl, rfl, rfl, rfl, rfl, trivial⟩ ?_
     intro σ _
     refine Go1.region ?_
     refine GoR.op ((op_move rfl) _) rfl rfl ?_
     refine GoR.op ((op_move rfl) _) rfl rfl ?_
     refine GoR.op ((op_move rfl) _) rfl rfl ?_
     obtain ⟨Ao, H⟩ := H
     obtain ⟨Ap, H⟩ := H
     refine GoR.op ((op_index Try.underlying26 ti3 rfl rfl Ao (ltn (b6.neq hO 0 rfl) Ap) (b6.psome hO 0 rfl Ao Ap)) _) rfl rfl ?_
     have hobt := ost (r := Rp.int .i64) rfl 0 hO rfl b6 Ao Ap (v := .int .i64 (mgt m1_52 r75)) (u := (mgt m1_52 r75)) rfl rfl
     obtain ⟨LF, gk, lQ, AV, CA⟩ := hobt
     dsimp only [sS, sZ] at lQ AV
     refine GoR.op (CA Try.underlying3 rfl ti3 (by exact rfl) (by exact rfl)) rfl rfl ?_
     replace aa := aa.ch lQ.ch
     replace dk := dk.ch lQ.ch
     replace cG := cG.ch lQ.ch
     replace cv := cv.ch lQ.ch
     replace ab := ab.ch lQ.ch
     replace vw := vw.ch lQ.ch
     replace bf := bf.ch lQ.ch
     replace aX := aX.ch lQ.ch
     replace ac := ac.ch lQ.ch
     replace hO := lQ.own
     replace cj := cj.ch lQ.ch
     replace ck := ck.ch lQ.ch
     replace bK := bK.ch lQ.ch
     replace nz := nz.ch lQ.ch
     replace tU := tU.ch lQ.ch
     replace hB := hB.trans lQ.fr
     refine GoR.nil ?_
     refine Go1.inBlock ?_
     refine Go1.region ?_
     refine GoR.op ((op_add rfl rfl (wrap_i64 (natbd h53 aa.bd))) _) rfl rfl ?_
     refine GoR.op ((op_move rfl) _) rfl rfl ?_
     refine GoR.nil ?_
     exact hX1 _ H _ _ ⟨gk, n21, p19, c20, mE, n27, p25, c26, nl, n33, p31, c32, nm, n39 + 1, Al, Am, Fk, n45, p43, c44, eC, n51, p49, c50, eF, ⟨rfl, rfl, rfl, rfl, rfl, rfl, trivial⟩, hO, AV, aa, dk, cG, cv, ab, vw, bf, aX, ac, hB⟩
    replace H := ifn y4 H
    refine GoR.op ((fun w => opB (op_eql rfl rfl w) (decide_eq_false y4)) _) rfl rfl ?_
    refine GoR.op ((op_pickT rfl rfl rfl) _) rfl rfl ?_
    refine GoR.op ((op_assign rfl) _) rfl rfl ?_
    refine GoR.nil ?_
    refine Go1.ret1V Try.func67 rfl (show _ = .bool false from rfl) ?_
    refine hR102 _ _ ?_
    refine GoR.op ((op_pickT rfl rfl rfl) _) rfl rfl ?_
    refine GoR.op ((op_assign rfl) _) rfl rfl ?_
    refine GoR.nil ?_
    refine Go1.condF rfl rfl ?_
    refine Go1.skip ?_
    refine Go1.inBlock ?_
    refine Go1.region ?_
    refine GoR.op ((op_move rfl) _) rfl rfl ?_
    refine GoR.op ((op_move rfl) _) rfl rfl ?_
    refine GoR.op ((op_move rfl) _) rfl rfl ?_
    obtain ⟨Aq, H⟩ := H
    obtain ⟨xY, H⟩ := H
    refine GoR.op ((op_index Try.underlying26 ti3 rfl rfl Aq (ltn (b6.neq hO 0 rfl) xY) (b6.psome hO 0 rfl Aq xY)) _) rfl rfl ?_
    have hobt := ost (r := Rp.int .i64) rfl 0 hO rfl b6 Aq xY (v := .int .i64 (mgt m1_52 r75)) (u := (mgt m1_52 r75)) rfl rfl
    obtain ⟨Hx, Fm, mU, AW, CB⟩ := hobt
    dsimp only [sS, sZ] at mU AW
    refine GoR.op (CB Try.underlying3 rfl ti3 (by exact rfl) (by exact rfl)) rfl rfl ?_
    replace aa := aa.ch mU.ch
    replace dk := dk.ch mU.ch
    replace cG := cG.ch mU.ch
    replace cv := cv.ch mU.ch
    replace ab := ab.ch mU.ch
    replace ca := ca.ch mU.ch
    replace bf := bf.ch mU.ch
    replace aX := aX.ch mU.ch
    replace ac := ac.ch mU.ch
    replace hO := mU.own
    replace cj := cj.ch mU.ch
    replace ck := ck.ch mU.ch
    replace bK := bK.ch mU.ch
    replace nz := nz.ch mU.ch
    replace hB := hB.trans mU.fr
    refine GoR.nil ?_
    refine Go1.inBlock ?_
    refine Go1.region ?_
    refine GoR.op ((op_add rfl rfl (wrap_i64 (natbd h53 aa.bd))) _) rfl rfl ?_
    refine GoR.op ((op_move rfl) _) rfl rfl ?_
    refine GoR.nil ?_
    exact hX1 _ H _ _ ⟨Fm, n21, p19, c20, mE, n27, p25, c26, nl, n33, p31, c32, nm, n39, p37, c38, np, n45, p43, c44, eC, n51, p49, c50, eF, ⟨rfl, rfl, rfl, rfl, rfl, rfl, trivial⟩, hO, AW, aa, dk, cG, cv, ab, ca, bf, aX, ac, hB⟩
   replace H := ifn y3 H
   refine GoR.op ((fun w => opB (op_eql rfl rfl w) (decide_eq_false y3)) _) rfl rfl ?_
   refine GoR.op ((op_move rfl) _) rfl rfl ?_
   refine GoR.pass rfl rfl ?_
   refine GoR.pass rfl rfl ?_
   refine GoR.pass rfl rfl ?_
   refine GoR.pass rfl rfl ?_
   refine GoR.pass rfl rfl ?_
   refine GoR.pass rfl rfl ?_
   refine GoR.pass rfl rfl ?_
   refine GoR.pass rfl rfl ?_
   refine GoR.pass rfl rfl ?_
   refine GoR.pass rfl rfl ?_
   refine GoR.op ((op_pickF rfl rfl rfl) _) rfl rfl ?_
   refine GoR.op ((op_assign rfl) _) rfl rfl ?_
   refine GoR.nil ?_
   refine Go1.ret1V Try.func67 rfl (show _ = .bool false from rfl) ?_
   refine hR102 _ _ ?_
   refine GoR.op ((op_pickT rfl rfl rfl) _) rfl rfl ?_
   refine GoR.op ((op_assign rfl) _) rfl rfl ?_
   refine GoR.nil ?_
   refine Go1.condF rfl rfl ?_
   refine Go1.skip ?_
   refine Go1.inBlock ?_
   refine Go1.cut [(0, .pointer (some ⟨d4, 0, none⟩)), (3, .int .i64 a0.Enum.Done), (4, .slice p2 a0.Enum.Gens.length a0.Enum.Gens.length), (5, .int .i64 (k1_12 : Int)), (8, .int .i64 (mgt m1_52 r75)), (27, .slice ap ao aq), (28, .int .i64 (a0.Enum.Gens.length : Int)), (29, .int .i64 (k1_12 : Int))] ⟨rfl, rfl, rfl, rfl, rfl, rfl, rfl, rfl, trivial⟩ ?_
   intro σ _
   refine Go1.region ?_
   refine GoR.op ((op_move rfl) _) rfl rfl ?_
   refine GoR.op ((op_move rfl) _) rfl rfl ?_
   refine GoR.op ((op_move rfl) _) rfl rfl ?_
   obtain ⟨Ar, H⟩ := H
   obtain ⟨At, H⟩ := H
   refine GoR.op ((op_index Try.underlying26 ti3 rfl rfl Ar (ltn (b6.neq hO 0 rfl) At) (b6.psome hO 0 rfl Ar At)) _) rfl rfl ?_
   have hobt := ost (r := Rp.int .i64) rfl 0 hO rfl b6 Ar At (v := .int .i64 (mgt m1_52 r75)) (u := (mgt m1_52 r75)) rfl rfl
   obtain ⟨LG, Fn, fJ, AX, CC⟩ := hobt
   dsimp only [sS, sZ] at fJ AX
   refine GoR.op (CC Try.underlying3 rfl ti3 (by exact rfl) (by exact rfl)) rfl rfl ?_
   replace aa := aa.ch fJ.ch
   replace dk := dk.ch fJ.ch
   replace cG := cG.ch fJ.ch
   replace cv := cv.ch fJ.ch
   replace ab := ab.ch fJ.ch
   replace ca := ca.ch fJ.ch
   replace bf := bf.ch fJ.ch
   replace aX := aX.ch fJ.ch
   replace ac := ac.ch fJ.ch
   replace hO := fJ.own
   replace cj := cj.ch fJ.ch
   replace ck := ck.ch fJ.ch
   replace bK := bK.ch fJ.ch
   replace nz := nz.ch fJ.ch
   replace hB := hB.trans fJ.fr
   refine GoR.nil ?_
   refine Go1.inBlock ?_
   refine Go1.region ?_
   refine GoR.op ((op_add rfl rfl (wrap_i64 (natbd h53 aa.bd))) _) rfl rfl ?_
   refine GoR.op ((op_move rfl) _) rfl rfl ?_
   refine GoR.nil ?_
   exact hX1 _ H _ _ ⟨Fn, n21, p19, c20, mE, n27, p25, c26, nl, n33, p31, c32, nm, n39, p37, c38, np, n45, p43, c44, eC, n51, p49, c50, eF, ⟨rfl, rfl, rfl, rfl, rfl, rfl, trivial⟩, hO, AX, aa, dk, cG, cv, ab, ca, bf, aX, ac, hB⟩
  replace H := ifn h81 H
  refine GoQ.stable rfl (olookF (a := r75) (MK.str Try.underlying9) 11 hO rfl Try.underlying69 ti3 rfl rfl h81) rfl rfl ?_
  refine GoQ.pure rfl (op_move rfl) rfl rfl ?_
  refine GoQ.pure rfl (op_extract rfl rfl) rfl rfl ?_
  refine GoQ.pure rfl (op_extract rfl rfl) rfl rfl ?_
  refine GoQ.pure rfl (op_assign rfl) rfl rfl ?_
  refine GoQ.pure rfl (op_assign rfl) rfl rfl ?_
  refine GoQ.nil ?_
  refine Go1.seq ?_
  refine Go1.region ?_
  refine GoR.op ((op_move rfl) _) rfl rfl ?_
  refine GoR.op ((op_nilCheck rfl) _) rfl rfl ?_
  refine GoR.op ((op_fieldAddr Try.underlying72 rfl ti70 rfl (by decide)) _) rfl rfl ?_
  refine GoR.op ((oblk (i := 10) 1 hO rfl rfl Try.underlying70 rfl rfl) _ (Same.refl _)) rfl rfl ?_
  refine GoR.op ((op_move rfl) _) rfl rfl ?_
  obtain ⟨y9, H⟩ := H
  obtain ⟨za, H⟩ := H
  refine GoR.op ((op_index Try.underlying70 ti9 rfl rfl y9 (ltn (bf.neq hO 8 rfl) za) (bf.psome hO 8 rfl y9 za)) _) rfl rfl ?_
  refine GoR.op ((oldStr 8 hO rfl bf y9 za Try.underlying9 rfl rfl) _ (Same.refl _)) rfl rfl ?_
  have hle227 := Els.str_le bf y9 za
  refine GoR.op ((op_move rfl) _) rfl rfl ?_
  obtain ⟨Ik, H⟩ := H
  refine GoR.op ((op_add rfl rfl (wrap_i64 Ik)) _) rfl rfl ?_
  refine GoR.op ((op_conv Try.underlying3 Try.underlying21 rfl rfl) _) rfl rfl ?_
  obtain ⟨Il, H⟩ := H
  obtain ⟨Im, H⟩ := H
  refine GoR.op ((op_convRS Try.underlying21 Try.underlying9 rfl Il Im) _) rfl rfl ?_
  obtain ⟨Au, H⟩ := H
  refine GoR.op ((op_addS rfl rfl Au) _) rfl rfl ?_
  refine GoR.op ((op_assign rfl) _) rfl rfl ?_
  refine GoR.nil ?_
  refine Go1.seq ?_
  refine Go1.block ?_
  refine Go1.seq ?_
  refine Go1.cut [(0, .pointer (some ⟨d4, 0, none⟩)), (3, .int .i64 a0.Enum.Done), (4, .slice p2 a0.Enum.Gens.length a0.Enum.Gens.length), (5, .int .i64 (k1_12 : Int)), (7, .slice ri r66.length rk), (8, .int .i64 (0 : Int)), (9, .bool false), (10, .string (gstr ((ix d_40 a0.Enum.Done) ++ (chr (IntKind.i32.wrap ((97 : Int) + (k1_12 : Int))))))), (27, .slice ap ao aq), (28, .int .i64 (a0.Enum.Gens.length : Int)), (29, .int .i64 (k1_12 : Int))] ⟨rfl, rfl, rfl, rfl, rfl, rfl, rfl, rfl, rfl, rfl, rfl, trivial⟩ ?_
  intro σ _
  refine Go1.region ?_
  refine GoR.op ((op_move rfl) _) rfl rfl ?_
  refine GoR.op ((op_not rfl) _) rfl rfl ?_
  refine GoR.op ((op_move rfl) _) rfl rfl ?_
  refine GoR.op ((op_move rfl) _) rfl rfl ?_
  refine GoR.op ((op_nilCheck rfl) _) rfl rfl ?_
  refine GoR.op ((op_fieldAddr Try.underlying72 rfl ti29 rfl (by decide)) _) rfl rfl ?_
  refine GoR.op ((op_fieldAddr Try.underlying29 rfl ti22 rfl (by decide)) _) rfl rfl ?_
  refine GoR.op ((oblk (i := 3) 1 hO rfl rfl Try.underlying22 rfl rfl) _ (Same.refl _)) rfl rfl ?_
  refine GoR.op ((op_lenN Try.underlying22 rfl (dk.neq hO 3 rfl)) _) rfl rfl ?_
  by_cases zb : (d_16.length : Int) = (2000 : Int)
  ·replace H := ifp zb H
   refine GoR.op ((fun w => opB (op_eql rfl rfl w) (decide_eq_true zb)) _) rfl rfl ?_
   refine GoR.op ((op_pickT rfl rfl rfl) _) rfl rfl ?_
   refine GoR.op ((op_assign rfl) _) rfl rfl ?_
   refine GoR.nil ?_
   refine Go1.condT rfl rfl ?_
   refine Go1.seq ?_
   refine Go1.region ?_
   refine GoR.op ((op_assign rfl) _) rfl rfl ?_
   refine GoR.nil ?_
   replace cj := cj.ch (Owns.dropCh _ _ 0)
   replace ck := ck.ch (Owns.dropCh _ _ 0)
   replace bK := bK.ch (Owns.dropCh _ _ 0)
   replace aa := aa.ch (Owns.dropCh _ _ 0)
   replace dk := dk.ch (Owns.dropCh _ _ 0)
   replace cG := cG.ch (Owns.dropCh _ _ 0)
   replace cv := cv.ch (Owns.dropCh _ _ 0)
   replace ab := ab.ch (Owns.dropCh _ _ 0)
   replace ca := ca.ch (Owns.dropCh _ _ 0)
   replace bf := bf.ch (Owns.dropCh _ _ 0)
   replace aX := aX.ch (Owns.dropCh _ _ 0)
   replace ac := ac.ch (Owns.dropCh _ _ 0)
   replace hB := hB.trans (Owns.dropFr _ _ 0)
   replace hO := hO.drop 0
   dsimp only [eS, eZ] at hB hO cj ck bK aa dk cG cv ab ca bf aX ac
   refine Go1.ret1 Try.func51 rfl ?_
   exact ⟨((3 : Int)), (⟨(⟨a0.Enum.Points, a0.Enum.Monoid, a0.Enum.Gens, d_16, d_22, d_28, a0.Enum.Right, d_34, a0.Enum.Done⟩ : Enum), m1_52, d_40, d_46, a0.single⟩ : run), ao, ap, aq, cL, n21, p19, c20, mE, n27, p25, c26, nl, n33, p31, c32, nm, aE, aU, aV, cE, n39, p37, c38, np, n45, p43, c44, eC, n51, p49, c50, eF, bD, bE, bF, dw, rfl, hO, aa, dk, cG, cv, ab, ca, bf, aX, ac, hB, H⟩
  replace H := ifn zb H
  refine GoR.op ((fun w => opB (op_eql rfl rfl w) (decide_eq_false zb)) _) rfl rfl ?_
  refine GoR.op ((op_pickT rfl rfl rfl) _) rfl rfl ?_
  refine GoR.op ((op_assign rfl) _) rfl rfl ?_
  refine GoR.nil ?_
  refine Go1.condF rfl rfl ?_
  refine Go1.seq ?_
  refine Go1.region ?_
  refine GoR.op ((op_move rfl) _) rfl rfl ?_
  refine GoR.op ((op_not rfl) _) rfl rfl ?_
  refine GoR.op ((op_assign rfl) _) rfl rfl ?_
  refine GoR.nil ?_
  refine Go1.condT rfl rfl ?_
  refine Go1.region ?_
  refine GoR.op ((op_move rfl) _) rfl rfl ?_
  refine GoR.op ((op_move rfl) _) rfl rfl ?_
  refine GoR.op ((op_move rfl) _) rfl rfl ?_
  refine GoR.op ((op_move rfl) _) rfl rfl ?_
  refine GoR.op ((op_move rfl) _) rfl rfl ?_
  refine GoR.op ((op_move rfl) _) rfl rfl ?_
  refine GoR.op ((op_move rfl) _) rfl rfl ?_
  refine GoR.op ((op_nilCheck rfl) _) rfl rfl ?_
  refine GoR.op ((op_fieldAddr Try.underlying72 rfl ti26 rfl (by decide)) _) rfl rfl ?_
  refine GoR.op ((oblk (i := 11) 1 hO rfl rfl Try.underlying26 rfl rfl) _ (Same.refl _)) rfl rfl ?_
  refine GoR.op ((op_move rfl) _) rfl rfl ?_
  obtain ⟨Aw, H⟩ := H
  obtain ⟨Ax, H⟩ := H
  refine GoR.op ((op_index Try.underlying26 ti3 rfl rfl Aw (ltn (aX.neq hO 9 rfl) Ax) (aX.psome hO 9 rfl Aw Ax)) _) rfl rfl ?_
  refine GoR.op ((oldInt 9 hO rfl aX Aw Ax Try.underlying3 rfl rfl) _ (Same.refl _)) rfl rfl ?_
  refine GoR.op ((op_move rfl) _) rfl rfl ?_
  refine GoR.inl (vs := [.pointer (some ⟨d4, 0, none⟩), .int .i64 (ix d_46 a0.Enum.Done), .int .i64 (k1_12 : Int)]) (caps := []) rfl rfl body66 Try.func66 rfl Try.ntmps66 rfl rfl rfl ?_
  intro RhR235 hR235
  refine Go1.seq ?_
  refine Go1.cut [(0, .pointer (some ⟨d4, 0, none⟩)), (1, .int .i64 (ix d_46 a0.Enum.Done)), (2, .int .i64 (k1_12 : Int))] ⟨rfl, rfl, rfl, trivial⟩ ?_
  intro σ _
  refine Go1.region ?_
  refine GoR.op ((op_assign rfl) _) rfl rfl ?_
  refine GoR.nil ?_
  refine Go1.seq ?_
  refine Go1.seq ?_
  refine Go1.region ?_
  refine GoR.op ((op_move rfl) _) rfl rfl ?_
  by_cases zc : (ix d_46 a0.Enum.Done) = (-1 : Int)
  ·replace H := ifp zc H
   refine GoR.op ((fun w => opB (op_eql rfl rfl w) (decide_eq_true zc)) _) rfl rfl ?_
   refine GoR.nil ?_
   refine Go1.condT rfl rfl ?_
   refine Go1.seq ?_
   refine Go1.region ?_
   refine GoR.op ((op_move rfl) _) rfl rfl ?_
   refine GoR.op ((op_nilCheck rfl) _) rfl rfl ?_
   refine GoR.op ((op_fieldAddr Try.underlying72 rfl ti26 rfl (by decide)) _) rfl rfl ?_
   refine GoR.op ((oblk (i := 12) 1 hO rfl rfl Try.underlying26 rfl rfl) _ (Same.refl _)) rfl rfl ?_
   refine GoR.op ((op_move rfl) _) rfl rfl ?_
   obtain ⟨Ay, H⟩ := H
   obtain ⟨Az, H⟩ := H
   refine GoR.op ((op_index Try.underlying26 ti3 rfl rfl Ay (ltn (ac.neq hO 10 rfl) Az) (ac.psome hO 10 rfl Ay Az)) _) rfl rfl ?_
   refine GoR.op ((oldInt 10 hO rfl ac Ay Az Try.underlying3 rfl rfl) _ (Same.refl _)) rfl rfl ?_
   refine GoR.op ((op_assign rfl) _) rfl rfl ?_
   refine GoR.nil ?_
   refine Go1.ret1V Try.func66 rfl (show _ = .int .i64 (ix a0.single (k1_12 : Int)) from rfl) ?_
   refine hR235 _ _ ?_
   refine GoR.inl (vs := [.pointer (some ⟨d4, 0, none⟩), .slice ri r66.length rk, .int .i64 a0.Enum.Done, .int .i64 (k1_12 : Int), .string (gstr ((ix d_40 a0.Enum.Done) ++ (chr (IntKind.i32.wrap ((97 : Int) + (k1_12 : Int)))))), .int .i64 (ix a0.single (k1_12 : Int))]) (caps := []) rfl rfl body65 Try.func65 rfl Try.ntmps65 rfl rfl rfl ?_
   intro RhR239 hR239
   refine Go1.seq ?_
   refine Go1.region ?_
   refine GoR.op ((op_assign rfl) _) rfl rfl ?_
   refine GoR.nil ?_
   refine Go1.seq ?_
   refine Go1.region ?_
   refine GoR.op ((op_move rfl) _) rfl rfl ?_
   refine GoR.op ((op_nilCheck rfl) _) rfl rfl ?_
   refine GoR.op ((op_fieldAddr Try.underlying72 rfl ti29 rfl (by decide)) _) rfl rfl ?_
   refine GoR.op ((op_fieldAddr Try.underlying29 rfl ti22 rfl (by decide)) _) rfl rfl ?_
   refine GoR.op ((oblk (i := 3) 1 hO rfl rfl Try.underlying22 rfl rfl) _ (Same.refl _)) rfl rfl ?_
   refine GoR.op ((op_lenN Try.underlying22 rfl (dk.neq hO 3 rfl)) _) rfl rfl ?_
   refine GoR.op ((op_assign rfl) _) rfl rfl ?_
   refine GoR.nil ?_
   refine Go1.seq ?_
   refine Go1.cut [(0, .pointer (some ⟨d4, 0, none⟩)), (1, .slice ri r66.length rk), (2, .int .i64 a0.Enum.Done), (3, .int .i64 (k1_12 : Int)), (4, .string (gstr ((ix d_40 a0.Enum.Done) ++ (chr (IntKind.i32.wrap ((97 : Int) + (k1_12 : Int))))))), (5, .int .i64 (ix a0.single (k1_12 : Int))), (13, .int .i64 (d_16.length : Int))] ⟨rfl, rfl, rfl, rfl, rfl, rfl, rfl, trivial⟩ ?_
   intro σ _
   refine Go1.drawS 1 [(0, .pure), (1, .pure), (2, .pure), (3, .stable), (4, .pure), (6, .pure), (5, .loud), (7, .last)] mixed (by kernel_rfl) ?_
   intro Hy yK
   have nt := Stp.same hO yK
   replace b6 := b6.ch nt.ch
   replace aa := aa.ch nt.ch
   replace dk := dk.ch nt.ch
   replace cG := cG.ch nt.ch
   replace cv := cv.ch nt.ch
   replace ab := ab.ch nt.ch
   replace ca := ca.ch nt.ch
   replace bf := bf.ch nt.ch
   replace aX := aX.ch nt.ch
   replace ac := ac.ch nt.ch
   replace hO := nt.own
   replace cj := cj.ch nt.ch
   replace ck := ck.ch nt.ch
   replace bK := bK.ch nt.ch
   replace hB := hB.trans nt.fr
   refine GoQ.pure rfl (op_move rfl) rfl rfl ?_
   refine GoQ.pure rfl (op_nilCheck rfl) rfl rfl ?_
   refine GoQ.pure rfl (op_fieldAddr Try.underlying72 rfl ti69 rfl (by decide)) rfl rfl ?_
   refine GoQ.stable rfl (oblk (i := 9) 1 hO rfl rfl Try.underlying69 rfl rfl) rfl rfl ?_
   refine GoQ.pure rfl (op_move rfl) rfl rfl ?_
   refine GoQ.pure rfl (op_move rfl) rfl rfl ?_
   refine GoQ.call rfl (op_call body61 rfl (walk_enumerate_text hO.lt bK H)) (fun v w hr => by obtain ⟨_, _, hs, _, _⟩ := hr; assumption) rfl rfl ?_
   rintro LH LI ⟨r243, rfl, Fo, Jb, H⟩
   have nu := Stp.same hO Fo
   replace b6 := b6.ch nu.ch
   replace aa := aa.ch nu.ch
   replace dk := dk.ch nu.ch
   replace cG := cG.ch nu.ch
   replace cv := cv.ch nu.ch
   replace ab := ab.ch nu.ch
   replace ca := ca.ch nu.ch
   replace bf := bf.ch nu.ch
   replace aX := aX.ch nu.ch
   replace ac := ac.ch nu.ch
   replace hO := nu.own
   replace cj := cj.ch nu.ch
   replace ck := ck.ch nu.ch
   replace bK := bK.ch nu.ch
   replace hB := hB.trans nu.fr
   have hobt := omapUpd (MK.str Try.underlying9) 11 hO rfl Try.underlying69 r243 (d_16.length : Int)
   obtain ⟨LJ, mV, CD⟩ := hobt
   dsimp only [sS, sZ] at mV
   refine GoQ.last rfl (CD (by exact rfl) (by exact rfl) (by exact rfl)) rfl rfl ?_
   replace b6 := b6.ch mV.ch
   replace aa := aa.ch mV.ch
   replace dk := dk.ch mV.ch
   replace cG := cG.ch mV.ch
   replace cv := cv.ch mV.ch
   replace ab := ab.ch mV.ch
   replace ca := ca.ch mV.ch
   replace bf := bf.ch mV.ch
   replace aX := aX.ch mV.ch
   replace ac := ac.ch mV.ch
   replace hO := mV.own
   replace cj := cj.ch mV.ch
   replace ck := ck.ch mV.ch
   replace bK := bK.ch mV.ch
   replace hB := hB.trans mV.fr
   refine GoQ.nil ?_
   refine Go1.seq ?_
   refine Go1.region ?_
   refine GoR.op ((op_move rfl) _) rfl rfl ?_
   refine GoR.op ((op_move rfl) _) rfl rfl ?_
   refine GoR.op ((op_nilCheck rfl) _) rfl rfl ?_
   refine GoR.op ((op_fieldAddr Try.underlying72 rfl ti29 rfl (by decide)) _) rfl rfl ?_
   refine GoR.op ((op_fieldAddr Try.underlying29 rfl ti22 rfl (by decide)) _) rfl rfl ?_
   refine GoR.op ((oblk (i := 3) 1 hO rfl rfl Try.underlying22 rfl rfl) _ (Same.refl _)) rfl rfl ?_
   refine GoR.op ((op_move rfl) _) rfl rfl ?_
   have hobt := obuild (r := Rp.sl (Rp.int .i64)) (n := 1) (parts := [(0, .slice ri r66.length rk)]) (vs := [.slice ri r66.length rk]) (xs := [r66]) rfl Try.underlying22 ti26 hO (by decide) (by kernel_rfl) (Els.cons rfl ⟨ri, rk, rfl, bK⟩ (Els.nil _ _ _) (by simp [mx])) rfl
   obtain ⟨LK, LM, nv, Fp, JC, CE⟩ := hobt
   refine GoR.op (CE rfl) rfl rfl ?_
   replace b6 := b6.ch nv.ch
   replace aa := aa.ch nv.ch
   replace dk := dk.ch nv.ch
   replace cG := cG.ch nv.ch
   replace cv := cv.ch nv.ch
   replace ab := ab.ch nv.ch
   replace ca := ca.ch nv.ch
   replace bf := bf.ch nv.ch
   replace aX := aX.ch nv.ch
   replace ac := ac.ch nv.ch
   replace hO := nv.own
   replace cj := cj.ch nv.ch
   replace ck := ck.ch nv.ch
   replace bK := bK.ch nv.ch
   replace hB := hB.trans nv.fr
   have hobt := freeze 0 hO rfl Fp
   obtain ⟨hO1, qK, fy, Fq⟩ := hobt
   dsimp only [eS, eZ] at hO1 qK fy
   replace cj := cj.ch qK
   replace ck := ck.ch qK
   replace bK := bK.ch qK
   replace b6 := b6.ch qK
   replace aa := aa.ch qK
   replace dk := dk.ch qK
   replace cG := cG.ch qK
   replace cv := cv.ch qK
   replace ab := ab.ch qK
   replace ca := ca.ch qK
   replace bf := bf.ch qK
   replace aX := aX.ch qK
   replace ac := ac.ch qK
   replace hB := hB.trans (Owns.dropFr _ _ 0)
   dsimp only [eS, eZ] at hB
   replace hO := hO1; clear hO1
   obtain ⟨Io, H⟩ := H
   have hobt := oapp Try.underlying22 ti26 rfl 3 hO rfl dk fy Fq Io (by decide)
   obtain ⟨LN, wh, wi, Fs, mW, fH, CF⟩ := hobt
   dsimp only [sS, sZ] at mW fH
   refine GoR.op (CF (by exact rfl) (by exact rfl)) rfl rfl ?_
   replace b6 := b6.ch mW.ch
   replace aa := aa.ch mW.ch
   replace cG := cG.ch mW.ch
   replace cv := cv.ch mW.ch
   replace ab := ab.ch mW.ch
   replace ca := ca.ch mW.ch
   replace bf := bf.ch mW.ch
   replace aX := aX.ch mW.ch
   replace ac := ac.ch mW.ch
   replace hO := mW.own
   replace cj := cj.ch mW.ch
   replace ck := ck.ch mW.ch
   replace bK := bK.ch mW.ch
   replace fy := fy.ch mW.ch
   replace hB := hB.trans mW.fr
   refine GoR.op ((op_nilCheck rfl) _) rfl rfl ?_
   refine GoR.op ((op_fieldAddr Try.underlying72 rfl ti29 rfl (by decide)) _) rfl rfl ?_
   refine GoR.op ((op_fieldAddr Try.underlying29 rfl ti22 rfl (by decide)) _) rfl rfl ?_
   have hobt := oblkSt2 (v := .slice wh (n21 + 1) wi) (i := 3) (cs' := #[.int .i64 a0.Enum.Points, .bool a0.Enum.Monoid, .slice ap ao aq, .slice wh (n21 + 1) wi, .slice p25 n27 c26, .slice p31 n33 c32, .slice aU aE aV, .slice p37 n39 c38, .int .i64 a0.Enum.Done, .map (some aW), .slice p43 n45 c44, .slice p49 n51 c50, .slice bE bD bF]) 1 hO rfl rfl rfl rfl
   obtain ⟨LO, lR, CG⟩ := hobt
   dsimp only [sS, sZ] at lR
   refine GoR.op (CG Try.underlying22 rfl ti22 (by exact rfl) (by exact rfl)) rfl rfl ?_
   replace b6 := b6.ch lR.ch
   replace aa := aa.ch lR.ch
   replace fH := fH.ch lR.ch
   replace cG := cG.ch lR.ch
   replace cv := cv.ch lR.ch
   replace ab := ab.ch lR.ch
   replace ca := ca.ch lR.ch
   replace bf := bf.ch lR.ch
   replace aX := aX.ch lR.ch
   replace ac := ac.ch lR.ch
   replace hO := lR.own
   replace cj := cj.ch lR.ch
   replace ck := ck.ch lR.ch
   replace bK := bK.ch lR.ch
   replace fy := fy.ch lR.ch
   replace hB := hB.trans lR.fr
   refine GoR.nil ?_
   refine Go1.seq ?_
   refine Go1.cut [(0, .pointer (some ⟨d4, 0, none⟩)), (2, .int .i64 a0.Enum.Done), (3, .int .i64 (k1_12 : Int)), (4, .string (gstr ((ix d_40 a0.Enum.Done) ++ (chr (IntKind.i32.wrap ((97 : Int) + (k1_12 : Int))))))), (5, .int .i64 (ix a0.single (k1_12 : Int))), (13, .int .i64 (d_16.length : Int))] ⟨rfl, rfl, rfl, rfl, rfl, rfl, trivial⟩ ?_
   intro σ _
   refine Go1.region ?_
   refine GoR.op ((op_move rfl) _) rfl rfl ?_
   refine GoR.op ((op_move rfl) _) rfl rfl ?_
   refine GoR.op ((op_nilCheck rfl) _) rfl rfl ?_
   refine GoR.op ((op_fieldAddr Try.underlying72 rfl ti29 rfl (by decide)) _) rfl rfl ?_
   refine GoR.op ((op_fieldAddr Try.underlying29 rfl ti26 rfl (by decide)) _) rfl rfl ?_
   refine GoR.op ((oblk (i := 4) 1 hO rfl rfl Try.underlying26 rfl rfl) _ (Same.refl _)) rfl rfl ?_
   refine GoR.op ((op_move rfl) _) rfl rfl ?_
   have hobt := obuild (r := Rp.int .i64) (n := 1) (parts := [(0, .int .i64 a0.Enum.Done)]) (vs := [.int .i64 a0.Enum.Done]) (xs := [a0.Enum.Done]) rfl Try.underlying26 ti3 hO (by decide) (by kernel_rfl) (Els.cons rfl rfl (Els.nil _ _ _) (by simp [mx])) rfl
   obtain ⟨LP, LQ, mX, Ft, JD, CH⟩ := hobt
   refine GoR.op (CH rfl) rfl rfl ?_
   replace b6 := b6.ch mX.ch
   replace aa := aa.ch mX.ch
   replace fH := fH.ch mX.ch
   replace cG := cG.ch mX.ch
   replace cv := cv.ch mX.ch
   replace ab := ab.ch mX.ch
   replace ca := ca.ch mX.ch
   replace bf := bf.ch mX.ch
   replace aX := aX.ch mX.ch
   replace ac := ac.ch mX.ch
   replace hO := mX.own
   replace cj := cj.ch mX.ch
   replace ck := ck.ch mX.ch
   replace bK := bK.ch mX.ch
   replace fy := fy.ch mX.ch
   replace hB := hB.trans mX.fr
   have hobt := freeze 0 hO rfl Ft
   obtain ⟨hO1, pm, gV, Fu⟩ := hobt
   dsimp only [eS, eZ] at hO1 pm gV
   replace cj := cj.ch pm
   replace ck := ck.ch pm
   replace bK := bK.ch pm
   replace fy := fy.ch pm
   replace b6 := b6.ch pm
   replace aa := aa.ch pm
   replace fH := fH.ch pm
   replace cG := cG.ch pm
   replace cv := cv.ch pm
   replace ab := ab.ch pm
   replace ca := ca.ch pm
   replace bf := bf.ch pm
   replace aX := aX.ch pm
   replace ac := ac.ch pm
   replace hB := hB.trans (Owns.dropFr _ _ 0)
   dsimp only [eS, eZ] at hB
   replace hO := hO1; clear hO1
   obtain ⟨Ip, H⟩ := H
   have hobt := oapp Try.underlying26 ti3 rfl 4 hO rfl cG gV Fu Ip (by decide)
   obtain ⟨LS, xh, xi, Fv, lT, iI, CJ⟩ := hobt
   dsimp only [sS, sZ] at lT iI
   refine GoR.op (CJ (by exact rfl) (by exact rfl)) rfl rfl ?_
   replace b6 := b6.ch lT.ch
   replace aa := aa.ch lT.ch
   replace fH := fH.ch lT.ch
   replace cv := cv.ch lT.ch
   replace ab := ab.ch lT.ch
   replace ca := ca.ch lT.ch
   replace bf := bf.ch lT.ch
   replace aX := aX.ch lT.ch
   replace ac := ac.ch lT.ch
   replace hO := lT.own
   replace cj := cj.ch lT.ch
   replace ck := ck.ch lT.ch
   replace bK := bK.ch lT.ch
   replace fy := fy.ch lT.ch
   replace gV := gV.ch lT.ch
   replace hB := hB.trans lT.fr
   refine GoR.op ((op_nilCheck rfl) _) rfl rfl ?_
   refine GoR.op ((op_fieldAddr Try.underlying72 rfl ti29 rfl (by decide)) _) rfl rfl ?_
   refine GoR.op ((op_fieldAddr Try.underlying29 rfl ti26 rfl (by decide)) _) rfl rfl ?_
   have hobt := oblkSt2 (v := .slice xh (n27 + 1) xi) (i := 4) (cs' := #[.int .i64 a0.Enum.Points, .bool a0.Enum.Monoid, .slice ap ao aq, .slice wh (n21 + 1) wi, .slice xh (n27 + 1) xi, .slice p31 n33 c32, .slice aU aE aV, .slice p37 n39 c38, .int .i64 a0.Enum.Done, .map (some aW), .slice p43 n45 c44, .slice p49 n51 c50, .slice bE bD bF]) 1 hO rfl rfl rfl rfl
   obtain ⟨LT, lw, CK⟩ := hobt
   dsimp only [sS, sZ] at lw
   refine GoR.op (CK Try.underlying26 rfl ti26 (by exact rfl) (by exact rfl)) rfl rfl ?_
   replace b6 := b6.ch lw.ch
   replace aa := aa.ch lw.ch
   replace fH := fH.ch lw.ch
   replace iI := iI.ch lw.ch
   replace cv := cv.ch lw.ch
   replace ab := ab.ch lw.ch
   replace ca := ca.ch lw.ch
   replace bf := bf.ch lw.ch
   replace aX := aX.ch lw.ch
   replace ac := ac.ch lw.ch
   replace hO := lw.own
   replace cj := cj.ch lw.ch
   replace ck := ck.ch lw.ch
   replace bK := bK.ch lw.ch
   replace fy := fy.ch lw.ch
   replace gV := gV.ch lw.ch
   replace hB := hB.trans lw.fr
   refine GoR.nil ?_
   refine Go1.seq ?_
   refine Go1.region ?_
   refine GoR.op ((op_move rfl) _) rfl rfl ?_
   refine GoR.op ((op_move rfl) _) rfl rfl ?_
   refine GoR.op ((op_nilCheck rfl) _) rfl rfl ?_
   refine GoR.op ((op_fieldAddr Try.underlying72 rfl ti29 rfl (by decide)) _) rfl rfl ?_
   refine GoR.op ((op_fieldAddr Try.underlying29 rfl ti26 rfl (by decide)) _) rfl rfl ?_
   refine GoR.op ((oblk (i := 5) 1 hO rfl rfl Try.underlying26 rfl rfl) _ (Same.refl _)) rfl rfl ?_
   refine GoR.op ((op_move rfl) _) rfl rfl ?_
   have hobt := obuild (r := Rp.int .i64) (n := 1) (parts := [(0, .int .i64 (k1_12 : Int))]) (vs := [.int .i64 (k1_12 : Int)]) (xs := [(k1_12 : Int)]) rfl Try.underlying26 ti3 hO (by decide) (by kernel_rfl) (Els.cons rfl rfl (Els.nil _ _ _) (by simp [mx])) rfl
   obtain ⟨LU, LV, lU, Fw, AY, CM⟩ := hobt
   refine GoR.op (CM rfl) rfl rfl ?_
   replace b6 := b6.ch lU.ch
   replace aa := aa.ch lU.ch
   replace fH := fH.ch lU.ch
   replace iI := iI.ch lU.ch
   replace cv := cv.ch lU.ch
   replace ab := ab.ch lU.ch
   replace ca := ca.ch lU.ch
   replace bf := bf.ch lU.ch
   replace aX := aX.ch lU.ch
   replace ac := ac.ch lU.ch
   replace hO := lU.own
   replace cj := cj.ch lU.ch
   replace ck := ck.ch lU.ch
   replace bK := bK.ch lU.ch
   replace fy := fy.ch lU.ch
   replace gV := gV.ch lU.ch
   replace hB := hB.trans lU.fr
   have hobt := freeze 0 hO rfl Fw
   obtain ⟨hO1, oc, ki, Fx⟩ := hobt
   dsimp only [eS, eZ] at hO1 oc ki
   replace cj := cj.ch oc
   replace ck := ck.ch oc
   replace bK := bK.ch oc
   replace fy := fy.ch oc
   replace gV := gV.ch oc
   replace b6 := b6.ch oc
   replace aa := aa.ch oc
   replace fH := fH.ch oc
   replace iI := iI.ch oc
   replace cv := cv.ch oc
   replace ab := ab.ch oc
   replace ca := ca.ch oc
   replace bf := bf.ch oc
   replace aX := aX.ch oc
   replace ac := ac.ch oc
   replace hB := hB.trans (Owns.dropFr _ _ 0)
   dsimp only [eS, eZ] at hB
   replace hO := hO1; clear hO1
   obtain ⟨Iq, H⟩ := H
   have hobt := oapp Try.underlying26 ti3 rfl 5 hO rfl cv ki Fx Iq (by decide)
   obtain ⟨LW, x8, x9, Fy, lx, lh, CO⟩ := hobt
   dsimp only [sS, sZ] at lx lh
   refine GoR.op (CO (by exact rfl) (by exact rfl)) rfl rfl ?_
   replace b6 := b6.ch lx.ch
   replace aa := aa.ch lx.ch
   replace fH := fH.ch lx.ch
   replace iI := iI.ch lx.ch
   replace ab := ab.ch lx.ch
   replace ca := ca.ch lx.ch
   replace bf := bf.ch lx.ch
   replace aX := aX.ch lx.ch
   replace ac := ac.ch lx.ch
   replace hO := lx.own
   replace cj := cj.ch lx.ch
   replace ck := ck.ch lx.ch
   replace bK := bK.ch lx.ch
   replace fy := fy.ch lx.ch
   replace gV := gV.ch lx.ch
   replace ki := ki.ch lx.ch
   replace hB := hB.trans lx.fr
   refine GoR.op ((op_nilCheck rfl) _) rfl rfl ?_
   refine GoR.op ((op_fieldAddr Try.underlying72 rfl ti29 rfl (by decide)) _) rfl rfl ?_
   refine GoR.op ((op_fieldAddr Try.underlying29 rfl ti26 rfl (by decide)) _) rfl rfl ?_
   have hobt := oblkSt2 (v := .slice x8 (n33 + 1) x9) (i := 5) (cs' := #[.int .i64 a0.Enum.Points, .bool a0.Enum.Monoid, .slice ap ao aq, .slice wh (n21 + 1) wi, .slice xh (n27 + 1) xi, .slice x8 (n33 + 1) x9, .slice aU aE aV, .slice p37 n39 c38, .int .i64 a0.Enum.Done, .map (some aW), .slice p43 n45 c44, .slice p49 n51 c50, .slice bE bD bF]) 1 hO rfl rfl rfl rfl
   obtain ⟨LX, kG, CP⟩ := hobt
   dsimp only [sS, sZ] at kG
   refine GoR.op (CP Try.underlying26 rfl ti26 (by exact rfl) (by exact rfl)) rfl rfl ?_
   replace b6 := b6.ch kG.ch
   replace aa := aa.ch kG.ch
   replace fH := fH.ch kG.ch
   replace iI := iI.ch kG.ch
   replace lh := lh.ch kG.ch
   replace ab := ab.ch kG.ch
   replace ca := ca.ch kG.ch
   replace bf := bf.ch kG.ch
   replace aX := aX.ch kG.ch
   replace ac := ac.ch kG.ch
   replace hO := kG.own
   replace cj := cj.ch kG.ch
   replace ck := ck.ch kG.ch
   replace bK := bK.ch kG.ch
   replace fy := fy.ch kG.ch
   replace gV := gV.ch kG.ch
   replace ki := ki.ch kG.ch
   replace hB := hB.trans kG.fr
   refine GoR.nil ?_
   refine Go1.seq ?_
   refine Go1.cut [(0, .pointer (some ⟨d4, 0, none⟩)), (4, .string (gstr ((ix d_40 a0.Enum.Done) ++ (chr (IntKind.i32.wrap ((97 : Int) + (k1_12 : Int))))))), (5, .int .i64 (ix a0.single (k1_12 : Int))), (13, .int .i64 (d_16.length : Int))] ⟨rfl, rfl, rfl, rfl, trivial⟩ ?_
   intro σ _
   refine Go1.region ?_
   refine GoR.op ((op_move rfl) _) rfl rfl ?_
   refine GoR.op ((op_move rfl) _) rfl rfl ?_
   refine GoR.op ((op_nilCheck rfl) _) rfl rfl ?_
   refine GoR.op ((op_fieldAddr Try.underlying72 rfl ti70 rfl (by decide)) _) rfl rfl ?_
   refine GoR.op ((oblk (i := 10) 1 hO rfl rfl Try.underlying70 rfl rfl) _ (Same.refl _)) rfl rfl ?_
   refine GoR.op ((op_move rfl) _) rfl rfl ?_
   have hobt := obuild (r := Rp.str) (n := 1) (parts := [(0, .string (gstr ((ix d_40 a0.Enum.Done) ++ (chr (IntKind.i32.wrap ((97 : Int) + (k1_12 : Int)))))))]) (vs := [.string (gstr ((ix d_40 a0.Enum.Done) ++ (chr (IntKind.i32.wrap ((97 : Int) + (k1_12 : Int))))))]) (xs := [(ix d_40 a0.Enum.Done) ++ (chr (IntKind.i32.wrap ((97 : Int) + (k1_12 : Int))))]) rfl Try.underlying70 ti9 hO (by decide) (by kernel_rfl) (Els.cons rfl ⟨rfl, (lenApp Au)⟩ (Els.nil _ _ _) (by simp [mx])) rfl
   obtain ⟨LY, LZ, ly, Fz, JE, CQ⟩ := hobt
   refine GoR.op (CQ rfl) rfl rfl ?_
   replace b6 := b6.ch ly.ch
   replace aa := aa.ch ly.ch
   replace fH := fH.ch ly.ch
   replace iI := iI.ch ly.ch
   replace lh := lh.ch ly.ch
   replace ab := ab.ch ly.ch
   replace ca := ca.ch ly.ch
   replace bf := bf.ch ly.ch
   replace aX := aX.ch ly.ch
   replace ac := ac.ch ly.ch
   replace hO := ly.own
   replace cj := cj.ch ly.ch
   replace ck := ck.ch ly.ch
   replace bK := bK.ch ly.ch
   replace fy := fy.ch ly.ch
   replace gV := gV.ch ly.ch
   replace ki := ki.ch ly.ch
   replace hB := hB.trans ly.fr
   have hobt := freeze 0 hO rfl Fz
   obtain ⟨hO1, nO, od, FA⟩ := hobt
   dsimp only [eS, eZ] at hO1 nO od
   replace cj := cj.ch nO
   replace ck := ck.ch nO
   replace bK := bK.ch nO
   replace fy := fy.ch nO
   replace gV := gV.ch nO
   replace ki := ki.ch nO
   replace b6 := b6.ch nO
   replace aa := aa.ch nO
   replace fH := fH.ch nO
   replace iI := iI.ch nO
   replace lh := lh.ch nO
   replace ab := ab.ch nO
   replace ca := ca.ch nO
   replace bf := bf.ch nO
   replace aX := aX.ch nO
   replace ac := ac.ch nO
   replace hB := hB.trans (Owns.dropFr _ _ 0)
   dsimp only [eS, eZ] at hB
   replace hO := hO1; clear hO1
   obtain ⟨Ir, H⟩ := H
   have hobt := oapp Try.underlying70 ti9 rfl 8 hO rfl bf od FA Ir (by decide)
   obtain ⟨L1, zd, zf, FB, kI, qL, CR⟩ := hobt
   dsimp only [sS, sZ] at kI qL
   refine GoR.op (CR (by exact rfl) (by exact rfl)) rfl rfl ?_
   replace b6 := b6.ch kI.ch
   replace aa := aa.ch kI.ch
   replace fH := fH.ch kI.ch
   replace iI := iI.ch kI.ch
   replace lh := lh.ch kI.ch
   replace ab := ab.ch kI.ch
   replace ca := ca.ch kI.ch
   replace aX := aX.ch kI.ch
   replace ac := ac.ch kI.ch
   replace hO := kI.own
   replace cj := cj.ch kI.ch
   replace ck := ck.ch kI.ch
   replace bK := bK.ch kI.ch
   replace fy := fy.ch kI.ch
   replace gV := gV.ch kI.ch
   replace ki := ki.ch kI.ch
   replace od := od.ch kI.ch
   replace hB := hB.trans kI.fr
   refine GoR.op ((op_nilCheck rfl) _) rfl rfl ?_
   refine GoR.op ((op_fieldAddr Try.underlying72 rfl ti70 rfl (by decide)) _) rfl rfl ?_
   have hobt := oblkSt2 (v := .slice zd (n45 + 1) zf) (i := 10) (cs' := #[.int .i64 a0.Enum.Points, .bool a0.Enum.Monoid, .slice ap ao aq, .slice wh (n21 + 1) wi, .slice xh (n27 + 1) xi, .slice x8 (n33 + 1) x9, .slice aU aE aV, .slice p37 n39 c38, .int .i64 a0.Enum.Done, .map (some aW), .slice zd (n45 + 1) zf, .slice p49 n51 c50, .slice bE bD bF]) 1 hO rfl rfl rfl rfl
   obtain ⟨L5, ka, CT⟩ := hobt
   dsimp only [sS, sZ] at ka
   refine GoR.op (CT Try.underlying70 rfl ti70 (by exact rfl) (by exact rfl)) rfl rfl ?_
   replace b6 := b6.ch ka.ch
   replace aa := aa.ch ka.ch
   replace fH := fH.ch ka.ch
   replace iI := iI.ch ka.ch
   replace lh := lh.ch ka.ch
   replace ab := ab.ch ka.ch
   replace ca := ca.ch ka.ch
   replace qL := qL.ch ka.ch
   replace aX := aX.ch ka.ch
   replace ac := ac.ch ka.ch
   replace hO := ka.own
   replace cj := cj.ch ka.ch
   replace ck := ck.ch ka.ch
   replace bK := bK.ch ka.ch
   replace fy := fy.ch ka.ch
   replace gV := gV.ch ka.ch
   replace ki := ki.ch ka.ch
   replace od := od.ch ka.ch
   replace hB := hB.trans ka.fr
   refine GoR.nil ?_
   refine Go1.seq ?_
   refine Go1.region ?_
   refine GoR.op ((op_move rfl) _) rfl rfl ?_
   refine GoR.op ((op_move rfl) _) rfl rfl ?_
   refine GoR.op ((op_nilCheck rfl) _) rfl rfl ?_
   refine GoR.op ((op_fieldAddr Try.underlying72 rfl ti26 rfl (by decide)) _) rfl rfl ?_
   refine GoR.op ((oblk (i := 11) 1 hO rfl rfl Try.underlying26 rfl rfl) _ (Same.refl _)) rfl rfl ?_
   refine GoR.op ((op_move rfl) _) rfl rfl ?_
   have hobt := obuild (r := Rp.int .i64) (n := 1) (parts := [(0, .int .i64 (ix a0.single (k1_12 : Int)))]) (vs := [.int .i64 (ix a0.single (k1_12 : Int))]) (xs := [(ix a0.single (k1_12 : Int))]) rfl Try.underlying26 ti3 hO (by decide) (by kernel_rfl) (Els.cons rfl rfl (Els.nil _ _ _) (by simp [mx])) rfl
   obtain ⟨L6, L7, kK, FC, JF, CU⟩ := hobt
   refine GoR.op (CU rfl) rfl rfl ?_
   replace b6 := b6.ch kK.ch
   replace aa := aa.ch kK.ch
   replace fH := fH.ch kK.ch
   replace iI := iI.ch kK.ch
   replace lh := lh.ch kK.ch
   replace ab := ab.ch kK.ch
   replace ca := ca.ch kK.ch
   replace qL := qL.ch kK.ch
   replace aX := aX.ch kK.ch
   replace ac := ac.ch kK.ch
   replace hO := kK.own
   replace cj := cj.ch kK.ch
   replace ck := ck.ch kK.ch
   replace bK := bK.ch kK.ch
   replace fy := fy.ch kK.ch
   replace gV := gV.ch kK.ch
   replace ki := ki.ch kK.ch
   replace od := od.ch kK.ch
   replace hB := hB.trans kK.fr
   have hobt := freeze 0 hO rfl FC
   obtain ⟨hO1, nA, tV, FD⟩ := hobt
   dsimp only [eS, eZ] at hO1 nA tV
   replace cj := cj.ch nA
   replace ck := ck.ch nA
   replace bK := bK.ch nA
   replace fy := fy.ch nA
   replace gV := gV.ch nA
   replace ki := ki.ch nA
   replace od := od.ch nA
   replace b6 := b6.ch nA
   replace aa := aa.ch nA
   replace fH := fH.ch nA
   replace iI := iI.ch nA
   replace lh := lh.ch nA
   replace ab := ab.ch nA
   replace ca := ca.ch nA
   replace qL := qL.ch nA
   replace aX := aX.ch nA
   replace ac := ac.ch nA
   replace hB := hB.trans (Owns.dropFr _ _ 0)
   dsimp only [eS, eZ] at hB
   replace hO := hO1; clear hO1
   obtain ⟨It, H⟩ := H
   have hobt := oapp Try.underlying26 ti3 rfl 9 hO rfl aX tV FD It (by decide)
   obtain ⟨L8, AA, AB, FE, kc, vy, CV⟩ := hobt
   dsimp only [sS, sZ] at kc vy
   refine GoR.op (CV (by exact rfl) (by exact rfl)) rfl rfl ?_
   replace b6 := b6.ch kc.ch
   replace aa := aa.ch kc.ch
   replace fH := fH.ch kc.ch
   replace iI := iI.ch kc.ch
   replace lh := lh.ch kc.ch
   replace ab := ab.ch kc.ch
   replace ca := ca.ch kc.ch
   replace qL := qL.ch kc.ch
   replace ac := ac.ch kc.ch
   replace hO := kc.own
   replace cj := cj.ch kc.ch
   replace ck := ck.ch kc.ch
   replace bK := bK.ch kc.ch
   replace fy := fy.ch kc.ch
   replace gV := gV.ch kc.ch
   replace ki := ki.ch kc.ch
   replace od := od.ch kc.ch
   replace tV := tV.ch kc.ch
   replace hB := hB.trans kc.fr
   refine GoR.op ((op_nilCheck rfl) _) rfl rfl ?_
   refine GoR.op ((op_fieldAddr Try.underlying72 rfl ti26 rfl (by decide)) _) rfl rfl ?_
   have hobt := oblkSt2 (v := .slice AA (n51 + 1) AB) (i := 11) (cs' := #[.int .i64 a0.Enum.Points, .bool a0.Enum.Monoid, .slice ap ao aq, .slice wh (n21 + 1) wi, .slice xh (n27 + 1) xi, .slice x8 (n33 + 1) x9, .slice aU aE aV, .slice p37 n39 c38, .int .i64 a0.Enum.Done, .map (some aW), .slice zd (n45 + 1) zf, .slice AA (n51 + 1) AB, .slice bE bD bF]) 1 hO rfl rfl rfl rfl
   obtain ⟨L9, jt, CW⟩ := hobt
   dsimp only [sS, sZ] at jt
   refine GoR.op (CW Try.underlying26 rfl ti26 (by exact rfl) (by exact rfl)) rfl rfl ?_
   replace b6 := b6.ch jt.ch
   replace aa := aa.ch jt.ch
   replace fH := fH.ch jt.ch
   replace iI := iI.ch jt.ch
   replace lh := lh.ch jt.ch
   replace ab := ab.ch jt.ch
   replace ca := ca.ch jt.ch
   replace qL := qL.ch jt.ch
   replace vy := vy.ch jt.ch
   replace ac := ac.ch jt.ch
   replace hO := jt.own
   replace cj := cj.ch jt.ch
   replace ck := ck.ch jt.ch
   replace bK := bK.ch jt.ch
   replace fy := fy.ch jt.ch
   replace gV := gV.ch jt.ch
   replace ki := ki.ch jt.ch
   replace od := od.ch jt.ch
   replace tV := tV.ch jt.ch
   replace hB := hB.trans jt.fr
   refine GoR.nil ?_
   refine Go1.seq ?_
   refine Go1.cut [(13, .int .i64 (d_16.length : Int))] ⟨rfl, trivial⟩ ?_
   intro σ _
   refine Go1.region ?_
   refine GoR.op ((op_move rfl) _) rfl rfl ?_
   refine GoR.op ((op_assign rfl) _) rfl rfl ?_
   refine GoR.nil ?_
   refine Go1.ret1V Try.func65 rfl (show _ = .int .i64 (d_16.length : Int) from rfl) ?_
   refine hR239 _ _ ?_
   refine GoR.op ((op_assign rfl) _) rfl rfl ?_
   refine GoR.nil ?_
   refine Go1.inBlock ?_
   refine Go1.region ?_
   refine GoR.op ((op_move rfl) _) rfl rfl ?_
   refine GoR.op ((op_move rfl) _) rfl rfl ?_
   refine GoR.op ((op_move rfl) _) rfl rfl ?_
   obtain ⟨AC, H⟩ := H
   obtain ⟨AD, H⟩ := H
   refine GoR.op ((op_index Try.underlying26 ti3 rfl rfl AC (ltn (b6.neq hO 0 rfl) AD) (b6.psome hO 0 rfl AC AD)) _) rfl rfl ?_
   have hobt := ost (r := Rp.int .i64) rfl 0 hO rfl b6 AC AD (v := .int .i64 (d_16.length : Int)) (u := (d_16.length : Int)) rfl rfl
   obtain ⟨Ma, FF, kd, AZ, CX⟩ := hobt
   dsimp only [sS, sZ] at kd AZ
   refine GoR.op (CX Try.underlying3 rfl ti3 (by exact rfl) (by exact rfl)) rfl rfl ?_
   replace aa := aa.ch kd.ch
   replace fH := fH.ch kd.ch
   replace iI := iI.ch kd.ch
   replace lh := lh.ch kd.ch
   replace ab := ab.ch kd.ch
   replace ca := ca.ch kd.ch
   replace qL := qL.ch kd.ch
   replace vy := vy.ch kd.ch
   replace ac := ac.ch kd.ch
   replace hO := kd.own
   replace cj := cj.ch kd.ch
   replace ck := ck.ch kd.ch
   replace bK := bK.ch kd.ch
   replace fy := fy.ch kd.ch
   replace gV := gV.ch kd.ch
   replace ki := ki.ch kd.ch
   replace od := od.ch kd.ch
   replace tV := tV.ch kd.ch
   replace hB := hB.trans kd.fr
   refine GoR.nil ?_
   refine Go1.inBlock ?_
   refine Go1.region ?_
   refine GoR.op ((op_add rfl rfl (wrap_i64 (natbd h53 aa.bd))) _) rfl rfl ?_
   refine GoR.op ((op_move rfl) _) rfl rfl ?_
   refine GoR.nil ?_
   exact hX1 _ H _ _ ⟨FF, n21 + 1, wh, wi, Fs, n27 + 1, xh, xi, Fv, n33 + 1, x8, x9, Fy, n39, p37, c38, np, n45 + 1, zd, zf, FB, n51 + 1, AA, AB, FE, ⟨rfl, rfl, rfl, rfl, rfl, rfl, trivial⟩, hO, AZ, aa, fH, iI, lh, ab, ca, qL, vy, ac, hB⟩
  replace H := ifn zc H
  refine GoR.op ((fun w => opB (op_eql rfl rfl w) (decide_eq_false zc)) _) rfl rfl ?_
  refine GoR.nil ?_
  refine Go1.condF rfl rfl ?_
  refine Go1.skip ?_
  refine Go1.seq ?_
  refine Go1.region ?_
  refine GoR.op ((op_move rfl) _) rfl rfl ?_
  refine GoR.op ((op_nilCheck rfl) _) rfl rfl ?_
  refine GoR.op ((op_fieldAddr Try.underlying72 rfl ti29 rfl (by decide)) _) rfl rfl ?_
  refine GoR.op ((op_fieldAddr Try.underlying29 rfl ti22 rfl (by decide)) _) rfl rfl ?_
  refine GoR.op ((oblk (i := 6) 1 hO rfl rfl Try.underlying22 rfl rfl) _ (Same.refl _)) rfl rfl ?_
  refine GoR.op ((op_move rfl) _) rfl rfl ?_
  obtain ⟨AE, H⟩ := H
  obtain ⟨AF, H⟩ := H
  refine GoR.op ((op_index Try.underlying22 ti26 rfl rfl AE (ltn (ab.neq hO 6 rfl) AF) (ab.psome hO 6 rfl AE AF)) _) rfl rfl ?_
  have hobt := oldSl 6 hO rfl ab AE AF
  obtain ⟨Mb, Mc, eg, FG⟩ := hobt
  refine GoR.op ((FG Try.underlying26 rfl rfl) _ (Same.refl _)) rfl rfl ?_
  refine GoR.op ((op_move rfl) _) rfl rfl ?_
  obtain ⟨AG, H⟩ := H
  obtain ⟨AH, H⟩ := H
  refine GoR.op ((op_index Try.underlying26 ti3 rfl rfl AG AH (eg.some_ AG AH)) _) rfl rfl ?_
  refine GoR.op ((ldInt eg AG AH Try.underlying3 rfl rfl) _ (Same.refl _)) rfl rfl ?_
  refine GoR.op ((op_assign rfl) _) rfl rfl ?_
  refine GoR.nil ?_
  refine Go1.ret1V Try.func66 rfl (show _ = .int .i64 (ix (ix a0.Enum.Right (ix d_46 a0.Enum.Done)) (k1_12 : Int)) from rfl) ?_
  refine hR235 _ _ ?_
  refine GoR.inl (vs := [.pointer (some ⟨d4, 0, none⟩), .slice ri r66.length rk, .int .i64 a0.Enum.Done, .int .i64 (k1_12 : Int), .string (gstr ((ix d_40 a0.Enum.Done) ++ (chr (IntKind.i32.wrap ((97 : Int) + (k1_12 : Int)))))), .int .i64 (ix (ix a0.Enum.Right (ix d_46 a0.Enum.Done)) (k1_12 : Int))]) (caps := []) rfl rfl body65 Try.func65 rfl Try.ntmps65 rfl rfl rfl ?_
  intro RhR377 hR377
  refine Go1.seq ?_
  refine Go1.cut [(0, .pointer (some ⟨d4, 0, none⟩)), (1, .slice ri r66.length rk), (2, .int .i64 a0.Enum.Done), (3, .int .i64 (k1_12 : Int)), (4, .string (gstr ((ix d_40 a0.Enum.Done) ++ (chr (IntKind.i32.wrap ((97 : Int) + (k1_12 : Int))))))), (5, .int .i64 (ix (ix a0.Enum.Right (ix d_46 a0.Enum.Done)) (k1_12 : Int)))] ⟨rfl, rfl, rfl, rfl, rfl, rfl, trivial⟩ ?_
  intro σ _
  refine Go1.region ?_
  refine GoR.op ((op_assign rfl) _) rfl rfl ?_
  refine GoR.nil ?_
  refine Go1.seq ?_
  refine Go1.region ?_
  refine GoR.op ((op_move rfl) _) rfl rfl ?_
  refine GoR.op ((op_nilCheck rfl) _) rfl rfl ?_
  refine GoR.op ((op_fieldAddr Try.underlying72 rfl ti29 rfl (by decide)) _) rfl rfl ?_
  refine GoR.op ((op_fieldAddr Try.underlying29 rfl ti22 rfl (by decide)) _) rfl rfl ?_
  refine GoR.op ((oblk (i := 3) 1 hO rfl rfl Try.underlying22 rfl rfl) _ (Same.refl _)) rfl rfl ?_
  refine GoR.op ((op_lenN Try.underlying22 rfl (dk.neq hO 3 rfl)) _) rfl rfl ?_
  refine GoR.op ((op_assign rfl) _) rfl rfl ?_
  refine GoR.nil ?_
  refine Go1.seq ?_
  refine Go1.drawS 1 [(0, .pure), (1, .pure), (2, .pure), (3, .stable), (4, .pure), (6, .pure), (5, .loud), (7, .last)] mixed (by kernel_rfl) ?_
  intro Me FH
  have mY := Stp.same hO FH
  replace b6 := b6.ch mY.ch
  replace aa := aa.ch mY.ch
  replace dk := dk.ch mY.ch
  replace cG := cG.ch mY.ch
  replace cv := cv.ch mY.ch
  replace ab := ab.ch mY.ch
  replace ca := ca.ch mY.ch
  replace bf := bf.ch mY.ch
  replace aX := aX.ch mY.ch
  replace ac := ac.ch mY.ch
  replace hO := mY.own
  replace cj := cj.ch mY.ch
  replace ck := ck.ch mY.ch
  replace bK := bK.ch mY.ch
  replace eg := eg.ch mY.ch
  replace hB := hB.trans mY.fr
  refine GoQ.pure rfl (op_move rfl) rfl rfl ?_
  refine GoQ.pure rfl (op_nilCheck rfl) rfl rfl ?_
  refine GoQ.pure rfl (op_fieldAddr Try.underlying72 rfl ti69 rfl (by decide)) rfl rfl ?_
  refine GoQ.stable rfl (oblk (i := 9) 1 hO rfl rfl Try.underlying69 rfl rfl) rfl rfl ?_
  refine GoQ.pure rfl (op_move rfl) rfl rfl ?_
  refine GoQ.pure rfl (op_move rfl) rfl rfl ?_
  refine GoQ.call rfl (op_call body61 rfl (walk_enumerate_text hO.lt bK H)) (fun v w hr => by obtain ⟨_, _, hs, _, _⟩ := hr; assumption) rfl rfl ?_
  rintro Mf Mg ⟨r381, rfl, FI, Jc, H⟩
  have fW := Stp.same hO FI
  replace b6 := b6.ch fW.ch
  replace aa := aa.ch fW.ch
  replace dk := dk.ch fW.ch
  replace cG := cG.ch fW.ch
  replace cv := cv.ch fW.ch
  replace ab := ab.ch fW.ch
  replace ca := ca.ch fW.ch
  replace bf := bf.ch fW.ch
  replace aX := aX.ch fW.ch
  replace ac := ac.ch fW.ch
  replace hO := fW.own
  replace cj := cj.ch fW.ch
  replace ck := ck.ch fW.ch
  replace bK := bK.ch fW.ch
  replace eg := eg.ch fW.ch
  replace hB := hB.trans fW.fr
  have hobt := omapUpd (MK.str Try.underlying9) 11 hO rfl Try.underlying69 r381 (d_16.length : Int)
  obtain ⟨Mh, fQ, CZ⟩ := hobt
  dsimp only [sS, sZ] at fQ
  refine GoQ.last rfl (CZ (by exact rfl) (by exact rfl) (by exact rfl)) rfl rfl ?_
  replace b6 := b6.ch fQ.ch
  replace aa := aa.ch fQ.ch
  replace dk := dk.ch fQ.ch
  replace cG := cG.ch fQ.ch
  replace cv := cv.ch fQ.ch
  replace ab := ab.ch fQ.ch
  replace ca := ca.ch fQ.ch
  replace bf := bf.ch fQ.ch
  replace aX := aX.ch fQ.ch
  replace ac := ac.ch fQ.ch
  replace hO := fQ.own
  replace cj := cj.ch fQ.ch
  replace ck := ck.ch fQ.ch
  replace bK := bK.ch fQ.ch
  replace eg := eg.ch fQ.ch
  replace hB := hB.trans fQ.fr
  refine GoQ.nil ?_
  refine Go1.seq ?_
  refine Go1.region ?_
  refine GoR.op ((op_move rfl) _) rfl rfl ?_
  refine GoR.op ((op_move rfl) _) rfl rfl ?_
  refine GoR.op ((op_nilCheck rfl) _) rfl rfl ?_
  refine GoR.op ((op_fieldAddr Try.underlying72 rfl ti29 rfl (by decide)) _) rfl rfl ?_
  refine GoR.op ((op_fieldAddr Try.underlying29 rfl ti22 rfl (by decide)) _) rfl rfl ?_
  refine GoR.op ((oblk (i := 3) 1 hO rfl rfl Try.underlying22 rfl rfl) _ (Same.refl _)) rfl rfl ?_
  refine GoR.op ((op_move rfl) _) rfl rfl ?_
  have hobt := obuild (r := Rp.sl (Rp.int .i64)) (n := 1) (parts := [(0, .slice ri r66.length rk)]) (vs := [.slice ri r66.length rk]) (xs := [r66]) rfl Try.underlying22 ti26 hO (by decide) (by kernel_rfl) (Els.cons rfl ⟨ri, rk, rfl, bK⟩ (Els.nil _ _ _) (by simp [mx])) rfl
  obtain ⟨Mi, Mj, fX, FJ, JG, C0⟩ := hobt
  refine GoR.op (C0 rfl) rfl rfl ?_
  replace b6 := b6.ch fX.ch
  replace aa := aa.ch fX.ch
  replace dk := dk.ch fX.ch
  replace cG := cG.ch fX.ch
  replace cv := cv.ch fX.ch
  replace ab := ab.ch fX.ch
  replace ca := ca.ch fX.ch
  replace bf := bf.ch fX.ch
  replace aX := aX.ch fX.ch
  replace ac := ac.ch fX.ch
  replace hO := fX.own
  replace cj := cj.ch fX.ch
  replace ck := ck.ch fX.ch
  replace bK := bK.ch fX.ch
  replace eg := eg.ch fX.ch
  replace hB := hB.trans fX.fr
  have hobt := freeze 0 hO rfl FJ
  obtain ⟨hO1, po, fA, FK⟩ := hobt
  dsimp only [eS, eZ] at hO1 po fA
  replace cj := cj.ch po
  replace ck := ck.ch po
  replace bK := bK.ch po
  replace eg := eg.ch po
  replace b6 := b6.ch po
  replace aa := aa.ch po
  replace dk := dk.ch po
  replace cG := cG.ch po
  replace cv := cv.ch po
  replace ab := ab.ch po
  replace ca := ca.ch po
  replace bf := bf.ch po
  replace aX := aX.ch po
  replace ac := ac.ch po
  replace hB := hB.trans (Owns.dropFr _ _ 0)
  dsimp only [eS, eZ] at hB
  replace hO := hO1; clear hO1
  obtain ⟨Iu, H⟩ := H
  have hobt := oapp Try.underlying22 ti26 rfl 3 hO rfl dk fA FK Iu (by decide)
  obtain ⟨Mk, wj, wk, FL, lV, fI, C1⟩ := hobt
  dsimp only [sS, sZ] at lV fI
  refine GoR.op (C1 (by exact rfl) (by exact rfl)) rfl rfl ?_
  replace b6 := b6.ch lV.ch
  replace aa := aa.ch lV.ch
  replace cG := cG.ch lV.ch
  replace cv := cv.ch lV.ch
  replace ab := ab.ch lV.ch
  replace ca := ca.ch lV.ch
  replace bf := bf.ch lV.ch
  replace aX := aX.ch lV.ch
  replace ac := ac.ch lV.ch
  replace hO := lV.own
  replace cj := cj.ch lV.ch
  replace ck := ck.ch lV.ch
  replace bK := bK.ch lV.ch
  replace eg := eg.ch lV.ch
  replace fA := fA.ch lV.ch
  replace hB := hB.trans lV.fr
  refine GoR.op ((op_nilCheck rfl) _) rfl rfl ?_
  refine GoR.op ((op_fieldAddr Try.underlying72 rfl ti29 rfl (by decide)) _) rfl rfl ?_
  refine GoR.op ((op_fieldAddr Try.underlying29 rfl ti22 rfl (by decide)) _) rfl rfl ?_
  have hobt := oblkSt2 (v := .slice wj (n21 + 1) wk) (i := 3) (cs' := #[.int .i64 a0.Enum.Points, .bool a0.Enum.Monoid, .slice ap ao aq, .slice wj (n21 + 1) wk, .slice p25 n27 c26, .slice p31 n33 c32, .slice aU aE aV, .slice p37 n39 c38, .int .i64 a0.Enum.Done, .map (some aW), .slice p43 n45 c44, .slice p49 n51 c50, .slice bE bD bF]) 1 hO rfl rfl rfl rfl
  obtain ⟨Ml, lz, C2⟩ := hobt
  dsimp only [sS, sZ] at lz
  refine GoR.op (C2 Try.underlying22 rfl ti22 (by exact rfl) (by exact rfl)) rfl rfl ?_
  replace b6 := b6.ch lz.ch
  replace aa := aa.ch lz.ch
  replace fI := fI.ch lz.ch
  replace cG := cG.ch lz.ch
  replace cv := cv.ch lz.ch
  replace ab := ab.ch lz.ch
  replace ca := ca.ch lz.ch
  replace bf := bf.ch lz.ch
  replace aX := aX.ch lz.ch
  replace ac := ac.ch lz.ch
  replace hO := lz.own
  replace cj := cj.ch lz.ch
  replace ck := ck.ch lz.ch
  replace bK := bK.ch lz.ch
  replace eg := eg.ch lz.ch
  replace fA := fA.ch lz.ch
  replace hB := hB.trans lz.fr
  refine GoR.nil ?_
  refine Go1.seq ?_
  refine Go1.cut [(0, .pointer (some ⟨d4, 0, none⟩)), (2, .int .i64 a0.Enum.Done), (3, .int .i64 (k1_12 : Int)), (4, .string (gstr ((ix d_40 a0.Enum.Done) ++ (chr (IntKind.i32.wrap ((97 : Int) + (k1_12 : Int))))))), (5, .int .i64 (ix (ix a0.Enum.Right (ix d_46 a0.Enum.Done)) (k1_12 : Int))), (13, .int .i64 (d_16.length : Int))] ⟨rfl, rfl, rfl, rfl, rfl, rfl, trivial⟩ ?_
  intro σ _
  refine Go1.region ?_
  refine GoR.op ((op_move rfl) _) rfl rfl ?_
  refine GoR.op ((op_move rfl) _) rfl rfl ?_
  refine GoR.op ((op_nilCheck rfl) _) rfl rfl ?_
  refine GoR.op ((op_fieldAddr Try.underlying72 rfl ti29 rfl (by decide)) _) rfl rfl ?_
  refine GoR.op ((op_fieldAddr Try.underlying29 rfl ti26 rfl (by decide)) _) rfl rfl ?_
  refine GoR.op ((oblk (i := 4) 1 hO rfl rfl Try.underlying26 rfl rfl) _ (Same.refl _)) rfl rfl ?_
  refine GoR.op ((op_move rfl) _) rfl rfl ?_
  have hobt := obuild (r := Rp.int .i64) (n := 1) (parts := [(0, .int .i64 a0.Enum.Done)]) (vs := [.int .i64 a0.Enum.Done]) (xs := [a0.Enum.Done]) rfl Try.underlying26 ti3 hO (by decide) (by kernel_rfl) (Els.cons rfl rfl (Els.nil _ _ _) (by simp [mx])) rfl
  obtain ⟨Mm, Mn, ja, FM, JH, C3⟩ := hobt
  refine GoR.op (C3 rfl) rfl rfl ?_
  replace b6 := b6.ch ja.ch
  replace aa := aa.ch ja.ch
  replace fI := fI.ch ja.ch
  replace cG := cG.ch ja.ch
  replace cv := cv.ch ja.ch
  replace ab := ab.ch ja.ch
  replace ca := ca.ch ja.ch
  replace bf := bf.ch ja.ch
  replace aX := aX.ch ja.ch
  replace ac := ac.ch ja.ch
  replace hO := ja.own
  replace cj := cj.ch ja.ch
  replace ck := ck.ch ja.ch
  replace bK := bK.ch ja.ch
  replace eg := eg.ch ja.ch
  replace fA := fA.ch ja.ch
  replace hB := hB.trans ja.fr
  have hobt := freeze 0 hO rfl FM
  obtain ⟨hO1, oe, gW, FN⟩ := hobt
  dsimp only [eS, eZ] at hO1 oe gW
  replace cj := cj.ch oe
  replace ck := ck.ch oe
  replace bK := bK.ch oe
  replace eg := eg.ch oe
  replace fA := fA.ch oe
  replace b6 := b6.ch oe
  replace aa := aa.ch oe
  replace fI := fI.ch oe
  replace cG := cG.ch oe
  replace cv := cv.ch oe
  replace ab := ab.ch oe
  replace ca := ca.ch oe
  replace bf := bf.ch oe
  replace aX := aX.ch oe
  replace ac := ac.ch oe
  replace hB := hB.trans (Owns.dropFr _ _ 0)
  dsimp only [eS, eZ] at hB
  replace hO := hO1; clear hO1
  obtain ⟨Iv, H⟩ := H
  have hobt := oapp Try.underlying26 ti3 rfl 4 hO rfl cG gW FN Iv (by decide)
  obtain ⟨Mo, xj, xk, FO, iF, gT, C4⟩ := hobt
  dsimp only [sS, sZ] at iF gT
  refine GoR.op (C4 (by exact rfl) (by exact rfl)) rfl rfl ?_
  replace b6 := b6.ch iF.ch
  replace aa := aa.ch iF.ch
  replace fI := fI.ch iF.ch
  replace cv := cv.ch iF.ch
  replace ab := ab.ch iF.ch
  replace ca := ca.ch iF.ch
  replace bf := bf.ch iF.ch
  replace aX := aX.ch iF.ch
  replace ac := ac.ch iF.ch
  replace hO := iF.own
  replace cj := cj.ch iF.ch
  replace ck := ck.ch iF.ch
  replace bK := bK.ch iF.ch
  replace eg := eg.ch iF.ch
  replace fA := fA.ch iF.ch
  replace gW := gW.ch iF.ch
  replace hB := hB.trans iF.fr
  refine GoR.op ((op_nilCheck rfl) _) rfl rfl ?_
  refine GoR.op ((op_fieldAddr Try.underlying72 rfl ti29 rfl (by decide)) _) rfl rfl ?_
  refine GoR.op ((op_fieldAddr Try.underlying29 rfl ti26 rfl (by decide)) _) rfl rfl ?_
  have hobt := oblkSt2 (v := .slice xj (n27 + 1) xk) (i := 4) (cs' := #[.int .i64 a0.Enum.Points, .bool a0.Enum.Monoid, .slice ap ao aq, .slice wj (n21 + 1) wk, .slice xj (n27 + 1) xk, .slice p31 n33 c32, .slice aU aE aV, .slice p37 n39 c38, .int .i64 a0.Enum.Done, .map (some aW), .slice p43 n45 c44, .slice p49 n51 c50, .slice bE bD bF]) 1 hO rfl rfl rfl rfl
  obtain ⟨Mp, kM, C5⟩ := hobt
  dsimp only [sS, sZ] at kM
  refine GoR.op (C5 Try.underlying26 rfl ti26 (by exact rfl) (by exact rfl)) rfl rfl ?_
  replace b6 := b6.ch kM.ch
  replace aa := aa.ch kM.ch
  replace fI := fI.ch kM.ch
  replace gT := gT.ch kM.ch
  replace cv := cv.ch kM.ch
  replace ab := ab.ch kM.ch
  replace ca := ca.ch kM.ch
  replace bf := bf.ch kM.ch
  replace aX := aX.ch kM.ch
  replace ac := ac.ch kM.ch
  replace hO := kM.own
  replace cj := cj.ch kM.ch
  replace ck := ck.ch kM.ch
  replace bK := bK.ch kM.ch
  replace eg := eg.ch kM.ch
  replace fA := fA.ch kM.ch
  replace gW := gW.ch kM.ch
  replace hB := hB.trans kM.fr
  refine GoR.nil ?_
  refine Go1.seq ?_
  refine Go1.region ?_
  refine GoR.op ((op_move rfl) _) rfl rfl ?_
  refine GoR.op ((op_move rfl) _) rfl rfl ?_
  refine GoR.op ((op_nilCheck rfl) _) rfl rfl ?_
  refine GoR.op ((op_fieldAddr Try.underlying72 rfl ti29 rfl (by decide)) _) rfl rfl ?_
  refine GoR.op ((op_fieldAddr Try.underlying29 rfl ti26 rfl (by decide)) _) rfl rfl ?_
  refine GoR.op ((oblk (i := 5) 1 hO rfl rfl Try.underlying26 rfl rfl) _ (Same.refl _)) rfl rfl ?_
  refine GoR.op ((op_move rfl) _) rfl rfl ?_
  have hobt := obuild (r := Rp.int .i64) (n := 1) (parts := [(0, .int .i64 (k1_12 : Int))]) (vs := [.int .i64 (k1_12 : Int)]) (xs := [(k1_12 : Int)]) rfl Try.underlying26 ti3 hO (by decide) (by kernel_rfl) (Els.cons rfl rfl (Els.nil _ _ _) (by simp [mx])) rfl
  obtain ⟨Mq, Mr, lA, FP, JI, C6⟩ := hobt
  refine GoR.op (C6 rfl) rfl rfl ?_
  replace b6 := b6.ch lA.ch
  replace aa := aa.ch lA.ch
  replace fI := fI.ch lA.ch
  replace gT := gT.ch lA.ch
  replace cv := cv.ch lA.ch
  replace ab := ab.ch lA.ch
  replace ca := ca.ch lA.ch
  replace bf := bf.ch lA.ch
  replace aX := aX.ch lA.ch
  replace ac := ac.ch lA.ch
  replace hO := lA.own
  replace cj := cj.ch lA.ch
  replace ck := ck.ch lA.ch
  replace bK := bK.ch lA.ch
  replace eg := eg.ch lA.ch
  replace fA := fA.ch lA.ch
  replace gW := gW.ch lA.ch
  replace hB := hB.trans lA.fr
  have hobt := freeze 0 hO rfl FP
  obtain ⟨hO1, nP, kj, FQ⟩ := hobt
  dsimp only [eS, eZ] at hO1 nP kj
  replace cj := cj.ch nP
  replace ck := ck.ch nP
  replace bK := bK.ch nP
  replace eg := eg.ch nP
  replace fA := fA.ch nP
  replace gW := gW.ch nP
  replace b6 := b6.ch nP
  replace aa := aa.ch nP
  replace fI := fI.ch nP
  replace gT := gT.ch nP
  replace cv := cv.ch nP
  replace ab := ab.ch nP
  replace ca := ca.ch nP
  replace bf := bf.ch nP
  replace aX := aX.ch nP
  replace ac := ac.ch nP
  replace hB := hB.trans (Owns.dropFr _ _ 0)
  dsimp only [eS, eZ] at hB
  replace hO := hO1; clear hO1
  obtain ⟨Iw, H⟩ := H
  have hobt := oapp Try.underlying26 ti3 rfl 5 hO rfl cv kj FQ Iw (by decide)
  obtain ⟨Ms, ya, yb, FS, kN, li, C7⟩ := hobt
  dsimp only [sS, sZ] at kN li
  refine GoR.op (C7 (by exact rfl) (by exact rfl)) rfl rfl ?_
  replace b6 := b6.ch kN.ch
  replace aa := aa.ch kN.ch
  replace fI := fI.ch kN.ch
  replace gT := gT.ch kN.ch
  replace ab := ab.ch kN.ch
  replace ca := ca.ch kN.ch
  replace bf := bf.ch kN.ch
  replace aX := aX.ch kN.ch
  replace ac := ac.ch kN.ch
  replace hO := kN.own
  replace cj := cj.ch kN.ch
  replace ck := ck.ch kN.ch
  replace bK := bK.ch kN.ch
  replace eg := eg.ch kN.ch
  replace fA := fA.ch kN.ch
  replace gW := gW.ch kN.ch
  replace kj := kj.ch kN.ch
  replace hB := hB.trans kN.fr
  refine GoR.op ((op_nilCheck rfl) _) rfl rfl ?_
  refine GoR.op ((op_fieldAddr Try.underlying72 rfl ti29 rfl (by decide)) _) rfl rfl ?_
  refine GoR.op ((op_fieldAddr Try.underlying29 rfl ti26 rfl (by decide)) _) rfl rfl ?_
  have hobt := oblkSt2 (v := .slice ya (n33 + 1) yb) (i := 5) (cs' := #[.int .i64 a0.Enum.Points, .bool a0.Enum.Monoid, .slice ap ao aq, .slice wj (n21 + 1) wk, .slice xj (n27 + 1) xk, .slice ya (n33 + 1) yb, .slice aU aE aV, .slice p37 n39 c38, .int .i64 a0.Enum.Done, .map (some aW), .slice p43 n45 c44, .slice p49 n51 c50, .slice bE bD bF]) 1 hO rfl rfl rfl rfl
  obtain ⟨Mt, ke, C8⟩ := hobt
  dsimp only [sS, sZ] at ke
  refine GoR.op (C8 Try.underlying26 rfl ti26 (by exact rfl) (by exact rfl)) rfl rfl ?_
  replace b6 := b6.ch ke.ch
  replace aa := aa.ch ke.ch
  replace fI := fI.ch ke.ch
  replace gT := gT.ch ke.ch
  replace li := li.ch ke.ch
  replace ab := ab.ch ke.ch
  replace ca := ca.ch ke.ch
  replace bf := bf.ch ke.ch
  replace aX := aX.ch ke.ch
  replace ac := ac.ch ke.ch
  replace hO := ke.own
  replace cj := cj.ch ke.ch
  replace ck := ck.ch ke.ch
  replace bK := bK.ch ke.ch
  replace eg := eg.ch ke.ch
  replace fA := fA.ch ke.ch
  replace gW := gW.ch ke.ch
  replace kj := kj.ch ke.ch
  replace hB := hB.trans ke.fr
  refine GoR.nil ?_
  refine Go1.seq ?_
  refine Go1.cut [(0, .pointer (some ⟨d4, 0, none⟩)), (4, .string (gstr ((ix d_40 a0.Enum.Done) ++ (chr (IntKind.i32.wrap ((97 : Int) + (k1_12 : Int))))))), (5, .int .i64 (ix (ix a0.Enum.Right (ix d_46 a0.Enum.Done)) (k1_12 : Int))), (13, .int .i64 (d_16.length : Int))] ⟨rfl, rfl, rfl, rfl, trivial⟩ ?_
  intro σ _
  refine Go1.region ?_
  refine GoR.op ((op_move rfl) _) rfl rfl ?_
  refine GoR.op ((op_move rfl) _) rfl rfl ?_
  refine GoR.op ((op_nilCheck rfl) _) rfl rfl ?_
  refine GoR.op ((op_fieldAddr Try.underlying72 rfl ti70 rfl (by decide)) _) rfl rfl ?_
  refine GoR.op ((oblk (i := 10) 1 hO rfl rfl Try.underlying70 rfl rfl) _ (Same.refl _)) rfl rfl ?_
  refine GoR.op ((op_move rfl) _) rfl rfl ?_
  have hobt := obuild (r := Rp.str) (n := 1) (parts := [(0, .string (gstr ((ix d_40 a0.Enum.Done) ++ (chr (IntKind.i32.wrap ((97 : Int) + (k1_12 : Int)))))))]) (vs := [.string (gstr ((ix d_40 a0.Enum.Done) ++ (chr (IntKind.i32.wrap ((97 : Int) + (k1_12 : Int))))))]) (xs := [(ix d_40 a0.Enum.Done) ++ (chr (IntKind.i32.wrap ((97 : Int) + (k1_12 : Int))))]) rfl Try.underlying70 ti9 hO (by decide) (by kernel_rfl) (Els.cons rfl ⟨rfl, (lenApp Au)⟩ (Els.nil _ _ _) (by simp [mx])) rfl
  obtain ⟨Mu, Mv, kO, FT, JJ, x3⟩ := hobt
  refine GoR.op (x3 rfl) rfl rfl ?_
  replace b6 := b6.ch kO.ch
  replace aa := aa.ch kO.ch
  replace fI := fI.ch kO.ch
  replace gT := gT.ch kO.ch
  replace li := li.ch kO.ch
  replace ab := ab.ch kO.ch
  replace ca := ca.ch kO.ch
  replace bf := bf.ch kO.ch
  replace aX := aX.ch kO.ch
  replace ac := ac.ch kO.ch
  replace hO := kO.own
  replace cj := cj.ch kO.ch
  replace ck := ck.ch kO.ch
  replace bK := bK.ch kO.ch
  replace eg := eg.ch kO.ch
  replace fA := fA.ch kO.ch
  replace gW := gW.ch kO.ch
  replace kj := kj.ch kO.ch
  replace hB := hB.trans kO.fr
  have hobt := freeze 0 hO rfl FT
  obtain ⟨hO1, nB, og, FU⟩ := hobt
  dsimp only [eS, eZ] at hO1 nB og
  replace cj := cj.ch nB
  replace ck := ck.ch nB
  replace bK := bK.ch nB
  replace eg := eg.ch nB
  replace fA := fA.ch nB
  replace gW := gW.ch nB
  replace kj := kj.ch nB
  replace b6 := b6.ch nB
  replace aa := aa.ch nB
  replace fI := fI.ch nB
  replace gT := gT.ch nB
  replace li := li.ch nB
  replace ab := ab.ch nB
  replace ca := ca.ch nB
  replace bf := bf.ch nB
  replace aX := aX.ch nB
  replace ac := ac.ch nB
  replace hB := hB.trans (Owns.dropFr _ _ 0)
  dsimp only [eS, eZ] at hB
  replace hO := hO1; clear hO1
  obtain ⟨Ix, H⟩ := H
  have hobt := oapp Try.underlying70 ti9 rfl 8 hO rfl bf og FU Ix (by decide)
  obtain ⟨Mw, zg, zh, FV, kg, qM, C9⟩ := hobt
  dsimp only [sS, sZ] at kg qM
  refine GoR.op (C9 (by exact rfl) (by exact rfl)) rfl rfl ?_
  replace b6 := b6.ch kg.ch
  replace aa := aa.ch kg.ch
  replace fI := fI.ch kg.ch
  replace gT := gT.ch kg.ch
  replace li := li.ch kg.ch
  replace ab := ab.ch kg.ch
  replace ca := ca.ch kg.ch
  replace aX := aX.ch kg.ch
  replace ac := ac.ch kg.ch
  replace hO := kg.own
  replace cj := cj.ch kg.ch
  replace ck := ck.ch kg.ch
  replace bK := bK.ch kg.ch
  replace eg := eg.ch kg.ch
  replace fA := fA.ch kg.ch
  replace gW := gW.ch kg.ch
  replace kj := kj.ch kg.ch
  replace og := og.ch kg.ch
  replace hB := hB.trans kg.fr
  refine GoR.op ((op_nilCheck rfl) _) rfl rfl ?_
  refine GoR.op ((op_fieldAddr Try.underlying72 rfl ti70 rfl (by decide)) _) rfl rfl ?_
  have hobt := oblkSt2 (v := .slice zg (n45 + 1) zh) (i := 10) (cs' := #[.int .i64 a0.Enum.Points, .bool a0.Enum.Monoid, .slice ap ao aq, .slice wj (n21 + 1) wk, .slice xj (n27 + 1) xk, .slice ya (n33 + 1) yb, .slice aU aE aV, .slice p37 n39 c38, .int .i64 a0.Enum.Done, .map (some aW), .slice zg (n45 + 1) zh, .slice p49 n51 c50, .slice bE bD bF]) 1 hO rfl rfl rfl rfl
  obtain ⟨Mx, ju, Db⟩ := hobt
  dsimp only [sS, sZ] at ju
  refine GoR.op (Db Try.underlying70 rfl ti70 (by exact rfl) (by exact rfl)) rfl rfl ?_
  replace b6 := b6.ch ju.ch
  replace aa := aa.ch ju.ch
  replace fI := fI.ch ju.ch
  replace gT := gT.ch ju.ch
  replace li := li.ch ju.ch
  replace ab := ab.ch ju.ch
  replace ca := ca.ch ju.ch
  replace qM := qM.ch ju.ch
  replace aX := aX.ch ju.ch
  replace ac := ac.ch ju.ch
  replace hO := ju.own
  replace cj := cj.ch ju.ch
  replace ck := ck.ch ju.ch
  replace bK := bK.ch ju.ch
  replace eg := eg.ch ju.ch
  replace fA := fA.ch ju.ch
  replace gW := gW.ch ju.ch
  replace kj := kj.ch ju.ch
  replace og := og.ch ju.ch
  replace hB := hB.trans ju.fr
  refine GoR.nil ?_
  refine Go1.seq ?_
  refine Go1.region ?_
  refine GoR.op ((op_move rfl) _) rfl rfl ?_
  refine GoR.op ((op_move rfl) _) rfl rfl ?_
  refine GoR.op ((op_nilCheck rfl) _) rfl rfl ?_
  refine GoR.op ((op_fieldAddr Try.underlying72 rfl ti26 rfl (by decide)) _) rfl rfl ?_
  refine GoR.op ((oblk (i := 11) 1 hO rfl rfl Try.underlying26 rfl rfl) _ (Same.refl _)) rfl rfl ?_
  refine GoR.op ((op_move rfl) _) rfl rfl ?_
  have hobt := obuild (r := Rp.int .i64) (n := 1) (parts := [(0, .int .i64 (ix (ix a0.Enum.Right (ix d_46 a0.Enum.Done)) (k1_12 : Int)))]) (vs := [.int .i64 (ix (ix a0.Enum.Right (ix d_46 a0.Enum.Done)) (k1_12 : Int))]) (xs := [(ix (ix a0.Enum.Right (ix d_46 a0.Enum.Done)) (k1_12 : Int))]) rfl Try.underlying26 ti3 hO (by decide) (by kernel_rfl) (Els.cons rfl rfl (Els.nil _ _ _) (by simp [mx])) rfl
  obtain ⟨My, Mz, kh, FW, JK, Dc⟩ := hobt
  refine GoR.op (Dc rfl) rfl rfl ?_
  replace b6 := b6.ch kh.ch
  replace aa := aa.ch kh.ch
  replace fI := fI.ch kh.ch
  replace gT := gT.ch kh.ch
  replace li := li.ch kh.ch
  replace ab := ab.ch kh.ch
  replace ca := ca.ch kh.ch
  replace qM := qM.ch kh.ch
  replace aX := aX.ch kh.ch
  replace ac := ac.ch kh.ch
  replace hO := kh.own
  replace cj := cj.ch kh.ch
  replace ck := ck.ch kh.ch
  replace bK := bK.ch kh.ch
  replace eg := eg.ch kh.ch
  replace fA := fA.ch kh.ch
  replace gW := gW.ch kh.ch
  replace kj := kj.ch kh.ch
  replace og := og.ch kh.ch
  replace hB := hB.trans kh.fr
  have hobt := freeze 0 hO rfl FW
  obtain ⟨hO1, na, tW, FX⟩ := hobt
  dsimp only [eS, eZ] at hO1 na tW
  replace cj := cj.ch na
  replace ck := ck.ch na
  replace bK := bK.ch na
  replace eg := eg.ch na
  replace fA := fA.ch na
  replace gW := gW.ch na
  replace kj := kj.ch na
  replace og := og.ch na
  replace b6 := b6.ch na
  replace aa := aa.ch na
  replace fI := fI.ch na
  replace gT := gT.ch na
  replace li := li.ch na
  replace ab := ab.ch na
  replace ca := ca.ch na
  replace qM := qM.ch na
  replace aX := aX.ch na
  replace ac := ac.ch na
  replace hB := hB.trans (Owns.dropFr _ _ 0)
  dsimp only [eS, eZ] at hB
  replace hO := hO1; clear hO1
  obtain ⟨Iy, H⟩ := H
  have hobt := oapp Try.underlying26 ti3 rfl 9 hO rfl aX tW FX Iy (by decide)
  obtain ⟨MA, AI, AJ, FY, fB, tR, Dd⟩ := hobt
  dsimp only [sS, sZ] at fB tR
  refine GoR.op (Dd (by exact rfl) (by exact rfl)) rfl rfl ?_
  replace b6 := b6.ch fB.ch
  replace aa := aa.ch fB.ch
  replace fI := fI.ch fB.ch
  replace gT := gT.ch fB.ch
  replace li := li.ch fB.ch
  replace ab := ab.ch fB.ch
  replace ca := ca.ch fB.ch
  replace qM := qM.ch fB.ch
  replace ac := ac.ch fB.ch
  replace hO := fB.own
  replace cj := cj.ch fB.ch
  replace ck := ck.ch fB.ch
  replace bK := bK.ch fB.ch
  replace eg := eg.ch fB.ch
  replace fA := fA.ch fB.ch
  replace gW := gW.ch fB.ch
  replace kj := kj.ch fB.ch
  replace og := og.ch fB.ch
  replace tW := tW.ch fB.ch
  replace hB := hB.trans fB.fr
  refine GoR.op ((op_nilCheck rfl) _) rfl rfl ?_
  refine GoR.op ((op_fieldAddr Try.underlying72 rfl ti26 rfl (by decide)) _) rfl rfl ?_
  have hobt := oblkSt2 (v := .slice AI (n51 + 1) AJ) (i := 11) (cs' := #[.int .i64 a0.Enum.Points, .bool a0.Enum.Monoid, .slice ap ao aq, .slice wj (n21 + 1) wk, .slice xj (n27 + 1) xk, .slice ya (n33 + 1) yb, .slice aU aE aV, .slice p37 n39 c38, .int .i64 a0.Enum.Done, .map (some aW), .slice zg (n45 + 1) zh, .slice AI (n51 + 1) AJ, .slice bE bD bF]) 1 hO rfl rfl rfl rfl
  obtain ⟨MB, jm, De⟩ := hobt
  dsimp only [sS, sZ] at jm
  refine GoR.op (De Try.underlying26 rfl ti26 (by exact rfl) (by exact rfl)) rfl rfl ?_
  replace b6 := b6.ch jm.ch
  replace aa := aa.ch jm.ch
  replace fI := fI.ch jm.ch
  replace gT := gT.ch jm.ch
  replace li := li.ch jm.ch
  replace ab := ab.ch jm.ch
  replace ca := ca.ch jm.ch
  replace qM := qM.ch jm.ch
  replace tR := tR.ch jm.ch
  replace ac := ac.ch jm.ch
  replace hO := jm.own
  replace cj := cj.ch jm.ch
  replace ck := ck.ch jm.ch
  replace bK := bK.ch jm.ch
  replace eg := eg.ch jm.ch
  replace fA := fA.ch jm.ch
  replace gW := gW.ch jm.ch
  replace kj := kj.ch jm.ch
  replace og := og.ch jm.ch
  replace tW := tW.ch jm.ch
  replace hB := hB.trans jm.fr
  refine GoR.nil ?_
  refine Go1.seq ?_
  refine Go1.cut [(13, .int .i64 (d_16.length : Int))] ⟨rfl, trivial⟩ ?_
  intro σ _
  refine Go1.region ?_
  refine GoR.op ((op_move rfl) _) rfl rfl ?_
  refine GoR.op ((op_assign rfl) _) rfl rfl ?_
  refine GoR.nil ?_
  refine Go1.ret1V Try.func65 rfl (show _ = .int .i64 (d_16.length : Int) from rfl) ?_
  refine hR377 _ _ ?_
  refine GoR.op ((op_assign rfl) _) rfl rfl ?_
  refine GoR.nil ?_
  refine Go1.inBlock ?_
  refine Go1.region ?_
  refine GoR.op ((op_move rfl) _) rfl rfl ?_
  refine GoR.op ((op_move rfl) _) rfl rfl ?_
  refine GoR.op ((op_move rfl) _) rfl rfl ?_
  obtain ⟨AK, H⟩ := H
  obtain ⟨AM, H⟩ := H
  refine GoR.op ((op_index Try.underlying26 ti3 rfl rfl AK (ltn (b6.neq hO 0 rfl) AM) (b6.psome hO 0 rfl AK AM)) _) rfl rfl ?_
  have hobt := ost (r := Rp.int .i64) rfl 0 hO rfl b6 AK AM (v := .int .i64 (d_16.length : Int)) (u := (d_16.length : Int)) rfl rfl
  obtain ⟨MC, FZ, jv, A4, Df⟩ := hobt
  dsimp only [sS, sZ] at jv A4
  refine GoR.op (Df Try.underlying3 rfl ti3 (by exact rfl) (by exact rfl)) rfl rfl ?_
  replace aa := aa.ch jv.ch
  replace fI := fI.ch jv.ch
  replace gT := gT.ch jv.ch
  replace li := li.ch jv.ch
  replace ab := ab.ch jv.ch
  replace ca := ca.ch jv.ch
  replace qM := qM.ch jv.ch
  replace tR := tR.ch jv.ch
  replace ac := ac.ch jv.ch
  replace hO := jv.own
  replace cj := cj.ch jv.ch
  replace ck := ck.ch jv.ch
  replace bK := bK.ch jv.ch
  replace eg := eg.ch jv.ch
  replace fA := fA.ch jv.ch
  replace gW := gW.ch jv.ch
  replace kj := kj.ch jv.ch
  replace og := og.ch jv.ch
  replace tW := tW.ch jv.ch
  replace hB := hB.trans jv.fr
  refine GoR.nil ?_
  refine Go1.inBlock ?_
  refine Go1.region ?_
  refine GoR.op ((op_add rfl rfl (wrap_i64 (natbd h53 aa.bd))) _) rfl rfl ?_
  refine GoR.op ((op_move rfl) _) rfl rfl ?_
  refine GoR.nil ?_
  exact hX1 _ H _ _ ⟨FZ, n21 + 1, wj, wk, FL, n27 + 1, xj, xk, FO, n33 + 1, ya, yb, FS, n39, p37, c38, np, n45 + 1, zg, zh, FV, n51 + 1, AI, AJ, FY, ⟨rfl, rfl, rfl, rfl, rfl, rfl, trivial⟩, hO, A4, aa, fI, gT, li, ab, ca, qM, tR, ac, hB⟩
 replace H := ifn h53 H
 refine GoR.op ((fun w => opB (op_lss rfl rfl w) (decide_eq_false h53)) _) rfl rfl ?_
 refine GoR.nil ?_
 refine Go1.seq ?_
 refine Go1.condF rfl rfl ?_
 refine Go1.exit rfl ?_
 refine Go1.seq ?_
 refine Go1.region ?_
 refine GoR.op ((op_move rfl) _) rfl rfl ?_
 refine GoR.op ((op_move rfl) _) rfl rfl ?_
 refine GoR.op ((op_nilCheck rfl) _) rfl rfl ?_
 refine GoR.op ((op_fieldAddr Try.underlying72 rfl ti29 rfl (by decide)) _) rfl rfl ?_
 refine GoR.op ((op_fieldAddr Try.underlying29 rfl ti22 rfl (by decide)) _) rfl rfl ?_
 refine GoR.op ((oblk (i := 6) 1 hO rfl rfl Try.underlying22 rfl rfl) _ (Same.refl _)) rfl rfl ?_
 refine GoR.op ((op_move rfl) _) rfl rfl ?_
 have hobt := freeze 0 hO rfl b6
 obtain ⟨hO1, sN, rR, F0⟩ := hobt
 dsimp only [eS, eZ] at hO1 sN rR
 replace aa := aa.ch sN
 replace dk := dk.ch sN
 replace cG := cG.ch sN
 replace cv := cv.ch sN
 replace ab := ab.ch sN
 replace ca := ca.ch sN
 replace bf := bf.ch sN
 replace aX := aX.ch sN
 replace ac := ac.ch sN
 replace hB := hB.trans (Owns.dropFr _ _ 0)
 dsimp only [eS, eZ] at hB
 replace hO := hO1; clear hO1
 have hobt := obuild (r := Rp.sl (Rp.int .i64)) (n := 1) (parts := [(0, .slice p2 a0.Enum.Gens.length a0.Enum.Gens.length)]) (vs := [.slice p2 a0.Enum.Gens.length a0.Enum.Gens.length]) (xs := [d_13]) rfl Try.underlying22 ti26 hO (by decide) (by kernel_rfl) (Els.cons rfl ⟨p2, a0.Enum.Gens.length, congrArg some (congrArg (fun nn => Value.slice p2 nn a0.Enum.Gens.length) F0), rR⟩ (Els.nil _ _ _) (by simp [mx])) rfl
 obtain ⟨MD, ME, qk, F1, JL, x4⟩ := hobt
 refine GoR.op (x4 rfl) rfl rfl ?_
 replace aa := aa.ch qk.ch
 replace dk := dk.ch qk.ch
 replace cG := cG.ch qk.ch
 replace cv := cv.ch qk.ch
 replace ab := ab.ch qk.ch
 replace ca := ca.ch qk.ch
 replace bf := bf.ch qk.ch
 replace aX := aX.ch qk.ch
 replace ac := ac.ch qk.ch
 replace hO := qk.own
 replace rR := rR.ch qk.ch
 replace hB := hB.trans qk.fr
 have hobt := freeze 0 hO rfl F1
 obtain ⟨hO1, sg, tX, F2⟩ := hobt
 dsimp only [eS, eZ] at hO1 sg tX
 replace rR := rR.ch sg
 replace aa := aa.ch sg
 replace dk := dk.ch sg
 replace cG := cG.ch sg
 replace cv := cv.ch sg
 replace ab := ab.ch sg
 replace ca := ca.ch sg
 replace bf := bf.ch sg
 replace aX := aX.ch sg
 replace ac := ac.ch sg
 replace hB := hB.trans (Owns.dropFr _ _ 0)
 dsimp only [eS, eZ] at hB
 replace hO := hO1; clear hO1
 obtain ⟨Iz, H⟩ := H
 have hobt := oapp Try.underlying22 ti26 rfl 5 hO rfl ab tX F2 Iz (by decide)
 obtain ⟨MF, zi, zj, F3, oH, vz, Dg⟩ := hobt
 dsimp only [sS, sZ] at oH vz
 refine GoR.op (Dg (by exact rfl) (by exact rfl)) rfl rfl ?_
 replace aa := aa.ch oH.ch
 replace dk := dk.ch oH.ch
 replace cG := cG.ch oH.ch
 replace cv := cv.ch oH.ch
 replace ca := ca.ch oH.ch
 replace bf := bf.ch oH.ch
 replace aX := aX.ch oH.ch
 replace ac := ac.ch oH.ch
 replace hO := oH.own
 replace rR := rR.ch oH.ch
 replace tX := tX.ch oH.ch
 replace hB := hB.trans oH.fr
 refine GoR.op ((op_nilCheck rfl) _) rfl rfl ?_
 refine GoR.op ((op_fieldAddr Try.underlying72 rfl ti29 rfl (by decide)) _) rfl rfl ?_
 refine GoR.op ((op_fieldAddr Try.underlying29 rfl ti22 rfl (by decide)) _) rfl rfl ?_
 have hobt := oblkSt2 (v := .slice zi (aE + 1) zj) (i := 6) (cs' := #[.int .i64 a0.Enum.Points, .bool a0.Enum.Monoid, .slice ap ao aq, .slice p19 n21 c20, .slice p25 n27 c26, .slice p31 n33 c32, .slice zi (aE + 1) zj, .slice p37 n39 c38, .int .i64 a0.Enum.Done, .map (some aW), .slice p43 n45 c44, .slice p49 n51 c50, .slice bE bD bF]) 0 hO rfl rfl rfl rfl
 obtain ⟨MG, nQ, Dh⟩ := hobt
 dsimp only [sS, sZ] at nQ
 refine GoR.op (Dh Try.underlying22 rfl ti22 (by exact rfl) (by exact rfl)) rfl rfl ?_
 replace aa := aa.ch nQ.ch
 replace dk := dk.ch nQ.ch
 replace cG := cG.ch nQ.ch
 replace cv := cv.ch nQ.ch
 replace vz := vz.ch nQ.ch
 replace ca := ca.ch nQ.ch
 replace bf := bf.ch nQ.ch
 replace aX := aX.ch nQ.ch
 replace ac := ac.ch nQ.ch
 replace hO := nQ.own
 replace rR := rR.ch nQ.ch
 replace tX := tX.ch nQ.ch
 replace hB := hB.trans nQ.fr
 refine GoR.nil ?_
 refine Go1.seq ?_
 refine Go1.cut [(0, .pointer (some ⟨d4, 0, none⟩))] ⟨rfl, trivial⟩ ?_
 intro σ _
 refine Go1.region ?_
 refine GoR.op ((op_move rfl) _) rfl rfl ?_
 refine GoR.op ((op_nilCheck rfl) _) rfl rfl ?_
 refine GoR.op ((op_fieldAddr Try.underlying72 rfl ti29 rfl (by decide)) _) rfl rfl ?_
 refine GoR.op ((op_fieldAddr Try.underlying29 rfl ti3 rfl (by decide)) _) rfl rfl ?_
 refine GoR.op ((oblk (i := 8) 0 hO rfl rfl Try.underlying3 rfl rfl) _ (Same.refl _)) rfl rfl ?_
 obtain ⟨IA, H⟩ := H
 refine GoR.op ((op_add rfl rfl (wrap_i64 IA)) _) rfl rfl ?_
 refine GoR.op ((op_nilCheck rfl) _) rfl rfl ?_
 refine GoR.op ((op_fieldAddr Try.underlying72 rfl ti29 rfl (by decide)) _) rfl rfl ?_
 refine GoR.op ((op_fieldAddr Try.underlying29 rfl ti3 rfl (by decide)) _) rfl rfl ?_
 have hobt := oblkSt2 (v := .int .i64 (a0.Enum.Done + (1 : Int))) (i := 8) (cs' := #[.int .i64 a0.Enum.Points, .bool a0.Enum.Monoid, .slice ap ao aq, .slice p19 n21 c20, .slice p25 n27 c26, .slice p31 n33 c32, .slice zi (aE + 1) zj, .slice p37 n39 c38, .int .i64 (a0.Enum.Done + (1 : Int)), .map (some aW), .slice p43 n45 c44, .slice p49 n51 c50, .slice bE bD bF]) 0 hO rfl rfl rfl rfl
 obtain ⟨MH, fR, Di⟩ := hobt
 dsimp only [sS, sZ] at fR
 refine GoR.op (Di Try.underlying3 rfl ti3 (by exact rfl) (by exact rfl)) rfl rfl ?_
 replace aa := aa.ch fR.ch
 replace dk := dk.ch fR.ch
 replace cG := cG.ch fR.ch
 replace cv := cv.ch fR.ch
 replace vz := vz.ch fR.ch
 replace ca := ca.ch fR.ch
 replace bf := bf.ch fR.ch
 replace aX := aX.ch fR.ch
 replace ac := ac.ch fR.ch
 replace hO := fR.own
 replace rR := rR.ch fR.ch
 replace tX := tX.ch fR.ch
 replace hB := hB.trans fR.fr
 refine GoR.nil ?_
 refine Go1.seq ?_
 refine Go1.region ?_
 refine GoR.op ((op_assign rfl) _) rfl rfl ?_
 refine GoR.nil ?_
 refine Go1.ret1 Try.func51 rfl ?_
 exact ⟨((0 : Int)), (⟨(⟨a0.Enum.Points, a0.Enum.Monoid, a0.Enum.Gens, d_16, d_22, d_28, a0.Enum.Right ++ ([d_13]), d_34, (a0.Enum.Done + (1 : Int))⟩ : Enum), m1_52, d_40, d_46, a0.single⟩ : run), ao, ap, aq, cL, n21, p19, c20, mE, n27, p25, c26, nl, n33, p31, c32, nm, (aE + 1), zi, zj, F3, n39, p37, c38, np, n45, p43, c44, eC, n51, p49, c50, eF, bD, bE, bF, dw, rfl, hO, aa, dk, cG, cv, vz, ca, bf, aX, ac, hB, H⟩
theorem body50 : Body Try.prog 50 := ⟨Try.f50, Try.func50, rfl, by kernel_rfl⟩
theorem body17 : Body Try.prog 17 := ⟨Try.f17, Try.func17, rfl, by kernel_rfl⟩
theorem walk_enumerate_Build {A : List Nat} {w0 : World} {lj : Option Addr} {lk : Nat} {gens : List (List Int)} {monoid : Bool} (hA : ∀ b ∈ A, b < w0.heap.size) (eG : ISl (Rp.sl (Rp.int .i64)) A w0 lj lk gens) {K : Enum → Int → Prop} (H : enumerate_Build gens monoid K) :
    CallsV Try.prog 17 #[.slice lj gens.length lk, .bool monoid] w0 (fun v w' => ∃ (r0 : Enum), ∃ (r1 : Int), ∃ (xw : Option Addr), ∃ (xx : Nat), ∃ (wG : Option Addr), ∃ (wH : Nat), ∃ (vN : Option Addr), ∃ (vO : Nat), ∃ (xz : Option Addr), ∃ (xA : Nat), ∃ (wI : Option Addr), ∃ (wJ : Nat), ∃ (wK : Option Addr), ∃ (wL : Nat), v = .tuple #[.agg #[.int .i64 r0.Points, .bool r0.Monoid, .slice xw r0.Gens.length xx, .slice wG r0.Elems.length wH, .slice vN r0.Prefix.length vO, .slice xz r0.Last.length xA, .slice wI r0.Right.length wJ, .slice wK r0.Rules.length wL, .int .i64 r0.Done], .int .i64 r1] ∧ Same w0 w' ∧ ISl (Rp.sl (Rp.int .i64)) A w' xw xx r0.Gens ∧ ISl (Rp.sl (Rp.int .i64)) A w' wG wH r0.Elems ∧ ISl (Rp.int .i64) A w' vN vO r0.Prefix ∧ ISl (Rp.int .i64) A w' xz xA r0.Last ∧ ISl (Rp.sl (Rp.int .i64)) A w' wI wJ r0.Right ∧ ISl (rpRule) A w' wK wL r0.Rules ∧ K r0 r1) := by
 refine CallsV.of (l := [.slice lj gens.length lk, .bool monoid]) Try.func17 rfl Try.ntmps17 rfl ?_
 have hO := Owns.start hA
 have hB := Fr.refl (bl []) w0
 unfold enumerate_Build at H
 replace eG := eG.ch (Ch.start A w0)
 refine Go1.seq ?_
 refine Go1.region ?_
 have hobt := oalloc (t := 29) (cs := #[.int .i64 (0 : Int), .bool false, .slice none 0 0, .slice none 0 0, .slice none 0 0, .slice none 0 0, .slice none 0 0, .slice none 0 0, .int .i64 (0 : Int)]) ti29 hO rfl
 obtain ⟨w1, B2, jo, hs4, wl⟩ := hobt
 refine GoR.op wl rfl rfl ?_
 replace hO := jo.own
 replace eG := eG.ch jo.ch
 replace hB := hB.trans jo.fr
 refine GoR.op ((op_assign rfl) _) rfl rfl ?_
 refine GoR.nil ?_
 refine Go1.seq ?_
 refine Go1.region ?_
 refine GoR.op ((op_move rfl) _) rfl rfl ?_
 refine GoR.op ((op_move rfl) _) rfl rfl ?_
 refine GoR.call (op_call body49 rfl (walk_enumerate_begin hO.lt eG H)) rfl rfl ?_
 intro v9 w10 hcase13
 refine Or.elim hcase13 ?_ ?_
 ·refine exE fun r8 => andE fun hv14 => andE fun u9 => fun H => ?_
  subst hv14
  clear hcase13
  replace H := oElimN H
  have rS := Stp.same hO u9
  replace hO := rS.own
  replace eG := eG.ch rS.ch
  replace hB := hB.trans rS.fr
  refine GoR.op ((op_move rfl) _) rfl rfl ?_
  refine GoR.op ((op_extract rfl rfl) _) rfl rfl ?_
  refine GoR.op ((op_extract rfl rfl) _) rfl rfl ?_
  refine GoR.op ((op_assign rfl) _) rfl rfl ?_
  refine GoR.op ((op_assign rfl) _) rfl rfl ?_
  refine GoR.nil ?_
  refine Go1.seq ?_
  refine Go1.seq ?_
  refine Go1.region ?_
  refine GoR.op ((op_move rfl) _) rfl rfl ?_
  by_cases h16 : r8 = (0 : Int)
  ·replace H := ifp h16 H
   refine GoR.op ((fun w => opB (op_neq rfl rfl w) (ndT h16)) _) rfl rfl ?_
   refine GoR.nil ?_
   refine Go1.condF rfl rfl ?_
   refine Go1.skip ?_
   refine Go1.seq ?_
   refine Go1.block ?_
   refine Go1.loopW (S := Unit) (fun s σ w => agrees σ [(4, .pointer (some ⟨B2, 0, none⟩)), (6, .pointer none)] ∧ Owns w0.heap.size w [.blk B2 (.cells #[.int .i64 (0 : Int), .bool false, .slice none 0 0, .slice none 0 0, .slice none 0 0, .slice none 0 0, .slice none 0 0, .slice none 0 0, .int .i64 (0 : Int)] 29 (0, 0))] A ∧ Fr (bl []) w0 (bl [.blk B2 (.cells #[.int .i64 (0 : Int), .bool false, .slice none 0 0, .slice none 0 0, .slice none 0 0, .slice none 0 0, .slice none 0 0, .slice none 0 0, .int .i64 (0 : Int)] 29 (0, 0))]) w) H ⟨⟨rfl, rfl, trivial⟩, hO, hB⟩ ?_
   intro X1 _
   intro H hX1 σ w17
   refine andE fun hag => andE fun hO => fun hB => ?_
   refine Go1.keep [(4, .pointer (some ⟨B2, 0, none⟩)), (6, .pointer none)] hag ?_
   refine Go1.seq ?_
   refine Go1.seq ?_
   refine Go1.region ?_
   refine GoR.op ((op_move rfl) _) rfl rfl ?_
   refine GoR.inl (vs := [.pointer none]) (caps := []) rfl rfl body50 Try.func50 rfl Try.ntmps50 rfl rfl rfl ?_
   intro RhR18 hR18
   refine Go1.seq ?_
   refine Go1.region ?_
   refine GoR.op ((op_assign rfl) _) rfl rfl ?_
   refine GoR.nil ?_
   refine Go1.seq ?_
   refine Go1.drawS 0 [(0, .pure), (1, .pure), (2, .pure), (3, .pure), (4, .stable), (5, .pure), (6, .pure), (7, .pure), (8, .pure), (9, .stable), (10, .pure), (11, .pure), (12, .pure)] mixed (by kernel_rfl) ?_
   intro w19 AN
   have si := Stp.same hO AN
   replace hO := si.own
   replace hB := hB.trans si.fr
   refine GoQ.pure rfl (op_move rfl) rfl rfl ?_
   exact H.elim
  replace H := ifn h16 H
  refine GoR.op ((fun w => opB (op_neq rfl rfl w) (ndF h16)) _) rfl rfl ?_
  refine GoR.nil ?_
  refine Go1.condT rfl rfl ?_
  refine Go1.seq ?_
  refine Go1.region ?_
  refine GoR.op ((op_build Try.underlying29 ti29 (pl := [(0, 1), (1, 1), (2, 1), (3, 1), (4, 1), (5, 1), (6, 1), (7, 1), (8, 1)]) (vs := []) (cs := #[.int .i64 (0 : Int), .bool false, .slice none 0 0, .slice none 0 0, .slice none 0 0, .slice none 0 0, .slice none 0 0, .slice none 0 0, .int .i64 (0 : Int)]) (by kernel_rfl) rfl (by kernel_rfl)) _) rfl rfl ?_
  refine GoR.op ((op_move rfl) _) rfl rfl ?_
  have hobt := oblkStAgg (us := [.int .i64 (0 : Int), .bool false, .slice none 0 0, .slice none 0 0, .slice none 0 0, .slice none 0 0, .slice none 0 0, .slice none 0 0, .int .i64 (0 : Int)]) (o := 0) (cs' := #[.int .i64 (0 : Int), .bool false, .slice none 0 0, .slice none 0 0, .slice none 0 0, .slice none 0 0, .slice none 0 0, .slice none 0 0, .int .i64 (0 : Int)]) 0 hO rfl rfl (Nat.le_of_ble_eq_true rfl) rfl
  obtain ⟨w22, jy, F4⟩ := hobt
  refine GoR.op (F4 ti29 (by exact rfl) (by exact rfl) rfl) rfl rfl ?_
  replace hO := jy.own
  replace eG := eG.ch jy.ch
  replace hB := hB.trans jy.fr
  refine GoR.op ((op_assign rfl) _) rfl rfl ?_
  refine GoR.nil ?_
  refine Go1.retC2 Try.func17 rfl rfl (run_loadBlk (vs := [.int .i64 (0 : Int), .bool false, .slice none 0 0, .slice none 0 0, .slice none 0 0, .slice none 0 0, .slice none 0 0, .slice none 0 0, .int .i64 (0 : Int)]) 0 hO rfl rfl Try.underlying29 rfl ti29) ?_
  exact ⟨(⟨(0 : Int), false, ([] : List (List Int)), ([] : List (List Int)), ([] : List Int), ([] : List Int), ([] : List (List Int)), ([] : List Rule), (0 : Int)⟩ : Enum), r8, none, 0, none, 0, none, 0, none, 0, none, 0, none, 0, rfl, hB.same, (ISl.null _ _ _), (ISl.null _ _ _), (ISl.null _ _ _), (ISl.null _ _ _), (ISl.null _ _ _), (ISl.null _ _ _), H⟩
 ·refine exE fun r7 => exE fun r8 => exE fun lW => exE fun uv => exE fun uw => exE fun ux => exE fun tY => exE fun tZ => exE fun t0 => exE fun t3 => exE fun tH => exE fun tI => exE fun tJ => exE fun tK => exE fun tt => exE fun uy => exE fun uz => exE fun uA => exE fun t4 => exE fun t5 => exE fun t6 => exE fun t7 => exE fun tL => exE fun t8 => exE fun t9 => exE fun ua => exE fun tM => exE fun cF => exE fun wM => exE fun wN => exE fun wO => exE fun vP => exE fun vQ => exE fun vR => exE fun vS => exE fun va => exE fun vT => exE fun vU => exE fun vV => exE fun vb => andE fun hv25 => andE fun u9 => andE fun hN12 => andE fun gX => andE fun fL => andE fun fN => andE fun gY => andE fun gh => andE fun gi => andE fun gZ => andE fun jw => andE fun jx => fun H => ?_
  subst hv25
  clear hcase13
  replace H := oElimS H
  have rm := Stp.more hO u9 hN12
  dsimp only [List.cons_append, List.nil_append] at rm
  replace hO := rm.own
  replace eG := eG.ch rm.ch
  replace hB := hB.trans rm.fr
  replace gX := gX.ch (Ch.assoc _ _ _ _)
  dsimp only [List.cons_append, List.nil_append] at gX
  replace fL := fL.ch (Ch.assoc _ _ _ _)
  dsimp only [List.cons_append, List.nil_append] at fL
  replace fN := fN.ch (Ch.assoc _ _ _ _)
  dsimp only [List.cons_append, List.nil_append] at fN
  replace gY := gY.ch (Ch.assoc _ _ _ _)
  dsimp only [List.cons_append, List.nil_append] at gY
  replace gh := gh.ch (Ch.assoc _ _ _ _)
  dsimp only [List.cons_append, List.nil_append] at gh
  replace gi := gi.ch (Ch.assoc _ _ _ _)
  dsimp only [List.cons_append, List.nil_append] at gi
  replace gZ := gZ.ch (Ch.assoc _ _ _ _)
  dsimp only [List.cons_append, List.nil_append] at gZ
  replace jw := jw.ch (Ch.assoc _ _ _ _)
  dsimp only [List.cons_append, List.nil_append] at jw
  replace jx := jx.ch (Ch.assoc _ _ _ _)
  dsimp only [List.cons_append, List.nil_append] at jx
  refine GoR.op ((op_move rfl) _) rfl rfl ?_
  refine GoR.op ((op_extract rfl rfl) _) rfl rfl ?_
  refine GoR.op ((op_extract rfl rfl) _) rfl rfl ?_
  refine GoR.op ((op_assign rfl) _) rfl rfl ?_
  refine GoR.op ((op_assign rfl) _) rfl rfl ?_
  refine GoR.nil ?_
  refine Go1.seq ?_
  refine Go1.seq ?_
  refine Go1.region ?_
  refine GoR.op ((op_move rfl) _) rfl rfl ?_
  by_cases h38 : r8 = (0 : Int)
  ·replace H := ifp h38 H
   refine GoR.op ((fun w => opB (op_neq rfl rfl w) (ndT h38)) _) rfl rfl ?_
   refine GoR.nil ?_
   refine Go1.condF rfl rfl ?_
   refine Go1.skip ?_
   refine Go1.seq ?_
   refine Go1.block ?_
   refine Go1.loopW (S := Int × Bool × Int × List (List Int) × List (List Int) × List Int × List Int × List (List Int) × List Rule × List Str × List Int × List Int × (List (Str × Int))) (fun s σ w => match s with | (k2_40, b2_41, k2_42, d_43, d_49, d_55, d_61, d_67, d_73, d_79, d_85, d_91, m2_97) => ∃ (n48 : Nat), ∃ (p46 : Option Addr), ∃ (c47 : Nat), ∃ (qq : List Value), ∃ (n54 : Nat), ∃ (p52 : Option Addr), ∃ (c53 : Nat), ∃ (qr : List Value), ∃ (n60 : Nat), ∃ (p58 : Option Addr), ∃ (c59 : Nat), ∃ (qs : List Value), ∃ (n66 : Nat), ∃ (p64 : Option Addr), ∃ (c65 : Nat), ∃ (qt : List Value), ∃ (n72 : Nat), ∃ (p70 : Option Addr), ∃ (c71 : Nat), ∃ (qu : List Value), ∃ (n78 : Nat), ∃ (p76 : Option Addr), ∃ (c77 : Nat), ∃ (qv : List Value), ∃ (n84 : Nat), ∃ (p82 : Option Addr), ∃ (c83 : Nat), ∃ (oo : List Value), ∃ (n90 : Nat), ∃ (p88 : Option Addr), ∃ (c89 : Nat), ∃ (qw : List Value), ∃ (n96 : Nat), ∃ (p94 : Option Addr), ∃ (c95 : Nat), ∃ (qx : List Value), agrees σ [(4, .pointer (some ⟨B2, 0, none⟩)), (6, .pointer (some ⟨lW, 0, none⟩))] ∧ Owns w0.heap.size w [.blk lW (.cells #[.int .i64 k2_40, .bool b2_41, .slice p46 n48 c47, .slice p52 n54 c53, .slice p58 n60 c59, .slice p64 n66 c65, .slice p70 n72 c71, .slice p76 n78 c77, .int .i64 k2_42, .map (some cF), .slice p82 n84 c83, .slice p88 n90 c89, .slice p94 n96 c95] 72 (0, 0)), .row 26 1 p46 n48 c47 qq, .row 26 1 p52 n54 c53 qr, .row 3 1 p58 n60 c59 qs, .row 3 1 p64 n66 c65 qt, .row 26 1 p70 n72 c71 qu, .row 39 2 p76 n78 c77 qv, .row 9 1 p82 n84 c83 oo, .row 3 1 p88 n90 c89 qw, .row 3 1 p94 n96 c95 qx, .any (mapE (fun a : List UInt8 => Value.string (gstr a)) (fun a : Int => Value.int .i64 a) cF m2_97), .blk B2 (.cells #[.int .i64 (0 : Int), .bool false, .slice none 0 0, .slice none 0 0, .slice none 0 0, .slice none 0 0, .slice none 0 0, .slice none 0 0, .int .i64 (0 : Int)] 29 (0, 0))] A ∧ Els (Rp.sl (Rp.int .i64)) (bl [.blk lW (.cells #[.int .i64 k2_40, .bool b2_41, .slice p46 n48 c47, .slice p52 n54 c53, .slice p58 n60 c59, .slice p64 n66 c65, .slice p70 n72 c71, .slice p76 n78 c77, .int .i64 k2_42, .map (some cF), .slice p82 n84 c83, .slice p88 n90 c89, .slice p94 n96 c95] 72 (0, 0)), .row 26 1 p46 n48 c47 qq, .row 26 1 p52 n54 c53 qr, .row 3 1 p58 n60 c59 qs, .row 3 1 p64 n66 c65 qt, .row 26 1 p70 n72 c71 qu, .row 39 2 p76 n78 c77 qv, .row 9 1 p82 n84 c83 oo, .row 3 1 p88 n90 c89 qw, .row 3 1 p94 n96 c95 qx, .any (mapE (fun a : List UInt8 => Value.string (gstr a)) (fun a : Int => Value.int .i64 a) cF m2_97), .blk B2 (.cells #[.int .i64 (0 : Int), .bool false, .slice none 0 0, .slice none 0 0, .slice none 0 0, .slice none 0 0, .slice none 0 0, .slice none 0 0, .int .i64 (0 : Int)] 29 (0, 0))] ++ A) w qq d_43 ∧ Els (Rp.sl (Rp.int .i64)) (bl [.blk lW (.cells #[.int .i64 k2_40, .bool b2_41, .slice p46 n48 c47, .slice p52 n54 c53, .slice p58 n60 c59, .slice p64 n66 c65, .slice p70 n72 c71, .slice p76 n78 c77, .int .i64 k2_42, .map (some cF), .slice p82 n84 c83, .slice p88 n90 c89, .slice p94 n96 c95] 72 (0, 0)), .row 26 1 p46 n48 c47 qq, .row 26 1 p52 n54 c53 qr, .row 3 1 p58 n60 c59 qs, .row 3 1 p64 n66 c65 qt, .row 26 1 p70 n72 c71 qu, .row 39 2 p76 n78 c77 qv, .row 9 1 p82 n84 c83 oo, .row 3 1 p88 n90 c89 qw, .row 3 1 p94 n96 c95 qx, .any (mapE (fun a : List UInt8 => Value.string (gstr a)) (fun a : Int => Value.int .i64 a) cF m2_97), .blk B2 (.cells #[.int .i64 (0 : Int), .bool false, .slice none 0 0, .slice none 0 0, .slice none 0 0, .slice none 0 0, .slice none 0 0, .slice none 0 0, .int .i64 (0 : Int)] 29 (0, 0))] ++ A) w qr d_49 ∧ Els (Rp.int .i64) (bl [.blk lW (.cells #[.int .i64 k2_40, .bool b2_41, .slice p46 n48 c47, .slice p52 n54 c53, .slice p58 n60 c59, .slice p64 n66 c65, .slice p70 n72 c71, .slice p76 n78 c77, .int .i64 k2_42, .map (some cF), .slice p82 n84 c83, .slice p88 n90 c89, .slice p94 n96 c95] 72 (0, 0)), .row 26 1 p46 n48 c47 qq, .row 26 1 p52 n54 c53 qr, .row 3 1 p58 n60 c59 qs, .row 3 1 p64 n66 c65 qt, .row 26 1 p70 n72 c71 qu, .row 39 2 p76 n78 c77 qv, .row 9 1 p82 n84 c83 oo, .row 3 1 p88 n90 c89 qw, .row 3 1 p94 n96 c95 qx, .any (mapE (fun a : List UInt8 => Value.string (gstr a)) (fun a : Int => Value.int .i64 a) cF m2_97), .blk B2 (.cells #[.int .i64 (0 : Int), .bool false, .slice none 0 0, .slice none 0 0, .slice none 0 0, .slice none 0 0, .slice none 0 0, .slice none 0 0, .int .i64 (0 : Int)] 29 (0, 0))] ++ A) w qs d_55 ∧ Els (Rp.int .i64) (bl [.blk lW (.cells #[.int .i64 k2_40, .bool b2_41, .slice p46 n48 c47, .slice p52 n54 c53, .slice p58 n60 c59, .slice p64 n66 c65, .slice p70 n72 c71, .slice p76 n78 c77, .int .i64 k2_42, .map (some cF), .slice p82 n84 c83, .slice p88 n90 c89, .slice p94 n96 c95] 72 (0, 0)), .row 26 1 p46 n48 c47 qq, .row 26 1 p52 n54 c53 qr, .row 3 1 p58 n60 c59 qs, .row 3 1 p64 n66 c65 qt, .row 26 1 p70 n72 c71 qu, .row 39 2 p76 n78 c77 qv, .row 9 1 p82 n84 c83 oo, .row 3 1 p88 n90 c89 qw, .row 3 1 p94 n96 c95 qx, .any (mapE (fun a : List UInt8 => Value.string (gstr a)) (fun a : Int => Value.int .i64 a) cF m2_97), .blk B2 (.cells #[.int .i64 (0 : Int), .bool false, .slice none 0 0, .slice none 0 0, .slice none 0 0, .slice none 0 0, .slice none 0 0, .slice none 0 0, .int .i64 (0 : Int)] 29 (0, 0))] ++ A) w qt d_61 ∧ Els (Rp.sl (Rp.int .i64)) (bl [.blk lW (.cells #[.int .i64 k2_40, .bool b2_41, .slice p46 n48 c47, .slice p52 n54 c53, .slice p58 n60 c59, .slice p64 n66 c65, .slice p70 n72 c71, .slice p76 n78 c77, .int .i64 k2_42, .map (some cF), .slice p82 n84 c83, .slice p88 n90 c89, .slice p94 n96 c95] 72 (0, 0)), .row 26 1 p46 n48 c47 qq, .row 26 1 p52 n54 c53 qr, .row 3 1 p58 n60 c59 qs, .row 3 1 p64 n66 c65 qt, .row 26 1 p70 n72 c71 qu, .row 39 2 p76 n78 c77 qv, .row 9 1 p82 n84 c83 oo, .row 3 1 p88 n90 c89 qw, .row 3 1 p94 n96 c95 qx, .any (mapE (fun a : List UInt8 => Value.string (gstr a)) (fun a : Int => Value.int .i64 a) cF m2_97), .blk B2 (.cells #[.int .i64 (0 : Int), .bool false, .slice none 0 0, .slice none 0 0, .slice none 0 0, .slice none 0 0, .slice none 0 0, .slice none 0 0, .int .i64 (0 : Int)] 29 (0, 0))] ++ A) w qu d_67 ∧ Els (rpRule) (bl [.blk lW (.cells #[.int .i64 k2_40, .bool b2_41, .slice p46 n48 c47, .slice p52 n54 c53, .slice p58 n60 c59, .slice p64 n66 c65, .slice p70 n72 c71, .slice p76 n78 c77, .int .i64 k2_42, .map (some cF), .slice p82 n84 c83, .slice p88 n90 c89, .slice p94 n96 c95] 72 (0, 0)), .row 26 1 p46 n48 c47 qq, .row 26 1 p52 n54 c53 qr, .row 3 1 p58 n60 c59 qs, .row 3 1 p64 n66 c65 qt, .row 26 1 p70 n72 c71 qu, .row 39 2 p76 n78 c77 qv, .row 9 1 p82 n84 c83 oo, .row 3 1 p88 n90 c89 qw, .row 3 1 p94 n96 c95 qx, .any (mapE (fun a : List UInt8 => Value.string (gstr a)) (fun a : Int => Value.int .i64 a) cF m2_97), .blk B2 (.cells #[.int .i64 (0 : Int), .bool false, .slice none 0 0, .slice none 0 0, .slice none 0 0, .slice none 0 0, .slice none 0 0, .slice none 0 0, .int .i64 (0 : Int)] 29 (0, 0))] ++ A) w qv d_73 ∧ Els (Rp.str) (bl [.blk lW (.cells #[.int .i64 k2_40, .bool b2_41, .slice p46 n48 c47, .slice p52 n54 c53, .slice p58 n60 c59, .slice p64 n66 c65, .slice p70 n72 c71, .slice p76 n78 c77, .int .i64 k2_42, .map (some cF), .slice p82 n84 c83, .slice p88 n90 c89, .slice p94 n96 c95] 72 (0, 0)), .row 26 1 p46 n48 c47 qq, .row 26 1 p52 n54 c53 qr, .row 3 1 p58 n60 c59 qs, .row 3 1 p64 n66 c65 qt, .row 26 1 p70 n72 c71 qu, .row 39 2 p76 n78 c77 qv, .row 9 1 p82 n84 c83 oo, .row 3 1 p88 n90 c89 qw, .row 3 1 p94 n96 c95 qx, .any (mapE (fun a : List UInt8 => Value.string (gstr a)) (fun a : Int => Value.int .i64 a) cF m2_97), .blk B2 (.cells #[.int .i64 (0 : Int), .bool false, .slice none 0 0, .slice none 0 0, .slice none 0 0, .slice none 0 0, .slice none 0 0, .slice none 0 0, .int .i64 (0 : Int)] 29 (0, 0))] ++ A) w oo d_79 ∧ Els (Rp.int .i64) (bl [.blk lW (.cells #[.int .i64 k2_40, .bool b2_41, .slice p46 n48 c47, .slice p52 n54 c53, .slice p58 n60 c59, .slice p64 n66 c65, .slice p70 n72 c71, .slice p76 n78 c77, .int .i64 k2_42, .map (some cF), .slice p82 n84 c83, .slice p88 n90 c89, .slice p94 n96 c95] 72 (0, 0)), .row 26 1 p46 n48 c47 qq, .row 26 1 p52 n54 c53 qr, .row 3 1 p58 n60 c59 qs, .row 3 1 p64 n66 c65 qt, .row 26 1 p70 n72 c71 qu, .row 39 2 p76 n78 c77 qv, .row 9 1 p82 n84 c83 oo, .row 3 1 p88 n90 c89 qw, .row 3 1 p94 n96 c95 qx, .any (mapE (fun a : List UInt8 => Value.string (gstr a)) (fun a : Int => Value.int .i64 a) cF m2_97), .blk B2 (.cells #[.int .i64 (0 : Int), .bool false, .slice none 0 0, .slice none 0 0, .slice none 0 0, .slice none 0 0, .slice none 0 0, .slice none 0 0, .int .i64 (0 : Int)] 29 (0, 0))] ++ A) w qw d_85 ∧ Els (Rp.int .i64) (bl [.blk lW (.cells #[.int .i64 k2_40, .bool b2_41, .slice p46 n48 c47, .slice p52 n54 c53, .slice p58 n60 c59, .slice p64 n66 c65, .slice p70 n72 c71, .slice p76 n78 c77, .int .i64 k2_42, .map (some cF), .slice p82 n84 c83, .slice p88 n90 c89, .slice p94 n96 c95] 72 (0, 0)), .row 26 1 p46 n48 c47 qq, .row 26 1 p52 n54 c53 qr, .row 3 1 p58 n60 c59 qs, .row 3 1 p64 n66 c65 qt, .row 26 1 p70 n72 c71 qu, .row 39 2 p76 n78 c77 qv, .row 9 1 p82 n84 c83 oo, .row 3 1 p88 n90 c89 qw, .row 3 1 p94 n96 c95 qx, .any (mapE (fun a : List UInt8 => Value.string (gstr a)) (fun a : Int => Value.int .i64 a) cF m2_97), .blk B2 (.cells #[.int .i64 (0 : Int), .bool false, .slice none 0 0, .slice none 0 0, .slice none 0 0, .slice none 0 0, .slice none 0 0, .slice none 0 0, .int .i64 (0 : Int)] 29 (0, 0))] ++ A) w qx d_91 ∧ Fr (bl []) w0 (bl [.blk lW (.cells #[.int .i64 k2_40, .bool b2_41, .slice p46 n48 c47, .slice p52 n54 c53, .slice p58 n60 c59, .slice p64 n66 c65, .slice p70 n72 c71, .slice p76 n78 c77, .int .i64 k2_42, .map (some cF), .slice p82 n84 c83, .slice p88 n90 c89, .slice p94 n96 c95] 72 (0, 0)), .row 26 1 p46 n48 c47 qq, .row 26 1 p52 n54 c53 qr, .row 3 1 p58 n60 c59 qs, .row 3 1 p64 n66 c65 qt, .row 26 1 p70 n72 c71 qu, .row 39 2 p76 n78 c77 qv, .row 9 1 p82 n84 c83 oo, .row 3 1 p88 n90 c89 qw, .row 3 1 p94 n96 c95 qx, .any (mapE (fun a : List UInt8 => Value.string (gstr a)) (fun a : Int => Value.int .i64 a) cF m2_97), .blk B2 (.cells #[.int .i64 (0 : Int), .bool false, .slice none 0 0, .slice none 0 0, .slice none 0 0, .slice none 0 0, .slice none 0 0, .slice none 0 0, .int .i64 (0 : Int)] 29 (0, 0))]) w) H ⟨uv, uw, ux, tY, tZ, t0, t3, tH, tI, tJ, tK, tt, uy, uz, uA, t4, t5, t6, t7, tL, t8, t9, ua, tM, wM, wN, wO, vP, vQ, vR, vS, va, vT, vU, vV, vb, ⟨rfl, rfl, trivial⟩, hO, gX, fL, fN, gY, gh, gi, gZ, jw, jx, hB⟩ ?_
   intro X2
   refine prE fun k2_40 => prE fun b2_41 => prE fun k2_42 => prE fun d_43 => prE fun d_49 => prE fun d_55 => prE fun d_61 => prE fun d_67 => prE fun d_73 => prE fun d_79 => prE fun d_85 => prE fun d_91 => fun m2_97 => ?_
   intro H hX2 σ w39
   refine exE fun n48 => exE fun p46 => exE fun c47 => exE fun qq => exE fun n54 => exE fun p52 => exE fun c53 => exE fun qr => exE fun n60 => exE fun p58 => exE fun c59 => exE fun qs => exE fun n66 => exE fun p64 => exE fun c65 => exE fun qt => exE fun n72 => exE fun p70 => exE fun c71 => exE fun qu => exE fun n78 => exE fun p76 => exE fun c77 => exE fun qv => exE fun n84 => exE fun p82 => exE fun c83 => exE fun oo => exE fun n90 => exE fun p88 => exE fun c89 => exE fun qw => exE fun n96 => exE fun p94 => exE fun c95 => exE fun qx => andE fun hag => andE fun hO => andE fun xl => andE fun uJ => andE fun ul => andE fun tn => andE fun rq => andE fun ry => andE fun qX => andE fun qY => andE fun ku => fun hB => ?_
   dsimp only at H
   refine Go1.keep [(4, .pointer (some ⟨B2, 0, none⟩)), (6, .pointer (some ⟨lW, 0, none⟩))] hag ?_
   refine Go1.seq ?_
   refine Go1.seq ?_
   refine Go1.region ?_
   refine GoR.op ((op_move rfl) _) rfl rfl ?_
   refine GoR.inl (vs := [.pointer (some ⟨lW, 0, none⟩)]) (caps := []) rfl rfl body50 Try.func50 rfl Try.ntmps50 rfl rfl rfl ?_
   intro RhR98 hR98
   refine Go1.seq ?_
   refine Go1.region ?_
   refine GoR.op ((op_assign rfl) _) rfl rfl ?_
   refine GoR.nil ?_
   refine Go1.seq ?_
   refine Go1.drawS 0 [(0, .pure), (1, .pure), (2, .pure), (3, .pure), (4, .stable), (5, .pure), (6, .pure), (7, .pure), (8, .pure), (9, .stable), (10, .pure), (11, .pure), (12, .pure)] mixed (by kernel_rfl) ?_
   intro w99 F5
   have j8 := Stp.same hO F5
   replace xl := xl.ch j8.ch
   replace uJ := uJ.ch j8.ch
   replace ul := ul.ch j8.ch
   replace tn := tn.ch j8.ch
   replace rq := rq.ch j8.ch
   replace ry := ry.ch j8.ch
   replace qX := qX.ch j8.ch
   replace qY := qY.ch j8.ch
   replace ku := ku.ch j8.ch
   replace hO := j8.own
   replace hB := hB.trans j8.fr
   refine GoQ.pure rfl (op_move rfl) rfl rfl ?_
   refine GoQ.pure rfl (op_nilCheck rfl) rfl rfl ?_
   refine GoQ.pure rfl (op_fieldAddr Try.underlying72 rfl ti29 rfl (by decide)) rfl rfl ?_
   refine GoQ.pure rfl (op_fieldAddr Try.underlying29 rfl ti3 rfl (by decide)) rfl rfl ?_
   refine GoQ.stable rfl (oblk (i := 8) 0 hO rfl rfl Try.underlying3 rfl rfl) rfl rfl ?_
   refine GoQ.pure rfl (op_move rfl) rfl rfl ?_
   refine GoQ.pure rfl (op_nilCheck rfl) rfl rfl ?_
   refine GoQ.pure rfl (op_fieldAddr Try.underlying72 rfl ti29 rfl (by decide)) rfl rfl ?_
   refine GoQ.pure rfl (op_fieldAddr Try.underlying29 rfl ti22 rfl (by decide)) rfl rfl ?_
   refine GoQ.stable rfl (oblk (i := 3) 0 hO rfl rfl Try.underlying22 rfl rfl) rfl rfl ?_
   refine GoQ.pure rfl (op_lenN Try.underlying22 rfl (uJ.neq hO 2 rfl)) rfl rfl ?_
   by_cases vc : k2_42 = (d_49.length : Int)
   ·replace H := ifp vc H
    refine GoQ.pure rfl (fun w => opB (op_eql rfl rfl w) (decide_eq_true vc)) rfl rfl ?_
    refine GoQ.pure rfl (op_assign rfl) rfl rfl ?_
    refine GoQ.nil ?_
    refine Go1.ret1V Try.func50 rfl (show _ = .bool true from rfl) ?_
    refine hR98 _ _ ?_
    refine GoR.op ((op_not rfl) _) rfl rfl ?_
    refine GoR.nil ?_
    refine Go1.condF rfl rfl ?_
    refine Go1.exit rfl ?_
    refine Go1.seq ?_
    refine Go1.region ?_
    refine GoR.op ((op_move rfl) _) rfl rfl ?_
    refine GoR.op ((op_nilCheck rfl) _) rfl rfl ?_
    refine GoR.op ((op_fieldAddr Try.underlying72 rfl ti29 rfl (by decide)) _) rfl rfl ?_
    refine GoR.op ((oblkAgg (vs := [.int .i64 k2_40, .bool b2_41, .slice p46 n48 c47, .slice p52 n54 c53, .slice p58 n60 c59, .slice p64 n66 c65, .slice p70 n72 c71, .slice p76 n78 c77, .int .i64 k2_42]) (i := 0) 0 hO rfl rfl Try.underlying29 rfl ti29 rfl) _ (Same.refl _)) rfl rfl ?_
    have hobt := oblkStAgg (us := [.int .i64 k2_40, .bool b2_41, .slice p46 n48 c47, .slice p52 n54 c53, .slice p58 n60 c59, .slice p64 n66 c65, .slice p70 n72 c71, .slice p76 n78 c77, .int .i64 k2_42]) (o := 0) (cs' := #[.int .i64 k2_40, .bool b2_41, .slice p46 n48 c47, .slice p52 n54 c53, .slice p58 n60 c59, .slice p64 n66 c65, .slice p70 n72 c71, .slice p76 n78 c77, .int .i64 k2_42]) 11 hO rfl rfl (Nat.le_of_ble_eq_true rfl) rfl
    obtain ⟨MJ, jl, Dj⟩ := hobt
    dsimp only [sS, sZ] at jl
    refine GoR.op (Dj ti29 (by exact rfl) (by exact rfl) rfl) rfl rfl ?_
    replace xl := xl.ch jl.ch
    replace uJ := uJ.ch jl.ch
    replace ul := ul.ch jl.ch
    replace tn := tn.ch jl.ch
    replace rq := rq.ch jl.ch
    replace ry := ry.ch jl.ch
    replace qX := qX.ch jl.ch
    replace qY := qY.ch jl.ch
    replace ku := ku.ch jl.ch
    replace hO := jl.own
    replace hB := hB.trans jl.fr
    refine GoR.op ((op_assign rfl) _) rfl rfl ?_
    refine GoR.nil ?_
    have hobt := freeze 1 hO rfl xl
    obtain ⟨hO1, tv, rT, F6⟩ := hobt
    dsimp only [eS, eZ] at hO1 tv rT
    replace uJ := uJ.ch tv
    replace ul := ul.ch tv
    replace tn := tn.ch tv
    replace rq := rq.ch tv
    replace ry := ry.ch tv
    replace qX := qX.ch tv
    replace qY := qY.ch tv
    replace ku := ku.ch tv
    replace hB := hB.trans (Owns.dropFr _ _ 1)
    dsimp only [eS, eZ] at hB
    replace hO := hO1; clear hO1
    have hobt := freeze 1 hO rfl uJ
    obtain ⟨hO1, tw, sO, F7⟩ := hobt
    dsimp only [eS, eZ] at hO1 tw sO
    replace rT := rT.ch tw
    replace ul := ul.ch tw
    replace tn := tn.ch tw
    replace rq := rq.ch tw
    replace ry := ry.ch tw
    replace qX := qX.ch tw
    replace qY := qY.ch tw
    replace ku := ku.ch tw
    replace hB := hB.trans (Owns.dropFr _ _ 1)
    dsimp only [eS, eZ] at hB
    replace hO := hO1; clear hO1
    have hobt := freeze 1 hO rfl ul
    obtain ⟨hO1, tx, ub, F8⟩ := hobt
    dsimp only [eS, eZ] at hO1 tx ub
    replace rT := rT.ch tx
    replace sO := sO.ch tx
    replace tn := tn.ch tx
    replace rq := rq.ch tx
    replace ry := ry.ch tx
    replace qX := qX.ch tx
    replace qY := qY.ch tx
    replace ku := ku.ch tx
    replace hB := hB.trans (Owns.dropFr _ _ 1)
    dsimp only [eS, eZ] at hB
    replace hO := hO1; clear hO1
    have hobt := freeze 1 hO rfl tn
    obtain ⟨hO1, tz, vA, F9⟩ := hobt
    dsimp only [eS, eZ] at hO1 tz vA
    replace rT := rT.ch tz
    replace sO := sO.ch tz
    replace ub := ub.ch tz
    replace rq := rq.ch tz
    replace ry := ry.ch tz
    replace qX := qX.ch tz
    replace qY := qY.ch tz
    replace ku := ku.ch tz
    replace hB := hB.trans (Owns.dropFr _ _ 1)
    dsimp only [eS, eZ] at hB
    replace hO := hO1; clear hO1
    have hobt := freeze 1 hO rfl rq
    obtain ⟨hO1, tA, xS, Ga⟩ := hobt
    dsimp only [eS, eZ] at hO1 tA xS
    replace rT := rT.ch tA
    replace sO := sO.ch tA
    replace ub := ub.ch tA
    replace vA := vA.ch tA
    replace ry := ry.ch tA
    replace qX := qX.ch tA
    replace qY := qY.ch tA
    replace ku := ku.ch tA
    replace hB := hB.trans (Owns.dropFr _ _ 1)
    dsimp only [eS, eZ] at hB
    replace hO := hO1; clear hO1
    have hobt := freeze 1 hO rfl ry
    obtain ⟨hO1, tB, A5, Gb⟩ := hobt
    dsimp only [eS, eZ] at hO1 tB A5
    replace rT := rT.ch tB
    replace sO := sO.ch tB
    replace ub := ub.ch tB
    replace vA := vA.ch tB
    replace xS := xS.ch tB
    replace qX := qX.ch tB
    replace qY := qY.ch tB
    replace ku := ku.ch tB
    replace hB := hB.trans (Owns.dropFr _ _ 1)
    dsimp only [eS, eZ] at hB
    replace hO := hO1; clear hO1
    refine Go1.retC2 Try.func17 rfl rfl (run_loadBlk (vs := [.int .i64 k2_40, .bool b2_41, .slice p46 n48 c47, .slice p52 n54 c53, .slice p58 n60 c59, .slice p64 n66 c65, .slice p70 n72 c71, .slice p76 n78 c77, .int .i64 k2_42]) 5 hO rfl rfl Try.underlying29 rfl ti29) ?_
    exact ⟨(⟨k2_40, b2_41, d_43, d_49, d_55, d_61, d_67, d_73, k2_42⟩ : Enum), (0 : Int), p46, c47, p52, c53, p58, c59, p64, c65, p70, c71, p76, c77, (congrArg (fun l => Value.tuple (List.toArray l)) (cons_eq (congrArg (fun l => Value.agg (List.toArray l)) (cons_eq rfl (cons_eq rfl (cons_eq (congrArg (fun nn => Value.slice p46 nn c47) F6) (cons_eq (congrArg (fun nn => Value.slice p52 nn c53) F7) (cons_eq (congrArg (fun nn => Value.slice p58 nn c59) F8) (cons_eq (congrArg (fun nn => Value.slice p64 nn c65) F9) (cons_eq (congrArg (fun nn => Value.slice p70 nn c71) Ga) (cons_eq (congrArg (fun nn => Value.slice p76 nn c77) Gb) (cons_eq rfl rfl)))))))))) (cons_eq rfl rfl))), hB.same, (rT.ch (Ch.weak _ _ _)), (sO.ch (Ch.weak _ _ _)), (ub.ch (Ch.weak _ _ _)), (vA.ch (Ch.weak _ _ _)), (xS.ch (Ch.weak _ _ _)), (A5.ch (Ch.weak _ _ _)), H⟩
   replace H := ifn vc H
   refine GoQ.pure rfl (fun w => opB (op_eql rfl rfl w) (decide_eq_false vc)) rfl rfl ?_
   refine GoQ.pure rfl (op_assign rfl) rfl rfl ?_
   refine GoQ.nil ?_
   refine Go1.ret1V Try.func50 rfl (show _ = .bool false from rfl) ?_
   refine hR98 _ _ ?_
   refine GoR.op ((op_not rfl) _) rfl rfl ?_
   refine GoR.nil ?_
   refine Go1.condT rfl rfl ?_
   refine Go1.skip ?_
   refine Go1.block ?_
   refine Go1.seq ?_
   refine Go1.cut [(4, .pointer (some ⟨B2, 0, none⟩)), (6, .pointer (some ⟨lW, 0, none⟩))] ⟨rfl, rfl, trivial⟩ ?_
   intro σ _
   refine Go1.region ?_
   refine GoR.op ((op_move rfl) _) rfl rfl ?_
   have A6 : Owns w0.heap.size w99 ([.blk lW (.cells #[.int .i64 k2_40, .bool b2_41, .slice p46 n48 c47, .slice p52 n54 c53, .slice p58 n60 c59, .slice p64 n66 c65, .slice p70 n72 c71, .slice p76 n78 c77, .int .i64 k2_42, .map (some cF), .slice p82 n84 c83, .slice p88 n90 c89, .slice p94 n96 c95] 72 (0, 0)), .row 26 1 p46 n48 c47 qq, .row 26 1 p52 n54 c53 qr, .row 3 1 p58 n60 c59 qs, .row 3 1 p64 n66 c65 qt, .row 26 1 p70 n72 c71 qu, .row 39 2 p76 n78 c77 qv, .row 9 1 p82 n84 c83 oo, .row 3 1 p88 n90 c89 qw, .row 3 1 p94 n96 c95 qx, .any (mapE (fun a : List UInt8 => Value.string (gstr a)) (fun a : Int => Value.int .i64 a) cF m2_97)] ++ [.blk B2 (.cells #[.int .i64 (0 : Int), .bool false, .slice none 0 0, .slice none 0 0, .slice none 0 0, .slice none 0 0, .slice none 0 0, .slice none 0 0, .int .i64 (0 : Int)] 29 (0, 0))]) A := hO
   have Gc := Owns.split A6
   have hca126 : Ch (bl [.blk lW (.cells #[.int .i64 k2_40, .bool b2_41, .slice p46 n48 c47, .slice p52 n54 c53, .slice p58 n60 c59, .slice p64 n66 c65, .slice p70 n72 c71, .slice p76 n78 c77, .int .i64 k2_42, .map (some cF), .slice p82 n84 c83, .slice p88 n90 c89, .slice p94 n96 c95] 72 (0, 0)), .row 26 1 p46 n48 c47 qq, .row 26 1 p52 n54 c53 qr, .row 3 1 p58 n60 c59 qs, .row 3 1 p64 n66 c65 qt, .row 26 1 p70 n72 c71 qu, .row 39 2 p76 n78 c77 qv, .row 9 1 p82 n84 c83 oo, .row 3 1 p88 n90 c89 qw, .row 3 1 p94 n96 c95 qx, .any (mapE (fun a : List UInt8 => Value.string (gstr a)) (fun a : Int => Value.int .i64 a) cF m2_97), .blk B2 (.cells #[.int .i64 (0 : Int), .bool false, .slice none 0 0, .slice none 0 0, .slice none 0 0, .slice none 0 0, .slice none 0 0, .slice none 0 0, .int .i64 (0 : Int)] 29 (0, 0))] ++ A) w99 (bl [.blk lW (.cells #[.int .i64 k2_40, .bool b2_41, .slice p46 n48 c47, .slice p52 n54 c53, .slice p58 n60 c59, .slice p64 n66 c65, .slice p70 n72 c71, .slice p76 n78 c77, .int .i64 k2_42, .map (some cF), .slice p82 n84 c83, .slice p88 n90 c89, .slice p94 n96 c95] 72 (0, 0)), .row 26 1 p46 n48 c47 qq, .row 26 1 p52 n54 c53 qr, .row 3 1 p58 n60 c59 qs, .row 3 1 p64 n66 c65 qt, .row 26 1 p70 n72 c71 qu, .row 39 2 p76 n78 c77 qv, .row 9 1 p82 n84 c83 oo, .row 3 1 p88 n90 c89 qw, .row 3 1 p94 n96 c95 qx, .any (mapE (fun a : List UInt8 => Value.string (gstr a)) (fun a : Int => Value.int .i64 a) cF m2_97)] ++ (bl [.blk B2 (.cells #[.int .i64 (0 : Int), .bool false, .slice none 0 0, .slice none 0 0, .slice none 0 0, .slice none 0 0, .slice none 0 0, .slice none 0 0, .int .i64 (0 : Int)] 29 (0, 0))] ++ A)) w99 := Ch.assoc' [.blk lW (.cells #[.int .i64 k2_40, .bool b2_41, .slice p46 n48 c47, .slice p52 n54 c53, .slice p58 n60 c59, .slice p64 n66 c65, .slice p70 n72 c71, .slice p76 n78 c77, .int .i64 k2_42, .map (some cF), .slice p82 n84 c83, .slice p88 n90 c89, .slice p94 n96 c95] 72 (0, 0)), .row 26 1 p46 n48 c47 qq, .row 26 1 p52 n54 c53 qr, .row 3 1 p58 n60 c59 qs, .row 3 1 p64 n66 c65 qt, .row 26 1 p70 n72 c71 qu, .row 39 2 p76 n78 c77 qv, .row 9 1 p82 n84 c83 oo, .row 3 1 p88 n90 c89 qw, .row 3 1 p94 n96 c95 qx, .any (mapE (fun a : List UInt8 => Value.string (gstr a)) (fun a : Int => Value.int .i64 a) cF m2_97)] [.blk B2 (.cells #[.int .i64 (0 : Int), .bool false, .slice none 0 0, .slice none 0 0, .slice none 0 0, .slice none 0 0, .slice none 0 0, .slice none 0 0, .int .i64 (0 : Int)] 29 (0, 0))] A w99
   refine GoR.call (op_call body51 rfl (walk_enumerate_run_process (a0 := (⟨(⟨k2_40, b2_41, d_43, d_49, d_55, d_61, d_67, d_73, k2_42⟩ : Enum), m2_97, d_79, d_85, d_91⟩ : run)) Gc (xl.ch hca126) (uJ.ch hca126) (ul.ch hca126) (tn.ch hca126) (rq.ch hca126) (ry.ch hca126) (qX.ch hca126) (qY.ch hca126) (ku.ch hca126) H)) rfl rfl ?_
   intro ML zk
   refine exE fun r127 => exE fun q128 => exE fun g5 => exE fun g6 => exE fun g7 => exE fun mZ => exE fun gl => exE fun gm => exE fun gn => exE fun lX => exE fun fY => exE fun fZ => exE fun f0 => exE fun lB => exE fun g8 => exE fun g9 => exE fun hV => exE fun m0 => exE fun gp => exE fun gq => exE fun gr => exE fun lY => exE fun gs => exE fun gt => exE fun gu => exE fun lZ => exE fun kP => exE fun kQ => exE fun kS => exE fun ql => exE fun jz => exE fun jA => exE fun jB => exE fun oI => exE fun jC => exE fun jD => exE fun jE => exE fun oJ => andE fun hv134 => andE fun hN131 => andE fun m3 => andE fun l5 => andE fun lC => andE fun m5 => andE fun l7 => andE fun l8 => andE fun qm => andE fun oK => andE fun oL => andE fun hF132 => fun H => ?_
   subst hv134
   have zL : Stp w0.heap.size A w99 [.blk lW (.cells #[.int .i64 k2_40, .bool b2_41, .slice p46 n48 c47, .slice p52 n54 c53, .slice p58 n60 c59, .slice p64 n66 c65, .slice p70 n72 c71, .slice p76 n78 c77, .int .i64 k2_42, .map (some cF), .slice p82 n84 c83, .slice p88 n90 c89, .slice p94 n96 c95] 72 (0, 0)), .row 26 1 p46 n48 c47 qq, .row 26 1 p52 n54 c53 qr, .row 3 1 p58 n60 c59 qs, .row 3 1 p64 n66 c65 qt, .row 26 1 p70 n72 c71 qu, .row 39 2 p76 n78 c77 qv, .row 9 1 p82 n84 c83 oo, .row 3 1 p88 n90 c89 qw, .row 3 1 p94 n96 c95 qx, .any (mapE (fun a : List UInt8 => Value.string (gstr a)) (fun a : Int => Value.int .i64 a) cF m2_97), .blk B2 (.cells #[.int .i64 (0 : Int), .bool false, .slice none 0 0, .slice none 0 0, .slice none 0 0, .slice none 0 0, .slice none 0 0, .slice none 0 0, .int .i64 (0 : Int)] 29 (0, 0))] zk [.blk lW (.cells #[.int .i64 q128.Enum.Points, .bool q128.Enum.Monoid, .slice g6 g5 g7, .slice gm gl gn, .slice fZ fY f0, .slice g9 g8 hV, .slice gq gp gr, .slice gt gs gu, .int .i64 q128.Enum.Done, .map (some cF), .slice kQ kP kS, .slice jA jz jB, .slice jD jC jE] 72 (0, 0)), .row 26 1 g6 g5 g7 mZ, .row 26 1 gm gl gn lX, .row 3 1 fZ fY f0 lB, .row 3 1 g9 g8 hV m0, .row 26 1 gq gp gr lY, .row 39 2 gt gs gu lZ, .row 9 1 kQ kP kS ql, .row 3 1 jA jz jB oI, .row 3 1 jD jC jE oJ, .any (mapE (fun a : List UInt8 => Value.string (gstr a)) (fun a : Int => Value.int .i64 a) cF q128.number), .blk B2 (.cells #[.int .i64 (0 : Int), .bool false, .slice none 0 0, .slice none 0 0, .slice none 0 0, .slice none 0 0, .slice none 0 0, .slice none 0 0, .int .i64 (0 : Int)] 29 (0, 0))] := Stp.join A6 hN131 hF132
   replace hO := zL.own
   replace hB := hB.trans zL.fr
   have hca135 : Ch (bl [.blk lW (.cells #[.int .i64 q128.Enum.Points, .bool q128.Enum.Monoid, .slice g6 g5 g7, .slice gm gl gn, .slice fZ fY f0, .slice g9 g8 hV, .slice gq gp gr, .slice gt gs gu, .int .i64 q128.Enum.Done, .map (some cF), .slice kQ kP kS, .slice jA jz jB, .slice jD jC jE] 72 (0, 0)), .row 26 1 g6 g5 g7 mZ, .row 26 1 gm gl gn lX, .row 3 1 fZ fY f0 lB, .row 3 1 g9 g8 hV m0, .row 26 1 gq gp gr lY, .row 39 2 gt gs gu lZ, .row 9 1 kQ kP kS ql, .row 3 1 jA jz jB oI, .row 3 1 jD jC jE oJ, .any (mapE (fun a : List UInt8 => Value.string (gstr a)) (fun a : Int => Value.int .i64 a) cF q128.number)] ++ (bl [.blk B2 (.cells #[.int .i64 (0 : Int), .bool false, .slice none 0 0, .slice none 0 0, .slice none 0 0, .slice none 0 0, .slice none 0 0, .slice none 0 0, .int .i64 (0 : Int)] 29 (0, 0))] ++ A)) zk (bl [.blk lW (.cells #[.int .i64 q128.Enum.Points, .bool q128.Enum.Monoid, .slice g6 g5 g7, .slice gm gl gn, .slice fZ fY f0, .slice g9 g8 hV, .slice gq gp gr, .slice gt gs gu, .int .i64 q128.Enum.Done, .map (some cF), .slice kQ kP kS, .slice jA jz jB, .slice jD jC jE] 72 (0, 0)), .row 26 1 g6 g5 g7 mZ, .row 26 1 gm gl gn lX, .row 3 1 fZ fY f0 lB, .row 3 1 g9 g8 hV m0, .row 26 1 gq gp gr lY, .row 39 2 gt gs gu lZ, .row 9 1 kQ kP kS ql, .row 3 1 jA jz jB oI, .row 3 1 jD jC jE oJ, .any (mapE (fun a : List UInt8 => Value.string (gstr a)) (fun a : Int => Value.int .i64 a) cF q128.number), .blk B2 (.cells #[.int .i64 (0 : Int), .bool false, .slice none 0 0, .slice none 0 0, .slice none 0 0, .slice none 0 0, .slice none 0 0, .slice none 0 0, .int .i64 (0 : Int)] 29 (0, 0))] ++ A) zk := Ch.assoc [.blk lW (.cells #[.int .i64 q128.Enum.Points, .bool q128.Enum.Monoid, .slice g6 g5 g7, .slice gm gl gn, .slice fZ fY f0, .slice g9 g8 hV, .slice gq gp gr, .slice gt gs gu, .int .i64 q128.Enum.Done, .map (some cF), .slice kQ kP kS, .slice jA jz jB, .slice jD jC jE] 72 (0, 0)), .row 26 1 g6 g5 g7 mZ, .row 26 1 gm gl gn lX, .row 3 1 fZ fY f0 lB, .row 3 1 g9 g8 hV m0, .row 26 1 gq gp gr lY, .row 39 2 gt gs gu lZ, .row 9 1 kQ kP kS ql, .row 3 1 jA jz jB oI, .row 3 1 jD jC jE oJ, .any (mapE (fun a : List UInt8 => Value.string (gstr a)) (fun a : Int => Value.int .i64 a) cF q128.number)] [.blk B2 (.cells #[.int .i64 (0 : Int), .bool false, .slice none 0 0, .slice none 0 0, .slice none 0 0, .slice none 0 0, .slice none 0 0, .slice none 0 0, .int .i64 (0 : Int)] 29 (0, 0))] A zk
   replace m3 := m3.ch hca135
   replace l5 := l5.ch hca135
   replace lC := lC.ch hca135
   replace m5 := m5.ch hca135
   replace l7 := l7.ch hca135
   replace l8 := l8.ch hca135
   replace qm := qm.ch hca135
   replace oK := oK.ch hca135
   replace oL := oL.ch hca135
   refine GoR.op ((op_assign rfl) _) rfl rfl ?_
   refine GoR.nil ?_
   refine Go1.seq ?_
   refine Go1.region ?_
   refine GoR.op ((op_move rfl) _) rfl rfl ?_
   by_cases zl : r127 = (0 : Int)
   ·replace H := ifp zl H
    refine GoR.op ((fun w => opB (op_neq rfl rfl w) (ndT zl)) _) rfl rfl ?_
    refine GoR.nil ?_
    refine Go1.condF rfl rfl ?_
    refine Go1.skip ?_
    refine Go1.inBlock ?_
    exact hX2 _ H _ _ ⟨g5, g6, g7, mZ, gl, gm, gn, lX, fY, fZ, f0, lB, g8, g9, hV, m0, gp, gq, gr, lY, gs, gt, gu, lZ, kP, kQ, kS, ql, jz, jA, jB, oI, jC, jD, jE, oJ, ⟨rfl, rfl, trivial⟩, hO, m3, l5, lC, m5, l7, l8, qm, oK, oL, hB⟩
   replace H := ifn zl H
   refine GoR.op ((fun w => opB (op_neq rfl rfl w) (ndF zl)) _) rfl rfl ?_
   refine GoR.nil ?_
   refine Go1.condT rfl rfl ?_
   refine Go1.seq ?_
   refine Go1.region ?_
   refine GoR.op ((op_build Try.underlying29 ti29 (pl := [(0, 1), (1, 1), (2, 1), (3, 1), (4, 1), (5, 1), (6, 1), (7, 1), (8, 1)]) (vs := []) (cs := #[.int .i64 (0 : Int), .bool false, .slice none 0 0, .slice none 0 0, .slice none 0 0, .slice none 0 0, .slice none 0 0, .slice none 0 0, .int .i64 (0 : Int)]) (by kernel_rfl) rfl (by kernel_rfl)) _) rfl rfl ?_
   refine GoR.op ((op_move rfl) _) rfl rfl ?_
   have hobt := oblkStAgg (us := [.int .i64 (0 : Int), .bool false, .slice none 0 0, .slice none 0 0, .slice none 0 0, .slice none 0 0, .slice none 0 0, .slice none 0 0, .int .i64 (0 : Int)]) (o := 0) (cs' := #[.int .i64 (0 : Int), .bool false, .slice none 0 0, .slice none 0 0, .slice none 0 0, .slice none 0 0, .slice none 0 0, .slice none 0 0, .int .i64 (0 : Int)]) 11 hO rfl rfl (Nat.le_of_ble_eq_true rfl) rfl
   obtain ⟨MM, qn, Dk⟩ := hobt
   dsimp only [sS, sZ] at qn
   refine GoR.op (Dk ti29 (by exact rfl) (by exact rfl) rfl) rfl rfl ?_
   replace m3 := m3.ch qn.ch
   replace l5 := l5.ch qn.ch
   replace lC := lC.ch qn.ch
   replace m5 := m5.ch qn.ch
   replace l7 := l7.ch qn.ch
   replace l8 := l8.ch qn.ch
   replace qm := qm.ch qn.ch
   replace oK := oK.ch qn.ch
   replace oL := oL.ch qn.ch
   replace hO := qn.own
   replace hB := hB.trans qn.fr
   refine GoR.op ((op_assign rfl) _) rfl rfl ?_
   refine GoR.nil ?_
   refine Go1.retC2 Try.func17 rfl rfl (run_loadBlk (vs := [.int .i64 (0 : Int), .bool false, .slice none 0 0, .slice none 0 0, .slice none 0 0, .slice none 0 0, .slice none 0 0, .slice none 0 0, .int .i64 (0 : Int)]) 11 hO rfl rfl Try.underlying29 rfl ti29) ?_
   exact ⟨(⟨(0 : Int), false, ([] : List (List Int)), ([] : List (List Int)), ([] : List Int), ([] : List Int), ([] : List (List Int)), ([] : List Rule), (0 : Int)⟩ : Enum), r127, none, 0, none, 0, none, 0, none, 0, none, 0, none, 0, rfl, hB.same, (ISl.null _ _ _), (ISl.null _ _ _), (ISl.null _ _ _), (ISl.null _ _ _), (ISl.null _ _ _), (ISl.null _ _ _), H⟩
  replace H := ifn h38 H
  refine GoR.op ((fun w => opB (op_neq rfl rfl w) (ndF h38)) _) rfl rfl ?_
  refine GoR.nil ?_
  refine Go1.condT rfl rfl ?_
  refine Go1.seq ?_
  refine Go1.region ?_
  refine GoR.op ((op_build Try.underlying29 ti29 (pl := [(0, 1), (1, 1), (2, 1), (3, 1), (4, 1), (5, 1), (6, 1), (7, 1), (8, 1)]) (vs := []) (cs := #[.int .i64 (0 : Int), .bool false, .slice none 0 0, .slice none 0 0, .slice none 0 0, .slice none 0 0, .slice none 0 0, .slice none 0 0, .int .i64 (0 : Int)]) (by kernel_rfl) rfl (by kernel_rfl)) _) rfl rfl ?_
  refine GoR.op ((op_move rfl) _) rfl rfl ?_
  have hobt := oblkStAgg (us := [.int .i64 (0 : Int), .bool false, .slice none 0 0, .slice none 0 0, .slice none 0 0, .slice none 0 0, .slice none 0 0, .slice none 0 0, .int .i64 (0 : Int)]) (o := 0) (cs' := #[.int .i64 (0 : Int), .bool false, .slice none 0 0, .slice none 0 0, .slice none 0 0, .slice none 0 0, .slice none 0 0, .slice none 0 0, .int .i64 (0 : Int)]) 11 hO rfl rfl (Nat.le_of_ble_eq_true rfl) rfl
  obtain ⟨IB, oM, Dl⟩ := hobt
  dsimp only [sS, sZ] at oM
  refine GoR.op (Dl ti29 (by exact rfl) (by exact rfl) rfl) rfl rfl ?_
  replace gX := gX.ch oM.ch
  replace fL := fL.ch oM.ch
  replace fN := fN.ch oM.ch
  replace gY := gY.ch oM.ch
  replace gh := gh.ch oM.ch
  replace gi := gi.ch oM.ch
  replace gZ := gZ.ch oM.ch
  replace jw := jw.ch oM.ch
  replace jx := jx.ch oM.ch
  replace hO := oM.own
  replace eG := eG.ch oM.ch
  replace hB := hB.trans oM.fr
  refine GoR.op ((op_assign rfl) _) rfl rfl ?_
  refine GoR.nil ?_
  refine Go1.retC2 Try.func17 rfl rfl (run_loadBlk (vs := [.int .i64 (0 : Int), .bool false, .slice none 0 0, .slice none 0 0, .slice none 0 0, .slice none 0 0, .slice none 0 0, .slice none 0 0, .int .i64 (0 : Int)]) 11 hO rfl rfl Try.underlying29 rfl ti29) ?_
  exact ⟨(⟨(0 : Int), false, ([] : List (List Int)), ([] : List (List Int)), ([] : List Int), ([] : List Int), ([] : List (List Int)), ([] : List Rule), (0 : Int)⟩ : Enum), r8, none, 0, none, 0, none, 0, none, 0, none, 0, none, 0, rfl, hB.same, (ISl.null _ _ _), (ISl.null _ _ _), (ISl.null _ _ _), (ISl.null _ _ _), (ISl.null _ _ _), (ISl.null _ _ _), H⟩
theorem body70 : Body Try.prog 70 := ⟨Try.f70, Try.func70, rfl, by kernel_rfl⟩
theorem walk_slices_Equal_int {A : List Nat} {w0 : World} {nY : Option Addr} {nZ : Nat} {n7 : Option Addr} {n8 : Nat} {s1 : List Int} {s2 : List Int} (hA : ∀ b ∈ A, b < w0.heap.size) (iW : ISl (Rp.int .i64) A w0 nY nZ s1) (jp : ISl (Rp.int .i64) A w0 n7 n8 s2) {K : Bool → Prop} (H : slices_Equal_int s1 s2 K) :
    CallsV Try.prog 70 #[.slice nY s1.length nZ, .slice n7 s2.length n8] w0 (fun v w' => ∃ (r0 : Bool), v = .bool r0 ∧ Same w0 w' ∧ K r0) := by
 refine CallsV.of (l := [.slice nY s1.length nZ, .slice n7 s2.length n8]) Try.func70 rfl Try.ntmps70 rfl ?_
 have hO := Owns.start hA
 have hB := Fr.refl (bl []) w0
 unfold slices_Equal_int at H
 replace iW := iW.ch (Ch.start A w0)
 replace jp := jp.ch (Ch.start A w0)
 refine Go1.seq ?_
 refine Go1.region ?_
 refine GoR.op ((op_assign rfl) _) rfl rfl ?_
 refine GoR.nil ?_
 refine Go1.seq ?_
 refine Go1.seq ?_
 refine Go1.region ?_
 refine GoR.op ((op_move rfl) _) rfl rfl ?_
 refine GoR.op ((op_len Try.underlying26 rfl) _) rfl rfl ?_
 replace H := H iW.bd
 refine GoR.op ((op_move rfl) _) rfl rfl ?_
 refine GoR.op ((op_len Try.underlying26 rfl) _) rfl rfl ?_
 replace H := H jp.bd
 by_cases h1 : (s1.length : Int) = (s2.length : Int)
 ·replace H := ifp h1 H
  refine GoR.op ((fun w => opB (op_neq rfl rfl w) (ndT h1)) _) rfl rfl ?_
  refine GoR.nil ?_
  refine Go1.condF rfl rfl ?_
  refine Go1.skip ?_
  refine Go1.seq ?_
  refine Go1.seq ?_
  refine Go1.region ?_
  refine GoR.op ((op_move rfl) _) rfl rfl ?_
  refine GoR.op ((op_len Try.underlying26 rfl) _) rfl rfl ?_
  refine GoR.op ((op_move rfl) _) rfl rfl ?_
  refine GoR.nil ?_
  refine Go1.block ?_
  refine Go1.loopW (S := Nat) (fun s σ w => agrees σ [(0, .slice nY s1.length nZ), (1, .slice n7 s2.length n8), (12, .int .i64 (s1.length : Int)), (13, .int .i64 (s : Int))] ∧ Owns w0.heap.size w [] A ∧ ISl (Rp.int .i64) (bl [] ++ A) w nY nZ s1 ∧ ISl (Rp.int .i64) (bl [] ++ A) w n7 n8 s2 ∧ Fr (bl []) w0 (bl []) w) H ⟨⟨rfl, rfl, rfl, rfl, trivial⟩, hO, iW, jp, hB⟩ ?_
  intro X1 k1_3
  intro H hX1 σ w2
  refine andE fun hag => andE fun hO => andE fun iW => andE fun jp => fun hB => ?_
  refine Go1.keep [(0, .slice nY s1.length nZ), (1, .slice n7 s2.length n8), (12, .int .i64 (s1.length : Int)), (13, .int .i64 (k1_3 : Int))] hag ?_
  refine Go1.seq ?_
  refine Go1.region ?_
  by_cases h4 : (k1_3 : Int) < (s1.length : Int)
  ·replace H := ifp h4 H
   refine GoR.op ((fun w => opB (op_lss rfl rfl w) (decide_eq_true h4)) _) rfl rfl ?_
   refine GoR.nil ?_
   refine Go1.seq ?_
   refine Go1.condT rfl rfl ?_
   refine Go1.skip ?_
   refine Go1.seq ?_
   refine Go1.block ?_
   refine Go1.seq ?_
   refine Go1.region ?_
   refine GoR.op ((op_move rfl) _) rfl rfl ?_
   refine GoR.op ((op_assign rfl) _) rfl rfl ?_
   refine GoR.nil ?_
   refine Go1.seq ?_
   refine Go1.drawS 0 [(0, .pure), (1, .pure), (2, .pure), (3, .stable), (4, .pure), (5, .pure), (6, .pure), (7, .stable), (8, .pure)] mixed (by kernel_rfl) ?_
   intro w5 hs6
   have se := Stp.same hO hs6
   replace hO := se.own
   replace iW := iW.ch se.ch
   replace jp := jp.ch se.ch
   replace hB := hB.trans se.fr
   refine GoQ.pure rfl (op_move rfl) rfl rfl ?_
   refine GoQ.pure rfl (op_move rfl) rfl rfl ?_
   obtain ⟨h8, H⟩ := H
   obtain ⟨h9, H⟩ := H
   refine GoQ.pure rfl (op_index Try.underlying26 ti3 rfl rfl h8 h9 (iW.some_ h8 h9)) rfl rfl ?_
   refine GoQ.stable rfl (ldInt iW h8 h9 Try.underlying3 rfl rfl) rfl rfl ?_
   refine GoQ.pure rfl (op_move rfl) rfl rfl ?_
   refine GoQ.pure rfl (op_move rfl) rfl rfl ?_
   obtain ⟨h10, H⟩ := H
   obtain ⟨h11, H⟩ := H
   refine GoQ.pure rfl (op_index Try.underlying26 ti3 rfl rfl h10 h11 (jp.some_ h10 h11)) rfl rfl ?_
   refine GoQ.stable rfl (ldInt jp h10 h11 Try.underlying3 rfl rfl) rfl rfl ?_
   by_cases h12 : (ix s1 (k1_3 : Int)) = (ix s2 (k1_3 : Int))
   ·replace H := ifp h12 H
    refine GoQ.pure rfl (fun w => opB (op_neq rfl rfl w) (ndT h12)) rfl rfl ?_
    refine GoQ.nil ?_
    refine Go1.condF rfl rfl ?_
    refine Go1.skip ?_
    refine Go1.inBlock ?_
    refine Go1.region ?_
    refine GoR.op ((op_add rfl rfl (wrap_i64 (natbd h4 iW.bd))) _) rfl rfl ?_
    refine GoR.op ((op_move rfl) _) rfl rfl ?_
    refine GoR.nil ?_
    exact hX1 _ H _ _ ⟨⟨rfl, rfl, rfl, rfl, trivial⟩, hO, iW, jp, hB⟩
   replace H := ifn h12 H
   refine GoQ.pure rfl (fun w => opB (op_neq rfl rfl w) (ndF h12)) rfl rfl ?_
   refine GoQ.nil ?_
   refine Go1.condT rfl rfl ?_
   refine Go1.seq ?_
   refine Go1.region ?_
   refine GoR.op ((op_assign rfl) _) rfl rfl ?_
   refine GoR.nil ?_
   refine Go1.ret1 Try.func70 rfl ?_
   exact ⟨false, rfl, hB.same, H⟩
  replace H := ifn h4 H
  refine GoR.op ((fun w => opB (op_lss rfl rfl w) (decide_eq_false h4)) _) rfl rfl ?_
  refine GoR.nil ?_
  refine Go1.seq ?_
  refine Go1.condF rfl rfl ?_
  refine Go1.exit rfl ?_
  refine Go1.seq ?_
  refine Go1.region ?_
  refine GoR.op ((op_assign rfl) _) rfl rfl ?_
  refine GoR.nil ?_
  refine Go1.ret1 Try.func70 rfl ?_
  exact ⟨true, rfl, hB.same, H⟩
 replace H := ifn h1 H
 refine GoR.op ((fun w => opB (op_neq rfl rfl w) (ndF h1)) _) rfl rfl ?_
 refine GoR.nil ?_
 refine Go1.condT rfl rfl ?_
 refine Go1.seq ?_
 refine Go1.region ?_
 refine GoR.op ((op_assign rfl) _) rfl rfl ?_
 refine GoR.nil ?_
 refine Go1.ret1 Try.func70 rfl ?_
 exact ⟨false, rfl, hB.same, H⟩
theorem body69 : Body Try.prog 69 := ⟨Try.f69, Try.func69, rfl, by kernel_rfl⟩
theorem walk_slices_EqualFunc_int {A : List Nat} {w0 : World} {nY : Option Addr} {nZ : Nat} {n7 : Option Addr} {n8 : Nat} {s1 : List (List Int)} {s2 : List (List Int)} (hA : ∀ b ∈ A, b < w0.heap.size) (iW : ISl (Rp.sl (Rp.int .i64)) A w0 nY nZ s1) (jp : ISl (Rp.sl (Rp.int .i64)) A w0 n7 n8 s2) {K : Bool → Prop} (H : slices_EqualFunc_int s1 s2 K) :
    CallsV Try.prog 69 #[.slice nY s1.length nZ, .slice n7 s2.length n8, .func (.func 70) #[] #[]] w0 (fun v w' => ∃ (r0 : Bool), v = .bool r0 ∧ Same w0 w' ∧ K r0) := by
 refine CallsV.of (l := [.slice nY s1.length nZ, .slice n7 s2.length n8, .func (.func 70) #[] #[]]) Try.func69 rfl Try.ntmps69 rfl ?_
 have hO := Owns.start hA
 have hB := Fr.refl (bl []) w0
 unfold slices_EqualFunc_int at H
 replace iW := iW.ch (Ch.start A w0)
 replace jp := jp.ch (Ch.start A w0)
 refine Go1.seq ?_
 refine Go1.region ?_
 refine GoR.op ((op_assign rfl) _) rfl rfl ?_
 refine GoR.nil ?_
 refine Go1.seq ?_
 refine Go1.seq ?_
 refine Go1.region ?_
 refine GoR.op ((op_move rfl) _) rfl rfl ?_
 refine GoR.op ((op_len Try.underlying22 rfl) _) rfl rfl ?_
 replace H := H iW.bd
 refine GoR.op ((op_move rfl) _) rfl rfl ?_
 refine GoR.op ((op_len Try.underlying22 rfl) _) rfl rfl ?_
 replace H := H jp.bd
 by_cases h1 : (s1.length : Int) = (s2.length : Int)
 ·replace H := ifp h1 H
  refine GoR.op ((fun w => opB (op_neq rfl rfl w) (ndT h1)) _) rfl rfl ?_
  refine GoR.nil ?_
  refine Go1.condF rfl rfl ?_
  refine Go1.skip ?_
  refine Go1.seq ?_
  refine Go1.seq ?_
  refine Go1.region ?_
  refine GoR.op ((op_move rfl) _) rfl rfl ?_
  refine GoR.op ((op_len Try.underlying22 rfl) _) rfl rfl ?_
  refine GoR.op ((op_move rfl) _) rfl rfl ?_
  refine GoR.nil ?_
  refine Go1.block ?_
  refine Go1.loopW (S := Nat) (fun s σ w => agrees σ [(1, .slice n7 s2.length n8), (2, .func (.func 70) #[] #[]), (15, .slice nY s1.length nZ), (16, .int .i64 (s1.length : Int)), (17, .int .i64 (s : Int))] ∧ Owns w0.heap.size w [] A ∧ ISl (Rp.sl (Rp.int .i64)) (bl [] ++ A) w nY nZ s1 ∧ ISl (Rp.sl (Rp.int .i64)) (bl [] ++ A) w n7 n8 s2 ∧ Fr (bl []) w0 (bl []) w) H ⟨⟨rfl, rfl, rfl, rfl, rfl, trivial⟩, hO, iW, jp, hB⟩ ?_
  intro X1 k1_3
  intro H hX1 σ w2
  refine andE fun hag => andE fun hO => andE fun iW => andE fun jp => fun hB => ?_
  refine Go1.keep [(1, .slice n7 s2.length n8), (2, .func (.func 70) #[] #[]), (15, .slice nY s1.length nZ), (16, .int .i64 (s1.length : Int)), (17, .int .i64 (k1_3 : Int))] hag ?_
  refine Go1.seq ?_
  refine Go1.region ?_
  by_cases h4 : (k1_3 : Int) < (s1.length : Int)
  ·replace H := ifp h4 H
   refine GoR.op ((fun w => opB (op_lss rfl rfl w) (decide_eq_true h4)) _) rfl rfl ?_
   refine GoR.nil ?_
   refine Go1.seq ?_
   refine Go1.condT rfl rfl ?_
   refine Go1.skip ?_
   refine Go1.seq ?_
   refine Go1.block ?_
   refine Go1.seq ?_
   refine Go1.region ?_
   refine GoR.op ((op_move rfl) _) rfl rfl ?_
   obtain ⟨h5, H⟩ := H
   obtain ⟨h6, H⟩ := H
   refine GoR.op ((op_index Try.underlying22 ti26 rfl rfl h5 h6 (iW.some_ h5 h6)) _) rfl rfl ?_
   have hobt := ldSl iW h5 h6
   obtain ⟨p7, c8, hi9, IC⟩ := hobt
   refine GoR.op ((IC Try.underlying26 rfl rfl) _ (Same.refl _)) rfl rfl ?_
   refine GoR.op ((op_assign rfl) _) rfl rfl ?_
   refine GoR.op ((op_assign rfl) _) rfl rfl ?_
   refine GoR.nil ?_
   refine Go1.seq ?_
   refine Go1.region ?_
   refine GoR.op ((op_move rfl) _) rfl rfl ?_
   refine GoR.op ((op_move rfl) _) rfl rfl ?_
   obtain ⟨h11, H⟩ := H
   obtain ⟨h12, H⟩ := H
   refine GoR.op ((op_index Try.underlying22 ti26 rfl rfl h11 h12 (jp.some_ h11 h12)) _) rfl rfl ?_
   have hobt := ldSl jp h11 h12
   obtain ⟨p13, c14, pp, ID⟩ := hobt
   refine GoR.op ((ID Try.underlying26 rfl rfl) _ (Same.refl _)) rfl rfl ?_
   refine GoR.op ((op_assign rfl) _) rfl rfl ?_
   refine GoR.nil ?_
   refine Go1.seq ?_
   refine Go1.region ?_
   refine GoR.op ((op_move rfl) _) rfl rfl ?_
   refine GoR.op ((op_move rfl) _) rfl rfl ?_
   refine GoR.op ((op_move rfl) _) rfl rfl ?_
   refine GoR.call (op_callV (caps := []) body70 rfl rfl (walk_slices_Equal_int hO.lt hi9 pp H)) rfl rfl ?_
   rintro v21 w18 ⟨r17, rfl, Cp, H⟩
   have mB := Stp.same hO Cp
   replace hO := mB.own
   replace iW := iW.ch mB.ch
   replace jp := jp.ch mB.ch
   replace hi9 := hi9.ch mB.ch
   replace pp := pp.ch mB.ch
   replace hB := hB.trans mB.fr
   cases r17
   ·replace H := ifn Bool.false_ne_true H
    refine GoR.op ((op_not rfl) _) rfl rfl ?_
    refine GoR.nil ?_
    refine Go1.condT rfl rfl ?_
    refine Go1.seq ?_
    refine Go1.region ?_
    refine GoR.op ((op_assign rfl) _) rfl rfl ?_
    refine GoR.nil ?_
    refine Go1.ret1 Try.func69 rfl ?_
    exact ⟨false, rfl, hB.same, H⟩
   replace H := ifp rfl H
   refine GoR.op ((op_not rfl) _) rfl rfl ?_
   refine GoR.nil ?_
   refine Go1.condF rfl rfl ?_
   refine Go1.skip ?_
   refine Go1.inBlock ?_
   refine Go1.cut [(1, .slice n7 s2.length n8), (2, .func (.func 70) #[] #[]), (15, .slice nY s1.length nZ), (16, .int .i64 (s1.length : Int)), (17, .int .i64 (k1_3 : Int))] ⟨rfl, rfl, rfl, rfl, rfl, trivial⟩ ?_
   intro σ _
   refine Go1.region ?_
   refine GoR.op ((op_add rfl rfl (wrap_i64 (natbd h4 iW.bd))) _) rfl rfl ?_
   refine GoR.op ((op_move rfl) _) rfl rfl ?_
   refine GoR.nil ?_
   exact hX1 _ H _ _ ⟨⟨rfl, rfl, rfl, rfl, rfl, trivial⟩, hO, iW, jp, hB⟩
  replace H := ifn h4 H
  refine GoR.op ((fun w => opB (op_lss rfl rfl w) (decide_eq_false h4)) _) rfl rfl ?_
  refine GoR.nil ?_
  refine Go1.seq ?_
  refine Go1.condF rfl rfl ?_
  refine Go1.exit rfl ?_
  refine Go1.seq ?_
  refine Go1.region ?_
  refine GoR.op ((op_assign rfl) _) rfl rfl ?_
  refine GoR.nil ?_
  refine Go1.ret1 Try.func69 rfl ?_
  exact ⟨true, rfl, hB.same, H⟩
 replace H := ifn h1 H
 refine GoR.op ((fun w => opB (op_neq rfl rfl w) (ndF h1)) _) rfl rfl ?_
 refine GoR.nil ?_
 refine Go1.condT rfl rfl ?_
 refine Go1.seq ?_
 refine Go1.region ?_
 refine GoR.op ((op_assign rfl) _) rfl rfl ?_
 refine GoR.nil ?_
 refine Go1.ret1 Try.func69 rfl ?_
 exact ⟨false, rfl, hB.same, H⟩
theorem body71 : Body Try.prog 71 := ⟨Try.f71, Try.func71, rfl, by kernel_rfl⟩
theorem walk_slices_Equal_api_Rule {A : List Nat} {w0 : World} {nY : Option Addr} {nZ : Nat} {n7 : Option Addr} {n8 : Nat} {s1 : List Rule} {s2 : List Rule} (hA : ∀ b ∈ A, b < w0.heap.size) (iW : ISl (rpRule) A w0 nY nZ s1) (jp : ISl (rpRule) A w0 n7 n8 s2) {K : Bool → Prop} (H : slices_Equal_api_Rule s1 s2 K) :
    CallsV Try.prog 71 #[.slice nY s1.length nZ, .slice n7 s2.length n8] w0 (fun v w' => ∃ (r0 : Bool), v = .bool r0 ∧ Same w0 w' ∧ K r0) := by
 refine CallsV.of (l := [.slice nY s1.length nZ, .slice n7 s2.length n8]) Try.func71 rfl Try.ntmps71 rfl ?_
 have hO := Owns.start hA
 have hB := Fr.refl (bl []) w0
 unfold slices_Equal_api_Rule at H
 replace iW := iW.ch (Ch.start A w0)
 replace jp := jp.ch (Ch.start A w0)
 refine Go1.seq ?_
 refine Go1.region ?_
 refine GoR.op ((op_assign rfl) _) rfl rfl ?_
 refine GoR.nil ?_
 refine Go1.seq ?_
 refine Go1.seq ?_
 refine Go1.region ?_
 refine GoR.op ((op_move rfl) _) rfl rfl ?_
 refine GoR.op ((op_len Try.underlying27 rfl) _) rfl rfl ?_
 replace H := H iW.bd
 refine GoR.op ((op_move rfl) _) rfl rfl ?_
 refine GoR.op ((op_len Try.underlying27 rfl) _) rfl rfl ?_
 replace H := H jp.bd
 by_cases h1 : (s1.length : Int) = (s2.length : Int)
 ·replace H := ifp h1 H
  refine GoR.op ((fun w => opB (op_neq rfl rfl w) (ndT h1)) _) rfl rfl ?_
  refine GoR.nil ?_
  refine Go1.condF rfl rfl ?_
  refine Go1.skip ?_
  refine Go1.seq ?_
  refine Go1.seq ?_
  refine Go1.region ?_
  refine GoR.op ((op_move rfl) _) rfl rfl ?_
  refine GoR.op ((op_len Try.underlying27 rfl) _) rfl rfl ?_
  refine GoR.op ((op_move rfl) _) rfl rfl ?_
  refine GoR.nil ?_
  refine Go1.block ?_
  refine Go1.loopW (S := Nat) (fun s σ w => agrees σ [(0, .slice nY s1.length nZ), (1, .slice n7 s2.length n8), (12, .int .i64 (s1.length : Int)), (13, .int .i64 (s : Int))] ∧ Owns w0.heap.size w [] A ∧ ISl (rpRule) (bl [] ++ A) w nY nZ s1 ∧ ISl (rpRule) (bl [] ++ A) w n7 n8 s2 ∧ Fr (bl []) w0 (bl []) w) H ⟨⟨rfl, rfl, rfl, rfl, trivial⟩, hO, iW, jp, hB⟩ ?_
  intro X1 k1_3
  intro H hX1 σ w2
  refine andE fun hag => andE fun hO => andE fun iW => andE fun jp => fun hB => ?_
  refine Go1.keep [(0, .slice nY s1.length nZ), (1, .slice n7 s2.length n8), (12, .int .i64 (s1.length : Int)), (13, .int .i64 (k1_3 : Int))] hag ?_
  refine Go1.seq ?_
  refine Go1.region ?_
  by_cases h4 : (k1_3 : Int) < (s1.length : Int)
  ·replace H := ifp h4 H
   refine GoR.op ((fun w => opB (op_lss rfl rfl w) (decide_eq_true h4)) _) rfl rfl ?_
   refine GoR.nil ?_
   refine Go1.seq ?_
   refine Go1.condT rfl rfl ?_
   refine Go1.skip ?_
   refine Go1.seq ?_
   refine Go1.block ?_
   refine Go1.seq ?_
   refine Go1.region ?_
   refine GoR.op ((op_move rfl) _) rfl rfl ?_
   refine GoR.op ((op_assign rfl) _) rfl rfl ?_
   refine GoR.nil ?_
   refine Go1.seq ?_
   refine Go1.drawS 0 [(0, .pure), (1, .pure), (2, .pure), (3, .stable), (4, .pure), (5, .pure), (6, .pure), (7, .stable), (8, .pure)] mixed (by kernel_rfl) ?_
   intro w5 hs6
   have se := Stp.same hO hs6
   replace hO := se.own
   replace iW := iW.ch se.ch
   replace jp := jp.ch se.ch
   replace hB := hB.trans se.fr
   refine GoQ.pure rfl (op_move rfl) rfl rfl ?_
   refine GoQ.pure rfl (op_move rfl) rfl rfl ?_
   obtain ⟨h8, H⟩ := H
   obtain ⟨h9, H⟩ := H
   refine GoQ.pure rfl (op_index Try.underlying27 ti39 rfl rfl h8 h9 (iW.some_ h8 h9)) rfl rfl ?_
   have hok10 := ldFlatOk iW h8 h9
   refine GoQ.stable rfl (ldFlat iW h8 h9 Try.underlying39 rfl ti39 rfl) rfl rfl ?_
   refine GoQ.pure rfl (op_move rfl) rfl rfl ?_
   refine GoQ.pure rfl (op_move rfl) rfl rfl ?_
   obtain ⟨h11, H⟩ := H
   obtain ⟨h12, H⟩ := H
   refine GoQ.pure rfl (op_index Try.underlying27 ti39 rfl rfl h11 h12 (jp.some_ h11 h12)) rfl rfl ?_
   have hok13 := ldFlatOk jp h11 h12
   refine GoQ.stable rfl (ldFlat jp h11 h12 Try.underlying39 rfl ti39 rfl) rfl rfl ?_
   by_cases h14 : (((ix s1 (k1_3 : Int)).Left) = ((ix s2 (k1_3 : Int)).Left) ∧ ((ix s1 (k1_3 : Int)).Right) = ((ix s2 (k1_3 : Int)).Right))
   ·replace H := ifp h14 H
    refine GoQ.pure rfl (fun w => opB (op_neqSS Try.underlying39 eqh39 eqg39 (by decide) (by decide) rfl rfl Try.underlying9 Try.underlying9 rfl rfl w) (ndT h14)) rfl rfl ?_
    refine GoQ.nil ?_
    refine Go1.condF rfl rfl ?_
    refine Go1.skip ?_
    refine Go1.inBlock ?_
    refine Go1.region ?_
    refine GoR.op ((op_add rfl rfl (wrap_i64 (natbd h4 iW.bd))) _) rfl rfl ?_
    refine GoR.op ((op_move rfl) _) rfl rfl ?_
    refine GoR.nil ?_
    exact hX1 _ H _ _ ⟨⟨rfl, rfl, rfl, rfl, trivial⟩, hO, iW, jp, hB⟩
   replace H := ifn h14 H
   refine GoQ.pure rfl (fun w => opB (op_neqSS Try.underlying39 eqh39 eqg39 (by decide) (by decide) rfl rfl Try.underlying9 Try.underlying9 rfl rfl w) (ndF h14)) rfl rfl ?_
   refine GoQ.nil ?_
   refine Go1.condT rfl rfl ?_
   refine Go1.seq ?_
   refine Go1.region ?_
   refine GoR.op ((op_assign rfl) _) rfl rfl ?_
   refine GoR.nil ?_
   refine Go1.ret1 Try.func71 rfl ?_
   exact ⟨false, rfl, hB.same, H⟩
  replace H := ifn h4 H
  refine GoR.op ((fun w => opB (op_lss rfl rfl w) (decide_eq_false h4)) _) rfl rfl ?_
  refine GoR.nil ?_
  refine Go1.seq ?_
  refine Go1.condF rfl rfl ?_
  refine Go1.exit rfl ?_
  refine Go1.seq ?_
  refine Go1.region ?_
  refine GoR.op ((op_assign rfl) _) rfl rfl ?_
  refine GoR.nil ?_
  refine Go1.ret1 Try.func71 rfl ?_
  exact ⟨true, rfl, hB.same, H⟩
 replace H := ifn h1 H
 refine GoR.op ((fun w => opB (op_neq rfl rfl w) (ndF h1)) _) rfl rfl ?_
 refine GoR.nil ?_
 refine Go1.condT rfl rfl ?_
 refine Go1.seq ?_
 refine Go1.region ?_
 refine GoR.op ((op_assign rfl) _) rfl rfl ?_
 refine GoR.nil ?_
 refine Go1.ret1 Try.func71 rfl ?_
 exact ⟨false, rfl, hB.same, H⟩
end Sg
