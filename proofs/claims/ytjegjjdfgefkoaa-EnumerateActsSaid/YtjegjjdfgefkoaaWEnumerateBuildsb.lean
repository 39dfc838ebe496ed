/- The walks: each call keeps to its plain transformer. Printed by walkgen.py. -/
import Derived.Test.YtjegjjdfgefkoaaTi
import Derived.Test.YtjegjjdfgefkoaaWEnumerateBuilds
namespace Sg
open Go Go.RowKit Go.Proofs
set_option linter.unusedVariables false
set_option linter.unusedSimpArgs false
set_option maxRecDepth 100000
set_option maxHeartbeats 4000000
theorem body66 : Body Try.prog 66 := ⟨Try.f66, Try.func66, rfl, by kernel_rfl⟩
theorem body67 : Body Try.prog 67 := ⟨Try.f67, Try.func67, rfl, by kernel_rfl⟩
theorem body51 : Body Try.prog 51 := ⟨Try.f51, Try.func51, rfl, by kernel_rfl⟩
theorem walk_enumerate_run_process {A : List Nat} {n0 : Nat} {w0 : World} {dV : Nat} {bf : Nat} {bg : Option Addr} {bh : Nat} {cM : List Value} {cU : Nat} {cV : Option Addr} {cW : Nat} {dX : List Value} {cN : Nat} {cO : Option Addr} {cP : Nat} {dT : List Value} {dg : Nat} {dh : Option Addr} {di : Nat} {eg : List Value} {bk : Nat} {bx : Option Addr} {bz : Nat} {cH : List Value} {cX : Nat} {cY : Option Addr} {cZ : Nat} {dY : List Value} {bA : Nat} {dJ : Nat} {dK : Option Addr} {dM : Nat} {gn : List Value} {dG : Nat} {dH : Option Addr} {dI : Nat} {fO : List Value} {b5 : Nat} {b6 : Option Addr} {b7 : Nat} {dr : List Value} {a0 : run} (hO : Owns n0 w0 [.blk dV (.cells #[.int .i64 a0.Enum.Points, .bool a0.Enum.Monoid, .slice bg bf bh, .slice cV cU cW, .slice cO cN cP, .slice dh dg di, .slice bx bk bz, .slice cY cX cZ, .int .i64 a0.Enum.Done, .map (some bA), .slice dK dJ dM, .slice dH dG dI, .slice b6 b5 b7] 72 (0, 0)), .row 26 1 bg bf bh cM, .row 26 1 cV cU cW dX, .row 3 1 cO cN cP dT, .row 3 1 dh dg di eg, .row 26 1 bx bk bz cH, .row 39 2 cY cX cZ dY, .row 9 1 dK dJ dM gn, .row 3 1 dH dG dI fO, .row 3 1 b6 b5 b7 dr, .any (mapE (fun a : List UInt8 => Value.string (gstr a)) (fun a : Int => Value.int .i64 a) bA a0.number)] A) (az : Els (Rp.sl (Rp.int .i64)) (bl [.blk dV (.cells #[.int .i64 a0.Enum.Points, .bool a0.Enum.Monoid, .slice bg bf bh, .slice cV cU cW, .slice cO cN cP, .slice dh dg di, .slice bx bk bz, .slice cY cX cZ, .int .i64 a0.Enum.Done, .map (some bA), .slice dK dJ dM, .slice dH dG dI, .slice b6 b5 b7] 72 (0, 0)), .row 26 1 bg bf bh cM, .row 26 1 cV cU cW dX, .row 3 1 cO cN cP dT, .row 3 1 dh dg di eg, .row 26 1 bx bk bz cH, .row 39 2 cY cX cZ dY, .row 9 1 dK dJ dM gn, .row 3 1 dH dG dI fO, .row 3 1 b6 b5 b7 dr, .any (mapE (fun a : List UInt8 => Value.string (gstr a)) (fun a : Int => Value.int .i64 a) bA a0.number)] ++ A) w0 cM a0.Enum.Gens) (sv : Els (Rp.sl (Rp.int .i64)) (bl [.blk dV (.cells #[.int .i64 a0.Enum.Points, .bool a0.Enum.Monoid, .slice bg bf bh, .slice cV cU cW, .slice cO cN cP, .slice dh dg di, .slice bx bk bz, .slice cY cX cZ, .int .i64 a0.Enum.Done, .map (some bA), .slice dK dJ dM, .slice dH dG dI, .slice b6 b5 b7] 72 (0, 0)), .row 26 1 bg bf bh cM, .row 26 1 cV cU cW dX, .row 3 1 cO cN cP dT, .row 3 1 dh dg di eg, .row 26 1 bx bk bz cH, .row 39 2 cY cX cZ dY, .row 9 1 dK dJ dM gn, .row 3 1 dH dG dI fO, .row 3 1 b6 b5 b7 dr, .any (mapE (fun a : List UInt8 => Value.string (gstr a)) (fun a : Int => Value.int .i64 a) bA a0.number)] ++ A) w0 dX a0.Enum.Elems) (rP : Els (Rp.int .i64) (bl [.blk dV (.cells #[.int .i64 a0.Enum.Points, .bool a0.Enum.Monoid, .slice bg bf bh, .slice cV cU cW, .slice cO cN cP, .slice dh dg di, .slice bx bk bz, .slice cY cX cZ, .int .i64 a0.Enum.Done, .map (some bA), .slice dK dJ dM, .slice dH dG dI, .slice b6 b5 b7] 72 (0, 0)), .row 26 1 bg bf bh cM, .row 26 1 cV cU cW dX, .row 3 1 cO cN cP dT, .row 3 1 dh dg di eg, .row 26 1 bx bk bz cH, .row 39 2 cY cX cZ dY, .row 9 1 dK dJ dM gn, .row 3 1 dH dG dI fO, .row 3 1 b6 b5 b7 dr, .any (mapE (fun a : List UInt8 => Value.string (gstr a)) (fun a : Int => Value.int .i64 a) bA a0.number)] ++ A) w0 dT a0.Enum.Prefix) (sH : Els (Rp.int .i64) (bl [.blk dV (.cells #[.int .i64 a0.Enum.Points, .bool a0.Enum.Monoid, .slice bg bf bh, .slice cV cU cW, .slice cO cN cP, .slice dh dg di, .slice bx bk bz, .slice cY cX cZ, .int .i64 a0.Enum.Done, .map (some bA), .slice dK dJ dM, .slice dH dG dI, .slice b6 b5 b7] 72 (0, 0)), .row 26 1 bg bf bh cM, .row 26 1 cV cU cW dX, .row 3 1 cO cN cP dT, .row 3 1 dh dg di eg, .row 26 1 bx bk bz cH, .row 39 2 cY cX cZ dY, .row 9 1 dK dJ dM gn, .row 3 1 dH dG dI fO, .row 3 1 b6 b5 b7 dr, .any (mapE (fun a : List UInt8 => Value.string (gstr a)) (fun a : Int => Value.int .i64 a) bA a0.number)] ++ A) w0 eg a0.Enum.Last) (aA : Els (Rp.sl (Rp.int .i64)) (bl [.blk dV (.cells #[.int .i64 a0.Enum.Points, .bool a0.Enum.Monoid, .slice bg bf bh, .slice cV cU cW, .slice cO cN cP, .slice dh dg di, .slice bx bk bz, .slice cY cX cZ, .int .i64 a0.Enum.Done, .map (some bA), .slice dK dJ dM, .slice dH dG dI, .slice b6 b5 b7] 72 (0, 0)), .row 26 1 bg bf bh cM, .row 26 1 cV cU cW dX, .row 3 1 cO cN cP dT, .row 3 1 dh dg di eg, .row 26 1 bx bk bz cH, .row 39 2 cY cX cZ dY, .row 9 1 dK dJ dM gn, .row 3 1 dH dG dI fO, .row 3 1 b6 b5 b7 dr, .any (mapE (fun a : List UInt8 => Value.string (gstr a)) (fun a : Int => Value.int .i64 a) bA a0.number)] ++ A) w0 cH a0.Enum.Right) (sw : Els (rpRule) (bl [.blk dV (.cells #[.int .i64 a0.Enum.Points, .bool a0.Enum.Monoid, .slice bg bf bh, .slice cV cU cW, .slice cO cN cP, .slice dh dg di, .slice bx bk bz, .slice cY cX cZ, .int .i64 a0.Enum.Done, .map (some bA), .slice dK dJ dM, .slice dH dG dI, .slice b6 b5 b7] 72 (0, 0)), .row 26 1 bg bf bh cM, .row 26 1 cV cU cW dX, .row 3 1 cO cN cP dT, .row 3 1 dh dg di eg, .row 26 1 bx bk bz cH, .row 39 2 cY cX cZ dY, .row 9 1 dK dJ dM gn, .row 3 1 dH dG dI fO, .row 3 1 b6 b5 b7 dr, .any (mapE (fun a : List UInt8 => Value.string (gstr a)) (fun a : Int => Value.int .i64 a) bA a0.number)] ++ A) w0 dY a0.Enum.Rules) (uO : Els (Rp.str) (bl [.blk dV (.cells #[.int .i64 a0.Enum.Points, .bool a0.Enum.Monoid, .slice bg bf bh, .slice cV cU cW, .slice cO cN cP, .slice dh dg di, .slice bx bk bz, .slice cY cX cZ, .int .i64 a0.Enum.Done, .map (some bA), .slice dK dJ dM, .slice dH dG dI, .slice b6 b5 b7] 72 (0, 0)), .row 26 1 bg bf bh cM, .row 26 1 cV cU cW dX, .row 3 1 cO cN cP dT, .row 3 1 dh dg di eg, .row 26 1 bx bk bz cH, .row 39 2 cY cX cZ dY, .row 9 1 dK dJ dM gn, .row 3 1 dH dG dI fO, .row 3 1 b6 b5 b7 dr, .any (mapE (fun a : List UInt8 => Value.string (gstr a)) (fun a : Int => Value.int .i64 a) bA a0.number)] ++ A) w0 gn a0.words) (t9 : Els (Rp.int .i64) (bl [.blk dV (.cells #[.int .i64 a0.Enum.Points, .bool a0.Enum.Monoid, .slice bg bf bh, .slice cV cU cW, .slice cO cN cP, .slice dh dg di, .slice bx bk bz, .slice cY cX cZ, .int .i64 a0.Enum.Done, .map (some bA), .slice dK dJ dM, .slice dH dG dI, .slice b6 b5 b7] 72 (0, 0)), .row 26 1 bg bf bh cM, .row 26 1 cV cU cW dX, .row 3 1 cO cN cP dT, .row 3 1 dh dg di eg, .row 26 1 bx bk bz cH, .row 39 2 cY cX cZ dY, .row 9 1 dK dJ dM gn, .row 3 1 dH dG dI fO, .row 3 1 b6 b5 b7 dr, .any (mapE (fun a : List UInt8 => Value.string (gstr a)) (fun a : Int => Value.int .i64 a) bA a0.number)] ++ A) w0 fO a0.behind) (aQ : Els (Rp.int .i64) (bl [.blk dV (.cells #[.int .i64 a0.Enum.Points, .bool a0.Enum.Monoid, .slice bg bf bh, .slice cV cU cW, .slice cO cN cP, .slice dh dg di, .slice bx bk bz, .slice cY cX cZ, .int .i64 a0.Enum.Done, .map (some bA), .slice dK dJ dM, .slice dH dG dI, .slice b6 b5 b7] 72 (0, 0)), .row 26 1 bg bf bh cM, .row 26 1 cV cU cW dX, .row 3 1 cO cN cP dT, .row 3 1 dh dg di eg, .row 26 1 bx bk bz cH, .row 39 2 cY cX cZ dY, .row 9 1 dK dJ dM gn, .row 3 1 dH dG dI fO, .row 3 1 b6 b5 b7 dr, .any (mapE (fun a : List UInt8 => Value.string (gstr a)) (fun a : Int => Value.int .i64 a) bA a0.number)] ++ A) w0 dr a0.single) {K : Int → run → Prop} (H : enumerate_run_process a0 K) :
    CallsV Try.prog 51 #[.pointer (some ⟨dV, 0, none⟩)] w0 (fun v w' => ∃ (r0 : Int), ∃ (q : run), ∃ (bS : Nat), ∃ (bT : Option Addr), ∃ (bU : Nat), ∃ (cy : List Value), ∃ (bC : Nat), ∃ (bD : Option Addr), ∃ (bE : Nat), ∃ (cv : List Value), ∃ (bm : Nat), ∃ (bn : Option Addr), ∃ (bo : Nat), ∃ (cl : List Value), ∃ (bV : Nat), ∃ (bW : Option Addr), ∃ (bX : Nat), ∃ (cz : List Value), ∃ (bF : Nat), ∃ (bG : Option Addr), ∃ (bH : Nat), ∃ (cw : List Value), ∃ (bI : Nat), ∃ (bK : Option Addr), ∃ (bM : Nat), ∃ (cx : List Value), ∃ (co : Nat), ∃ (cp : Option Addr), ∃ (cq : Nat), ∃ (dl : List Value), ∃ (cb : Nat), ∃ (cd : Option Addr), ∃ (ce : Nat), ∃ (c6 : List Value), ∃ (cf : Nat), ∃ (cg : Option Addr), ∃ (ci : Nat), ∃ (c7 : List Value), v = .int .i64 r0 ∧ Owns n0 w' [.blk dV (.cells #[.int .i64 q.Enum.Points, .bool q.Enum.Monoid, .slice bT bS bU, .slice bD bC bE, .slice bn bm bo, .slice bW bV bX, .slice bG bF bH, .slice bK bI bM, .int .i64 q.Enum.Done, .map (some bA), .slice cp co cq, .slice cd cb ce, .slice cg cf ci] 72 (0, 0)), .row 26 1 bT bS bU cy, .row 26 1 bD bC bE cv, .row 3 1 bn bm bo cl, .row 3 1 bW bV bX cz, .row 26 1 bG bF bH cw, .row 39 2 bK bI bM cx, .row 9 1 cp co cq dl, .row 3 1 cd cb ce c6, .row 3 1 cg cf ci c7, .any (mapE (fun a : List UInt8 => Value.string (gstr a)) (fun a : Int => Value.int .i64 a) bA q.number)] A ∧ Els (Rp.sl (Rp.int .i64)) (bl [.blk dV (.cells #[.int .i64 q.Enum.Points, .bool q.Enum.Monoid, .slice bT bS bU, .slice bD bC bE, .slice bn bm bo, .slice bW bV bX, .slice bG bF bH, .slice bK bI bM, .int .i64 q.Enum.Done, .map (some bA), .slice cp co cq, .slice cd cb ce, .slice cg cf ci] 72 (0, 0)), .row 26 1 bT bS bU cy, .row 26 1 bD bC bE cv, .row 3 1 bn bm bo cl, .row 3 1 bW bV bX cz, .row 26 1 bG bF bH cw, .row 39 2 bK bI bM cx, .row 9 1 cp co cq dl, .row 3 1 cd cb ce c6, .row 3 1 cg cf ci c7, .any (mapE (fun a : List UInt8 => Value.string (gstr a)) (fun a : Int => Value.int .i64 a) bA q.number)] ++ A) w' cy q.Enum.Gens ∧ Els (Rp.sl (Rp.int .i64)) (bl [.blk dV (.cells #[.int .i64 q.Enum.Points, .bool q.Enum.Monoid, .slice bT bS bU, .slice bD bC bE, .slice bn bm bo, .slice bW bV bX, .slice bG bF bH, .slice bK bI bM, .int .i64 q.Enum.Done, .map (some bA), .slice cp co cq, .slice cd cb ce, .slice cg cf ci] 72 (0, 0)), .row 26 1 bT bS bU cy, .row 26 1 bD bC bE cv, .row 3 1 bn bm bo cl, .row 3 1 bW bV bX cz, .row 26 1 bG bF bH cw, .row 39 2 bK bI bM cx, .row 9 1 cp co cq dl, .row 3 1 cd cb ce c6, .row 3 1 cg cf ci c7, .any (mapE (fun a : List UInt8 => Value.string (gstr a)) (fun a : Int => Value.int .i64 a) bA q.number)] ++ A) w' cv q.Enum.Elems ∧ Els (Rp.int .i64) (bl [.blk dV (.cells #[.int .i64 q.Enum.Points, .bool q.Enum.Monoid, .slice bT bS bU, .slice bD bC bE, .slice bn bm bo, .slice bW bV bX, .slice bG bF bH, .slice bK bI bM, .int .i64 q.Enum.Done, .map (some bA), .slice cp co cq, .slice cd cb ce, .slice cg cf ci] 72 (0, 0)), .row 26 1 bT bS bU cy, .row 26 1 bD bC bE cv, .row 3 1 bn bm bo cl, .row 3 1 bW bV bX cz, .row 26 1 bG bF bH cw, .row 39 2 bK bI bM cx, .row 9 1 cp co cq dl, .row 3 1 cd cb ce c6, .row 3 1 cg cf ci c7, .any (mapE (fun a : List UInt8 => Value.string (gstr a)) (fun a : Int => Value.int .i64 a) bA q.number)] ++ A) w' cl q.Enum.Prefix ∧ Els (Rp.int .i64) (bl [.blk dV (.cells #[.int .i64 q.Enum.Points, .bool q.Enum.Monoid, .slice bT bS bU, .slice bD bC bE, .slice bn bm bo, .slice bW bV bX, .slice bG bF bH, .slice bK bI bM, .int .i64 q.Enum.Done, .map (some bA), .slice cp co cq, .slice cd cb ce, .slice cg cf ci] 72 (0, 0)), .row 26 1 bT bS bU cy, .row 26 1 bD bC bE cv, .row 3 1 bn bm bo cl, .row 3 1 bW bV bX cz, .row 26 1 bG bF bH cw, .row 39 2 bK bI bM cx, .row 9 1 cp co cq dl, .row 3 1 cd cb ce c6, .row 3 1 cg cf ci c7, .any (mapE (fun a : List UInt8 => Value.string (gstr a)) (fun a : Int => Value.int .i64 a) bA q.number)] ++ A) w' cz q.Enum.Last ∧ Els (Rp.sl (Rp.int .i64)) (bl [.blk dV (.cells #[.int .i64 q.Enum.Points, .bool q.Enum.Monoid, .slice bT bS bU, .slice bD bC bE, .slice bn bm bo, .slice bW bV bX, .slice bG bF bH, .slice bK bI bM, .int .i64 q.Enum.Done, .map (some bA), .slice cp co cq, .slice cd cb ce, .slice cg cf ci] 72 (0, 0)), .row 26 1 bT bS bU cy, .row 26 1 bD bC bE cv, .row 3 1 bn bm bo cl, .row 3 1 bW bV bX cz, .row 26 1 bG bF bH cw, .row 39 2 bK bI bM cx, .row 9 1 cp co cq dl, .row 3 1 cd cb ce c6, .row 3 1 cg cf ci c7, .any (mapE (fun a : List UInt8 => Value.string (gstr a)) (fun a : Int => Value.int .i64 a) bA q.number)] ++ A) w' cw q.Enum.Right ∧ Els (rpRule) (bl [.blk dV (.cells #[.int .i64 q.Enum.Points, .bool q.Enum.Monoid, .slice bT bS bU, .slice bD bC bE, .slice bn bm bo, .slice bW bV bX, .slice bG bF bH, .slice bK bI bM, .int .i64 q.Enum.Done, .map (some bA), .slice cp co cq, .slice cd cb ce, .slice cg cf ci] 72 (0, 0)), .row 26 1 bT bS bU cy, .row 26 1 bD bC bE cv, .row 3 1 bn bm bo cl, .row 3 1 bW bV bX cz, .row 26 1 bG bF bH cw, .row 39 2 bK bI bM cx, .row 9 1 cp co cq dl, .row 3 1 cd cb ce c6, .row 3 1 cg cf ci c7, .any (mapE (fun a : List UInt8 => Value.string (gstr a)) (fun a : Int => Value.int .i64 a) bA q.number)] ++ A) w' cx q.Enum.Rules ∧ Els (Rp.str) (bl [.blk dV (.cells #[.int .i64 q.Enum.Points, .bool q.Enum.Monoid, .slice bT bS bU, .slice bD bC bE, .slice bn bm bo, .slice bW bV bX, .slice bG bF bH, .slice bK bI bM, .int .i64 q.Enum.Done, .map (some bA), .slice cp co cq, .slice cd cb ce, .slice cg cf ci] 72 (0, 0)), .row 26 1 bT bS bU cy, .row 26 1 bD bC bE cv, .row 3 1 bn bm bo cl, .row 3 1 bW bV bX cz, .row 26 1 bG bF bH cw, .row 39 2 bK bI bM cx, .row 9 1 cp co cq dl, .row 3 1 cd cb ce c6, .row 3 1 cg cf ci c7, .any (mapE (fun a : List UInt8 => Value.string (gstr a)) (fun a : Int => Value.int .i64 a) bA q.number)] ++ A) w' dl q.words ∧ Els (Rp.int .i64) (bl [.blk dV (.cells #[.int .i64 q.Enum.Points, .bool q.Enum.Monoid, .slice bT bS bU, .slice bD bC bE, .slice bn bm bo, .slice bW bV bX, .slice bG bF bH, .slice bK bI bM, .int .i64 q.Enum.Done, .map (some bA), .slice cp co cq, .slice cd cb ce, .slice cg cf ci] 72 (0, 0)), .row 26 1 bT bS bU cy, .row 26 1 bD bC bE cv, .row 3 1 bn bm bo cl, .row 3 1 bW bV bX cz, .row 26 1 bG bF bH cw, .row 39 2 bK bI bM cx, .row 9 1 cp co cq dl, .row 3 1 cd cb ce c6, .row 3 1 cg cf ci c7, .any (mapE (fun a : List UInt8 => Value.string (gstr a)) (fun a : Int => Value.int .i64 a) bA q.number)] ++ A) w' c6 q.behind ∧ Els (Rp.int .i64) (bl [.blk dV (.cells #[.int .i64 q.Enum.Points, .bool q.Enum.Monoid, .slice bT bS bU, .slice bD bC bE, .slice bn bm bo, .slice bW bV bX, .slice bG bF bH, .slice bK bI bM, .int .i64 q.Enum.Done, .map (some bA), .slice cp co cq, .slice cd cb ce, .slice cg cf ci] 72 (0, 0)), .row 26 1 bT bS bU cy, .row 26 1 bD bC bE cv, .row 3 1 bn bm bo cl, .row 3 1 bW bV bX cz, .row 26 1 bG bF bH cw, .row 39 2 bK bI bM cx, .row 9 1 cp co cq dl, .row 3 1 cd cb ce c6, .row 3 1 cg cf ci c7, .any (mapE (fun a : List UInt8 => Value.string (gstr a)) (fun a : Int => Value.int .i64 a) bA q.number)] ++ A) w' c7 q.single ∧ Fr (bl [.blk dV (.cells #[.int .i64 a0.Enum.Points, .bool a0.Enum.Monoid, .slice bg bf bh, .slice cV cU cW, .slice cO cN cP, .slice dh dg di, .slice bx bk bz, .slice cY cX cZ, .int .i64 a0.Enum.Done, .map (some bA), .slice dK dJ dM, .slice dH dG dI, .slice b6 b5 b7] 72 (0, 0)), .row 26 1 bg bf bh cM, .row 26 1 cV cU cW dX, .row 3 1 cO cN cP dT, .row 3 1 dh dg di eg, .row 26 1 bx bk bz cH, .row 39 2 cY cX cZ dY, .row 9 1 dK dJ dM gn, .row 3 1 dH dG dI fO, .row 3 1 b6 b5 b7 dr, .any (mapE (fun a : List UInt8 => Value.string (gstr a)) (fun a : Int => Value.int .i64 a) bA a0.number)]) w0 (bl [.blk dV (.cells #[.int .i64 q.Enum.Points, .bool q.Enum.Monoid, .slice bT bS bU, .slice bD bC bE, .slice bn bm bo, .slice bW bV bX, .slice bG bF bH, .slice bK bI bM, .int .i64 q.Enum.Done, .map (some bA), .slice cp co cq, .slice cd cb ce, .slice cg cf ci] 72 (0, 0)), .row 26 1 bT bS bU cy, .row 26 1 bD bC bE cv, .row 3 1 bn bm bo cl, .row 3 1 bW bV bX cz, .row 26 1 bG bF bH cw, .row 39 2 bK bI bM cx, .row 9 1 cp co cq dl, .row 3 1 cd cb ce c6, .row 3 1 cg cf ci c7, .any (mapE (fun a : List UInt8 => Value.string (gstr a)) (fun a : Int => Value.int .i64 a) bA q.number)]) w' ∧ K r0 q) := by
 refine CallsV.of (l := [.pointer (some ⟨dV, 0, none⟩)]) Try.func51 rfl Try.ntmps51 rfl ?_
 have hB := Fr.refl (bl [.blk dV (.cells #[.int .i64 a0.Enum.Points, .bool a0.Enum.Monoid, .slice bg bf bh, .slice cV cU cW, .slice cO cN cP, .slice dh dg di, .slice bx bk bz, .slice cY cX cZ, .int .i64 a0.Enum.Done, .map (some bA), .slice dK dJ dM, .slice dH dG dI, .slice b6 b5 b7] 72 (0, 0)), .row 26 1 bg bf bh cM, .row 26 1 cV cU cW dX, .row 3 1 cO cN cP dT, .row 3 1 dh dg di eg, .row 26 1 bx bk bz cH, .row 39 2 cY cX cZ dY, .row 9 1 dK dJ dM gn, .row 3 1 dH dG dI fO, .row 3 1 b6 b5 b7 dr, .any (mapE (fun a : List UInt8 => Value.string (gstr a)) (fun a : Int => Value.int .i64 a) bA a0.number)]) w0
 unfold enumerate_run_process at H
 refine Go1.seq ?_
 refine Go1.region ?_
 refine GoR.op ((op_assign rfl) _) rfl rfl ?_
 refine GoR.nil ?_
 refine Go1.seq ?_
 refine Go1.region ?_
 refine GoR.op ((op_move rfl) _) rfl rfl ?_
 refine GoR.op ((op_nilCheck rfl) _) rfl rfl ?_
 refine GoR.op ((op_fieldAddr Try.underlying72 rfl ti29 rfl (by decide)) _) rfl rfl ?_
 refine GoR.op ((op_fieldAddr Try.underlying29 rfl ti3 rfl (by decide)) _) rfl rfl ?_
 refine GoR.op ((oblk (i := 8) 0 hO rfl rfl Try.underlying3 rfl rfl) _ (Same.refl _)) rfl rfl ?_
 refine GoR.op ((op_assign rfl) _) rfl rfl ?_
 refine GoR.nil ?_
 refine Go1.seq ?_
 refine Go1.region ?_
 refine GoR.op ((op_move rfl) _) rfl rfl ?_
 refine GoR.op ((op_nilCheck rfl) _) rfl rfl ?_
 refine GoR.op ((op_fieldAddr Try.underlying72 rfl ti29 rfl (by decide)) _) rfl rfl ?_
 refine GoR.op ((op_fieldAddr Try.underlying29 rfl ti22 rfl (by decide)) _) rfl rfl ?_
 refine GoR.op ((oblk (i := 2) 0 hO rfl rfl Try.underlying22 rfl rfl) _ (Same.refl _)) rfl rfl ?_
 refine GoR.op ((op_lenN Try.underlying22 rfl (az.neq hO 1 rfl)) _) rfl rfl ?_
 obtain ⟨h8, H⟩ := H
 obtain ⟨h9, H⟩ := H
 have hobt := omake (n := (a0.Enum.Gens.length : Int)) (r := Rp.int .i64) (d := (0 : Int)) Try.underlying26 ti3 (fun _ _ => rfl) rfl hO h8 h9 (by decide)
 obtain ⟨w1, p2, vs3, o6, hE5, hs6, yW⟩ := hobt
 refine GoR.op (yW rfl rfl) rfl rfl ?_
 replace az := az.ch o6.ch
 replace sv := sv.ch o6.ch
 replace rP := rP.ch o6.ch
 replace sH := sH.ch o6.ch
 replace aA := aA.ch o6.ch
 replace sw := sw.ch o6.ch
 replace uO := uO.ch o6.ch
 replace t9 := t9.ch o6.ch
 replace aQ := aQ.ch o6.ch
 replace hO := o6.own
 replace hB := hB.trans o6.fr
 refine GoR.op ((op_assign rfl) _) rfl rfl ?_
 refine GoR.nil ?_
 refine Go1.seq ?_
 refine Go1.seq ?_
 refine Go1.region ?_
 refine GoR.op ((op_move rfl) _) rfl rfl ?_
 refine GoR.op ((op_nilCheck rfl) _) rfl rfl ?_
 refine GoR.op ((op_fieldAddr Try.underlying72 rfl ti29 rfl (by decide)) _) rfl rfl ?_
 refine GoR.op ((op_fieldAddr Try.underlying29 rfl ti22 rfl (by decide)) _) rfl rfl ?_
 refine GoR.op ((oblk (i := 2) 1 hO rfl rfl Try.underlying22 rfl rfl) _ (Same.refl _)) rfl rfl ?_
 refine GoR.op ((op_lenN Try.underlying22 rfl (az.neq hO 2 rfl)) _) rfl rfl ?_
 refine GoR.op ((op_move rfl) _) rfl rfl ?_
 refine GoR.nil ?_
 refine Go1.block ?_
 refine Go1.loopW (S := Nat × List Int × List (List Int) × List Int × List Int × List Rule × List Str × List Int × (List (Str × Int))) (fun s σ w => match s with | (k1_12, d_13, d_16, d_22, d_28, d_34, d_40, d_46, m1_52) => ∃ (od : List Value), ∃ (n21 : Nat), ∃ (p19 : Option Addr), ∃ (c20 : Nat), ∃ (mI : List Value), ∃ (n27 : Nat), ∃ (p25 : Option Addr), ∃ (c26 : Nat), ∃ (nw : List Value), ∃ (n33 : Nat), ∃ (p31 : Option Addr), ∃ (c32 : Nat), ∃ (ny : List Value), ∃ (n39 : Nat), ∃ (p37 : Option Addr), ∃ (c38 : Nat), ∃ (nz : List Value), ∃ (n45 : Nat), ∃ (p43 : Option Addr), ∃ (c44 : Nat), ∃ (eB : List Value), ∃ (n51 : Nat), ∃ (p49 : Option Addr), ∃ (c50 : Nat), ∃ (eC : List Value), agrees σ [(0, .pointer (some ⟨dV, 0, none⟩)), (3, .int .i64 a0.Enum.Done), (4, .slice p2 a0.Enum.Gens.length a0.Enum.Gens.length), (27, .slice bg bf bh), (28, .int .i64 (a0.Enum.Gens.length : Int)), (29, .int .i64 (k1_12 : Int))] ∧ Owns n0 w [.row 3 1 p2 a0.Enum.Gens.length a0.Enum.Gens.length od, .blk dV (.cells #[.int .i64 a0.Enum.Points, .bool a0.Enum.Monoid, .slice bg bf bh, .slice p19 n21 c20, .slice p25 n27 c26, .slice p31 n33 c32, .slice bx bk bz, .slice p37 n39 c38, .int .i64 a0.Enum.Done, .map (some bA), .slice p43 n45 c44, .slice p49 n51 c50, .slice b6 b5 b7] 72 (0, 0)), .row 26 1 bg bf bh cM, .row 26 1 p19 n21 c20 mI, .row 3 1 p25 n27 c26 nw, .row 3 1 p31 n33 c32 ny, .row 26 1 bx bk bz cH, .row 39 2 p37 n39 c38 nz, .row 9 1 p43 n45 c44 eB, .row 3 1 p49 n51 c50 eC, .row 3 1 b6 b5 b7 dr, .any (mapE (fun a : List UInt8 => Value.string (gstr a)) (fun a : Int => Value.int .i64 a) bA m1_52)] A ∧ Els (Rp.int .i64) (bl [.row 3 1 p2 a0.Enum.Gens.length a0.Enum.Gens.length od, .blk dV (.cells #[.int .i64 a0.Enum.Points, .bool a0.Enum.Monoid, .slice bg bf bh, .slice p19 n21 c20, .slice p25 n27 c26, .slice p31 n33 c32, .slice bx bk bz, .slice p37 n39 c38, .int .i64 a0.Enum.Done, .map (some bA), .slice p43 n45 c44, .slice p49 n51 c50, .slice b6 b5 b7] 72 (0, 0)), .row 26 1 bg bf bh cM, .row 26 1 p19 n21 c20 mI, .row 3 1 p25 n27 c26 nw, .row 3 1 p31 n33 c32 ny, .row 26 1 bx bk bz cH, .row 39 2 p37 n39 c38 nz, .row 9 1 p43 n45 c44 eB, .row 3 1 p49 n51 c50 eC, .row 3 1 b6 b5 b7 dr, .any (mapE (fun a : List UInt8 => Value.string (gstr a)) (fun a : Int => Value.int .i64 a) bA m1_52)] ++ A) w od d_13 ∧ Els (Rp.sl (Rp.int .i64)) (bl [.row 3 1 p2 a0.Enum.Gens.length a0.Enum.Gens.length od, .blk dV (.cells #[.int .i64 a0.Enum.Points, .bool a0.Enum.Monoid, .slice bg bf bh, .slice p19 n21 c20, .slice p25 n27 c26, .slice p31 n33 c32, .slice bx bk bz, .slice p37 n39 c38, .int .i64 a0.Enum.Done, .map (some bA), .slice p43 n45 c44, .slice p49 n51 c50, .slice b6 b5 b7] 72 (0, 0)), .row 26 1 bg bf bh cM, .row 26 1 p19 n21 c20 mI, .row 3 1 p25 n27 c26 nw, .row 3 1 p31 n33 c32 ny, .row 26 1 bx bk bz cH, .row 39 2 p37 n39 c38 nz, .row 9 1 p43 n45 c44 eB, .row 3 1 p49 n51 c50 eC, .row 3 1 b6 b5 b7 dr, .any (mapE (fun a : List UInt8 => Value.string (gstr a)) (fun a : Int => Value.int .i64 a) bA m1_52)] ++ A) w cM a0.Enum.Gens ∧ Els (Rp.sl (Rp.int .i64)) (bl [.row 3 1 p2 a0.Enum.Gens.length a0.Enum.Gens.length od, .blk dV (.cells #[.int .i64 a0.Enum.Points, .bool a0.Enum.Monoid, .slice bg bf bh, .slice p19 n21 c20, .slice p25 n27 c26, .slice p31 n33 c32, .slice bx bk bz, .slice p37 n39 c38, .int .i64 a0.Enum.Done, .map (some bA), .slice p43 n45 c44, .slice p49 n51 c50, .slice b6 b5 b7] 72 (0, 0)), .row 26 1 bg bf bh cM, .row 26 1 p19 n21 c20 mI, .row 3 1 p25 n27 c26 nw, .row 3 1 p31 n33 c32 ny, .row 26 1 bx bk bz cH, .row 39 2 p37 n39 c38 nz, .row 9 1 p43 n45 c44 eB, .row 3 1 p49 n51 c50 eC, .row 3 1 b6 b5 b7 dr, .any (mapE (fun a : List UInt8 => Value.string (gstr a)) (fun a : Int => Value.int .i64 a) bA m1_52)] ++ A) w mI d_16 ∧ Els (Rp.int .i64) (bl [.row 3 1 p2 a0.Enum.Gens.length a0.Enum.Gens.length od, .blk dV (.cells #[.int .i64 a0.Enum.Points, .bool a0.Enum.Monoid, .slice bg bf bh, .slice p19 n21 c20, .slice p25 n27 c26, .slice p31 n33 c32, .slice bx bk bz, .slice p37 n39 c38, .int .i64 a0.Enum.Done, .map (some bA), .slice p43 n45 c44, .slice p49 n51 c50, .slice b6 b5 b7] 72 (0, 0)), .row 26 1 bg bf bh cM, .row 26 1 p19 n21 c20 mI, .row 3 1 p25 n27 c26 nw, .row 3 1 p31 n33 c32 ny, .row 26 1 bx bk bz cH, .row 39 2 p37 n39 c38 nz, .row 9 1 p43 n45 c44 eB, .row 3 1 p49 n51 c50 eC, .row 3 1 b6 b5 b7 dr, .any (mapE (fun a : List UInt8 => Value.string (gstr a)) (fun a : Int => Value.int .i64 a) bA m1_52)] ++ A) w nw d_22 ∧ Els (Rp.int .i64) (bl [.row 3 1 p2 a0.Enum.Gens.length a0.Enum.Gens.length od, .blk dV (.cells #[.int .i64 a0.Enum.Points, .bool a0.Enum.Monoid, .slice bg bf bh, .slice p19 n21 c20, .slice p25 n27 c26, .slice p31 n33 c32, .slice bx bk bz, .slice p37 n39 c38, .int .i64 a0.Enum.Done, .map (some bA), .slice p43 n45 c44, .slice p49 n51 c50, .slice b6 b5 b7] 72 (0, 0)), .row 26 1 bg bf bh cM, .row 26 1 p19 n21 c20 mI, .row 3 1 p25 n27 c26 nw, .row 3 1 p31 n33 c32 ny, .row 26 1 bx bk bz cH, .row 39 2 p37 n39 c38 nz, .row 9 1 p43 n45 c44 eB, .row 3 1 p49 n51 c50 eC, .row 3 1 b6 b5 b7 dr, .any (mapE (fun a : List UInt8 => Value.string (gstr a)) (fun a : Int => Value.int .i64 a) bA m1_52)] ++ A) w ny d_28 ∧ Els (Rp.sl (Rp.int .i64)) (bl [.row 3 1 p2 a0.Enum.Gens.length a0.Enum.Gens.length od, .blk dV (.cells #[.int .i64 a0.Enum.Points, .bool a0.Enum.Monoid, .slice bg bf bh, .slice p19 n21 c20, .slice p25 n27 c26, .slice p31 n33 c32, .slice bx bk bz, .slice p37 n39 c38, .int .i64 a0.Enum.Done, .map (some bA), .slice p43 n45 c44, .slice p49 n51 c50, .slice b6 b5 b7] 72 (0, 0)), .row 26 1 bg bf bh cM, .row 26 1 p19 n21 c20 mI, .row 3 1 p25 n27 c26 nw, .row 3 1 p31 n33 c32 ny, .row 26 1 bx bk bz cH, .row 39 2 p37 n39 c38 nz, .row 9 1 p43 n45 c44 eB, .row 3 1 p49 n51 c50 eC, .row 3 1 b6 b5 b7 dr, .any (mapE (fun a : List UInt8 => Value.string (gstr a)) (fun a : Int => Value.int .i64 a) bA m1_52)] ++ A) w cH a0.Enum.Right ∧ Els (rpRule) (bl [.row 3 1 p2 a0.Enum.Gens.length a0.Enum.Gens.length od, .blk dV (.cells #[.int .i64 a0.Enum.Points, .bool a0.Enum.Monoid, .slice bg bf bh, .slice p19 n21 c20, .slice p25 n27 c26, .slice p31 n33 c32, .slice bx bk bz, .slice p37 n39 c38, .int .i64 a0.Enum.Done, .map (some bA), .slice p43 n45 c44, .slice p49 n51 c50, .slice b6 b5 b7] 72 (0, 0)), .row 26 1 bg bf bh cM, .row 26 1 p19 n21 c20 mI, .row 3 1 p25 n27 c26 nw, .row 3 1 p31 n33 c32 ny, .row 26 1 bx bk bz cH, .row 39 2 p37 n39 c38 nz, .row 9 1 p43 n45 c44 eB, .row 3 1 p49 n51 c50 eC, .row 3 1 b6 b5 b7 dr, .any (mapE (fun a : List UInt8 => Value.string (gstr a)) (fun a : Int => Value.int .i64 a) bA m1_52)] ++ A) w nz d_34 ∧ Els (Rp.str) (bl [.row 3 1 p2 a0.Enum.Gens.length a0.Enum.Gens.length od, .blk dV (.cells #[.int .i64 a0.Enum.Points, .bool a0.Enum.Monoid, .slice bg bf bh, .slice p19 n21 c20, .slice p25 n27 c26, .slice p31 n33 c32, .slice bx bk bz, .slice p37 n39 c38, .int .i64 a0.Enum.Done, .map (some bA), .slice p43 n45 c44, .slice p49 n51 c50, .slice b6 b5 b7] 72 (0, 0)), .row 26 1 bg bf bh cM, .row 26 1 p19 n21 c20 mI, .row 3 1 p25 n27 c26 nw, .row 3 1 p31 n33 c32 ny, .row 26 1 bx bk bz cH, .row 39 2 p37 n39 c38 nz, .row 9 1 p43 n45 c44 eB, .row 3 1 p49 n51 c50 eC, .row 3 1 b6 b5 b7 dr, .any (mapE (fun a : List UInt8 => Value.string (gstr a)) (fun a : Int => Value.int .i64 a) bA m1_52)] ++ A) w eB d_40 ∧ Els (Rp.int .i64) (bl [.row 3 1 p2 a0.Enum.Gens.length a0.Enum.Gens.length od, .blk dV (.cells #[.int .i64 a0.Enum.Points, .bool a0.Enum.Monoid, .slice bg bf bh, .slice p19 n21 c20, .slice p25 n27 c26, .slice p31 n33 c32, .slice bx bk bz, .slice p37 n39 c38, .int .i64 a0.Enum.Done, .map (some bA), .slice p43 n45 c44, .slice p49 n51 c50, .slice b6 b5 b7] 72 (0, 0)), .row 26 1 bg bf bh cM, .row 26 1 p19 n21 c20 mI, .row 3 1 p25 n27 c26 nw, .row 3 1 p31 n33 c32 ny, .row 26 1 bx bk bz cH, .row 39 2 p37 n39 c38 nz, .row 9 1 p43 n45 c44 eB, .row 3 1 p49 n51 c50 eC, .row 3 1 b6 b5 b7 dr, .any (mapE (fun a : List UInt8 => Value.string (gstr a)) (fun a : Int => Value.int .i64 a) bA m1_52)] ++ A) w eC d_46 ∧ Els (Rp.int .i64) (bl [.row 3 1 p2 a0.Enum.Gens.length a0.Enum.Gens.length od, .blk dV (.cells #[.int .i64 a0.Enum.Points, .bool a0.Enum.Monoid, .slice bg bf bh, .slice p19 n21 c20, .slice p25 n27 c26, .slice p31 n33 c32, .slice bx bk bz, .slice p37 n39 c38, .int .i64 a0.Enum.Done, .map (some bA), .slice p43 n45 c44, .slice p49 n51 c50, .slice b6 b5 b7] 72 (0, 0)), .row 26 1 bg bf bh cM, .row 26 1 p19 n21 c20 mI, .row 3 1 p25 n27 c26 nw, .row 3 1 p31 n33 c32 ny, .row 26 1 bx bk bz cH, .row 39 2 p37 n39 c38 nz, .row 9 1 p43 n45 c44 eB, .row 3 1 p49 n51 c50 eC, .row 3 1 b6 b5 b7 dr, .any (mapE (fun a : List UInt8 => Value.string (gstr a)) (fun a : Int => Value.int .i64 a) bA m1_52)] ++ A) w dr a0.single ∧ Fr (bl [.blk dV (.cells #[.int .i64 a0.Enum.Points, .bool a0.Enum.Monoid, .slice bg bf bh, .slice cV cU cW, .slice cO cN cP, .slice dh dg di, .slice bx bk bz, .slice cY cX cZ, .int .i64 a0.Enum.Done, .map (some bA), .slice dK dJ dM, .slice dH dG dI, .slice b6 b5 b7] 72 (0, 0)), .row 26 1 bg bf bh cM, .row 26 1 cV cU cW dX, .row 3 1 cO cN cP dT, .row 3 1 dh dg di eg, .row 26 1 bx bk bz cH, .row 39 2 cY cX cZ dY, .row 9 1 dK dJ dM gn, .row 3 1 dH dG dI fO, .row 3 1 b6 b5 b7 dr, .any (mapE (fun a : List UInt8 => Value.string (gstr a)) (fun a : Int => Value.int .i64 a) bA a0.number)]) w0 (bl [.row 3 1 p2 a0.Enum.Gens.length a0.Enum.Gens.length od, .blk dV (.cells #[.int .i64 a0.Enum.Points, .bool a0.Enum.Monoid, .slice bg bf bh, .slice p19 n21 c20, .slice p25 n27 c26, .slice p31 n33 c32, .slice bx bk bz, .slice p37 n39 c38, .int .i64 a0.Enum.Done, .map (some bA), .slice p43 n45 c44, .slice p49 n51 c50, .slice b6 b5 b7] 72 (0, 0)), .row 26 1 bg bf bh cM, .row 26 1 p19 n21 c20 mI, .row 3 1 p25 n27 c26 nw, .row 3 1 p31 n33 c32 ny, .row 26 1 bx bk bz cH, .row 39 2 p37 n39 c38 nz, .row 9 1 p43 n45 c44 eB, .row 3 1 p49 n51 c50 eC, .row 3 1 b6 b5 b7 dr, .any (mapE (fun a : List UInt8 => Value.string (gstr a)) (fun a : Int => Value.int .i64 a) bA m1_52)]) w) H ⟨vs3, cU, cV, cW, dX, cN, cO, cP, dT, dg, dh, di, eg, cX, cY, cZ, dY, dJ, dK, dM, gn, dG, dH, dI, fO, ⟨rfl, rfl, rfl, rfl, rfl, rfl, trivial⟩, hO, hE5, az, sv, rP, sH, aA, sw, uO, t9, aQ, hB⟩ ?_
 intro X1
 refine prE fun k1_12 => prE fun d_13 => prE fun d_16 => prE fun d_22 => prE fun d_28 => prE fun d_34 => prE fun d_40 => prE fun d_46 => fun m1_52 => ?_
 intro H hX1 σ w11
 refine exE fun od => exE fun n21 => exE fun p19 => exE fun c20 => exE fun mI => exE fun n27 => exE fun p25 => exE fun c26 => exE fun nw => exE fun n33 => exE fun p31 => exE fun c32 => exE fun ny => exE fun n39 => exE fun p37 => exE fun c38 => exE fun nz => exE fun n45 => exE fun p43 => exE fun c44 => exE fun eB => exE fun n51 => exE fun p49 => exE fun c50 => exE fun eC => andE fun hag => andE fun hO => andE fun cj => andE fun az => andE fun dj => andE fun cJ => andE fun cC => andE fun aA => andE fun ck => andE fun bN => andE fun bB => andE fun aQ => fun hB => ?_
 dsimp only at H
 refine Go1.keep [(0, .pointer (some ⟨dV, 0, none⟩)), (3, .int .i64 a0.Enum.Done), (4, .slice p2 a0.Enum.Gens.length a0.Enum.Gens.length), (27, .slice bg bf bh), (28, .int .i64 (a0.Enum.Gens.length : Int)), (29, .int .i64 (k1_12 : Int))] hag ?_
 refine Go1.seq ?_
 refine Go1.region ?_
 by_cases h53 : (k1_12 : Int) < (a0.Enum.Gens.length : Int)
 ·replace H := ifp h53 H
  refine GoR.op ((fun w => opB (op_lss rfl rfl w) (decide_eq_true h53)) _) rfl rfl ?_
  refine GoR.nil ?_
  refine Go1.seq ?_
  refine Go1.condT rfl rfl ?_
  refine Go1.skip ?_
  refine Go1.seq ?_
  refine Go1.block ?_
  refine Go1.seq ?_
  refine Go1.region ?_
  refine GoR.op ((op_move rfl) _) rfl rfl ?_
  obtain ⟨h54, H⟩ := H
  obtain ⟨h55, H⟩ := H
  refine GoR.op ((op_index Try.underlying22 ti26 rfl rfl h54 (ltn (az.neq hO 2 rfl) h55) (az.psome hO 2 rfl h54 h55)) _) rfl rfl ?_
  have hobt := oldSl 2 hO rfl az h54 h55
  obtain ⟨p56, c57, cr, JI⟩ := hobt
  refine GoR.op ((JI Try.underlying26 rfl rfl) _ (Same.refl _)) rfl rfl ?_
  refine GoR.op ((op_assign rfl) _) rfl rfl ?_
  refine GoR.op ((op_assign rfl) _) rfl rfl ?_
  refine GoR.nil ?_
  refine Go1.seq ?_
  refine Go1.region ?_
  refine GoR.op ((op_move rfl) _) rfl rfl ?_
  refine GoR.op ((op_nilCheck rfl) _) rfl rfl ?_
  refine GoR.op ((op_fieldAddr Try.underlying72 rfl ti29 rfl (by decide)) _) rfl rfl ?_
  refine GoR.op ((op_fieldAddr Try.underlying29 rfl ti22 rfl (by decide)) _) rfl rfl ?_
  refine GoR.op ((oblk (i := 3) 1 hO rfl rfl Try.underlying22 rfl rfl) _ (Same.refl _)) rfl rfl ?_
  refine GoR.op ((op_move rfl) _) rfl rfl ?_
  obtain ⟨h60, H⟩ := H
  obtain ⟨h61, H⟩ := H
  refine GoR.op ((op_index Try.underlying22 ti26 rfl rfl h60 (ltn (dj.neq hO 3 rfl) h61) (dj.psome hO 3 rfl h60 h61)) _) rfl rfl ?_
  have hobt := oldSl 3 hO rfl dj h60 h61
  obtain ⟨p62, c63, ct, JJ⟩ := hobt
  refine GoR.op ((JJ Try.underlying26 rfl rfl) _ (Same.refl _)) rfl rfl ?_
  refine GoR.op ((op_move rfl) _) rfl rfl ?_
  refine GoR.call (op_call body37 rfl (walk_trans_Compose hO.lt ct cr H)) rfl rfl ?_
  rintro v70 w67 ⟨r66, rI, rJ, rfl, Co, b8, H⟩
  have qX := Stp.same hO Co
  replace cj := cj.ch qX.ch
  replace az := az.ch qX.ch
  replace dj := dj.ch qX.ch
  replace cJ := cJ.ch qX.ch
  replace cC := cC.ch qX.ch
  replace aA := aA.ch qX.ch
  replace ck := ck.ch qX.ch
  replace bN := bN.ch qX.ch
  replace bB := bB.ch qX.ch
  replace aQ := aQ.ch qX.ch
  replace hO := qX.own
  replace cr := cr.ch qX.ch
  replace ct := ct.ch qX.ch
  replace hB := hB.trans qX.fr
  refine GoR.op ((op_assign rfl) _) rfl rfl ?_
  refine GoR.nil ?_
  refine Go1.seq ?_
  refine Go1.drawS 0 [(0, .pure), (1, .pure), (2, .pure), (3, .stable), (4, .pure), (5, .loud), (6, .stable), (7, .pure), (8, .pure), (9, .pure), (10, .pure), (11, .pure)] mixed (by kernel_rfl) ?_
  intro w72 Bb
  have pC := Stp.same hO Bb
  replace cj := cj.ch pC.ch
  replace az := az.ch pC.ch
  replace dj := dj.ch pC.ch
  replace cJ := cJ.ch pC.ch
  replace cC := cC.ch pC.ch
  replace aA := aA.ch pC.ch
  replace ck := ck.ch pC.ch
  replace bN := bN.ch pC.ch
  replace bB := bB.ch pC.ch
  replace aQ := aQ.ch pC.ch
  replace hO := pC.own
  replace cr := cr.ch pC.ch
  replace ct := ct.ch pC.ch
  replace b8 := b8.ch pC.ch
  replace hB := hB.trans pC.fr
  refine GoQ.pure rfl (op_move rfl) rfl rfl ?_
  refine GoQ.pure rfl (op_nilCheck rfl) rfl rfl ?_
  refine GoQ.pure rfl (op_fieldAddr Try.underlying72 rfl ti69 rfl (by decide)) rfl rfl ?_
  refine GoQ.stable rfl (oblk (i := 9) 1 hO rfl rfl Try.underlying69 rfl rfl) rfl rfl ?_
  refine GoQ.pure rfl (op_move rfl) rfl rfl ?_
  refine GoQ.call rfl (op_call body61 rfl (walk_enumerate_text hO.lt b8 H)) (fun v w hr => by obtain ⟨_, _, hs, _, _⟩ := hr; assumption) rfl rfl ?_
  rintro v79 w76 ⟨r75, rfl, JK, Kr, H⟩
  have pD := Stp.same hO JK
  replace cj := cj.ch pD.ch
  replace az := az.ch pD.ch
  replace dj := dj.ch pD.ch
  replace cJ := cJ.ch pD.ch
  replace cC := cC.ch pD.ch
  replace aA := aA.ch pD.ch
  replace ck := ck.ch pD.ch
  replace bN := bN.ch pD.ch
  replace bB := bB.ch pD.ch
  replace aQ := aQ.ch pD.ch
  replace hO := pD.own
  replace cr := cr.ch pD.ch
  replace ct := ct.ch pD.ch
  replace b8 := b8.ch pD.ch
  replace hB := hB.trans pD.fr
  by_cases h81 : mhas m1_52 r75 = true
  ·replace H := ifp h81 H
   refine GoQ.stable rfl (olookT (a := r75) (MK.str Try.underlying9) 11 hO rfl Try.underlying69 rfl rfl h81) rfl rfl ?_
   refine GoQ.pure rfl (op_move rfl) rfl rfl ?_
   refine GoQ.pure rfl (op_extract rfl rfl) rfl rfl ?_
   refine GoQ.pure rfl (op_extract rfl rfl) rfl rfl ?_
   refine GoQ.pure rfl (op_assign rfl) rfl rfl ?_
   refine GoQ.pure rfl (op_assign rfl) rfl rfl ?_
   refine GoQ.nil ?_
   refine Go1.seq ?_
   refine Go1.cut [(0, .pointer (some ⟨dV, 0, none⟩)), (3, .int .i64 a0.Enum.Done), (4, .slice p2 a0.Enum.Gens.length a0.Enum.Gens.length), (5, .int .i64 (k1_12 : Int)), (7, .slice rI r66.length rJ), (8, .int .i64 (mgt m1_52 r75)), (9, .bool true), (27, .slice bg bf bh), (28, .int .i64 (a0.Enum.Gens.length : Int)), (29, .int .i64 (k1_12 : Int))] ⟨rfl, rfl, rfl, rfl, rfl, rfl, rfl, rfl, rfl, rfl, trivial⟩ ?_
   intro σ _
   refine Go1.region ?_
   refine GoR.op ((op_move rfl) _) rfl rfl ?_
   refine GoR.op ((op_nilCheck rfl) _) rfl rfl ?_
   refine GoR.op ((op_fieldAddr Try.underlying72 rfl ti70 rfl (by decide)) _) rfl rfl ?_
   refine GoR.op ((oblk (i := 10) 1 hO rfl rfl Try.underlying70 rfl rfl) _ (Same.refl _)) rfl rfl ?_
   refine GoR.op ((op_move rfl) _) rfl rfl ?_
   obtain ⟨h82, H⟩ := H
   obtain ⟨h83, H⟩ := H
   refine GoR.op ((op_index Try.underlying70 ti9 rfl rfl h82 (ltn (bN.neq hO 8 rfl) h83) (bN.psome hO 8 rfl h82 h83)) _) rfl rfl ?_
   refine GoR.op ((oldStr 8 hO rfl bN h82 h83 Try.underlying9 rfl rfl) _ (Same.refl _)) rfl rfl ?_
   have hle84 := Els.str_le bN h82 h83
   refine GoR.op ((op_move rfl) _) rfl rfl ?_
   obtain ⟨h85, H⟩ := H
   refine GoR.op ((op_add rfl rfl (wrap_i64 h85)) _) rfl rfl ?_
   refine GoR.op ((op_conv Try.underlying3 Try.underlying21 rfl rfl) _) rfl rfl ?_
   obtain ⟨h86, H⟩ := H
   obtain ⟨h87, H⟩ := H
   refine GoR.op ((op_convRS Try.underlying21 Try.underlying9 rfl h86 h87) _) rfl rfl ?_
   obtain ⟨h88, H⟩ := H
   refine GoR.op ((op_addS rfl rfl h88) _) rfl rfl ?_
   refine GoR.op ((op_assign rfl) _) rfl rfl ?_
   refine GoR.nil ?_
   refine Go1.seq ?_
   refine Go1.block ?_
   refine Go1.seq ?_
   refine Go1.region ?_
   refine GoR.op ((op_move rfl) _) rfl rfl ?_
   refine GoR.op ((op_not rfl) _) rfl rfl ?_
   refine GoR.op ((op_move rfl) _) rfl rfl ?_
   refine GoR.pass rfl rfl ?_
   refine GoR.pass rfl rfl ?_
   refine GoR.pass rfl rfl ?_
   refine GoR.pass rfl rfl ?_
   refine GoR.pass rfl rfl ?_
   refine GoR.pass rfl rfl ?_
   refine GoR.pass rfl rfl ?_
   refine GoR.op ((op_pickF rfl rfl rfl) _) rfl rfl ?_
   refine GoR.op ((op_assign rfl) _) rfl rfl ?_
   refine GoR.nil ?_
   refine Go1.condF rfl rfl ?_
   refine Go1.seq ?_
   refine Go1.cut [(0, .pointer (some ⟨dV, 0, none⟩)), (3, .int .i64 a0.Enum.Done), (4, .slice p2 a0.Enum.Gens.length a0.Enum.Gens.length), (5, .int .i64 (k1_12 : Int)), (7, .slice rI r66.length rJ), (8, .int .i64 (mgt m1_52 r75)), (9, .bool true), (10, .string (gstr ((ix d_40 a0.Enum.Done) ++ (chr (IntKind.i32.wrap ((97 : Int) + (k1_12 : Int))))))), (27, .slice bg bf bh), (28, .int .i64 (a0.Enum.Gens.length : Int)), (29, .int .i64 (k1_12 : Int))] ⟨rfl, rfl, rfl, rfl, rfl, rfl, rfl, rfl, rfl, rfl, rfl, trivial⟩ ?_
   intro σ _
   refine Go1.region ?_
   refine GoR.op ((op_move rfl) _) rfl rfl ?_
   refine GoR.op ((op_not rfl) _) rfl rfl ?_
   refine GoR.op ((op_assign rfl) _) rfl rfl ?_
   refine GoR.nil ?_
   refine Go1.condF rfl rfl ?_
   refine Go1.seq ?_
   refine Go1.region ?_
   refine GoR.op ((op_move rfl) _) rfl rfl ?_
   refine GoR.op ((op_nilCheck rfl) _) rfl rfl ?_
   refine GoR.op ((op_fieldAddr Try.underlying72 rfl ti70 rfl (by decide)) _) rfl rfl ?_
   refine GoR.op ((oblk (i := 10) 1 hO rfl rfl Try.underlying70 rfl rfl) _ (Same.refl _)) rfl rfl ?_
   refine GoR.op ((op_move rfl) _) rfl rfl ?_
   obtain ⟨h89, H⟩ := H
   obtain ⟨h90, H⟩ := H
   refine GoR.op ((op_index Try.underlying70 ti9 rfl rfl h89 (ltn (bN.neq hO 8 rfl) h90) (bN.psome hO 8 rfl h89 h90)) _) rfl rfl ?_
   refine GoR.op ((oldStr 8 hO rfl bN h89 h90 Try.underlying9 rfl rfl) _ (Same.refl _)) rfl rfl ?_
   have hle91 := Els.str_le bN h89 h90
   by_cases h92 : (ix d_40 a0.Enum.Done) = (([] : Str))
   ·replace H := ifp h92 H
    refine GoR.op ((fun w => opB (op_neqS rfl rfl w) (ndT h92)) _) rfl rfl ?_
    refine GoR.op ((op_move rfl) _) rfl rfl ?_
    refine GoR.pass rfl rfl ?_
    refine GoR.pass rfl rfl ?_
    refine GoR.pass rfl rfl ?_
    refine GoR.pass rfl rfl ?_
    refine GoR.pass rfl rfl ?_
    refine GoR.pass rfl rfl ?_
    refine GoR.pass rfl rfl ?_
    refine GoR.pass rfl rfl ?_
    refine GoR.pass rfl rfl ?_
    refine GoR.pass rfl rfl ?_
    refine GoR.op ((op_pickF rfl rfl rfl) _) rfl rfl ?_
    refine GoR.op ((op_assign rfl) _) rfl rfl ?_
    refine GoR.nil ?_
    refine Go1.condF rfl rfl ?_
    refine Go1.skip ?_
    refine Go1.inBlock ?_
    refine Go1.cut [(0, .pointer (some ⟨dV, 0, none⟩)), (3, .int .i64 a0.Enum.Done), (4, .slice p2 a0.Enum.Gens.length a0.Enum.Gens.length), (5, .int .i64 (k1_12 : Int)), (8, .int .i64 (mgt m1_52 r75)), (27, .slice bg bf bh), (28, .int .i64 (a0.Enum.Gens.length : Int)), (29, .int .i64 (k1_12 : Int))] ⟨rfl, rfl, rfl, rfl, rfl, rfl, rfl, rfl, trivial⟩ ?_
    intro σ _
    refine Go1.region ?_
    refine GoR.op ((op_move rfl) _) rfl rfl ?_
    refine GoR.op ((op_move rfl) _) rfl rfl ?_
    refine GoR.op ((op_move rfl) _) rfl rfl ?_
    obtain ⟨h93, H⟩ := H
    obtain ⟨h94, H⟩ := H
    refine GoR.op ((op_index Try.underlying26 ti3 rfl rfl h93 (ltn (cj.neq hO 0 rfl) h94) (cj.psome hO 0 rfl h93 h94)) _) rfl rfl ?_
    have hobt := ost (r := Rp.int .i64) rfl 0 hO rfl cj h93 h94 (v := .int .i64 (mgt m1_52 r75)) (u := (mgt m1_52 r75)) rfl rfl
    obtain ⟨w95, JL, gs, DH, GC⟩ := hobt
    dsimp only [sS, sZ] at gs DH
    refine GoR.op (GC Try.underlying3 rfl ti3 (by exact rfl) (by exact rfl)) rfl rfl ?_
    replace az := az.ch gs.ch
    replace dj := dj.ch gs.ch
    replace cJ := cJ.ch gs.ch
    replace cC := cC.ch gs.ch
    replace aA := aA.ch gs.ch
    replace ck := ck.ch gs.ch
    replace bN := bN.ch gs.ch
    replace bB := bB.ch gs.ch
    replace aQ := aQ.ch gs.ch
    replace hO := gs.own
    replace cr := cr.ch gs.ch
    replace ct := ct.ch gs.ch
    replace b8 := b8.ch gs.ch
    replace hB := hB.trans gs.fr
    refine GoR.nil ?_
    refine Go1.inBlock ?_
    refine Go1.region ?_
    refine GoR.op ((op_add rfl rfl (wrap_i64 (natbd h53 az.bd))) _) rfl rfl ?_
    refine GoR.op ((op_move rfl) _) rfl rfl ?_
    refine GoR.nil ?_
    exact hX1 _ H _ _ ⟨JL, n21, p19, c20, mI, n27, p25, c26, nw, n33, p31, c32, ny, n39, p37, c38, nz, n45, p43, c44, eB, n51, p49, c50, eC, ⟨rfl, rfl, rfl, rfl, rfl, rfl, trivial⟩, hO, DH, az, dj, cJ, cC, aA, ck, bN, bB, aQ, hB⟩
   replace H := ifn h92 H
   refine GoR.op ((fun w => opB (op_neqS rfl rfl w) (ndF h92)) _) rfl rfl ?_
   refine GoR.op ((op_move rfl) _) rfl rfl ?_
   refine GoR.op ((op_move rfl) _) rfl rfl ?_
   refine GoR.op ((op_move rfl) _) rfl rfl ?_
   refine GoR.op ((op_nilCheck rfl) _) rfl rfl ?_
   refine GoR.op ((op_fieldAddr Try.underlying72 rfl ti26 rfl (by decide)) _) rfl rfl ?_
   refine GoR.op ((oblk (i := 11) 1 hO rfl rfl Try.underlying26 rfl rfl) _ (Same.refl _)) rfl rfl ?_
   refine GoR.op ((op_move rfl) _) rfl rfl ?_
   obtain ⟨Bw, H⟩ := H
   obtain ⟨su, H⟩ := H
   refine GoR.op ((op_index Try.underlying26 ti3 rfl rfl Bw (ltn (bB.neq hO 9 rfl) su) (bB.psome hO 9 rfl Bw su)) _) rfl rfl ?_
   refine GoR.op ((oldInt 9 hO rfl bB Bw su Try.underlying3 rfl rfl) _ (Same.refl _)) rfl rfl ?_
   refine GoR.op ((op_move rfl) _) rfl rfl ?_
   refine GoR.inl (vs := [.pointer (some ⟨dV, 0, none⟩), .int .i64 (ix d_46 a0.Enum.Done), .int .i64 (k1_12 : Int)]) (caps := []) rfl rfl body67 Try.func67 rfl Try.ntmps67 rfl rfl rfl ?_
   intro RhR102 hR102
   refine Go1.seq ?_
   refine Go1.region ?_
   refine GoR.op ((op_assign rfl) _) rfl rfl ?_
   refine GoR.nil ?_
   refine Go1.seq ?_
   refine Go1.cut [(0, .pointer (some ⟨dV, 0, none⟩)), (1, .int .i64 (ix d_46 a0.Enum.Done)), (2, .int .i64 (k1_12 : Int))] ⟨rfl, rfl, rfl, trivial⟩ ?_
   intro σ _
   refine Go1.region ?_
   refine GoR.op ((op_move rfl) _) rfl rfl ?_
   refine GoR.op ((op_move rfl) _) rfl rfl ?_
   refine GoR.op ((op_move rfl) _) rfl rfl ?_
   refine GoR.inl (vs := [.pointer (some ⟨dV, 0, none⟩), .int .i64 (ix d_46 a0.Enum.Done), .int .i64 (k1_12 : Int)]) (caps := []) rfl rfl body66 Try.func66 rfl Try.ntmps66 rfl rfl rfl ?_
   intro RhR103 hR103
   refine Go1.seq ?_
   refine Go1.region ?_
   refine GoR.op ((op_assign rfl) _) rfl rfl ?_
   refine GoR.nil ?_
   refine Go1.seq ?_
   refine Go1.seq ?_
   refine Go1.region ?_
   refine GoR.op ((op_move rfl) _) rfl rfl ?_
   by_cases vF : (ix d_46 a0.Enum.Done) = (-1 : Int)
   ·replace H := ifp vF H
    refine GoR.op ((fun w => opB (op_eql rfl rfl w) (decide_eq_true vF)) _) rfl rfl ?_
    refine GoR.nil ?_
    refine Go1.condT rfl rfl ?_
    refine Go1.seq ?_
    refine Go1.region ?_
    refine GoR.op ((op_move rfl) _) rfl rfl ?_
    refine GoR.op ((op_nilCheck rfl) _) rfl rfl ?_
    refine GoR.op ((op_fieldAddr Try.underlying72 rfl ti26 rfl (by decide)) _) rfl rfl ?_
    refine GoR.op ((oblk (i := 12) 1 hO rfl rfl Try.underlying26 rfl rfl) _ (Same.refl _)) rfl rfl ?_
    refine GoR.op ((op_move rfl) _) rfl rfl ?_
    obtain ⟨qD, H⟩ := H
    obtain ⟨sQ, H⟩ := H
    refine GoR.op ((op_index Try.underlying26 ti3 rfl rfl qD (ltn (aQ.neq hO 10 rfl) sQ) (aQ.psome hO 10 rfl qD sQ)) _) rfl rfl ?_
    refine GoR.op ((oldInt 10 hO rfl aQ qD sQ Try.underlying3 rfl rfl) _ (Same.refl _)) rfl rfl ?_
    refine GoR.op ((op_assign rfl) _) rfl rfl ?_
    refine GoR.nil ?_
    refine Go1.ret1V Try.func66 rfl (show _ = .int .i64 (ix a0.single (k1_12 : Int)) from rfl) ?_
    refine hR103 _ _ ?_
    refine GoR.op ((op_assign rfl) _) rfl rfl ?_
    refine GoR.nil ?_
    refine Go1.seq ?_
    refine Go1.region ?_
    refine GoR.op ((op_move rfl) _) rfl rfl ?_
    refine GoR.op ((op_nilCheck rfl) _) rfl rfl ?_
    refine GoR.op ((op_fieldAddr Try.underlying72 rfl ti29 rfl (by decide)) _) rfl rfl ?_
    refine GoR.op ((op_fieldAddr Try.underlying29 rfl ti26 rfl (by decide)) _) rfl rfl ?_
    refine GoR.op ((oblk (i := 4) 1 hO rfl rfl Try.underlying26 rfl rfl) _ (Same.refl _)) rfl rfl ?_
    refine GoR.op ((op_move rfl) _) rfl rfl ?_
    obtain ⟨t0, H⟩ := H
    obtain ⟨t3, H⟩ := H
    refine GoR.op ((op_index Try.underlying26 ti3 rfl rfl t0 (ltn (cJ.neq hO 4 rfl) t3) (cJ.psome hO 4 rfl t0 t3)) _) rfl rfl ?_
    refine GoR.op ((oldInt 4 hO rfl cJ t0 t3 Try.underlying3 rfl rfl) _ (Same.refl _)) rfl rfl ?_
    refine GoR.op ((op_move rfl) _) rfl rfl ?_
    by_cases vq : (ix d_22 (ix a0.single (k1_12 : Int))) = (ix d_46 a0.Enum.Done)
    ·replace H := ifp vq H
     refine GoR.op ((fun w => opB (op_eql rfl rfl w) (decide_eq_true vq)) _) rfl rfl ?_
     refine GoR.op ((op_move rfl) _) rfl rfl ?_
     refine GoR.op ((op_move rfl) _) rfl rfl ?_
     refine GoR.op ((op_nilCheck rfl) _) rfl rfl ?_
     refine GoR.op ((op_fieldAddr Try.underlying72 rfl ti29 rfl (by decide)) _) rfl rfl ?_
     refine GoR.op ((op_fieldAddr Try.underlying29 rfl ti26 rfl (by decide)) _) rfl rfl ?_
     refine GoR.op ((oblk (i := 5) 1 hO rfl rfl Try.underlying26 rfl rfl) _ (Same.refl _)) rfl rfl ?_
     refine GoR.op ((op_move rfl) _) rfl rfl ?_
     obtain ⟨wO, H⟩ := H
     obtain ⟨wP, H⟩ := H
     refine GoR.op ((op_index Try.underlying26 ti3 rfl rfl wO (ltn (cC.neq hO 5 rfl) wP) (cC.psome hO 5 rfl wO wP)) _) rfl rfl ?_
     refine GoR.op ((oldInt 5 hO rfl cC wO wP Try.underlying3 rfl rfl) _ (Same.refl _)) rfl rfl ?_
     refine GoR.op ((op_move rfl) _) rfl rfl ?_
     by_cases Ae : (ix d_28 (ix a0.single (k1_12 : Int))) = (k1_12 : Int)
     ·replace H := ifp Ae H
      refine GoR.op ((fun w => opB (op_eql rfl rfl w) (decide_eq_true Ae)) _) rfl rfl ?_
      refine GoR.op ((op_pickT rfl rfl rfl) _) rfl rfl ?_
      refine GoR.op ((op_assign rfl) _) rfl rfl ?_
      refine GoR.nil ?_
      refine Go1.ret1V Try.func67 rfl (show _ = .bool true from rfl) ?_
      refine hR102 _ _ ?_
      refine GoR.op ((op_pickT rfl rfl rfl) _) rfl rfl ?_
      refine GoR.op ((op_assign rfl) _) rfl rfl ?_
      refine GoR.nil ?_
      refine Go1.condT rfl rfl ?_
      refine Go1.cut [(0, .pointer (some ⟨dV, 0, none⟩)), (3, .int .i64 a0.Enum.Done), (4, .slice p2 a0.Enum.Gens.length a0.Enum.Gens.length), (5, .int .i64 (k1_12 : Int)), (8, .int .i64 (mgt m1_52 r75)), (10, .string (gstr ((ix d_40 a0.Enum.Done) ++ (chr (IntKind.i32.wrap ((97 : Int) + (k1_12 : Int))))))), (27, .slice bg bf bh), (28, .int .i64 (a0.Enum.Gens.length : Int)), (29, .int .i64 (k1_12 : Int))] ⟨rfl, rfl, rfl, rfl, rfl, rfl, rfl, rfl, rfl, trivial⟩ ?_
      intro σ _
      refine Go1.drawS 5 [(0, .pure), (1, .pure), (2, .pure), (3, .pure), (4, .pure), (5, .stable), (6, .pure), (7, .pure), (8, .pure), (9, .pure), (10, .stable), (11, .pure), (12, .pure), (13, .stable), (14, .pure), (15, .loud), (16, .last), (17, .pure), (18, .pure), (19, .pure), (20, .last)] mixed (by kernel_rfl) ?_
      intro Nr GD
      have nA := Stp.same hO GD
      replace cj := cj.ch nA.ch
      replace az := az.ch nA.ch
      replace dj := dj.ch nA.ch
      replace cJ := cJ.ch nA.ch
      replace cC := cC.ch nA.ch
      replace aA := aA.ch nA.ch
      replace ck := ck.ch nA.ch
      replace bN := bN.ch nA.ch
      replace bB := bB.ch nA.ch
      replace aQ := aQ.ch nA.ch
      replace hO := nA.own
      replace cr := cr.ch nA.ch
      replace ct := ct.ch nA.ch
      replace b8 := b8.ch nA.ch
      replace hB := hB.trans nA.fr
      refine GoQ.pure rfl (op_move rfl) rfl rfl ?_
      refine GoQ.pure rfl (op_move rfl) rfl rfl ?_
      refine GoQ.pure rfl (op_nilCheck rfl) rfl rfl ?_
      refine GoQ.pure rfl (op_fieldAddr Try.underlying72 rfl ti29 rfl (by decide)) rfl rfl ?_
      refine GoQ.pure rfl (op_fieldAddr Try.underlying29 rfl ti27 rfl (by decide)) rfl rfl ?_
      refine GoQ.stable rfl (oblk (i := 7) 1 hO rfl rfl Try.underlying27 rfl rfl) rfl rfl ?_
      refine GoQ.pure rfl (op_move rfl) rfl rfl ?_
      refine GoQ.pure rfl (op_move rfl) rfl rfl ?_
      refine GoQ.pure rfl (op_nilCheck rfl) rfl rfl ?_
      refine GoQ.pure rfl (op_fieldAddr Try.underlying72 rfl ti70 rfl (by decide)) rfl rfl ?_
      refine GoQ.stable rfl (oblk (i := 10) 1 hO rfl rfl Try.underlying70 rfl rfl) rfl rfl ?_
      refine GoQ.pure rfl (op_move rfl) rfl rfl ?_
      obtain ⟨qE, H⟩ := H
      obtain ⟨vc, H⟩ := H
      refine GoQ.pure rfl (op_index Try.underlying70 ti9 rfl rfl qE (ltn (bN.neq hO 8 rfl) vc) (bN.psome hO 8 rfl qE vc)) rfl rfl ?_
      refine GoQ.stable rfl (oldStr 8 hO rfl bN qE vc Try.underlying9 rfl rfl) rfl rfl ?_
      have hle118 := Els.str_le bN qE vc
      refine GoQ.pure rfl (op_build Try.underlying39 ti39 (pl := [(0, 1), (1, 1)]) (vs := [(0, .string (gstr ((ix d_40 a0.Enum.Done) ++ (chr (IntKind.i32.wrap ((97 : Int) + (k1_12 : Int))))))), (1, .string (gstr (ix d_40 (mgt m1_52 r75))))]) (cs := #[.string (gstr ((ix d_40 a0.Enum.Done) ++ (chr (IntKind.i32.wrap ((97 : Int) + (k1_12 : Int)))))), .string (gstr (ix d_40 (mgt m1_52 r75)))]) (by kernel_rfl) rfl (by kernel_rfl)) rfl rfl ?_
      have hobt := obuildN (r := rpRule) (n := 1) (parts := [(0, .agg #[.string (gstr ((ix d_40 a0.Enum.Done) ++ (chr (IntKind.i32.wrap ((97 : Int) + (k1_12 : Int)))))), .string (gstr (ix d_40 (mgt m1_52 r75)))])]) (vs := [.string (gstr ((ix d_40 a0.Enum.Done) ++ (chr (IntKind.i32.wrap ((97 : Int) + (k1_12 : Int)))))), .string (gstr (ix d_40 (mgt m1_52 r75)))]) (xs := [(⟨(ix d_40 a0.Enum.Done) ++ (chr (IntKind.i32.wrap ((97 : Int) + (k1_12 : Int)))), ix d_40 (mgt m1_52 r75)⟩ : Rule)]) Try.underlying27 ti39 hO (by decide) (by decide) (by kernel_rfl) (Els.flat1 (⟨(ix d_40 a0.Enum.Done) ++ (chr (IntKind.i32.wrap ((97 : Int) + (k1_12 : Int)))), ix d_40 (mgt m1_52 r75)⟩ : Rule) ⟨(lenApp h88), hle118⟩) rfl
      obtain ⟨Ns, ji, nB, GE, GF, DJ⟩ := hobt
      refine GoQ.loud rfl (DJ rfl) GF rfl rfl ?_
      replace cj := cj.ch nB.ch
      replace az := az.ch nB.ch
      replace dj := dj.ch nB.ch
      replace cJ := cJ.ch nB.ch
      replace cC := cC.ch nB.ch
      replace aA := aA.ch nB.ch
      replace ck := ck.ch nB.ch
      replace bN := bN.ch nB.ch
      replace bB := bB.ch nB.ch
      replace aQ := aQ.ch nB.ch
      replace hO := nB.own
      replace cr := cr.ch nB.ch
      replace ct := ct.ch nB.ch
      replace b8 := b8.ch nB.ch
      replace hB := hB.trans nB.fr
      have hobt := freeze 0 hO rfl GE
      obtain ⟨hO1, qY, ul, GG⟩ := hobt
      dsimp only [eS, eZ] at hO1 qY ul
      replace cr := cr.ch qY
      replace ct := ct.ch qY
      replace b8 := b8.ch qY
      replace cj := cj.ch qY
      replace az := az.ch qY
      replace dj := dj.ch qY
      replace cJ := cJ.ch qY
      replace cC := cC.ch qY
      replace aA := aA.ch qY
      replace ck := ck.ch qY
      replace bN := bN.ch qY
      replace bB := bB.ch qY
      replace aQ := aQ.ch qY
      replace hB := hB.trans (Owns.dropFr _ _ 0)
      dsimp only [eS, eZ] at hB
      replace hO := hO1; clear hO1
      obtain ⟨yT, H⟩ := H
      have hobt := oapp Try.underlying27 ti39 rfl 7 hO rfl ck ul GG yT (by decide)
      obtain ⟨Nt, zC, zD, GH, mV, wg, DK⟩ := hobt
      dsimp only [sS, sZ] at mV wg
      refine GoQ.last rfl (DK (by exact rfl) (by exact rfl)) rfl rfl ?_
      replace cj := cj.ch mV.ch
      replace az := az.ch mV.ch
      replace dj := dj.ch mV.ch
      replace cJ := cJ.ch mV.ch
      replace cC := cC.ch mV.ch
      replace aA := aA.ch mV.ch
      replace bN := bN.ch mV.ch
      replace bB := bB.ch mV.ch
      replace aQ := aQ.ch mV.ch
      replace hO := mV.own
      replace cr := cr.ch mV.ch
      replace ct := ct.ch mV.ch
      replace b8 := b8.ch mV.ch
      replace ul := ul.ch mV.ch
      replace hB := hB.trans mV.fr
      refine GoQ.pure rfl (op_nilCheck rfl) rfl rfl ?_
      refine GoQ.pure rfl (op_fieldAddr Try.underlying72 rfl ti29 rfl (by decide)) rfl rfl ?_
      refine GoQ.pure rfl (op_fieldAddr Try.underlying29 rfl ti27 rfl (by decide)) rfl rfl ?_
      have hobt := oblkSt2 (v := .slice zC (n39 + 1) zD) (i := 7) (cs' := #[.int .i64 a0.Enum.Points, .bool a0.Enum.Monoid, .slice bg bf bh, .slice p19 n21 c20, .slice p25 n27 c26, .slice p31 n33 c32, .slice bx bk bz, .slice zC (n39 + 1) zD, .int .i64 a0.Enum.Done, .map (some bA), .slice p43 n45 c44, .slice p49 n51 c50, .slice b6 b5 b7]) 1 hO rfl rfl rfl rfl
      obtain ⟨IG, lR, DL⟩ := hobt
      dsimp only [sS, sZ] at lR
      refine GoQ.last rfl (DL Try.underlying27 rfl ti27 (by exact rfl) (by exact rfl)) rfl rfl ?_
      replace cj := cj.ch lR.ch
      replace az := az.ch lR.ch
      replace dj := dj.ch lR.ch
      replace cJ := cJ.ch lR.ch
      replace cC := cC.ch lR.ch
      replace aA := aA.ch lR.ch
      replace wg := wg.ch lR.ch
      replace bN := bN.ch lR.ch
      replace bB := bB.ch lR.ch
      replace aQ := aQ.ch lR.ch
      replace hO := lR.own
      replace cr := cr.ch lR.ch
      replace ct := ct.ch lR.ch
      replace b8 := b8.ch lR.ch
      replace ul := ul.ch lR.ch
      replace hB := hB.trans lR.fr
      refine GoQ.nil ?_
      refine Go1.inBlock ?_
      refine Go1.cut [(0, .pointer (some ⟨dV, 0, none⟩)), (3, .int .i64 a0.Enum.Done), (4, .slice p2 a0.Enum.Gens.length a0.Enum.Gens.length), (5, .int .i64 (k1_12 : Int)), (8, .int .i64 (mgt m1_52 r75)), (27, .slice bg bf bh), (28, .int .i64 (a0.Enum.Gens.length : Int)), (29, .int .i64 (k1_12 : Int))] ⟨rfl, rfl, rfl, rfl, rfl, rfl, rfl, rfl, trivial⟩ ?_
      intro σ _
      refine Go1.region ?_
      refine GoR.op ((op_move rfl) _) rfl rfl ?_
      refine GoR.op ((op_move rfl) _) rfl rfl ?_
      refine GoR.op ((op_move rfl) _) rfl rfl ?_
      obtain ⟨vw, H⟩ := H
      obtain ⟨uJ, H⟩ := H
      refine GoR.op ((op_index Try.underlying26 ti3 rfl rfl vw (ltn (cj.neq hO 0 rfl) uJ) (cj.psome hO 0 rfl vw uJ)) _) rfl rfl ?_
      have hobt := ost (r := Rp.int .i64) rfl 0 hO rfl cj vw uJ (v := .int .i64 (mgt m1_52 r75)) (u := (mgt m1_52 r75)) rfl rfl
      obtain ⟨Ip, GJ, mW, B8, DM⟩ := hobt
      dsimp only [sS, sZ] at mW B8
      refine GoR.op (DM Try.underlying3 rfl ti3 (by exact rfl) (by exact rfl)) rfl rfl ?_
      replace az := az.ch mW.ch
      replace dj := dj.ch mW.ch
      replace cJ := cJ.ch mW.ch
      replace cC := cC.ch mW.ch
      replace aA := aA.ch mW.ch
      replace wg := wg.ch mW.ch
      replace bN := bN.ch mW.ch
      replace bB := bB.ch mW.ch
      replace aQ := aQ.ch mW.ch
      replace hO := mW.own
      replace cr := cr.ch mW.ch
      replace ct := ct.ch mW.ch
      replace b8 := b8.ch mW.ch
      replace ul := ul.ch mW.ch
      replace hB := hB.trans mW.fr
      refine GoR.nil ?_
      refine Go1.inBlock ?_
      refine Go1.region ?_
      refine GoR.op ((op_add rfl rfl (wrap_i64 (natbd h53 az.bd))) _) rfl rfl ?_
      refine GoR.op ((op_move rfl) _) rfl rfl ?_
      refine GoR.nil ?_
      exact hX1 _ H _ _ ⟨GJ, n21, p19, c20, mI, n27, p25, c26, nw, n33, p31, c32, ny, n39 + 1, zC, zD, GH, n45, p43, c44, eB, n51, p49, c50, eC, ⟨rfl, rfl, rfl, rfl, rfl, rfl, trivial⟩, hO, B8, az, dj, cJ, cC, aA, wg, bN, bB, aQ, hB⟩
     replace H := ifn Ae H
     refine GoR.op ((fun w => opB (op_eql rfl rfl w) (decide_eq_false Ae)) _) rfl rfl ?_
     refine GoR.op ((op_pickT rfl rfl rfl) _) rfl rfl ?_
     refine GoR.op ((op_assign rfl) _) rfl rfl ?_
     refine GoR.nil ?_
     refine Go1.ret1V Try.func67 rfl (show _ = .bool false from rfl) ?_
     refine hR102 _ _ ?_
     refine GoR.op ((op_pickT rfl rfl rfl) _) rfl rfl ?_
     refine GoR.op ((op_assign rfl) _) rfl rfl ?_
     refine GoR.nil ?_
     refine Go1.condF rfl rfl ?_
     refine Go1.skip ?_
     refine Go1.inBlock ?_
     refine Go1.region ?_
     refine GoR.op ((op_move rfl) _) rfl rfl ?_
     refine GoR.op ((op_move rfl) _) rfl rfl ?_
     refine GoR.op ((op_move rfl) _) rfl rfl ?_
     obtain ⟨yR, H⟩ := H
     obtain ⟨wQ, H⟩ := H
     refine GoR.op ((op_index Try.underlying26 ti3 rfl rfl yR (ltn (cj.neq hO 0 rfl) wQ) (cj.psome hO 0 rfl yR wQ)) _) rfl rfl ?_
     have hobt := ost (r := Rp.int .i64) rfl 0 hO rfl cj yR wQ (v := .int .i64 (mgt m1_52 r75)) (u := (mgt m1_52 r75)) rfl rfl
     obtain ⟨Nu, GK, nC, Ca, DN⟩ := hobt
     dsimp only [sS, sZ] at nC Ca
     refine GoR.op (DN Try.underlying3 rfl ti3 (by exact rfl) (by exact rfl)) rfl rfl ?_
     replace az := az.ch nC.ch
     replace dj := dj.ch nC.ch
     replace cJ := cJ.ch nC.ch
     replace cC := cC.ch nC.ch
     replace aA := aA.ch nC.ch
     replace ck := ck.ch nC.ch
     replace bN := bN.ch nC.ch
     replace bB := bB.ch nC.ch
     replace aQ := aQ.ch nC.ch
     replace hO := nC.own
     replace cr := cr.ch nC.ch
     replace ct := ct.ch nC.ch
     replace b8 := b8.ch nC.ch
     replace hB := hB.trans nC.fr
     refine GoR.nil ?_
     refine Go1.inBlock ?_
     refine Go1.region ?_
     refine GoR.op ((op_add rfl rfl (wrap_i64 (natbd h53 az.bd))) _) rfl rfl ?_
     refine GoR.op ((op_move rfl) _) rfl rfl ?_
     refine GoR.nil ?_
     exact hX1 _ H _ _ ⟨GK, n21, p19, c20, mI, n27, p25, c26, nw, n33, p31, c32, ny, n39, p37, c38, nz, n45, p43, c44, eB, n51, p49, c50, eC, ⟨rfl, rfl, rfl, rfl, rfl, rfl, trivial⟩, hO, Ca, az, dj, cJ, cC, aA, ck, bN, bB, aQ, hB⟩
    replace H := ifn vq H
    refine GoR.op ((fun w => opB (op_eql rfl rfl w) (decide_eq_false vq)) _) rfl rfl ?_
    refine GoR.op ((op_move rfl) _) rfl rfl ?_
    refine GoR.pass rfl rfl ?_
    refine GoR.pass rfl rfl ?_
    refine GoR.pass rfl rfl ?_
    refine GoR.pass rfl rfl ?_
    refine GoR.pass rfl rfl ?_
    refine GoR.pass rfl rfl ?_
    refine GoR.pass rfl rfl ?_
    refine GoR.pass rfl rfl ?_
    refine GoR.pass rfl rfl ?_
    refine GoR.pass rfl rfl ?_
    refine GoR.op ((op_pickF rfl rfl rfl) _) rfl rfl ?_
    refine GoR.op ((op_assign rfl) _) rfl rfl ?_
    refine GoR.nil ?_
    refine Go1.ret1V Try.func67 rfl (show _ = .bool false from rfl) ?_
    refine hR102 _ _ ?_
    refine GoR.op ((op_pickT rfl rfl rfl) _) rfl rfl ?_
    refine GoR.op ((op_assign rfl) _) rfl rfl ?_
    refine GoR.nil ?_
    refine Go1.condF rfl rfl ?_
    refine Go1.skip ?_
    refine Go1.inBlock ?_
    refine Go1.cut [(0, .pointer (some ⟨dV, 0, none⟩)), (3, .int .i64 a0.Enum.Done), (4, .slice p2 a0.Enum.Gens.length a0.Enum.Gens.length), (5, .int .i64 (k1_12 : Int)), (8, .int .i64 (mgt m1_52 r75)), (27, .slice bg bf bh), (28, .int .i64 (a0.Enum.Gens.length : Int)), (29, .int .i64 (k1_12 : Int))] ⟨rfl, rfl, rfl, rfl, rfl, rfl, rfl, rfl, trivial⟩ ?_
    intro σ _
    refine Go1.region ?_
    refine GoR.op ((op_move rfl) _) rfl rfl ?_
    refine GoR.op ((op_move rfl) _) rfl rfl ?_
    refine GoR.op ((op_move rfl) _) rfl rfl ?_
    obtain ⟨t5, H⟩ := H
    obtain ⟨t6, H⟩ := H
    refine GoR.op ((op_index Try.underlying26 ti3 rfl rfl t5 (ltn (cj.neq hO 0 rfl) t6) (cj.psome hO 0 rfl t5 t6)) _) rfl rfl ?_
    have hobt := ost (r := Rp.int .i64) rfl 0 hO rfl cj t5 t6 (v := .int .i64 (mgt m1_52 r75)) (u := (mgt m1_52 r75)) rfl rfl
    obtain ⟨Nv, GL, nD, Cb, DO⟩ := hobt
    dsimp only [sS, sZ] at nD Cb
    refine GoR.op (DO Try.underlying3 rfl ti3 (by exact rfl) (by exact rfl)) rfl rfl ?_
    replace az := az.ch nD.ch
    replace dj := dj.ch nD.ch
    replace cJ := cJ.ch nD.ch
    replace cC := cC.ch nD.ch
    replace aA := aA.ch nD.ch
    replace ck := ck.ch nD.ch
    replace bN := bN.ch nD.ch
    replace bB := bB.ch nD.ch
    replace aQ := aQ.ch nD.ch
    replace hO := nD.own
    replace cr := cr.ch nD.ch
    replace ct := ct.ch nD.ch
    replace b8 := b8.ch nD.ch
    replace hB := hB.trans nD.fr
    refine GoR.nil ?_
    refine Go1.inBlock ?_
    refine Go1.region ?_
    refine GoR.op ((op_add rfl rfl (wrap_i64 (natbd h53 az.bd))) _) rfl rfl ?_
    refine GoR.op ((op_move rfl) _) rfl rfl ?_
    refine GoR.nil ?_
    exact hX1 _ H _ _ ⟨GL, n21, p19, c20, mI, n27, p25, c26, nw, n33, p31, c32, ny, n39, p37, c38, nz, n45, p43, c44, eB, n51, p49, c50, eC, ⟨rfl, rfl, rfl, rfl, rfl, rfl, trivial⟩, hO, Cb, az, dj, cJ, cC, aA, ck, bN, bB, aQ, hB⟩
   replace H := ifn vF H
   refine GoR.op ((fun w => opB (op_eql rfl rfl w) (decide_eq_false vF)) _) rfl rfl ?_
   refine GoR.nil ?_
   refine Go1.condF rfl rfl ?_
   refine Go1.skip ?_
   refine Go1.seq ?_
   refine Go1.region ?_
   refine GoR.op ((op_move rfl) _) rfl rfl ?_
   refine GoR.op ((op_nilCheck rfl) _) rfl rfl ?_
   refine GoR.op ((op_fieldAddr Try.underlying72 rfl ti29 rfl (by decide)) _) rfl rfl ?_
   refine GoR.op ((op_fieldAddr Try.underlying29 rfl ti22 rfl (by decide)) _) rfl rfl ?_
   refine GoR.op ((oblk (i := 6) 1 hO rfl rfl Try.underlying22 rfl rfl) _ (Same.refl _)) rfl rfl ?_
   refine GoR.op ((op_move rfl) _) rfl rfl ?_
   obtain ⟨vd, H⟩ := H
   obtain ⟨yZ, H⟩ := H
   refine GoR.op ((op_index Try.underlying22 ti26 rfl rfl vd (ltn (aA.neq hO 6 rfl) yZ) (aA.psome hO 6 rfl vd yZ)) _) rfl rfl ?_
   have hobt := oldSl 6 hO rfl aA vd yZ
   obtain ⟨Nw, Nx, nJ, GM⟩ := hobt
   refine GoR.op ((GM Try.underlying26 rfl rfl) _ (Same.refl _)) rfl rfl ?_
   refine GoR.op ((op_move rfl) _) rfl rfl ?_
   obtain ⟨vz, H⟩ := H
   obtain ⟨wK, H⟩ := H
   refine GoR.op ((op_index Try.underlying26 ti3 rfl rfl vz wK (nJ.some_ vz wK)) _) rfl rfl ?_
   refine GoR.op ((ldInt nJ vz wK Try.underlying3 rfl rfl) _ (Same.refl _)) rfl rfl ?_
   refine GoR.op ((op_assign rfl) _) rfl rfl ?_
   refine GoR.nil ?_
   refine Go1.ret1V Try.func66 rfl (show _ = .int .i64 (ix (ix a0.Enum.Right (ix d_46 a0.Enum.Done)) (k1_12 : Int)) from rfl) ?_
   refine hR103 _ _ ?_
   refine GoR.op ((op_assign rfl) _) rfl rfl ?_
   refine GoR.nil ?_
   refine Go1.seq ?_
   refine Go1.cut [(0, .pointer (some ⟨dV, 0, none⟩)), (1, .int .i64 (ix d_46 a0.Enum.Done)), (2, .int .i64 (k1_12 : Int)), (7, .int .i64 (ix (ix a0.Enum.Right (ix d_46 a0.Enum.Done)) (k1_12 : Int)))] ⟨rfl, rfl, rfl, rfl, trivial⟩ ?_
   intro σ _
   refine Go1.region ?_
   refine GoR.op ((op_move rfl) _) rfl rfl ?_
   refine GoR.op ((op_nilCheck rfl) _) rfl rfl ?_
   refine GoR.op ((op_fieldAddr Try.underlying72 rfl ti29 rfl (by decide)) _) rfl rfl ?_
   refine GoR.op ((op_fieldAddr Try.underlying29 rfl ti26 rfl (by decide)) _) rfl rfl ?_
   refine GoR.op ((oblk (i := 4) 1 hO rfl rfl Try.underlying26 rfl rfl) _ (Same.refl _)) rfl rfl ?_
   refine GoR.op ((op_move rfl) _) rfl rfl ?_
   obtain ⟨wL, H⟩ := H
   obtain ⟨wM, H⟩ := H
   refine GoR.op ((op_index Try.underlying26 ti3 rfl rfl wL (ltn (cJ.neq hO 4 rfl) wM) (cJ.psome hO 4 rfl wL wM)) _) rfl rfl ?_
   refine GoR.op ((oldInt 4 hO rfl cJ wL wM Try.underlying3 rfl rfl) _ (Same.refl _)) rfl rfl ?_
   refine GoR.op ((op_move rfl) _) rfl rfl ?_
   by_cases vA : (ix d_22 (ix (ix a0.Enum.Right (ix d_46 a0.Enum.Done)) (k1_12 : Int))) = (ix d_46 a0.Enum.Done)
   ·replace H := ifp vA H
    refine GoR.op ((fun w => opB (op_eql rfl rfl w) (decide_eq_true vA)) _) rfl rfl ?_
    refine GoR.op ((op_move rfl) _) rfl rfl ?_
    refine GoR.op ((op_move rfl) _) rfl rfl ?_
    refine GoR.op ((op_nilCheck rfl) _) rfl rfl ?_
    refine GoR.op ((op_fieldAddr Try.underlying72 rfl ti29 rfl (by decide)) _) rfl rfl ?_
    refine GoR.op ((op_fieldAddr Try.underlying29 rfl ti26 rfl (by decide)) _) rfl rfl ?_
    refine GoR.op ((oblk (i := 5) 1 hO rfl rfl Try.underlying26 rfl rfl) _ (Same.refl _)) rfl rfl ?_
    refine GoR.op ((op_move rfl) _) rfl rfl ?_
    obtain ⟨vG, H⟩ := H
    obtain ⟨Bx, H⟩ := H
    refine GoR.op ((op_index Try.underlying26 ti3 rfl rfl vG (ltn (cC.neq hO 5 rfl) Bx) (cC.psome hO 5 rfl vG Bx)) _) rfl rfl ?_
    refine GoR.op ((oldInt 5 hO rfl cC vG Bx Try.underlying3 rfl rfl) _ (Same.refl _)) rfl rfl ?_
    refine GoR.op ((op_move rfl) _) rfl rfl ?_
    by_cases Af : (ix d_28 (ix (ix a0.Enum.Right (ix d_46 a0.Enum.Done)) (k1_12 : Int))) = (k1_12 : Int)
    ·replace H := ifp Af H
     refine GoR.op ((fun w => opB (op_eql rfl rfl w) (decide_eq_true Af)) _) rfl rfl ?_
     refine GoR.op ((op_pickT rfl rfl rfl) _) rfl rfl ?_
     refine GoR.op ((op_assign rfl) _) rfl rfl ?_
     refine GoR.nil ?_
     refine Go1.ret1V Try.func67 rfl (show _ = .bool true from rfl) ?_
     refine hR102 _ _ ?_
     refine GoR.op ((op_pickT rfl rfl rfl) _) rfl rfl ?_
     refine GoR.op ((op_assign rfl) _) rfl rfl ?_
     refine GoR.nil ?_
     refine Go1.condT rfl rfl ?_
     refine Go1.cut [(0, .pointer (some ⟨dV, 0, none⟩)), (3, .int .i64 a0.Enum.Done), (4, .slice p2 a0.Enum.Gens.length a0.Enum.Gens.length), (5, .int .i64 (k1_12 : Int)), (8, .int .i64 (mgt m1_52 r75)), (10, .string (gstr ((ix d_40 a0.Enum.Done) ++ (chr (IntKind.i32.wrap ((97 : Int) + (k1_12 : Int))))))), (27, .slice bg bf bh), (28, .int .i64 (a0.Enum.Gens.length : Int)), (29, .int .i64 (k1_12 : Int))] ⟨rfl, rfl, rfl, rfl, rfl, rfl, rfl, rfl, rfl, trivial⟩ ?_
     intro σ _
     refine Go1.drawS 5 [(0, .pure), (1, .pure), (2, .pure), (3, .pure), (4, .pure), (5, .stable), (6, .pure), (7, .pure), (8, .pure), (9, .pure), (10, .stable), (11, .pure), (12, .pure), (13, .stable), (14, .pure), (15, .loud), (16, .last), (17, .pure), (18, .pure), (19, .pure), (20, .last)] mixed (by kernel_rfl) ?_
     intro Ny GN
     have eo := Stp.same hO GN
     replace cj := cj.ch eo.ch
     replace az := az.ch eo.ch
     replace dj := dj.ch eo.ch
     replace cJ := cJ.ch eo.ch
     replace cC := cC.ch eo.ch
     replace aA := aA.ch eo.ch
     replace ck := ck.ch eo.ch
     replace bN := bN.ch eo.ch
     replace bB := bB.ch eo.ch
     replace aQ := aQ.ch eo.ch
     replace hO := eo.own
     replace cr := cr.ch eo.ch
     replace ct := ct.ch eo.ch
     replace b8 := b8.ch eo.ch
     replace nJ := nJ.ch eo.ch
     replace hB := hB.trans eo.fr
     refine GoQ.pure rfl (op_move rfl) rfl rfl ?_
     refine GoQ.pure rfl (op_move rfl) rfl rfl ?_
     refine GoQ.pure rfl (op_nilCheck rfl) rfl rfl ?_
     refine GoQ.pure rfl (op_fieldAddr Try.underlying72 rfl ti29 rfl (by decide)) rfl rfl ?_
     refine GoQ.pure rfl (op_fieldAddr Try.underlying29 rfl ti27 rfl (by decide)) rfl rfl ?_
     refine GoQ.stable rfl (oblk (i := 7) 1 hO rfl rfl Try.underlying27 rfl rfl) rfl rfl ?_
     refine GoQ.pure rfl (op_move rfl) rfl rfl ?_
     refine GoQ.pure rfl (op_move rfl) rfl rfl ?_
     refine GoQ.pure rfl (op_nilCheck rfl) rfl rfl ?_
     refine GoQ.pure rfl (op_fieldAddr Try.underlying72 rfl ti70 rfl (by decide)) rfl rfl ?_
     refine GoQ.stable rfl (oblk (i := 10) 1 hO rfl rfl Try.underlying70 rfl rfl) rfl rfl ?_
     refine GoQ.pure rfl (op_move rfl) rfl rfl ?_
     obtain ⟨u9, H⟩ := H
     obtain ⟨va, H⟩ := H
     refine GoQ.pure rfl (op_index Try.underlying70 ti9 rfl rfl u9 (ltn (bN.neq hO 8 rfl) va) (bN.psome hO 8 rfl u9 va)) rfl rfl ?_
     refine GoQ.stable rfl (oldStr 8 hO rfl bN u9 va Try.underlying9 rfl rfl) rfl rfl ?_
     have hle181 := Els.str_le bN u9 va
     refine GoQ.pure rfl (op_build Try.underlying39 ti39 (pl := [(0, 1), (1, 1)]) (vs := [(0, .string (gstr ((ix d_40 a0.Enum.Done) ++ (chr (IntKind.i32.wrap ((97 : Int) + (k1_12 : Int))))))), (1, .string (gstr (ix d_40 (mgt m1_52 r75))))]) (cs := #[.string (gstr ((ix d_40 a0.Enum.Done) ++ (chr (IntKind.i32.wrap ((97 : Int) + (k1_12 : Int)))))), .string (gstr (ix d_40 (mgt m1_52 r75)))]) (by kernel_rfl) rfl (by kernel_rfl)) rfl rfl ?_
     have hobt := obuildN (r := rpRule) (n := 1) (parts := [(0, .agg #[.string (gstr ((ix d_40 a0.Enum.Done) ++ (chr (IntKind.i32.wrap ((97 : Int) + (k1_12 : Int)))))), .string (gstr (ix d_40 (mgt m1_52 r75)))])]) (vs := [.string (gstr ((ix d_40 a0.Enum.Done) ++ (chr (IntKind.i32.wrap ((97 : Int) + (k1_12 : Int)))))), .string (gstr (ix d_40 (mgt m1_52 r75)))]) (xs := [(⟨(ix d_40 a0.Enum.Done) ++ (chr (IntKind.i32.wrap ((97 : Int) + (k1_12 : Int)))), ix d_40 (mgt m1_52 r75)⟩ : Rule)]) Try.underlying27 ti39 hO (by decide) (by decide) (by kernel_rfl) (Els.flat1 (⟨(ix d_40 a0.Enum.Done) ++ (chr (IntKind.i32.wrap ((97 : Int) + (k1_12 : Int)))), ix d_40 (mgt m1_52 r75)⟩ : Rule) ⟨(lenApp h88), hle181⟩) rfl
     obtain ⟨Nz, NA, gV, GO, Ag, DP⟩ := hobt
     refine GoQ.loud rfl (DP rfl) Ag rfl rfl ?_
     replace cj := cj.ch gV.ch
     replace az := az.ch gV.ch
     replace dj := dj.ch gV.ch
     replace cJ := cJ.ch gV.ch
     replace cC := cC.ch gV.ch
     replace aA := aA.ch gV.ch
     replace ck := ck.ch gV.ch
     replace bN := bN.ch gV.ch
     replace bB := bB.ch gV.ch
     replace aQ := aQ.ch gV.ch
     replace hO := gV.own
     replace cr := cr.ch gV.ch
     replace ct := ct.ch gV.ch
     replace b8 := b8.ch gV.ch
     replace nJ := nJ.ch gV.ch
     replace hB := hB.trans gV.fr
     have hobt := freeze 0 hO rfl GO
     obtain ⟨hO1, pE, um, GP⟩ := hobt
     dsimp only [eS, eZ] at hO1 pE um
     replace cr := cr.ch pE
     replace ct := ct.ch pE
     replace b8 := b8.ch pE
     replace nJ := nJ.ch pE
     replace cj := cj.ch pE
     replace az := az.ch pE
     replace dj := dj.ch pE
     replace cJ := cJ.ch pE
     replace cC := cC.ch pE
     replace aA := aA.ch pE
     replace ck := ck.ch pE
     replace bN := bN.ch pE
     replace bB := bB.ch pE
     replace aQ := aQ.ch pE
     replace hB := hB.trans (Owns.dropFr _ _ 0)
     dsimp only [eS, eZ] at hB
     replace hO := hO1; clear hO1
     obtain ⟨JM, H⟩ := H
     have hobt := oapp Try.underlying27 ti39 rfl 7 hO rfl ck um GP JM (by decide)
     obtain ⟨NB, By, Bz, GQ, lT, wh, DQ⟩ := hobt
     dsimp only [sS, sZ] at lT wh
     refine GoQ.last rfl (DQ (by exact rfl) (by exact rfl)) rfl rfl ?_
     replace cj := cj.ch lT.ch
     replace az := az.ch lT.ch
     replace dj := dj.ch lT.ch
     replace cJ := cJ.ch lT.ch
     replace cC := cC.ch lT.ch
     replace aA := aA.ch lT.ch
     replace bN := bN.ch lT.ch
     replace bB := bB.ch lT.ch
     replace aQ := aQ.ch lT.ch
     replace hO := lT.own
     replace cr := cr.ch lT.ch
     replace ct := ct.ch lT.ch
     replace b8 := b8.ch lT.ch
     replace nJ := nJ.ch lT.ch
     replace um := um.ch lT.ch
     replace hB := hB.trans lT.fr
     refine GoQ.pure rfl (op_nilCheck rfl) rfl rfl ?_
     refine GoQ.pure rfl (op_fieldAddr Try.underlying72 rfl ti29 rfl (by decide)) rfl rfl ?_
     refine GoQ.pure rfl (op_fieldAddr Try.underlying29 rfl ti27 rfl (by decide)) rfl rfl ?_
     have hobt := oblkSt2 (v := .slice By (n39 + 1) Bz) (i := 7) (cs' := #[.int .i64 a0.Enum.Points, .bool a0.Enum.Monoid, .slice bg bf bh, .slice p19 n21 c20, .slice p25 n27 c26, .slice p31 n33 c32, .slice bx bk bz, .slice By (n39 + 1) Bz, .int .i64 a0.Enum.Done, .map (some bA), .slice p43 n45 c44, .slice p49 n51 c50, .slice b6 b5 b7]) 1 hO rfl rfl rfl rfl
     obtain ⟨NC, lk, DR⟩ := hobt
     dsimp only [sS, sZ] at lk
     refine GoQ.last rfl (DR Try.underlying27 rfl ti27 (by exact rfl) (by exact rfl)) rfl rfl ?_
     replace cj := cj.ch lk.ch
     replace az := az.ch lk.ch
     replace dj := dj.ch lk.ch
     replace cJ := cJ.ch lk.ch
     replace cC := cC.ch lk.ch
     replace aA := aA.ch lk.ch
     replace wh := wh.ch lk.ch
     replace bN := bN.ch lk.ch
     replace bB := bB.ch lk.ch
     replace aQ := aQ.ch lk.ch
     replace hO := lk.own
     replace cr := cr.ch lk.ch
     replace ct := ct.ch lk.ch
     replace b8 := b8.ch lk.ch
     replace nJ := nJ.ch lk.ch
     replace um := um.ch lk.ch
     replace hB := hB.trans lk.fr
     refine GoQ.nil ?_
     refine Go1.inBlock ?_
     refine Go1.cut [(0, .pointer (some ⟨dV, 0, none⟩)), (3, .int .i64 a0.Enum.Done), (4, .slice p2 a0.Enum.Gens.length a0.Enum.Gens.length), (5, .int .i64 (k1_12 : Int)), (8, .int .i64 (mgt m1_52 r75)), (27, .slice bg bf bh), (28, .int .i64 (a0.Enum.Gens.length : Int)), (29, .int .i64 (k1_12 : Int))] ⟨rfl, rfl, rfl, rfl, rfl, rfl, rfl, rfl, trivial⟩ ?_
     intro σ _
     refine Go1.region ?_
     refine GoR.op ((op_move rfl) _) rfl rfl ?_
     refine GoR.op ((op_move rfl) _) rfl rfl ?_
     refine GoR.op ((op_move rfl) _) rfl rfl ?_
     obtain ⟨BA, H⟩ := H
     obtain ⟨BB, H⟩ := H
     refine GoR.op ((op_index Try.underlying26 ti3 rfl rfl BA (ltn (cj.neq hO 0 rfl) BB) (cj.psome hO 0 rfl BA BB)) _) rfl rfl ?_
     have hobt := ost (r := Rp.int .i64) rfl 0 hO rfl cj BA BB (v := .int .i64 (mgt m1_52 r75)) (u := (mgt m1_52 r75)) rfl rfl
     obtain ⟨ND, gt, lU, Cc, DS⟩ := hobt
     dsimp only [sS, sZ] at lU Cc
     refine GoR.op (DS Try.underlying3 rfl ti3 (by exact rfl) (by exact rfl)) rfl rfl ?_
     replace az := az.ch lU.ch
     replace dj := dj.ch lU.ch
     replace cJ := cJ.ch lU.ch
     replace cC := cC.ch lU.ch
     replace aA := aA.ch lU.ch
     replace wh := wh.ch lU.ch
     replace bN := bN.ch lU.ch
     replace bB := bB.ch lU.ch
     replace aQ := aQ.ch lU.ch
     replace hO := lU.own
     replace cr := cr.ch lU.ch
     replace ct := ct.ch lU.ch
     replace b8 := b8.ch lU.ch
     replace nJ := nJ.ch lU.ch
     replace um := um.ch lU.ch
     replace hB := hB.trans lU.fr
     refine GoR.nil ?_
     refine Go1.inBlock ?_
     refine Go1.region ?_
     refine GoR.op ((op_add rfl rfl (wrap_i64 (natbd h53 az.bd))) _) rfl rfl ?_
     refine GoR.op ((op_move rfl) _) rfl rfl ?_
     refine GoR.nil ?_
     exact hX1 _ H _ _ ⟨gt, n21, p19, c20, mI, n27, p25, c26, nw, n33, p31, c32, ny, n39 + 1, By, Bz, GQ, n45, p43, c44, eB, n51, p49, c50, eC, ⟨rfl, rfl, rfl, rfl, rfl, rfl, trivial⟩, hO, Cc, az, dj, cJ, cC, aA, wh, bN, bB, aQ, hB⟩
    replace H := ifn Af H
    refine GoR.op ((fun w => opB (op_eql rfl rfl w) (decide_eq_false Af)) _) rfl rfl ?_
    refine GoR.op ((op_pickT rfl rfl rfl) _) rfl rfl ?_
    refine GoR.op ((op_assign rfl) _) rfl rfl ?_
    refine GoR.nil ?_
    refine Go1.ret1V Try.func67 rfl (show _ = .bool false from rfl) ?_
    refine hR102 _ _ ?_
    refine GoR.op ((op_pickT rfl rfl rfl) _) rfl rfl ?_
    refine GoR.op ((op_assign rfl) _) rfl rfl ?_
    refine GoR.nil ?_
    refine Go1.condF rfl rfl ?_
    refine Go1.skip ?_
    refine Go1.inBlock ?_
    refine Go1.region ?_
    refine GoR.op ((op_move rfl) _) rfl rfl ?_
    refine GoR.op ((op_move rfl) _) rfl rfl ?_
    refine GoR.op ((op_move rfl) _) rfl rfl ?_
    obtain ⟨vD, H⟩ := H
    obtain ⟨vb, H⟩ := H
    refine GoR.op ((op_index Try.underlying26 ti3 rfl rfl vD (ltn (cj.neq hO 0 rfl) vb) (cj.psome hO 0 rfl vD vb)) _) rfl rfl ?_
    have hobt := ost (r := Rp.int .i64) rfl 0 hO rfl cj vD vb (v := .int .i64 (mgt m1_52 r75)) (u := (mgt m1_52 r75)) rfl rfl
    obtain ⟨I7, GR, mX, Cd, DT⟩ := hobt
    dsimp only [sS, sZ] at mX Cd
    refine GoR.op (DT Try.underlying3 rfl ti3 (by exact rfl) (by exact rfl)) rfl rfl ?_
    replace az := az.ch mX.ch
    replace dj := dj.ch mX.ch
    replace cJ := cJ.ch mX.ch
    replace cC := cC.ch mX.ch
    replace aA := aA.ch mX.ch
    replace ck := ck.ch mX.ch
    replace bN := bN.ch mX.ch
    replace bB := bB.ch mX.ch
    replace aQ := aQ.ch mX.ch
    replace hO := mX.own
    replace cr := cr.ch mX.ch
    replace ct := ct.ch mX.ch
    replace b8 := b8.ch mX.ch
    replace nJ := nJ.ch mX.ch
    replace hB := hB.trans mX.fr
    refine GoR.nil ?_
    refine Go1.inBlock ?_
    refine Go1.region ?_
    refine GoR.op ((op_add rfl rfl (wrap_i64 (natbd h53 az.bd))) _) rfl rfl ?_
    refine GoR.op ((op_move rfl) _) rfl rfl ?_
    refine GoR.nil ?_
    exact hX1 _ H _ _ ⟨GR, n21, p19, c20, mI, n27, p25, c26, nw, n33, p31, c32, ny, n39, p37, c38, nz, n45, p43, c44, eB, n51, p49, c50, eC, ⟨rfl, rfl, rfl, rfl, rfl, rfl, trivial⟩, hO, Cd, az, dj, cJ, cC, aA, ck, bN, bB, aQ, hB⟩
   replace H := ifn vA H
   refine GoR.op ((fun w => opB (op_eql rfl rfl w) (decide_eq_false vA)) _) rfl rfl ?_
   refine GoR.op ((op_move rfl) _) rfl rfl ?_
   refine GoR.pass rfl rfl ?_
   refine GoR.pass rfl rfl ?_
   refine GoR.pass rfl rfl ?_
   refine GoR.pass rfl rfl ?_
   refine GoR.pass rfl rfl ?_
   refine GoR.pass rfl rfl ?_
   refine GoR.pass rfl rfl ?_
   refine GoR.pass rfl rfl ?_
   refine GoR.pass rfl rfl ?_
   refine GoR.pass rfl rfl ?_
   refine GoR.op ((op_pickF rfl rfl rfl) _) rfl rfl ?_
   refine GoR.op ((op_assign rfl) _) rfl rfl ?_
   refine GoR.nil ?_
   refine Go1.ret1V Try.func67 rfl (show _ = .bool false from rfl) ?_
   refine hR102 _ _ ?_
   refine GoR.op ((op_pickT rfl rfl rfl) _) rfl rfl ?_
   refine GoR.op ((op_assign rfl) _) rfl rfl ?_
   refine GoR.nil ?_
   refine Go1.condF rfl rfl ?_
   refine Go1.skip ?_
   refine Go1.inBlock ?_
   refine Go1.cut [(0, .pointer (some ⟨dV, 0, none⟩)), (3, .int .i64 a0.Enum.Done), (4, .slice p2 a0.Enum.Gens.length a0.Enum.Gens.length), (5, .int .i64 (k1_12 : Int)), (8, .int .i64 (mgt m1_52 r75)), (27, .slice bg bf bh), (28, .int .i64 (a0.Enum.Gens.length : Int)), (29, .int .i64 (k1_12 : Int))] ⟨rfl, rfl, rfl, rfl, rfl, rfl, rfl, rfl, trivial⟩ ?_
   intro σ _
   refine Go1.region ?_
   refine GoR.op ((op_move rfl) _) rfl rfl ?_
   refine GoR.op ((op_move rfl) _) rfl rfl ?_
   refine GoR.op ((op_move rfl) _) rfl rfl ?_
   obtain ⟨BC, H⟩ := H
   obtain ⟨BD, H⟩ := H
   refine GoR.op ((op_index Try.underlying26 ti3 rfl rfl BC (ltn (cj.neq hO 0 rfl) BD) (cj.psome hO 0 rfl BC BD)) _) rfl rfl ?_
   have hobt := ost (r := Rp.int .i64) rfl 0 hO rfl cj BC BD (v := .int .i64 (mgt m1_52 r75)) (u := (mgt m1_52 r75)) rfl rfl
   obtain ⟨NE, GT, fN, Ce, DU⟩ := hobt
   dsimp only [sS, sZ] at fN Ce
   refine GoR.op (DU Try.underlying3 rfl ti3 (by exact rfl) (by exact rfl)) rfl rfl ?_
   replace az := az.ch fN.ch
   replace dj := dj.ch fN.ch
   replace cJ := cJ.ch fN.ch
   replace cC := cC.ch fN.ch
   replace aA := aA.ch fN.ch
   replace ck := ck.ch fN.ch
   replace bN := bN.ch fN.ch
   replace bB := bB.ch fN.ch
   replace aQ := aQ.ch fN.ch
   replace hO := fN.own
   replace cr := cr.ch fN.ch
   replace ct := ct.ch fN.ch
   replace b8 := b8.ch fN.ch
   replace nJ := nJ.ch fN.ch
   replace hB := hB.trans fN.fr
   refine GoR.nil ?_
   refine Go1.inBlock ?_
   refine Go1.region ?_
   refine GoR.op ((op_add rfl rfl (wrap_i64 (natbd h53 az.bd))) _) rfl rfl ?_
   refine GoR.op ((op_move rfl) _) rfl rfl ?_
   refine GoR.nil ?_
   exact hX1 _ H _ _ ⟨GT, n21, p19, c20, mI, n27, p25, c26, nw, n33, p31, c32, ny, n39, p37, c38, nz, n45, p43, c44, eB, n51, p49, c50, eC, ⟨rfl, rfl, rfl, rfl, rfl, rfl, trivial⟩, hO, Ce, az, dj, cJ, cC, aA, ck, bN, bB, aQ, hB⟩
  replace H := ifn h81 H
  refine GoQ.stable rfl (olookF (a := r75) (MK.str Try.underlying9) 11 hO rfl Try.underlying69 ti3 rfl rfl h81) rfl rfl ?_
  refine GoQ.pure rfl (op_move rfl) rfl rfl ?_
  refine GoQ.pure rfl (op_extract rfl rfl) rfl rfl ?_
  refine GoQ.pure rfl (op_extract rfl rfl) rfl rfl ?_
  refine GoQ.pure rfl (op_assign rfl) rfl rfl ?_
  refine GoQ.pure rfl (op_assign rfl) rfl rfl ?_
  refine GoQ.nil ?_
  refine Go1.seq ?_
  refine Go1.region ?_
  refine GoR.op ((op_move rfl) _) rfl rfl ?_
  refine GoR.op ((op_nilCheck rfl) _) rfl rfl ?_
  refine GoR.op ((op_fieldAddr Try.underlying72 rfl ti70 rfl (by decide)) _) rfl rfl ?_
  refine GoR.op ((oblk (i := 10) 1 hO rfl rfl Try.underlying70 rfl rfl) _ (Same.refl _)) rfl rfl ?_
  refine GoR.op ((op_move rfl) _) rfl rfl ?_
  obtain ⟨Ah, H⟩ := H
  obtain ⟨Ai, H⟩ := H
  refine GoR.op ((op_index Try.underlying70 ti9 rfl rfl Ah (ltn (bN.neq hO 8 rfl) Ai) (bN.psome hO 8 rfl Ah Ai)) _) rfl rfl ?_
  refine GoR.op ((oldStr 8 hO rfl bN Ah Ai Try.underlying9 rfl rfl) _ (Same.refl _)) rfl rfl ?_
  have hle227 := Els.str_le bN Ah Ai
  refine GoR.op ((op_move rfl) _) rfl rfl ?_
  obtain ⟨JN, H⟩ := H
  refine GoR.op ((op_add rfl rfl (wrap_i64 JN)) _) rfl rfl ?_
  refine GoR.op ((op_conv Try.underlying3 Try.underlying21 rfl rfl) _) rfl rfl ?_
  obtain ⟨JO, H⟩ := H
  obtain ⟨JP, H⟩ := H
  refine GoR.op ((op_convRS Try.underlying21 Try.underlying9 rfl JO JP) _) rfl rfl ?_
  obtain ⟨BE, H⟩ := H
  refine GoR.op ((op_addS rfl rfl BE) _) rfl rfl ?_
  refine GoR.op ((op_assign rfl) _) rfl rfl ?_
  refine GoR.nil ?_
  refine Go1.seq ?_
  refine Go1.block ?_
  refine Go1.seq ?_
  refine Go1.cut [(0, .pointer (some ⟨dV, 0, none⟩)), (3, .int .i64 a0.Enum.Done), (4, .slice p2 a0.Enum.Gens.length a0.Enum.Gens.length), (5, .int .i64 (k1_12 : Int)), (7, .slice rI r66.length rJ), (8, .int .i64 (0 : Int)), (9, .bool false), (10, .string (gstr ((ix d_40 a0.Enum.Done) ++ (chr (IntKind.i32.wrap ((97 : Int) + (k1_12 : Int))))))), (27, .slice bg bf bh), (28, .int .i64 (a0.Enum.Gens.length : Int)), (29, .int .i64 (k1_12 : Int))] ⟨rfl, rfl, rfl, rfl, rfl, rfl, rfl, rfl, rfl, rfl, rfl, trivial⟩ ?_
  intro σ _
  refine Go1.region ?_
  refine GoR.op ((op_move rfl) _) rfl rfl ?_
  refine GoR.op ((op_not rfl) _) rfl rfl ?_
  refine GoR.op ((op_move rfl) _) rfl rfl ?_
  refine GoR.op ((op_move rfl) _) rfl rfl ?_
  refine GoR.op ((op_nilCheck rfl) _) rfl rfl ?_
  refine GoR.op ((op_fieldAddr Try.underlying72 rfl ti29 rfl (by decide)) _) rfl rfl ?_
  refine GoR.op ((op_fieldAddr Try.underlying29 rfl ti22 rfl (by decide)) _) rfl rfl ?_
  refine GoR.op ((oblk (i := 3) 1 hO rfl rfl Try.underlying22 rfl rfl) _ (Same.refl _)) rfl rfl ?_
  refine GoR.op ((op_lenN Try.underlying22 rfl (dj.neq hO 3 rfl)) _) rfl rfl ?_
  by_cases Aj : (d_16.length : Int) = (2000 : Int)
  ·replace H := ifp Aj H
   refine GoR.op ((fun w => opB (op_eql rfl rfl w) (decide_eq_true Aj)) _) rfl rfl ?_
   refine GoR.op ((op_pickT rfl rfl rfl) _) rfl rfl ?_
   refine GoR.op ((op_assign rfl) _) rfl rfl ?_
   refine GoR.nil ?_
   refine Go1.condT rfl rfl ?_
   refine Go1.seq ?_
   refine Go1.region ?_
   refine GoR.op ((op_assign rfl) _) rfl rfl ?_
   refine GoR.nil ?_
   replace cr := cr.ch (Owns.dropCh _ _ 0)
   replace ct := ct.ch (Owns.dropCh _ _ 0)
   replace b8 := b8.ch (Owns.dropCh _ _ 0)
   replace az := az.ch (Owns.dropCh _ _ 0)
   replace dj := dj.ch (Owns.dropCh _ _ 0)
   replace cJ := cJ.ch (Owns.dropCh _ _ 0)
   replace cC := cC.ch (Owns.dropCh _ _ 0)
   replace aA := aA.ch (Owns.dropCh _ _ 0)
   replace ck := ck.ch (Owns.dropCh _ _ 0)
   replace bN := bN.ch (Owns.dropCh _ _ 0)
   replace bB := bB.ch (Owns.dropCh _ _ 0)
   replace aQ := aQ.ch (Owns.dropCh _ _ 0)
   replace hB := hB.trans (Owns.dropFr _ _ 0)
   replace hO := hO.drop 0
   dsimp only [eS, eZ] at hB hO cr ct b8 az dj cJ cC aA ck bN bB aQ
   refine Go1.ret1 Try.func51 rfl ?_
   exact ⟨((3 : Int)), (⟨(⟨a0.Enum.Points, a0.Enum.Monoid, a0.Enum.Gens, d_16, d_22, d_28, a0.Enum.Right, d_34, a0.Enum.Done⟩ : Enum), m1_52, d_40, d_46, a0.single⟩ : run), bf, bg, bh, cM, n21, p19, c20, mI, n27, p25, c26, nw, n33, p31, c32, ny, bk, bx, bz, cH, n39, p37, c38, nz, n45, p43, c44, eB, n51, p49, c50, eC, b5, b6, b7, dr, rfl, hO, az, dj, cJ, cC, aA, ck, bN, bB, aQ, hB, H⟩
  replace H := ifn Aj H
  refine GoR.op ((fun w => opB (op_eql rfl rfl w) (decide_eq_false Aj)) _) rfl rfl ?_
  refine GoR.op ((op_pickT rfl rfl rfl) _) rfl rfl ?_
  refine GoR.op ((op_assign rfl) _) rfl rfl ?_
  refine GoR.nil ?_
  refine Go1.condF rfl rfl ?_
  refine Go1.seq ?_
  refine Go1.region ?_
  refine GoR.op ((op_move rfl) _) rfl rfl ?_
  refine GoR.op ((op_not rfl) _) rfl rfl ?_
  refine GoR.op ((op_assign rfl) _) rfl rfl ?_
  refine GoR.nil ?_
  refine Go1.condT rfl rfl ?_
  refine Go1.region ?_
  refine GoR.op ((op_move rfl) _) rfl rfl ?_
  refine GoR.op ((op_move rfl) _) rfl rfl ?_
  refine GoR.op ((op_move rfl) _) rfl rfl ?_
  refine GoR.op ((op_move rfl) _) rfl rfl ?_
  refine GoR.op ((op_move rfl) _) rfl rfl ?_
  refine GoR.op ((op_move rfl) _) rfl rfl ?_
  refine GoR.op ((op_move rfl) _) rfl rfl ?_
  refine GoR.op ((op_nilCheck rfl) _) rfl rfl ?_
  refine GoR.op ((op_fieldAddr Try.underlying72 rfl ti26 rfl (by decide)) _) rfl rfl ?_
  refine GoR.op ((oblk (i := 11) 1 hO rfl rfl Try.underlying26 rfl rfl) _ (Same.refl _)) rfl rfl ?_
  refine GoR.op ((op_move rfl) _) rfl rfl ?_
  obtain ⟨BG, H⟩ := H
  obtain ⟨BH, H⟩ := H
  refine GoR.op ((op_index Try.underlying26 ti3 rfl rfl BG (ltn (bB.neq hO 9 rfl) BH) (bB.psome hO 9 rfl BG BH)) _) rfl rfl ?_
  refine GoR.op ((oldInt 9 hO rfl bB BG BH Try.underlying3 rfl rfl) _ (Same.refl _)) rfl rfl ?_
  refine GoR.op ((op_move rfl) _) rfl rfl ?_
  refine GoR.inl (vs := [.pointer (some ⟨dV, 0, none⟩), .int .i64 (ix d_46 a0.Enum.Done), .int .i64 (k1_12 : Int)]) (caps := []) rfl rfl body66 Try.func66 rfl Try.ntmps66 rfl rfl rfl ?_
  intro RhR235 hR235
  refine Go1.seq ?_
  refine Go1.cut [(0, .pointer (some ⟨dV, 0, none⟩)), (1, .int .i64 (ix d_46 a0.Enum.Done)), (2, .int .i64 (k1_12 : Int))] ⟨rfl, rfl, rfl, trivial⟩ ?_
  intro σ _
  refine Go1.region ?_
  refine GoR.op ((op_assign rfl) _) rfl rfl ?_
  refine GoR.nil ?_
  refine Go1.seq ?_
  refine Go1.seq ?_
  refine Go1.region ?_
  refine GoR.op ((op_move rfl) _) rfl rfl ?_
  by_cases Ak : (ix d_46 a0.Enum.Done) = (-1 : Int)
  ·replace H := ifp Ak H
   refine GoR.op ((fun w => opB (op_eql rfl rfl w) (decide_eq_true Ak)) _) rfl rfl ?_
   refine GoR.nil ?_
   refine Go1.condT rfl rfl ?_
   refine Go1.seq ?_
   refine Go1.region ?_
   refine GoR.op ((op_move rfl) _) rfl rfl ?_
   refine GoR.op ((op_nilCheck rfl) _) rfl rfl ?_
   refine GoR.op ((op_fieldAddr Try.underlying72 rfl ti26 rfl (by decide)) _) rfl rfl ?_
   refine GoR.op ((oblk (i := 12) 1 hO rfl rfl Try.underlying26 rfl rfl) _ (Same.refl _)) rfl rfl ?_
   refine GoR.op ((op_move rfl) _) rfl rfl ?_
   obtain ⟨BI, H⟩ := H
   obtain ⟨BJ, H⟩ := H
   refine GoR.op ((op_index Try.underlying26 ti3 rfl rfl BI (ltn (aQ.neq hO 10 rfl) BJ) (aQ.psome hO 10 rfl BI BJ)) _) rfl rfl ?_
   refine GoR.op ((oldInt 10 hO rfl aQ BI BJ Try.underlying3 rfl rfl) _ (Same.refl _)) rfl rfl ?_
   refine GoR.op ((op_assign rfl) _) rfl rfl ?_
   refine GoR.nil ?_
   refine Go1.ret1V Try.func66 rfl (show _ = .int .i64 (ix a0.single (k1_12 : Int)) from rfl) ?_
   refine hR235 _ _ ?_
   refine GoR.inl (vs := [.pointer (some ⟨dV, 0, none⟩), .slice rI r66.length rJ, .int .i64 a0.Enum.Done, .int .i64 (k1_12 : Int), .string (gstr ((ix d_40 a0.Enum.Done) ++ (chr (IntKind.i32.wrap ((97 : Int) + (k1_12 : Int)))))), .int .i64 (ix a0.single (k1_12 : Int))]) (caps := []) rfl rfl body65 Try.func65 rfl Try.ntmps65 rfl rfl rfl ?_
   intro RhR239 hR239
   refine Go1.seq ?_
   refine Go1.region ?_
   refine GoR.op ((op_assign rfl) _) rfl rfl ?_
   refine GoR.nil ?_
   refine Go1.seq ?_
   refine Go1.region ?_
   refine GoR.op ((op_move rfl) _) rfl rfl ?_
   refine GoR.op ((op_nilCheck rfl) _) rfl rfl ?_
   refine GoR.op ((op_fieldAddr Try.underlying72 rfl ti29 rfl (by decide)) _) rfl rfl ?_
   refine GoR.op ((op_fieldAddr Try.underlying29 rfl ti22 rfl (by decide)) _) rfl rfl ?_
   refine GoR.op ((oblk (i := 3) 1 hO rfl rfl Try.underlying22 rfl rfl) _ (Same.refl _)) rfl rfl ?_
   refine GoR.op ((op_lenN Try.underlying22 rfl (dj.neq hO 3 rfl)) _) rfl rfl ?_
   refine GoR.op ((op_assign rfl) _) rfl rfl ?_
   refine GoR.nil ?_
   refine Go1.seq ?_
   refine Go1.cut [(0, .pointer (some ⟨dV, 0, none⟩)), (1, .slice rI r66.length rJ), (2, .int .i64 a0.Enum.Done), (3, .int .i64 (k1_12 : Int)), (4, .string (gstr ((ix d_40 a0.Enum.Done) ++ (chr (IntKind.i32.wrap ((97 : Int) + (k1_12 : Int))))))), (5, .int .i64 (ix a0.single (k1_12 : Int))), (13, .int .i64 (d_16.length : Int))] ⟨rfl, rfl, rfl, rfl, rfl, rfl, rfl, trivial⟩ ?_
   intro σ _
   refine Go1.drawS 1 [(0, .pure), (1, .pure), (2, .pure), (3, .stable), (4, .pure), (6, .pure), (5, .loud), (7, .last)] mixed (by kernel_rfl) ?_
   intro I8 zX
   have nE := Stp.same hO zX
   replace cj := cj.ch nE.ch
   replace az := az.ch nE.ch
   replace dj := dj.ch nE.ch
   replace cJ := cJ.ch nE.ch
   replace cC := cC.ch nE.ch
   replace aA := aA.ch nE.ch
   replace ck := ck.ch nE.ch
   replace bN := bN.ch nE.ch
   replace bB := bB.ch nE.ch
   replace aQ := aQ.ch nE.ch
   replace hO := nE.own
   replace cr := cr.ch nE.ch
   replace ct := ct.ch nE.ch
   replace b8 := b8.ch nE.ch
   replace hB := hB.trans nE.fr
   refine GoQ.pure rfl (op_move rfl) rfl rfl ?_
   refine GoQ.pure rfl (op_nilCheck rfl) rfl rfl ?_
   refine GoQ.pure rfl (op_fieldAddr Try.underlying72 rfl ti69 rfl (by decide)) rfl rfl ?_
   refine GoQ.stable rfl (oblk (i := 9) 1 hO rfl rfl Try.underlying69 rfl rfl) rfl rfl ?_
   refine GoQ.pure rfl (op_move rfl) rfl rfl ?_
   refine GoQ.pure rfl (op_move rfl) rfl rfl ?_
   refine GoQ.call rfl (op_call body61 rfl (walk_enumerate_text hO.lt b8 H)) (fun v w hr => by obtain ⟨_, _, hs, _, _⟩ := hr; assumption) rfl rfl ?_
   rintro NF NG ⟨r243, rfl, GU, Kj, H⟩
   have nF := Stp.same hO GU
   replace cj := cj.ch nF.ch
   replace az := az.ch nF.ch
   replace dj := dj.ch nF.ch
   replace cJ := cJ.ch nF.ch
   replace cC := cC.ch nF.ch
   replace aA := aA.ch nF.ch
   replace ck := ck.ch nF.ch
   replace bN := bN.ch nF.ch
   replace bB := bB.ch nF.ch
   replace aQ := aQ.ch nF.ch
   replace hO := nF.own
   replace cr := cr.ch nF.ch
   replace ct := ct.ch nF.ch
   replace b8 := b8.ch nF.ch
   replace hB := hB.trans nF.fr
   have hobt := omapUpd (MK.str Try.underlying9) 11 hO rfl Try.underlying69 r243 (d_16.length : Int)
   obtain ⟨NH, mY, DW⟩ := hobt
   dsimp only [sS, sZ] at mY
   refine GoQ.last rfl (DW (by exact rfl) (by exact rfl) (by exact rfl)) rfl rfl ?_
   replace cj := cj.ch mY.ch
   replace az := az.ch mY.ch
   replace dj := dj.ch mY.ch
   replace cJ := cJ.ch mY.ch
   replace cC := cC.ch mY.ch
   replace aA := aA.ch mY.ch
   replace ck := ck.ch mY.ch
   replace bN := bN.ch mY.ch
   replace bB := bB.ch mY.ch
   replace aQ := aQ.ch mY.ch
   replace hO := mY.own
   replace cr := cr.ch mY.ch
   replace ct := ct.ch mY.ch
   replace b8 := b8.ch mY.ch
   replace hB := hB.trans mY.fr
   refine GoQ.nil ?_
   refine Go1.seq ?_
   refine Go1.region ?_
   refine GoR.op ((op_move rfl) _) rfl rfl ?_
   refine GoR.op ((op_move rfl) _) rfl rfl ?_
   refine GoR.op ((op_nilCheck rfl) _) rfl rfl ?_
   refine GoR.op ((op_fieldAddr Try.underlying72 rfl ti29 rfl (by decide)) _) rfl rfl ?_
   refine GoR.op ((op_fieldAddr Try.underlying29 rfl ti22 rfl (by decide)) _) rfl rfl ?_
   refine GoR.op ((oblk (i := 3) 1 hO rfl rfl Try.underlying22 rfl rfl) _ (Same.refl _)) rfl rfl ?_
   refine GoR.op ((op_move rfl) _) rfl rfl ?_
   have hobt := obuild (r := Rp.sl (Rp.int .i64)) (n := 1) (parts := [(0, .slice rI r66.length rJ)]) (vs := [.slice rI r66.length rJ]) (xs := [r66]) rfl Try.underlying22 ti26 hO (by decide) (by kernel_rfl) (Els.cons rfl ⟨rI, rJ, rfl, b8⟩ (Els.nil _ _ _) (by simp [mx])) rfl
   obtain ⟨NI, NJ, nG, GW, KO, DX⟩ := hobt
   refine GoR.op (DX rfl) rfl rfl ?_
   replace cj := cj.ch nG.ch
   replace az := az.ch nG.ch
   replace dj := dj.ch nG.ch
   replace cJ := cJ.ch nG.ch
   replace cC := cC.ch nG.ch
   replace aA := aA.ch nG.ch
   replace ck := ck.ch nG.ch
   replace bN := bN.ch nG.ch
   replace bB := bB.ch nG.ch
   replace aQ := aQ.ch nG.ch
   replace hO := nG.own
   replace cr := cr.ch nG.ch
   replace ct := ct.ch nG.ch
   replace b8 := b8.ch nG.ch
   replace hB := hB.trans nG.fr
   have hobt := freeze 0 hO rfl GW
   obtain ⟨hO1, qZ, fB, GX⟩ := hobt
   dsimp only [eS, eZ] at hO1 qZ fB
   replace cr := cr.ch qZ
   replace ct := ct.ch qZ
   replace b8 := b8.ch qZ
   replace cj := cj.ch qZ
   replace az := az.ch qZ
   replace dj := dj.ch qZ
   replace cJ := cJ.ch qZ
   replace cC := cC.ch qZ
   replace aA := aA.ch qZ
   replace ck := ck.ch qZ
   replace bN := bN.ch qZ
   replace bB := bB.ch qZ
   replace aQ := aQ.ch qZ
   replace hB := hB.trans (Owns.dropFr _ _ 0)
   dsimp only [eS, eZ] at hB
   replace hO := hO1; clear hO1
   obtain ⟨JQ, H⟩ := H
   have hobt := oapp Try.underlying22 ti26 rfl 3 hO rfl dj fB GX JQ (by decide)
   obtain ⟨NK, w7, xa, GY, mZ, fI, DY⟩ := hobt
   dsimp only [sS, sZ] at mZ fI
   refine GoR.op (DY (by exact rfl) (by exact rfl)) rfl rfl ?_
   replace cj := cj.ch mZ.ch
   replace az := az.ch mZ.ch
   replace cJ := cJ.ch mZ.ch
   replace cC := cC.ch mZ.ch
   replace aA := aA.ch mZ.ch
   replace ck := ck.ch mZ.ch
   replace bN := bN.ch mZ.ch
   replace bB := bB.ch mZ.ch
   replace aQ := aQ.ch mZ.ch
   replace hO := mZ.own
   replace cr := cr.ch mZ.ch
   replace ct := ct.ch mZ.ch
   replace b8 := b8.ch mZ.ch
   replace fB := fB.ch mZ.ch
   replace hB := hB.trans mZ.fr
   refine GoR.op ((op_nilCheck rfl) _) rfl rfl ?_
   refine GoR.op ((op_fieldAddr Try.underlying72 rfl ti29 rfl (by decide)) _) rfl rfl ?_
   refine GoR.op ((op_fieldAddr Try.underlying29 rfl ti22 rfl (by decide)) _) rfl rfl ?_
   have hobt := oblkSt2 (v := .slice w7 (n21 + 1) xa) (i := 3) (cs' := #[.int .i64 a0.Enum.Points, .bool a0.Enum.Monoid, .slice bg bf bh, .slice w7 (n21 + 1) xa, .slice p25 n27 c26, .slice p31 n33 c32, .slice bx bk bz, .slice p37 n39 c38, .int .i64 a0.Enum.Done, .map (some bA), .slice p43 n45 c44, .slice p49 n51 c50, .slice b6 b5 b7]) 1 hO rfl rfl rfl rfl
   obtain ⟨NL, lV, DZ⟩ := hobt
   dsimp only [sS, sZ] at lV
   refine GoR.op (DZ Try.underlying22 rfl ti22 (by exact rfl) (by exact rfl)) rfl rfl ?_
   replace cj := cj.ch lV.ch
   replace az := az.ch lV.ch
   replace fI := fI.ch lV.ch
   replace cJ := cJ.ch lV.ch
   replace cC := cC.ch lV.ch
   replace aA := aA.ch lV.ch
   replace ck := ck.ch lV.ch
   replace bN := bN.ch lV.ch
   replace bB := bB.ch lV.ch
   replace aQ := aQ.ch lV.ch
   replace hO := lV.own
   replace cr := cr.ch lV.ch
   replace ct := ct.ch lV.ch
   replace b8 := b8.ch lV.ch
   replace fB := fB.ch lV.ch
   replace hB := hB.trans lV.fr
   refine GoR.nil ?_
   refine Go1.seq ?_
   refine Go1.cut [(0, .pointer (some ⟨dV, 0, none⟩)), (2, .int .i64 a0.Enum.Done), (3, .int .i64 (k1_12 : Int)), (4, .string (gstr ((ix d_40 a0.Enum.Done) ++ (chr (IntKind.i32.wrap ((97 : Int) + (k1_12 : Int))))))), (5, .int .i64 (ix a0.single (k1_12 : Int))), (13, .int .i64 (d_16.length : Int))] ⟨rfl, rfl, rfl, rfl, rfl, rfl, trivial⟩ ?_
   intro σ _
   refine Go1.region ?_
   refine GoR.op ((op_move rfl) _) rfl rfl ?_
   refine GoR.op ((op_move rfl) _) rfl rfl ?_
   refine GoR.op ((op_nilCheck rfl) _) rfl rfl ?_
   refine GoR.op ((op_fieldAddr Try.underlying72 rfl ti29 rfl (by decide)) _) rfl rfl ?_
   refine GoR.op ((op_fieldAddr Try.underlying29 rfl ti26 rfl (by decide)) _) rfl rfl ?_
   refine GoR.op ((oblk (i := 4) 1 hO rfl rfl Try.underlying26 rfl rfl) _ (Same.refl _)) rfl rfl ?_
   refine GoR.op ((op_move rfl) _) rfl rfl ?_
   have hobt := obuild (r := Rp.int .i64) (n := 1) (parts := [(0, .int .i64 a0.Enum.Done)]) (vs := [.int .i64 a0.Enum.Done]) (xs := [a0.Enum.Done]) rfl Try.underlying26 ti3 hO (by decide) (by kernel_rfl) (Els.cons rfl rfl (Els.nil _ _ _) (by simp [mx])) rfl
   obtain ⟨NM, NN, m0, GZ, KP, D0⟩ := hobt
   refine GoR.op (D0 rfl) rfl rfl ?_
   replace cj := cj.ch m0.ch
   replace az := az.ch m0.ch
   replace fI := fI.ch m0.ch
   replace cJ := cJ.ch m0.ch
   replace cC := cC.ch m0.ch
   replace aA := aA.ch m0.ch
   replace ck := ck.ch m0.ch
   replace bN := bN.ch m0.ch
   replace bB := bB.ch m0.ch
   replace aQ := aQ.ch m0.ch
   replace hO := m0.own
   replace cr := cr.ch m0.ch
   replace ct := ct.ch m0.ch
   replace b8 := b8.ch m0.ch
   replace fB := fB.ch m0.ch
   replace hB := hB.trans m0.fr
   have hobt := freeze 0 hO rfl GZ
   obtain ⟨hO1, pF, gY, G0⟩ := hobt
   dsimp only [eS, eZ] at hO1 pF gY
   replace cr := cr.ch pF
   replace ct := ct.ch pF
   replace b8 := b8.ch pF
   replace fB := fB.ch pF
   replace cj := cj.ch pF
   replace az := az.ch pF
   replace fI := fI.ch pF
   replace cJ := cJ.ch pF
   replace cC := cC.ch pF
   replace aA := aA.ch pF
   replace ck := ck.ch pF
   replace bN := bN.ch pF
   replace bB := bB.ch pF
   replace aQ := aQ.ch pF
   replace hB := hB.trans (Owns.dropFr _ _ 0)
   dsimp only [eS, eZ] at hB
   replace hO := hO1; clear hO1
   obtain ⟨JR, H⟩ := H
   have hobt := oapp Try.underlying26 ti3 rfl 4 hO rfl cJ gY G0 JR (by decide)
   obtain ⟨NO, ya, yb, G1, lW, iO, D1⟩ := hobt
   dsimp only [sS, sZ] at lW iO
   refine GoR.op (D1 (by exact rfl) (by exact rfl)) rfl rfl ?_
   replace cj := cj.ch lW.ch
   replace az := az.ch lW.ch
   replace fI := fI.ch lW.ch
   replace cC := cC.ch lW.ch
   replace aA := aA.ch lW.ch
   replace ck := ck.ch lW.ch
   replace bN := bN.ch lW.ch
   replace bB := bB.ch lW.ch
   replace aQ := aQ.ch lW.ch
   replace hO := lW.own
   replace cr := cr.ch lW.ch
   replace ct := ct.ch lW.ch
   replace b8 := b8.ch lW.ch
   replace fB := fB.ch lW.ch
   replace gY := gY.ch lW.ch
   replace hB := hB.trans lW.fr
   refine GoR.op ((op_nilCheck rfl) _) rfl rfl ?_
   refine GoR.op ((op_fieldAddr Try.underlying72 rfl ti29 rfl (by decide)) _) rfl rfl ?_
   refine GoR.op ((op_fieldAddr Try.underlying29 rfl ti26 rfl (by decide)) _) rfl rfl ?_
   have hobt := oblkSt2 (v := .slice ya (n27 + 1) yb) (i := 4) (cs' := #[.int .i64 a0.Enum.Points, .bool a0.Enum.Monoid, .slice bg bf bh, .slice w7 (n21 + 1) xa, .slice ya (n27 + 1) yb, .slice p31 n33 c32, .slice bx bk bz, .slice p37 n39 c38, .int .i64 a0.Enum.Done, .map (some bA), .slice p43 n45 c44, .slice p49 n51 c50, .slice b6 b5 b7]) 1 hO rfl rfl rfl rfl
   obtain ⟨NP, ll, D2⟩ := hobt
   dsimp only [sS, sZ] at ll
   refine GoR.op (D2 Try.underlying26 rfl ti26 (by exact rfl) (by exact rfl)) rfl rfl ?_
   replace cj := cj.ch ll.ch
   replace az := az.ch ll.ch
   replace fI := fI.ch ll.ch
   replace iO := iO.ch ll.ch
   replace cC := cC.ch ll.ch
   replace aA := aA.ch ll.ch
   replace ck := ck.ch ll.ch
   replace bN := bN.ch ll.ch
   replace bB := bB.ch ll.ch
   replace aQ := aQ.ch ll.ch
   replace hO := ll.own
   replace cr := cr.ch ll.ch
   replace ct := ct.ch ll.ch
   replace b8 := b8.ch ll.ch
   replace fB := fB.ch ll.ch
   replace gY := gY.ch ll.ch
   replace hB := hB.trans ll.fr
   refine GoR.nil ?_
   refine Go1.seq ?_
   refine Go1.region ?_
   refine GoR.op ((op_move rfl) _) rfl rfl ?_
   refine GoR.op ((op_move rfl) _) rfl rfl ?_
   refine GoR.op ((op_nilCheck rfl) _) rfl rfl ?_
   refine GoR.op ((op_fieldAddr Try.underlying72 rfl ti29 rfl (by decide)) _) rfl rfl ?_
   refine GoR.op ((op_fieldAddr Try.underlying29 rfl ti26 rfl (by decide)) _) rfl rfl ?_
   refine GoR.op ((oblk (i := 5) 1 hO rfl rfl Try.underlying26 rfl rfl) _ (Same.refl _)) rfl rfl ?_
   refine GoR.op ((op_move rfl) _) rfl rfl ?_
   have hobt := obuild (r := Rp.int .i64) (n := 1) (parts := [(0, .int .i64 (k1_12 : Int))]) (vs := [.int .i64 (k1_12 : Int)]) (xs := [(k1_12 : Int)]) rfl Try.underlying26 ti3 hO (by decide) (by kernel_rfl) (Els.cons rfl rfl (Els.nil _ _ _) (by simp [mx])) rfl
   obtain ⟨NQ, NR, lX, G3, Cf, D3⟩ := hobt
   refine GoR.op (D3 rfl) rfl rfl ?_
   replace cj := cj.ch lX.ch
   replace az := az.ch lX.ch
   replace fI := fI.ch lX.ch
   replace iO := iO.ch lX.ch
   replace cC := cC.ch lX.ch
   replace aA := aA.ch lX.ch
   replace ck := ck.ch lX.ch
   replace bN := bN.ch lX.ch
   replace bB := bB.ch lX.ch
   replace aQ := aQ.ch lX.ch
   replace hO := lX.own
   replace cr := cr.ch lX.ch
   replace ct := ct.ch lX.ch
   replace b8 := b8.ch lX.ch
   replace fB := fB.ch lX.ch
   replace gY := gY.ch lX.ch
   replace hB := hB.trans lX.fr
   have hobt := freeze 0 hO rfl G3
   obtain ⟨hO1, ot, j9, G4⟩ := hobt
   dsimp only [eS, eZ] at hO1 ot j9
   replace cr := cr.ch ot
   replace ct := ct.ch ot
   replace b8 := b8.ch ot
   replace fB := fB.ch ot
   replace gY := gY.ch ot
   replace cj := cj.ch ot
   replace az := az.ch ot
   replace fI := fI.ch ot
   replace iO := iO.ch ot
   replace cC := cC.ch ot
   replace aA := aA.ch ot
   replace ck := ck.ch ot
   replace bN := bN.ch ot
   replace bB := bB.ch ot
   replace aQ := aQ.ch ot
   replace hB := hB.trans (Owns.dropFr _ _ 0)
   dsimp only [eS, eZ] at hB
   replace hO := hO1; clear hO1
   obtain ⟨JS, H⟩ := H
   have hobt := oapp Try.underlying26 ti3 rfl 5 hO rfl cC j9 G4 JS (by decide)
   obtain ⟨NS, y9, za, G5, lm, k9, D4⟩ := hobt
   dsimp only [sS, sZ] at lm k9
   refine GoR.op (D4 (by exact rfl) (by exact rfl)) rfl rfl ?_
   replace cj := cj.ch lm.ch
   replace az := az.ch lm.ch
   replace fI := fI.ch lm.ch
   replace iO := iO.ch lm.ch
   replace aA := aA.ch lm.ch
   replace ck := ck.ch lm.ch
   replace bN := bN.ch lm.ch
   replace bB := bB.ch lm.ch
   replace aQ := aQ.ch lm.ch
   replace hO := lm.own
   replace cr := cr.ch lm.ch
   replace ct := ct.ch lm.ch
   replace b8 := b8.ch lm.ch
   replace fB := fB.ch lm.ch
   replace gY := gY.ch lm.ch
   replace j9 := j9.ch lm.ch
   replace hB := hB.trans lm.fr
   refine GoR.op ((op_nilCheck rfl) _) rfl rfl ?_
   refine GoR.op ((op_fieldAddr Try.underlying72 rfl ti29 rfl (by decide)) _) rfl rfl ?_
   refine GoR.op ((op_fieldAddr Try.underlying29 rfl ti26 rfl (by decide)) _) rfl rfl ?_
   have hobt := oblkSt2 (v := .slice y9 (n33 + 1) za) (i := 5) (cs' := #[.int .i64 a0.Enum.Points, .bool a0.Enum.Monoid, .slice bg bf bh, .slice w7 (n21 + 1) xa, .slice ya (n27 + 1) yb, .slice y9 (n33 + 1) za, .slice bx bk bz, .slice p37 n39 c38, .int .i64 a0.Enum.Done, .map (some bA), .slice p43 n45 c44, .slice p49 n51 c50, .slice b6 b5 b7]) 1 hO rfl rfl rfl rfl
   obtain ⟨NT, kA, D5⟩ := hobt
   dsimp only [sS, sZ] at kA
   refine GoR.op (D5 Try.underlying26 rfl ti26 (by exact rfl) (by exact rfl)) rfl rfl ?_
   replace cj := cj.ch kA.ch
   replace az := az.ch kA.ch
   replace fI := fI.ch kA.ch
   replace iO := iO.ch kA.ch
   replace k9 := k9.ch kA.ch
   replace aA := aA.ch kA.ch
   replace ck := ck.ch kA.ch
   replace bN := bN.ch kA.ch
   replace bB := bB.ch kA.ch
   replace aQ := aQ.ch kA.ch
   replace hO := kA.own
   replace cr := cr.ch kA.ch
   replace ct := ct.ch kA.ch
   replace b8 := b8.ch kA.ch
   replace fB := fB.ch kA.ch
   replace gY := gY.ch kA.ch
   replace j9 := j9.ch kA.ch
   replace hB := hB.trans kA.fr
   refine GoR.nil ?_
   refine Go1.seq ?_
   refine Go1.cut [(0, .pointer (some ⟨dV, 0, none⟩)), (4, .string (gstr ((ix d_40 a0.Enum.Done) ++ (chr (IntKind.i32.wrap ((97 : Int) + (k1_12 : Int))))))), (5, .int .i64 (ix a0.single (k1_12 : Int))), (13, .int .i64 (d_16.length : Int))] ⟨rfl, rfl, rfl, rfl, trivial⟩ ?_
   intro σ _
   refine Go1.region ?_
   refine GoR.op ((op_move rfl) _) rfl rfl ?_
   refine GoR.op ((op_move rfl) _) rfl rfl ?_
   refine GoR.op ((op_nilCheck rfl) _) rfl rfl ?_
   refine GoR.op ((op_fieldAddr Try.underlying72 rfl ti70 rfl (by decide)) _) rfl rfl ?_
   refine GoR.op ((oblk (i := 10) 1 hO rfl rfl Try.underlying70 rfl rfl) _ (Same.refl _)) rfl rfl ?_
   refine GoR.op ((op_move rfl) _) rfl rfl ?_
   have hobt := obuild (r := Rp.str) (n := 1) (parts := [(0, .string (gstr ((ix d_40 a0.Enum.Done) ++ (chr (IntKind.i32.wrap ((97 : Int) + (k1_12 : Int)))))))]) (vs := [.string (gstr ((ix d_40 a0.Enum.Done) ++ (chr (IntKind.i32.wrap ((97 : Int) + (k1_12 : Int))))))]) (xs := [(ix d_40 a0.Enum.Done) ++ (chr (IntKind.i32.wrap ((97 : Int) + (k1_12 : Int))))]) rfl Try.underlying70 ti9 hO (by decide) (by kernel_rfl) (Els.cons rfl ⟨rfl, (lenApp BE)⟩ (Els.nil _ _ _) (by simp [mx])) rfl
   obtain ⟨NU, NV, lp, G6, KQ, D6⟩ := hobt
   refine GoR.op (D6 rfl) rfl rfl ?_
   replace cj := cj.ch lp.ch
   replace az := az.ch lp.ch
   replace fI := fI.ch lp.ch
   replace iO := iO.ch lp.ch
   replace k9 := k9.ch lp.ch
   replace aA := aA.ch lp.ch
   replace ck := ck.ch lp.ch
   replace bN := bN.ch lp.ch
   replace bB := bB.ch lp.ch
   replace aQ := aQ.ch lp.ch
   replace hO := lp.own
   replace cr := cr.ch lp.ch
   replace ct := ct.ch lp.ch
   replace b8 := b8.ch lp.ch
   replace fB := fB.ch lp.ch
   replace gY := gY.ch lp.ch
   replace j9 := j9.ch lp.ch
   replace hB := hB.trans lp.fr
   have hobt := freeze 0 hO rfl G6
   obtain ⟨hO1, n7, ou, G7⟩ := hobt
   dsimp only [eS, eZ] at hO1 n7 ou
   replace cr := cr.ch n7
   replace ct := ct.ch n7
   replace b8 := b8.ch n7
   replace fB := fB.ch n7
   replace gY := gY.ch n7
   replace j9 := j9.ch n7
   replace cj := cj.ch n7
   replace az := az.ch n7
   replace fI := fI.ch n7
   replace iO := iO.ch n7
   replace k9 := k9.ch n7
   replace aA := aA.ch n7
   replace ck := ck.ch n7
   replace bN := bN.ch n7
   replace bB := bB.ch n7
   replace aQ := aQ.ch n7
   replace hB := hB.trans (Owns.dropFr _ _ 0)
   dsimp only [eS, eZ] at hB
   replace hO := hO1; clear hO1
   obtain ⟨JT, H⟩ := H
   have hobt := oapp Try.underlying70 ti9 rfl 8 hO rfl bN ou G7 JT (by decide)
   obtain ⟨NW, Al, Am, G8, kB, q8, D7⟩ := hobt
   dsimp only [sS, sZ] at kB q8
   refine GoR.op (D7 (by exact rfl) (by exact rfl)) rfl rfl ?_
   replace cj := cj.ch kB.ch
   replace az := az.ch kB.ch
   replace fI := fI.ch kB.ch
   replace iO := iO.ch kB.ch
   replace k9 := k9.ch kB.ch
   replace aA := aA.ch kB.ch
   replace ck := ck.ch kB.ch
   replace bB := bB.ch kB.ch
   replace aQ := aQ.ch kB.ch
   replace hO := kB.own
   replace cr := cr.ch kB.ch
   replace ct := ct.ch kB.ch
   replace b8 := b8.ch kB.ch
   replace fB := fB.ch kB.ch
   replace gY := gY.ch kB.ch
   replace j9 := j9.ch kB.ch
   replace ou := ou.ch kB.ch
   replace hB := hB.trans kB.fr
   refine GoR.op ((op_nilCheck rfl) _) rfl rfl ?_
   refine GoR.op ((op_fieldAddr Try.underlying72 rfl ti70 rfl (by decide)) _) rfl rfl ?_
   have hobt := oblkSt2 (v := .slice Al (n45 + 1) Am) (i := 10) (cs' := #[.int .i64 a0.Enum.Points, .bool a0.Enum.Monoid, .slice bg bf bh, .slice w7 (n21 + 1) xa, .slice ya (n27 + 1) yb, .slice y9 (n33 + 1) za, .slice bx bk bz, .slice p37 n39 c38, .int .i64 a0.Enum.Done, .map (some bA), .slice Al (n45 + 1) Am, .slice p49 n51 c50, .slice b6 b5 b7]) 1 hO rfl rfl rfl rfl
   obtain ⟨NX, jZ, D8⟩ := hobt
   dsimp only [sS, sZ] at jZ
   refine GoR.op (D8 Try.underlying70 rfl ti70 (by exact rfl) (by exact rfl)) rfl rfl ?_
   replace cj := cj.ch jZ.ch
   replace az := az.ch jZ.ch
   replace fI := fI.ch jZ.ch
   replace iO := iO.ch jZ.ch
   replace k9 := k9.ch jZ.ch
   replace aA := aA.ch jZ.ch
   replace ck := ck.ch jZ.ch
   replace q8 := q8.ch jZ.ch
   replace bB := bB.ch jZ.ch
   replace aQ := aQ.ch jZ.ch
   replace hO := jZ.own
   replace cr := cr.ch jZ.ch
   replace ct := ct.ch jZ.ch
   replace b8 := b8.ch jZ.ch
   replace fB := fB.ch jZ.ch
   replace gY := gY.ch jZ.ch
   replace j9 := j9.ch jZ.ch
   replace ou := ou.ch jZ.ch
   replace hB := hB.trans jZ.fr
   refine GoR.nil ?_
   refine Go1.seq ?_
   refine Go1.region ?_
   refine GoR.op ((op_move rfl) _) rfl rfl ?_
   refine GoR.op ((op_move rfl) _) rfl rfl ?_
   refine GoR.op ((op_nilCheck rfl) _) rfl rfl ?_
   refine GoR.op ((op_fieldAddr Try.underlying72 rfl ti26 rfl (by decide)) _) rfl rfl ?_
   refine GoR.op ((oblk (i := 11) 1 hO rfl rfl Try.underlying26 rfl rfl) _ (Same.refl _)) rfl rfl ?_
   refine GoR.op ((op_move rfl) _) rfl rfl ?_
   have hobt := obuild (r := Rp.int .i64) (n := 1) (parts := [(0, .int .i64 (ix a0.single (k1_12 : Int)))]) (vs := [.int .i64 (ix a0.single (k1_12 : Int))]) (xs := [(ix a0.single (k1_12 : Int))]) rfl Try.underlying26 ti3 hO (by decide) (by kernel_rfl) (Els.cons rfl rfl (Els.nil _ _ _) (by simp [mx])) rfl
   obtain ⟨NY, NZ, kC, G9, KR, D9⟩ := hobt
   refine GoR.op (D9 rfl) rfl rfl ?_
   replace cj := cj.ch kC.ch
   replace az := az.ch kC.ch
   replace fI := fI.ch kC.ch
   replace iO := iO.ch kC.ch
   replace k9 := k9.ch kC.ch
   replace aA := aA.ch kC.ch
   replace ck := ck.ch kC.ch
   replace q8 := q8.ch kC.ch
   replace bB := bB.ch kC.ch
   replace aQ := aQ.ch kC.ch
   replace hO := kC.own
   replace cr := cr.ch kC.ch
   replace ct := ct.ch kC.ch
   replace b8 := b8.ch kC.ch
   replace fB := fB.ch kC.ch
   replace gY := gY.ch kC.ch
   replace j9 := j9.ch kC.ch
   replace ou := ou.ch kC.ch
   replace hB := hB.trans kC.fr
   have hobt := freeze 0 hO rfl G9
   obtain ⟨hO1, nK, un, Ha⟩ := hobt
   dsimp only [eS, eZ] at hO1 nK un
   replace cr := cr.ch nK
   replace ct := ct.ch nK
   replace b8 := b8.ch nK
   replace fB := fB.ch nK
   replace gY := gY.ch nK
   replace j9 := j9.ch nK
   replace ou := ou.ch nK
   replace cj := cj.ch nK
   replace az := az.ch nK
   replace fI := fI.ch nK
   replace iO := iO.ch nK
   replace k9 := k9.ch nK
   replace aA := aA.ch nK
   replace ck := ck.ch nK
   replace q8 := q8.ch nK
   replace bB := bB.ch nK
   replace aQ := aQ.ch nK
   replace hB := hB.trans (Owns.dropFr _ _ 0)
   dsimp only [eS, eZ] at hB
   replace hO := hO1; clear hO1
   obtain ⟨JU, H⟩ := H
   have hobt := oapp Try.underlying26 ti3 rfl 9 hO rfl bB un Ha JU (by decide)
   obtain ⟨N1, BK, BL, Hb, j3, wi, Ea⟩ := hobt
   dsimp only [sS, sZ] at j3 wi
   refine GoR.op (Ea (by exact rfl) (by exact rfl)) rfl rfl ?_
   replace cj := cj.ch j3.ch
   replace az := az.ch j3.ch
   replace fI := fI.ch j3.ch
   replace iO := iO.ch j3.ch
   replace k9 := k9.ch j3.ch
   replace aA := aA.ch j3.ch
   replace ck := ck.ch j3.ch
   replace q8 := q8.ch j3.ch
   replace aQ := aQ.ch j3.ch
   replace hO := j3.own
   replace cr := cr.ch j3.ch
   replace ct := ct.ch j3.ch
   replace b8 := b8.ch j3.ch
   replace fB := fB.ch j3.ch
   replace gY := gY.ch j3.ch
   replace j9 := j9.ch j3.ch
   replace ou := ou.ch j3.ch
   replace un := un.ch j3.ch
   replace hB := hB.trans j3.fr
   refine GoR.op ((op_nilCheck rfl) _) rfl rfl ?_
   refine GoR.op ((op_fieldAddr Try.underlying72 rfl ti26 rfl (by decide)) _) rfl rfl ?_
   have hobt := oblkSt2 (v := .slice BK (n51 + 1) BL) (i := 11) (cs' := #[.int .i64 a0.Enum.Points, .bool a0.Enum.Monoid, .slice bg bf bh, .slice w7 (n21 + 1) xa, .slice ya (n27 + 1) yb, .slice y9 (n33 + 1) za, .slice bx bk bz, .slice p37 n39 c38, .int .i64 a0.Enum.Done, .map (some bA), .slice Al (n45 + 1) Am, .slice BK (n51 + 1) BL, .slice b6 b5 b7]) 1 hO rfl rfl rfl rfl
   obtain ⟨N2, jj, Eb⟩ := hobt
   dsimp only [sS, sZ] at jj
   refine GoR.op (Eb Try.underlying26 rfl ti26 (by exact rfl) (by exact rfl)) rfl rfl ?_
   replace cj := cj.ch jj.ch
   replace az := az.ch jj.ch
   replace fI := fI.ch jj.ch
   replace iO := iO.ch jj.ch
   replace k9 := k9.ch jj.ch
   replace aA := aA.ch jj.ch
   replace ck := ck.ch jj.ch
   replace q8 := q8.ch jj.ch
   replace wi := wi.ch jj.ch
   replace aQ := aQ.ch jj.ch
   replace hO := jj.own
   replace cr := cr.ch jj.ch
   replace ct := ct.ch jj.ch
   replace b8 := b8.ch jj.ch
   replace fB := fB.ch jj.ch
   replace gY := gY.ch jj.ch
   replace j9 := j9.ch jj.ch
   replace ou := ou.ch jj.ch
   replace un := un.ch jj.ch
   replace hB := hB.trans jj.fr
   refine GoR.nil ?_
   refine Go1.seq ?_
   refine Go1.cut [(13, .int .i64 (d_16.length : Int))] ⟨rfl, trivial⟩ ?_
   intro σ _
   refine Go1.region ?_
   refine GoR.op ((op_move rfl) _) rfl rfl ?_
   refine GoR.op ((op_assign rfl) _) rfl rfl ?_
   refine GoR.nil ?_
   refine Go1.ret1V Try.func65 rfl (show _ = .int .i64 (d_16.length : Int) from rfl) ?_
   refine hR239 _ _ ?_
   refine GoR.op ((op_assign rfl) _) rfl rfl ?_
   refine GoR.nil ?_
   refine Go1.inBlock ?_
   refine Go1.region ?_
   refine GoR.op ((op_move rfl) _) rfl rfl ?_
   refine GoR.op ((op_move rfl) _) rfl rfl ?_
   refine GoR.op ((op_move rfl) _) rfl rfl ?_
   obtain ⟨BM, H⟩ := H
   obtain ⟨BN, H⟩ := H
   refine GoR.op ((op_index Try.underlying26 ti3 rfl rfl BM (ltn (cj.neq hO 0 rfl) BN) (cj.psome hO 0 rfl BM BN)) _) rfl rfl ?_
   have hobt := ost (r := Rp.int .i64) rfl 0 hO rfl cj BM BN (v := .int .i64 (d_16.length : Int)) (u := (d_16.length : Int)) rfl rfl
   obtain ⟨N3, Hc, j4, Cg, Ec⟩ := hobt
   dsimp only [sS, sZ] at j4 Cg
   refine GoR.op (Ec Try.underlying3 rfl ti3 (by exact rfl) (by exact rfl)) rfl rfl ?_
   replace az := az.ch j4.ch
   replace fI := fI.ch j4.ch
   replace iO := iO.ch j4.ch
   replace k9 := k9.ch j4.ch
   replace aA := aA.ch j4.ch
   replace ck := ck.ch j4.ch
   replace q8 := q8.ch j4.ch
   replace wi := wi.ch j4.ch
   replace aQ := aQ.ch j4.ch
   replace hO := j4.own
   replace cr := cr.ch j4.ch
   replace ct := ct.ch j4.ch
   replace b8 := b8.ch j4.ch
   replace fB := fB.ch j4.ch
   replace gY := gY.ch j4.ch
   replace j9 := j9.ch j4.ch
   replace ou := ou.ch j4.ch
   replace un := un.ch j4.ch
   replace hB := hB.trans j4.fr
   refine GoR.nil ?_
   refine Go1.inBlock ?_
   refine Go1.region ?_
   refine GoR.op ((op_add rfl rfl (wrap_i64 (natbd h53 az.bd))) _) rfl rfl ?_
   refine GoR.op ((op_move rfl) _) rfl rfl ?_
   refine GoR.nil ?_
   exact hX1 _ H _ _ ⟨Hc, n21 + 1, w7, xa, GY, n27 + 1, ya, yb, G1, n33 + 1, y9, za, G5, n39, p37, c38, nz, n45 + 1, Al, Am, G8, n51 + 1, BK, BL, Hb, ⟨rfl, rfl, rfl, rfl, rfl, rfl, trivial⟩, hO, Cg, az, fI, iO, k9, aA, ck, q8, wi, aQ, hB⟩
  replace H := ifn Ak H
  refine GoR.op ((fun w => opB (op_eql rfl rfl w) (decide_eq_false Ak)) _) rfl rfl ?_
  refine GoR.nil ?_
  refine Go1.condF rfl rfl ?_
  refine Go1.skip ?_
  refine Go1.seq ?_
  refine Go1.region ?_
  refine GoR.op ((op_move rfl) _) rfl rfl ?_
  refine GoR.op ((op_nilCheck rfl) _) rfl rfl ?_
  refine GoR.op ((op_fieldAddr Try.underlying72 rfl ti29 rfl (by decide)) _) rfl rfl ?_
  refine GoR.op ((op_fieldAddr Try.underlying29 rfl ti22 rfl (by decide)) _) rfl rfl ?_
  refine GoR.op ((oblk (i := 6) 1 hO rfl rfl Try.underlying22 rfl rfl) _ (Same.refl _)) rfl rfl ?_
  refine GoR.op ((op_move rfl) _) rfl rfl ?_
  obtain ⟨BO, H⟩ := H
  obtain ⟨BP, H⟩ := H
  refine GoR.op ((op_index Try.underlying22 ti26 rfl rfl BO (ltn (aA.neq hO 6 rfl) BP) (aA.psome hO 6 rfl BO BP)) _) rfl rfl ?_
  have hobt := oldSl 6 hO rfl aA BO BP
  obtain ⟨N4, N5, d5, He⟩ := hobt
  refine GoR.op ((He Try.underlying26 rfl rfl) _ (Same.refl _)) rfl rfl ?_
  refine GoR.op ((op_move rfl) _) rfl rfl ?_
  obtain ⟨BQ, H⟩ := H
  obtain ⟨BR, H⟩ := H
  refine GoR.op ((op_index Try.underlying26 ti3 rfl rfl BQ BR (d5.some_ BQ BR)) _) rfl rfl ?_
  refine GoR.op ((ldInt d5 BQ BR Try.underlying3 rfl rfl) _ (Same.refl _)) rfl rfl ?_
  refine GoR.op ((op_assign rfl) _) rfl rfl ?_
  refine GoR.nil ?_
  refine Go1.ret1V Try.func66 rfl (show _ = .int .i64 (ix (ix a0.Enum.Right (ix d_46 a0.Enum.Done)) (k1_12 : Int)) from rfl) ?_
  refine hR235 _ _ ?_
  refine GoR.inl (vs := [.pointer (some ⟨dV, 0, none⟩), .slice rI r66.length rJ, .int .i64 a0.Enum.Done, .int .i64 (k1_12 : Int), .string (gstr ((ix d_40 a0.Enum.Done) ++ (chr (IntKind.i32.wrap ((97 : Int) + (k1_12 : Int)))))), .int .i64 (ix (ix a0.Enum.Right (ix d_46 a0.Enum.Done)) (k1_12 : Int))]) (caps := []) rfl rfl body65 Try.func65 rfl Try.ntmps65 rfl rfl rfl ?_
  intro RhR377 hR377
  refine Go1.seq ?_
  refine Go1.cut [(0, .pointer (some ⟨dV, 0, none⟩)), (1, .slice rI r66.length rJ), (2, .int .i64 a0.Enum.Done), (3, .int .i64 (k1_12 : Int)), (4, .string (gstr ((ix d_40 a0.Enum.Done) ++ (chr (IntKind.i32.wrap ((97 : Int) + (k1_12 : Int))))))), (5, .int .i64 (ix (ix a0.Enum.Right (ix d_46 a0.Enum.Done)) (k1_12 : Int)))] ⟨rfl, rfl, rfl, rfl, rfl, rfl, trivial⟩ ?_
  intro σ _
  refine Go1.region ?_
  refine GoR.op ((op_assign rfl) _) rfl rfl ?_
  refine GoR.nil ?_
  refine Go1.seq ?_
  refine Go1.region ?_
  refine GoR.op ((op_move rfl) _) rfl rfl ?_
  refine GoR.op ((op_nilCheck rfl) _) rfl rfl ?_
  refine GoR.op ((op_fieldAddr Try.underlying72 rfl ti29 rfl (by decide)) _) rfl rfl ?_
  refine GoR.op ((op_fieldAddr Try.underlying29 rfl ti22 rfl (by decide)) _) rfl rfl ?_
  refine GoR.op ((oblk (i := 3) 1 hO rfl rfl Try.underlying22 rfl rfl) _ (Same.refl _)) rfl rfl ?_
  refine GoR.op ((op_lenN Try.underlying22 rfl (dj.neq hO 3 rfl)) _) rfl rfl ?_
  refine GoR.op ((op_assign rfl) _) rfl rfl ?_
  refine GoR.nil ?_
  refine Go1.seq ?_
  refine Go1.drawS 1 [(0, .pure), (1, .pure), (2, .pure), (3, .stable), (4, .pure), (6, .pure), (5, .loud), (7, .last)] mixed (by kernel_rfl) ?_
  intro N6 Hf
  have m3 := Stp.same hO Hf
  replace cj := cj.ch m3.ch
  replace az := az.ch m3.ch
  replace dj := dj.ch m3.ch
  replace cJ := cJ.ch m3.ch
  replace cC := cC.ch m3.ch
  replace aA := aA.ch m3.ch
  replace ck := ck.ch m3.ch
  replace bN := bN.ch m3.ch
  replace bB := bB.ch m3.ch
  replace aQ := aQ.ch m3.ch
  replace hO := m3.own
  replace cr := cr.ch m3.ch
  replace ct := ct.ch m3.ch
  replace b8 := b8.ch m3.ch
  replace d5 := d5.ch m3.ch
  replace hB := hB.trans m3.fr
  refine GoQ.pure rfl (op_move rfl) rfl rfl ?_
  refine GoQ.pure rfl (op_nilCheck rfl) rfl rfl ?_
  refine GoQ.pure rfl (op_fieldAddr Try.underlying72 rfl ti69 rfl (by decide)) rfl rfl ?_
  refine GoQ.stable rfl (oblk (i := 9) 1 hO rfl rfl Try.underlying69 rfl rfl) rfl rfl ?_
  refine GoQ.pure rfl (op_move rfl) rfl rfl ?_
  refine GoQ.pure rfl (op_move rfl) rfl rfl ?_
  refine GoQ.call rfl (op_call body61 rfl (walk_enumerate_text hO.lt b8 H)) (fun v w hr => by obtain ⟨_, _, hs, _, _⟩ := hr; assumption) rfl rfl ?_
  rintro N7 N8 ⟨r381, rfl, Hg, Kk, H⟩
  have fX := Stp.same hO Hg
  replace cj := cj.ch fX.ch
  replace az := az.ch fX.ch
  replace dj := dj.ch fX.ch
  replace cJ := cJ.ch fX.ch
  replace cC := cC.ch fX.ch
  replace aA := aA.ch fX.ch
  replace ck := ck.ch fX.ch
  replace bN := bN.ch fX.ch
  replace bB := bB.ch fX.ch
  replace aQ := aQ.ch fX.ch
  replace hO := fX.own
  replace cr := cr.ch fX.ch
  replace ct := ct.ch fX.ch
  replace b8 := b8.ch fX.ch
  replace d5 := d5.ch fX.ch
  replace hB := hB.trans fX.fr
  have hobt := omapUpd (MK.str Try.underlying9) 11 hO rfl Try.underlying69 r381 (d_16.length : Int)
  obtain ⟨N9, fS, Ed⟩ := hobt
  dsimp only [sS, sZ] at fS
  refine GoQ.last rfl (Ed (by exact rfl) (by exact rfl) (by exact rfl)) rfl rfl ?_
  replace cj := cj.ch fS.ch
  replace az := az.ch fS.ch
  replace dj := dj.ch fS.ch
  replace cJ := cJ.ch fS.ch
  replace cC := cC.ch fS.ch
  replace aA := aA.ch fS.ch
  replace ck := ck.ch fS.ch
  replace bN := bN.ch fS.ch
  replace bB := bB.ch fS.ch
  replace aQ := aQ.ch fS.ch
  replace hO := fS.own
  replace cr := cr.ch fS.ch
  replace ct := ct.ch fS.ch
  replace b8 := b8.ch fS.ch
  replace d5 := d5.ch fS.ch
  replace hB := hB.trans fS.fr
  refine GoQ.nil ?_
  refine Go1.seq ?_
  refine Go1.region ?_
  refine GoR.op ((op_move rfl) _) rfl rfl ?_
  refine GoR.op ((op_move rfl) _) rfl rfl ?_
  refine GoR.op ((op_nilCheck rfl) _) rfl rfl ?_
  refine GoR.op ((op_fieldAddr Try.underlying72 rfl ti29 rfl (by decide)) _) rfl rfl ?_
  refine GoR.op ((op_fieldAddr Try.underlying29 rfl ti22 rfl (by decide)) _) rfl rfl ?_
  refine GoR.op ((oblk (i := 3) 1 hO rfl rfl Try.underlying22 rfl rfl) _ (Same.refl _)) rfl rfl ?_
  refine GoR.op ((op_move rfl) _) rfl rfl ?_
  have hobt := obuild (r := Rp.sl (Rp.int .i64)) (n := 1) (parts := [(0, .slice rI r66.length rJ)]) (vs := [.slice rI r66.length rJ]) (xs := [r66]) rfl Try.underlying22 ti26 hO (by decide) (by kernel_rfl) (Els.cons rfl ⟨rI, rJ, rfl, b8⟩ (Els.nil _ _ _) (by simp [mx])) rfl
  obtain ⟨Oa, Ob, fY, Hh, KS, Ee⟩ := hobt
  refine GoR.op (Ee rfl) rfl rfl ?_
  replace cj := cj.ch fY.ch
  replace az := az.ch fY.ch
  replace dj := dj.ch fY.ch
  replace cJ := cJ.ch fY.ch
  replace cC := cC.ch fY.ch
  replace aA := aA.ch fY.ch
  replace ck := ck.ch fY.ch
  replace bN := bN.ch fY.ch
  replace bB := bB.ch fY.ch
  replace aQ := aQ.ch fY.ch
  replace hO := fY.own
  replace cr := cr.ch fY.ch
  replace ct := ct.ch fY.ch
  replace b8 := b8.ch fY.ch
  replace d5 := d5.ch fY.ch
  replace hB := hB.trans fY.fr
  have hobt := freeze 0 hO rfl Hh
  obtain ⟨hO1, pG, fC, Hi⟩ := hobt
  dsimp only [eS, eZ] at hO1 pG fC
  replace cr := cr.ch pG
  replace ct := ct.ch pG
  replace b8 := b8.ch pG
  replace d5 := d5.ch pG
  replace cj := cj.ch pG
  replace az := az.ch pG
  replace dj := dj.ch pG
  replace cJ := cJ.ch pG
  replace cC := cC.ch pG
  replace aA := aA.ch pG
  replace ck := ck.ch pG
  replace bN := bN.ch pG
  replace bB := bB.ch pG
  replace aQ := aQ.ch pG
  replace hB := hB.trans (Owns.dropFr _ _ 0)
  dsimp only [eS, eZ] at hB
  replace hO := hO1; clear hO1
  obtain ⟨JV, H⟩ := H
  have hobt := oapp Try.underlying22 ti26 rfl 3 hO rfl dj fC Hi JV (by decide)
  obtain ⟨Oc, xb, xc, Hj, lY, fJ, Ef⟩ := hobt
  dsimp only [sS, sZ] at lY fJ
  refine GoR.op (Ef (by exact rfl) (by exact rfl)) rfl rfl ?_
  replace cj := cj.ch lY.ch
  replace az := az.ch lY.ch
  replace cJ := cJ.ch lY.ch
  replace cC := cC.ch lY.ch
  replace aA := aA.ch lY.ch
  replace ck := ck.ch lY.ch
  replace bN := bN.ch lY.ch
  replace bB := bB.ch lY.ch
  replace aQ := aQ.ch lY.ch
  replace hO := lY.own
  replace cr := cr.ch lY.ch
  replace ct := ct.ch lY.ch
  replace b8 := b8.ch lY.ch
  replace d5 := d5.ch lY.ch
  replace fC := fC.ch lY.ch
  replace hB := hB.trans lY.fr
  refine GoR.op ((op_nilCheck rfl) _) rfl rfl ?_
  refine GoR.op ((op_fieldAddr Try.underlying72 rfl ti29 rfl (by decide)) _) rfl rfl ?_
  refine GoR.op ((op_fieldAddr Try.underlying29 rfl ti22 rfl (by decide)) _) rfl rfl ?_
  have hobt := oblkSt2 (v := .slice xb (n21 + 1) xc) (i := 3) (cs' := #[.int .i64 a0.Enum.Points, .bool a0.Enum.Monoid, .slice bg bf bh, .slice xb (n21 + 1) xc, .slice p25 n27 c26, .slice p31 n33 c32, .slice bx bk bz, .slice p37 n39 c38, .int .i64 a0.Enum.Done, .map (some bA), .slice p43 n45 c44, .slice p49 n51 c50, .slice b6 b5 b7]) 1 hO rfl rfl rfl rfl
  obtain ⟨Od, lr, Eg⟩ := hobt
  dsimp only [sS, sZ] at lr
  refine GoR.op (Eg Try.underlying22 rfl ti22 (by exact rfl) (by exact rfl)) rfl rfl ?_
  replace cj := cj.ch lr.ch
  replace az := az.ch lr.ch
  replace fJ := fJ.ch lr.ch
  replace cJ := cJ.ch lr.ch
  replace cC := cC.ch lr.ch
  replace aA := aA.ch lr.ch
  replace ck := ck.ch lr.ch
  replace bN := bN.ch lr.ch
  replace bB := bB.ch lr.ch
  replace aQ := aQ.ch lr.ch
  replace hO := lr.own
  replace cr := cr.ch lr.ch
  replace ct := ct.ch lr.ch
  replace b8 := b8.ch lr.ch
  replace d5 := d5.ch lr.ch
  replace fC := fC.ch lr.ch
  replace hB := hB.trans lr.fr
  refine GoR.nil ?_
  refine Go1.seq ?_
  refine Go1.cut [(0, .pointer (some ⟨dV, 0, none⟩)), (2, .int .i64 a0.Enum.Done), (3, .int .i64 (k1_12 : Int)), (4, .string (gstr ((ix d_40 a0.Enum.Done) ++ (chr (IntKind.i32.wrap ((97 : Int) + (k1_12 : Int))))))), (5, .int .i64 (ix (ix a0.Enum.Right (ix d_46 a0.Enum.Done)) (k1_12 : Int))), (13, .int .i64 (d_16.length : Int))] ⟨rfl, rfl, rfl, rfl, rfl, rfl, trivial⟩ ?_
  intro σ _
  refine Go1.region ?_
  refine GoR.op ((op_move rfl) _) rfl rfl ?_
  refine GoR.op ((op_move rfl) _) rfl rfl ?_
  refine GoR.op ((op_nilCheck rfl) _) rfl rfl ?_
  refine GoR.op ((op_fieldAddr Try.underlying72 rfl ti29 rfl (by decide)) _) rfl rfl ?_
  refine GoR.op ((op_fieldAddr Try.underlying29 rfl ti26 rfl (by decide)) _) rfl rfl ?_
  refine GoR.op ((oblk (i := 4) 1 hO rfl rfl Try.underlying26 rfl rfl) _ (Same.refl _)) rfl rfl ?_
  refine GoR.op ((op_move rfl) _) rfl rfl ?_
  have hobt := obuild (r := Rp.int .i64) (n := 1) (parts := [(0, .int .i64 a0.Enum.Done)]) (vs := [.int .i64 a0.Enum.Done]) (xs := [a0.Enum.Done]) rfl Try.underlying26 ti3 hO (by decide) (by kernel_rfl) (Els.cons rfl rfl (Els.nil _ _ _) (by simp [mx])) rfl
  obtain ⟨Oe, Og, i7, Hk, KT, Eh⟩ := hobt
  refine GoR.op (Eh rfl) rfl rfl ?_
  replace cj := cj.ch i7.ch
  replace az := az.ch i7.ch
  replace fJ := fJ.ch i7.ch
  replace cJ := cJ.ch i7.ch
  replace cC := cC.ch i7.ch
  replace aA := aA.ch i7.ch
  replace ck := ck.ch i7.ch
  replace bN := bN.ch i7.ch
  replace bB := bB.ch i7.ch
  replace aQ := aQ.ch i7.ch
  replace hO := i7.own
  replace cr := cr.ch i7.ch
  replace ct := ct.ch i7.ch
  replace b8 := b8.ch i7.ch
  replace d5 := d5.ch i7.ch
  replace fC := fC.ch i7.ch
  replace hB := hB.trans i7.fr
  have hobt := freeze 0 hO rfl Hk
  obtain ⟨hO1, ov, gZ, Hl⟩ := hobt
  dsimp only [eS, eZ] at hO1 ov gZ
  replace cr := cr.ch ov
  replace ct := ct.ch ov
  replace b8 := b8.ch ov
  replace d5 := d5.ch ov
  replace fC := fC.ch ov
  replace cj := cj.ch ov
  replace az := az.ch ov
  replace fJ := fJ.ch ov
  replace cJ := cJ.ch ov
  replace cC := cC.ch ov
  replace aA := aA.ch ov
  replace ck := ck.ch ov
  replace bN := bN.ch ov
  replace bB := bB.ch ov
  replace aQ := aQ.ch ov
  replace hB := hB.trans (Owns.dropFr _ _ 0)
  dsimp only [eS, eZ] at hB
  replace hO := hO1; clear hO1
  obtain ⟨JW, H⟩ := H
  have hobt := oapp Try.underlying26 ti3 rfl 4 hO rfl cJ gZ Hl JW (by decide)
  obtain ⟨Oh, yc, yd, Hm, iL, gW, Ei⟩ := hobt
  dsimp only [sS, sZ] at iL gW
  refine GoR.op (Ei (by exact rfl) (by exact rfl)) rfl rfl ?_
  replace cj := cj.ch iL.ch
  replace az := az.ch iL.ch
  replace fJ := fJ.ch iL.ch
  replace cC := cC.ch iL.ch
  replace aA := aA.ch iL.ch
  replace ck := ck.ch iL.ch
  replace bN := bN.ch iL.ch
  replace bB := bB.ch iL.ch
  replace aQ := aQ.ch iL.ch
  replace hO := iL.own
  replace cr := cr.ch iL.ch
  replace ct := ct.ch iL.ch
  replace b8 := b8.ch iL.ch
  replace d5 := d5.ch iL.ch
  replace fC := fC.ch iL.ch
  replace gZ := gZ.ch iL.ch
  replace hB := hB.trans iL.fr
  refine GoR.op ((op_nilCheck rfl) _) rfl rfl ?_
  refine GoR.op ((op_fieldAddr Try.underlying72 rfl ti29 rfl (by decide)) _) rfl rfl ?_
  refine GoR.op ((op_fieldAddr Try.underlying29 rfl ti26 rfl (by decide)) _) rfl rfl ?_
  have hobt := oblkSt2 (v := .slice yc (n27 + 1) yd) (i := 4) (cs' := #[.int .i64 a0.Enum.Points, .bool a0.Enum.Monoid, .slice bg bf bh, .slice xb (n21 + 1) xc, .slice yc (n27 + 1) yd, .slice p31 n33 c32, .slice bx bk bz, .slice p37 n39 c38, .int .i64 a0.Enum.Done, .map (some bA), .slice p43 n45 c44, .slice p49 n51 c50, .slice b6 b5 b7]) 1 hO rfl rfl rfl rfl
  obtain ⟨Oi, kD, Ej⟩ := hobt
  dsimp only [sS, sZ] at kD
  refine GoR.op (Ej Try.underlying26 rfl ti26 (by exact rfl) (by exact rfl)) rfl rfl ?_
  replace cj := cj.ch kD.ch
  replace az := az.ch kD.ch
  replace fJ := fJ.ch kD.ch
  replace gW := gW.ch kD.ch
  replace cC := cC.ch kD.ch
  replace aA := aA.ch kD.ch
  replace ck := ck.ch kD.ch
  replace bN := bN.ch kD.ch
  replace bB := bB.ch kD.ch
  replace aQ := aQ.ch kD.ch
  replace hO := kD.own
  replace cr := cr.ch kD.ch
  replace ct := ct.ch kD.ch
  replace b8 := b8.ch kD.ch
  replace d5 := d5.ch kD.ch
  replace fC := fC.ch kD.ch
  replace gZ := gZ.ch kD.ch
  replace hB := hB.trans kD.fr
  refine GoR.nil ?_
  refine Go1.seq ?_
  refine Go1.region ?_
  refine GoR.op ((op_move rfl) _) rfl rfl ?_
  refine GoR.op ((op_move rfl) _) rfl rfl ?_
  refine GoR.op ((op_nilCheck rfl) _) rfl rfl ?_
  refine GoR.op ((op_fieldAddr Try.underlying72 rfl ti29 rfl (by decide)) _) rfl rfl ?_
  refine GoR.op ((op_fieldAddr Try.underlying29 rfl ti26 rfl (by decide)) _) rfl rfl ?_
  refine GoR.op ((oblk (i := 5) 1 hO rfl rfl Try.underlying26 rfl rfl) _ (Same.refl _)) rfl rfl ?_
  refine GoR.op ((op_move rfl) _) rfl rfl ?_
  have hobt := obuild (r := Rp.int .i64) (n := 1) (parts := [(0, .int .i64 (k1_12 : Int))]) (vs := [.int .i64 (k1_12 : Int)]) (xs := [(k1_12 : Int)]) rfl Try.underlying26 ti3 hO (by decide) (by kernel_rfl) (Els.cons rfl rfl (Els.nil _ _ _) (by simp [mx])) rfl
  obtain ⟨Oj, Ok, lv, Hn, KU, Ek⟩ := hobt
  refine GoR.op (Ek rfl) rfl rfl ?_
  replace cj := cj.ch lv.ch
  replace az := az.ch lv.ch
  replace fJ := fJ.ch lv.ch
  replace gW := gW.ch lv.ch
  replace cC := cC.ch lv.ch
  replace aA := aA.ch lv.ch
  replace ck := ck.ch lv.ch
  replace bN := bN.ch lv.ch
  replace bB := bB.ch lv.ch
  replace aQ := aQ.ch lv.ch
  replace hO := lv.own
  replace cr := cr.ch lv.ch
  replace ct := ct.ch lv.ch
  replace b8 := b8.ch lv.ch
  replace d5 := d5.ch lv.ch
  replace fC := fC.ch lv.ch
  replace gZ := gZ.ch lv.ch
  replace hB := hB.trans lv.fr
  have hobt := freeze 0 hO rfl Hn
  obtain ⟨hO1, n8, ka, Ho⟩ := hobt
  dsimp only [eS, eZ] at hO1 n8 ka
  replace cr := cr.ch n8
  replace ct := ct.ch n8
  replace b8 := b8.ch n8
  replace d5 := d5.ch n8
  replace fC := fC.ch n8
  replace gZ := gZ.ch n8
  replace cj := cj.ch n8
  replace az := az.ch n8
  replace fJ := fJ.ch n8
  replace gW := gW.ch n8
  replace cC := cC.ch n8
  replace aA := aA.ch n8
  replace ck := ck.ch n8
  replace bN := bN.ch n8
  replace bB := bB.ch n8
  replace aQ := aQ.ch n8
  replace hB := hB.trans (Owns.dropFr _ _ 0)
  dsimp only [eS, eZ] at hB
  replace hO := hO1; clear hO1
  obtain ⟨JX, H⟩ := H
  have hobt := oapp Try.underlying26 ti3 rfl 5 hO rfl cC ka Ho JX (by decide)
  obtain ⟨Ol, zb, zc, Hp, kE, la, El⟩ := hobt
  dsimp only [sS, sZ] at kE la
  refine GoR.op (El (by exact rfl) (by exact rfl)) rfl rfl ?_
  replace cj := cj.ch kE.ch
  replace az := az.ch kE.ch
  replace fJ := fJ.ch kE.ch
  replace gW := gW.ch kE.ch
  replace aA := aA.ch kE.ch
  replace ck := ck.ch kE.ch
  replace bN := bN.ch kE.ch
  replace bB := bB.ch kE.ch
  replace aQ := aQ.ch kE.ch
  replace hO := kE.own
  replace cr := cr.ch kE.ch
  replace ct := ct.ch kE.ch
  replace b8 := b8.ch kE.ch
  replace d5 := d5.ch kE.ch
  replace fC := fC.ch kE.ch
  replace gZ := gZ.ch kE.ch
  replace ka := ka.ch kE.ch
  replace hB := hB.trans kE.fr
  refine GoR.op ((op_nilCheck rfl) _) rfl rfl ?_
  refine GoR.op ((op_fieldAddr Try.underlying72 rfl ti29 rfl (by decide)) _) rfl rfl ?_
  refine GoR.op ((op_fieldAddr Try.underlying29 rfl ti26 rfl (by decide)) _) rfl rfl ?_
  have hobt := oblkSt2 (v := .slice zb (n33 + 1) zc) (i := 5) (cs' := #[.int .i64 a0.Enum.Points, .bool a0.Enum.Monoid, .slice bg bf bh, .slice xb (n21 + 1) xc, .slice yc (n27 + 1) yd, .slice zb (n33 + 1) zc, .slice bx bk bz, .slice p37 n39 c38, .int .i64 a0.Enum.Done, .map (some bA), .slice p43 n45 c44, .slice p49 n51 c50, .slice b6 b5 b7]) 1 hO rfl rfl rfl rfl
  obtain ⟨Om, j5, Em⟩ := hobt
  dsimp only [sS, sZ] at j5
  refine GoR.op (Em Try.underlying26 rfl ti26 (by exact rfl) (by exact rfl)) rfl rfl ?_
  replace cj := cj.ch j5.ch
  replace az := az.ch j5.ch
  replace fJ := fJ.ch j5.ch
  replace gW := gW.ch j5.ch
  replace la := la.ch j5.ch
  replace aA := aA.ch j5.ch
  replace ck := ck.ch j5.ch
  replace bN := bN.ch j5.ch
  replace bB := bB.ch j5.ch
  replace aQ := aQ.ch j5.ch
  replace hO := j5.own
  replace cr := cr.ch j5.ch
  replace ct := ct.ch j5.ch
  replace b8 := b8.ch j5.ch
  replace d5 := d5.ch j5.ch
  replace fC := fC.ch j5.ch
  replace gZ := gZ.ch j5.ch
  replace ka := ka.ch j5.ch
  replace hB := hB.trans j5.fr
  refine GoR.nil ?_
  refine Go1.seq ?_
  refine Go1.cut [(0, .pointer (some ⟨dV, 0, none⟩)), (4, .string (gstr ((ix d_40 a0.Enum.Done) ++ (chr (IntKind.i32.wrap ((97 : Int) + (k1_12 : Int))))))), (5, .int .i64 (ix (ix a0.Enum.Right (ix d_46 a0.Enum.Done)) (k1_12 : Int))), (13, .int .i64 (d_16.length : Int))] ⟨rfl, rfl, rfl, rfl, trivial⟩ ?_
  intro σ _
  refine Go1.region ?_
  refine GoR.op ((op_move rfl) _) rfl rfl ?_
  refine GoR.op ((op_move rfl) _) rfl rfl ?_
  refine GoR.op ((op_nilCheck rfl) _) rfl rfl ?_
  refine GoR.op ((op_fieldAddr Try.underlying72 rfl ti70 rfl (by decide)) _) rfl rfl ?_
  refine GoR.op ((oblk (i := 10) 1 hO rfl rfl Try.underlying70 rfl rfl) _ (Same.refl _)) rfl rfl ?_
  refine GoR.op ((op_move rfl) _) rfl rfl ?_
  have hobt := obuild (r := Rp.str) (n := 1) (parts := [(0, .string (gstr ((ix d_40 a0.Enum.Done) ++ (chr (IntKind.i32.wrap ((97 : Int) + (k1_12 : Int)))))))]) (vs := [.string (gstr ((ix d_40 a0.Enum.Done) ++ (chr (IntKind.i32.wrap ((97 : Int) + (k1_12 : Int))))))]) (xs := [(ix d_40 a0.Enum.Done) ++ (chr (IntKind.i32.wrap ((97 : Int) + (k1_12 : Int))))]) rfl Try.underlying70 ti9 hO (by decide) (by kernel_rfl) (Els.cons rfl ⟨rfl, (lenApp BE)⟩ (Els.nil _ _ _) (by simp [mx])) rfl
  obtain ⟨On, Oo, kF, Hq, KV, y5⟩ := hobt
  refine GoR.op (y5 rfl) rfl rfl ?_
  replace cj := cj.ch kF.ch
  replace az := az.ch kF.ch
  replace fJ := fJ.ch kF.ch
  replace gW := gW.ch kF.ch
  replace la := la.ch kF.ch
  replace aA := aA.ch kF.ch
  replace ck := ck.ch kF.ch
  replace bN := bN.ch kF.ch
  replace bB := bB.ch kF.ch
  replace aQ := aQ.ch kF.ch
  replace hO := kF.own
  replace cr := cr.ch kF.ch
  replace ct := ct.ch kF.ch
  replace b8 := b8.ch kF.ch
  replace d5 := d5.ch kF.ch
  replace fC := fC.ch kF.ch
  replace gZ := gZ.ch kF.ch
  replace ka := ka.ch kF.ch
  replace hB := hB.trans kF.fr
  have hobt := freeze 0 hO rfl Hq
  obtain ⟨hO1, nM, ow, Hr⟩ := hobt
  dsimp only [eS, eZ] at hO1 nM ow
  replace cr := cr.ch nM
  replace ct := ct.ch nM
  replace b8 := b8.ch nM
  replace d5 := d5.ch nM
  replace fC := fC.ch nM
  replace gZ := gZ.ch nM
  replace ka := ka.ch nM
  replace cj := cj.ch nM
  replace az := az.ch nM
  replace fJ := fJ.ch nM
  replace gW := gW.ch nM
  replace la := la.ch nM
  replace aA := aA.ch nM
  replace ck := ck.ch nM
  replace bN := bN.ch nM
  replace bB := bB.ch nM
  replace aQ := aQ.ch nM
  replace hB := hB.trans (Owns.dropFr _ _ 0)
  dsimp only [eS, eZ] at hB
  replace hO := hO1; clear hO1
  obtain ⟨JY, H⟩ := H
  have hobt := oapp Try.underlying70 ti9 rfl 8 hO rfl bN ow Hr JY (by decide)
  obtain ⟨Oq, Ao, Ap, Hs, j6, q9, En⟩ := hobt
  dsimp only [sS, sZ] at j6 q9
  refine GoR.op (En (by exact rfl) (by exact rfl)) rfl rfl ?_
  replace cj := cj.ch j6.ch
  replace az := az.ch j6.ch
  replace fJ := fJ.ch j6.ch
  replace gW := gW.ch j6.ch
  replace la := la.ch j6.ch
  replace aA := aA.ch j6.ch
  replace ck := ck.ch j6.ch
  replace bB := bB.ch j6.ch
  replace aQ := aQ.ch j6.ch
  replace hO := j6.own
  replace cr := cr.ch j6.ch
  replace ct := ct.ch j6.ch
  replace b8 := b8.ch j6.ch
  replace d5 := d5.ch j6.ch
  replace fC := fC.ch j6.ch
  replace gZ := gZ.ch j6.ch
  replace ka := ka.ch j6.ch
  replace ow := ow.ch j6.ch
  replace hB := hB.trans j6.fr
  refine GoR.op ((op_nilCheck rfl) _) rfl rfl ?_
  refine GoR.op ((op_fieldAddr Try.underlying72 rfl ti70 rfl (by decide)) _) rfl rfl ?_
  have hobt := oblkSt2 (v := .slice Ao (n45 + 1) Ap) (i := 10) (cs' := #[.int .i64 a0.Enum.Points, .bool a0.Enum.Monoid, .slice bg bf bh, .slice xb (n21 + 1) xc, .slice yc (n27 + 1) yd, .slice zb (n33 + 1) zc, .slice bx bk bz, .slice p37 n39 c38, .int .i64 a0.Enum.Done, .map (some bA), .slice Ao (n45 + 1) Ap, .slice p49 n51 c50, .slice b6 b5 b7]) 1 hO rfl rfl rfl rfl
  obtain ⟨Os, jk, Eo⟩ := hobt
  dsimp only [sS, sZ] at jk
  refine GoR.op (Eo Try.underlying70 rfl ti70 (by exact rfl) (by exact rfl)) rfl rfl ?_
  replace cj := cj.ch jk.ch
  replace az := az.ch jk.ch
  replace fJ := fJ.ch jk.ch
  replace gW := gW.ch jk.ch
  replace la := la.ch jk.ch
  replace aA := aA.ch jk.ch
  replace ck := ck.ch jk.ch
  replace q9 := q9.ch jk.ch
  replace bB := bB.ch jk.ch
  replace aQ := aQ.ch jk.ch
  replace hO := jk.own
  replace cr := cr.ch jk.ch
  replace ct := ct.ch jk.ch
  replace b8 := b8.ch jk.ch
  replace d5 := d5.ch jk.ch
  replace fC := fC.ch jk.ch
  replace gZ := gZ.ch jk.ch
  replace ka := ka.ch jk.ch
  replace ow := ow.ch jk.ch
  replace hB := hB.trans jk.fr
  refine GoR.nil ?_
  refine Go1.seq ?_
  refine Go1.region ?_
  refine GoR.op ((op_move rfl) _) rfl rfl ?_
  refine GoR.op ((op_move rfl) _) rfl rfl ?_
  refine GoR.op ((op_nilCheck rfl) _) rfl rfl ?_
  refine GoR.op ((op_fieldAddr Try.underlying72 rfl ti26 rfl (by decide)) _) rfl rfl ?_
  refine GoR.op ((oblk (i := 11) 1 hO rfl rfl Try.underlying26 rfl rfl) _ (Same.refl _)) rfl rfl ?_
  refine GoR.op ((op_move rfl) _) rfl rfl ?_
  have hobt := obuild (r := Rp.int .i64) (n := 1) (parts := [(0, .int .i64 (ix (ix a0.Enum.Right (ix d_46 a0.Enum.Done)) (k1_12 : Int)))]) (vs := [.int .i64 (ix (ix a0.Enum.Right (ix d_46 a0.Enum.Done)) (k1_12 : Int))]) (xs := [(ix (ix a0.Enum.Right (ix d_46 a0.Enum.Done)) (k1_12 : Int))]) rfl Try.underlying26 ti3 hO (by decide) (by kernel_rfl) (Els.cons rfl rfl (Els.nil _ _ _) (by simp [mx])) rfl
  obtain ⟨Ot, Ou, j7, Ht, KW, Ep⟩ := hobt
  refine GoR.op (Ep rfl) rfl rfl ?_
  replace cj := cj.ch j7.ch
  replace az := az.ch j7.ch
  replace fJ := fJ.ch j7.ch
  replace gW := gW.ch j7.ch
  replace la := la.ch j7.ch
  replace aA := aA.ch j7.ch
  replace ck := ck.ch j7.ch
  replace q9 := q9.ch j7.ch
  replace bB := bB.ch j7.ch
  replace aQ := aQ.ch j7.ch
  replace hO := j7.own
  replace cr := cr.ch j7.ch
  replace ct := ct.ch j7.ch
  replace b8 := b8.ch j7.ch
  replace d5 := d5.ch j7.ch
  replace fC := fC.ch j7.ch
  replace gZ := gZ.ch j7.ch
  replace ka := ka.ch j7.ch
  replace ow := ow.ch j7.ch
  replace hB := hB.trans j7.fr
  have hobt := freeze 0 hO rfl Ht
  obtain ⟨hO1, nf, uo, Hu⟩ := hobt
  dsimp only [eS, eZ] at hO1 nf uo
  replace cr := cr.ch nf
  replace ct := ct.ch nf
  replace b8 := b8.ch nf
  replace d5 := d5.ch nf
  replace fC := fC.ch nf
  replace gZ := gZ.ch nf
  replace ka := ka.ch nf
  replace ow := ow.ch nf
  replace cj := cj.ch nf
  replace az := az.ch nf
  replace fJ := fJ.ch nf
  replace gW := gW.ch nf
  replace la := la.ch nf
  replace aA := aA.ch nf
  replace ck := ck.ch nf
  replace q9 := q9.ch nf
  replace bB := bB.ch nf
  replace aQ := aQ.ch nf
  replace hB := hB.trans (Owns.dropFr _ _ 0)
  dsimp only [eS, eZ] at hB
  replace hO := hO1; clear hO1
  obtain ⟨JZ, H⟩ := H
  have hobt := oapp Try.underlying26 ti3 rfl 9 hO rfl bB uo Hu JZ (by decide)
  obtain ⟨Ov, BS, BT, Hv, fD, uj, Er⟩ := hobt
  dsimp only [sS, sZ] at fD uj
  refine GoR.op (Er (by exact rfl) (by exact rfl)) rfl rfl ?_
  replace cj := cj.ch fD.ch
  replace az := az.ch fD.ch
  replace fJ := fJ.ch fD.ch
  replace gW := gW.ch fD.ch
  replace la := la.ch fD.ch
  replace aA := aA.ch fD.ch
  replace ck := ck.ch fD.ch
  replace q9 := q9.ch fD.ch
  replace aQ := aQ.ch fD.ch
  replace hO := fD.own
  replace cr := cr.ch fD.ch
  replace ct := ct.ch fD.ch
  replace b8 := b8.ch fD.ch
  replace d5 := d5.ch fD.ch
  replace fC := fC.ch fD.ch
  replace gZ := gZ.ch fD.ch
  replace ka := ka.ch fD.ch
  replace ow := ow.ch fD.ch
  replace uo := uo.ch fD.ch
  replace hB := hB.trans fD.fr
  refine GoR.op ((op_nilCheck rfl) _) rfl rfl ?_
  refine GoR.op ((op_fieldAddr Try.underlying72 rfl ti26 rfl (by decide)) _) rfl rfl ?_
  have hobt := oblkSt2 (v := .slice BS (n51 + 1) BT) (i := 11) (cs' := #[.int .i64 a0.Enum.Points, .bool a0.Enum.Monoid, .slice bg bf bh, .slice xb (n21 + 1) xc, .slice yc (n27 + 1) yd, .slice zb (n33 + 1) zc, .slice bx bk bz, .slice p37 n39 c38, .int .i64 a0.Enum.Done, .map (some bA), .slice Ao (n45 + 1) Ap, .slice BS (n51 + 1) BT, .slice b6 b5 b7]) 1 hO rfl rfl rfl rfl
  obtain ⟨Ow, je, Et⟩ := hobt
  dsimp only [sS, sZ] at je
  refine GoR.op (Et Try.underlying26 rfl ti26 (by exact rfl) (by exact rfl)) rfl rfl ?_
  replace cj := cj.ch je.ch
  replace az := az.ch je.ch
  replace fJ := fJ.ch je.ch
  replace gW := gW.ch je.ch
  replace la := la.ch je.ch
  replace aA := aA.ch je.ch
  replace ck := ck.ch je.ch
  replace q9 := q9.ch je.ch
  replace uj := uj.ch je.ch
  replace aQ := aQ.ch je.ch
  replace hO := je.own
  replace cr := cr.ch je.ch
  replace ct := ct.ch je.ch
  replace b8 := b8.ch je.ch
  replace d5 := d5.ch je.ch
  replace fC := fC.ch je.ch
  replace gZ := gZ.ch je.ch
  replace ka := ka.ch je.ch
  replace ow := ow.ch je.ch
  replace uo := uo.ch je.ch
  replace hB := hB.trans je.fr
  refine GoR.nil ?_
  refine Go1.seq ?_
  refine Go1.cut [(13, .int .i64 (d_16.length : Int))] ⟨rfl, trivial⟩ ?_
  intro σ _
  refine Go1.region ?_
  refine GoR.op ((op_move rfl) _) rfl rfl ?_
  refine GoR.op ((op_assign rfl) _) rfl rfl ?_
  refine GoR.nil ?_
  refine Go1.ret1V Try.func65 rfl (show _ = .int .i64 (d_16.length : Int) from rfl) ?_
  refine hR377 _ _ ?_
  refine GoR.op ((op_assign rfl) _) rfl rfl ?_
  refine GoR.nil ?_
  refine Go1.inBlock ?_
  refine Go1.region ?_
  refine GoR.op ((op_move rfl) _) rfl rfl ?_
  refine GoR.op ((op_move rfl) _) rfl rfl ?_
  refine GoR.op ((op_move rfl) _) rfl rfl ?_
  obtain ⟨BU, H⟩ := H
  obtain ⟨BV, H⟩ := H
  refine GoR.op ((op_index Try.underlying26 ti3 rfl rfl BU (ltn (cj.neq hO 0 rfl) BV) (cj.psome hO 0 rfl BU BV)) _) rfl rfl ?_
  have hobt := ost (r := Rp.int .i64) rfl 0 hO rfl cj BU BV (v := .int .i64 (d_16.length : Int)) (u := (d_16.length : Int)) rfl rfl
  obtain ⟨Ox, Hw, jl, Ci, Eu⟩ := hobt
  dsimp only [sS, sZ] at jl Ci
  refine GoR.op (Eu Try.underlying3 rfl ti3 (by exact rfl) (by exact rfl)) rfl rfl ?_
  replace az := az.ch jl.ch
  replace fJ := fJ.ch jl.ch
  replace gW := gW.ch jl.ch
  replace la := la.ch jl.ch
  replace aA := aA.ch jl.ch
  replace ck := ck.ch jl.ch
  replace q9 := q9.ch jl.ch
  replace uj := uj.ch jl.ch
  replace aQ := aQ.ch jl.ch
  replace hO := jl.own
  replace cr := cr.ch jl.ch
  replace ct := ct.ch jl.ch
  replace b8 := b8.ch jl.ch
  replace d5 := d5.ch jl.ch
  replace fC := fC.ch jl.ch
  replace gZ := gZ.ch jl.ch
  replace ka := ka.ch jl.ch
  replace ow := ow.ch jl.ch
  replace uo := uo.ch jl.ch
  replace hB := hB.trans jl.fr
  refine GoR.nil ?_
  refine Go1.inBlock ?_
  refine Go1.region ?_
  refine GoR.op ((op_add rfl rfl (wrap_i64 (natbd h53 az.bd))) _) rfl rfl ?_
  refine GoR.op ((op_move rfl) _) rfl rfl ?_
  refine GoR.nil ?_
  exact hX1 _ H _ _ ⟨Hw, n21 + 1, xb, xc, Hj, n27 + 1, yc, yd, Hm, n33 + 1, zb, zc, Hp, n39, p37, c38, nz, n45 + 1, Ao, Ap, Hs, n51 + 1, BS, BT, Hv, ⟨rfl, rfl, rfl, rfl, rfl, rfl, trivial⟩, hO, Ci, az, fJ, gW, la, aA, ck, q9, uj, aQ, hB⟩
 replace H := ifn h53 H
 refine GoR.op ((fun w => opB (op_lss rfl rfl w) (decide_eq_false h53)) _) rfl rfl ?_
 refine GoR.nil ?_
 refine Go1.seq ?_
 refine Go1.condF rfl rfl ?_
 refine Go1.exit rfl ?_
 refine Go1.seq ?_
 refine Go1.region ?_
 refine GoR.op ((op_move rfl) _) rfl rfl ?_
 refine GoR.op ((op_move rfl) _) rfl rfl ?_
 refine GoR.op ((op_nilCheck rfl) _) rfl rfl ?_
 refine GoR.op ((op_fieldAddr Try.underlying72 rfl ti29 rfl (by decide)) _) rfl rfl ?_
 refine GoR.op ((op_fieldAddr Try.underlying29 rfl ti22 rfl (by decide)) _) rfl rfl ?_
 refine GoR.op ((oblk (i := 6) 1 hO rfl rfl Try.underlying22 rfl rfl) _ (Same.refl _)) rfl rfl ?_
 refine GoR.op ((op_move rfl) _) rfl rfl ?_
 have hobt := freeze 0 hO rfl cj
 obtain ⟨hO1, tq, sn, Hx⟩ := hobt
 dsimp only [eS, eZ] at hO1 tq sn
 replace az := az.ch tq
 replace dj := dj.ch tq
 replace cJ := cJ.ch tq
 replace cC := cC.ch tq
 replace aA := aA.ch tq
 replace ck := ck.ch tq
 replace bN := bN.ch tq
 replace bB := bB.ch tq
 replace aQ := aQ.ch tq
 replace hB := hB.trans (Owns.dropFr _ _ 0)
 dsimp only [eS, eZ] at hB
 replace hO := hO1; clear hO1
 have hobt := obuild (r := Rp.sl (Rp.int .i64)) (n := 1) (parts := [(0, .slice p2 a0.Enum.Gens.length a0.Enum.Gens.length)]) (vs := [.slice p2 a0.Enum.Gens.length a0.Enum.Gens.length]) (xs := [d_13]) rfl Try.underlying22 ti26 hO (by decide) (by kernel_rfl) (Els.cons rfl ⟨p2, a0.Enum.Gens.length, congrArg some (congrArg (fun nn => Value.slice p2 nn a0.Enum.Gens.length) Hx), sn⟩ (Els.nil _ _ _) (by simp [mx])) rfl
 obtain ⟨Oy, Oz, qx, Hy, KX, y6⟩ := hobt
 refine GoR.op (y6 rfl) rfl rfl ?_
 replace az := az.ch qx.ch
 replace dj := dj.ch qx.ch
 replace cJ := cJ.ch qx.ch
 replace cC := cC.ch qx.ch
 replace aA := aA.ch qx.ch
 replace ck := ck.ch qx.ch
 replace bN := bN.ch qx.ch
 replace bB := bB.ch qx.ch
 replace aQ := aQ.ch qx.ch
 replace hO := qx.own
 replace sn := sn.ch qx.ch
 replace hB := hB.trans qx.fr
 have hobt := freeze 0 hO rfl Hy
 obtain ⟨hO1, sI, uq, Hz⟩ := hobt
 dsimp only [eS, eZ] at hO1 sI uq
 replace sn := sn.ch sI
 replace az := az.ch sI
 replace dj := dj.ch sI
 replace cJ := cJ.ch sI
 replace cC := cC.ch sI
 replace aA := aA.ch sI
 replace ck := ck.ch sI
 replace bN := bN.ch sI
 replace bB := bB.ch sI
 replace aQ := aQ.ch sI
 replace hB := hB.trans (Owns.dropFr _ _ 0)
 dsimp only [eS, eZ] at hB
 replace hO := hO1; clear hO1
 obtain ⟨J0, H⟩ := H
 have hobt := oapp Try.underlying22 ti26 rfl 5 hO rfl aA uq Hz J0 (by decide)
 obtain ⟨OA, Aq, Ar, HA, oS, wj, Ev⟩ := hobt
 dsimp only [sS, sZ] at oS wj
 refine GoR.op (Ev (by exact rfl) (by exact rfl)) rfl rfl ?_
 replace az := az.ch oS.ch
 replace dj := dj.ch oS.ch
 replace cJ := cJ.ch oS.ch
 replace cC := cC.ch oS.ch
 replace ck := ck.ch oS.ch
 replace bN := bN.ch oS.ch
 replace bB := bB.ch oS.ch
 replace aQ := aQ.ch oS.ch
 replace hO := oS.own
 replace sn := sn.ch oS.ch
 replace uq := uq.ch oS.ch
 replace hB := hB.trans oS.fr
 refine GoR.op ((op_nilCheck rfl) _) rfl rfl ?_
 refine GoR.op ((op_fieldAddr Try.underlying72 rfl ti29 rfl (by decide)) _) rfl rfl ?_
 refine GoR.op ((op_fieldAddr Try.underlying29 rfl ti22 rfl (by decide)) _) rfl rfl ?_
 have hobt := oblkSt2 (v := .slice Aq (bk + 1) Ar) (i := 6) (cs' := #[.int .i64 a0.Enum.Points, .bool a0.Enum.Monoid, .slice bg bf bh, .slice p19 n21 c20, .slice p25 n27 c26, .slice p31 n33 c32, .slice Aq (bk + 1) Ar, .slice p37 n39 c38, .int .i64 a0.Enum.Done, .map (some bA), .slice p43 n45 c44, .slice p49 n51 c50, .slice b6 b5 b7]) 0 hO rfl rfl rfl rfl
 obtain ⟨OB, n9, Ew⟩ := hobt
 dsimp only [sS, sZ] at n9
 refine GoR.op (Ew Try.underlying22 rfl ti22 (by exact rfl) (by exact rfl)) rfl rfl ?_
 replace az := az.ch n9.ch
 replace dj := dj.ch n9.ch
 replace cJ := cJ.ch n9.ch
 replace cC := cC.ch n9.ch
 replace wj := wj.ch n9.ch
 replace ck := ck.ch n9.ch
 replace bN := bN.ch n9.ch
 replace bB := bB.ch n9.ch
 replace aQ := aQ.ch n9.ch
 replace hO := n9.own
 replace sn := sn.ch n9.ch
 replace uq := uq.ch n9.ch
 replace hB := hB.trans n9.fr
 refine GoR.nil ?_
 refine Go1.seq ?_
 refine Go1.cut [(0, .pointer (some ⟨dV, 0, none⟩))] ⟨rfl, trivial⟩ ?_
 intro σ _
 refine Go1.region ?_
 refine GoR.op ((op_move rfl) _) rfl rfl ?_
 refine GoR.op ((op_nilCheck rfl) _) rfl rfl ?_
 refine GoR.op ((op_fieldAddr Try.underlying72 rfl ti29 rfl (by decide)) _) rfl rfl ?_
 refine GoR.op ((op_fieldAddr Try.underlying29 rfl ti3 rfl (by decide)) _) rfl rfl ?_
 refine GoR.op ((oblk (i := 8) 0 hO rfl rfl Try.underlying3 rfl rfl) _ (Same.refl _)) rfl rfl ?_
 obtain ⟨J1, H⟩ := H
 refine GoR.op ((op_add rfl rfl (wrap_i64 J1)) _) rfl rfl ?_
 refine GoR.op ((op_nilCheck rfl) _) rfl rfl ?_
 refine GoR.op ((op_fieldAddr Try.underlying72 rfl ti29 rfl (by decide)) _) rfl rfl ?_
 refine GoR.op ((op_fieldAddr Try.underlying29 rfl ti3 rfl (by decide)) _) rfl rfl ?_
 have hobt := oblkSt2 (v := .int .i64 (a0.Enum.Done + (1 : Int))) (i := 8) (cs' := #[.int .i64 a0.Enum.Points, .bool a0.Enum.Monoid, .slice bg bf bh, .slice p19 n21 c20, .slice p25 n27 c26, .slice p31 n33 c32, .slice Aq (bk + 1) Ar, .slice p37 n39 c38, .int .i64 (a0.Enum.Done + (1 : Int)), .map (some bA), .slice p43 n45 c44, .slice p49 n51 c50, .slice b6 b5 b7]) 0 hO rfl rfl rfl rfl
 obtain ⟨OC, fT, Ex⟩ := hobt
 dsimp only [sS, sZ] at fT
 refine GoR.op (Ex Try.underlying3 rfl ti3 (by exact rfl) (by exact rfl)) rfl rfl ?_
 replace az := az.ch fT.ch
 replace dj := dj.ch fT.ch
 replace cJ := cJ.ch fT.ch
 replace cC := cC.ch fT.ch
 replace wj := wj.ch fT.ch
 replace ck := ck.ch fT.ch
 replace bN := bN.ch fT.ch
 replace bB := bB.ch fT.ch
 replace aQ := aQ.ch fT.ch
 replace hO := fT.own
 replace sn := sn.ch fT.ch
 replace uq := uq.ch fT.ch
 replace hB := hB.trans fT.fr
 refine GoR.nil ?_
 refine Go1.seq ?_
 refine Go1.region ?_
 refine GoR.op ((op_assign rfl) _) rfl rfl ?_
 refine GoR.nil ?_
 refine Go1.ret1 Try.func51 rfl ?_
 exact ⟨((0 : Int)), (⟨(⟨a0.Enum.Points, a0.Enum.Monoid, a0.Enum.Gens, d_16, d_22, d_28, a0.Enum.Right ++ ([d_13]), d_34, (a0.Enum.Done + (1 : Int))⟩ : Enum), m1_52, d_40, d_46, a0.single⟩ : run), bf, bg, bh, cM, n21, p19, c20, mI, n27, p25, c26, nw, n33, p31, c32, ny, (bk + 1), Aq, Ar, HA, n39, p37, c38, nz, n45, p43, c44, eB, n51, p49, c50, eC, b5, b6, b7, dr, rfl, hO, az, dj, cJ, cC, wj, ck, bN, bB, aQ, hB, H⟩
theorem body50 : Body Try.prog 50 := ⟨Try.f50, Try.func50, rfl, by kernel_rfl⟩
theorem body17 : Body Try.prog 17 := ⟨Try.f17, Try.func17, rfl, by kernel_rfl⟩
theorem walk_enumerate_Build {A : List Nat} {w0 : World} {lb : Option Addr} {ld : Nat} {gens : List (List Int)} {monoid : Bool} (hA : ∀ b ∈ A, b < w0.heap.size) (eF : ISl (Rp.sl (Rp.int .i64)) A w0 lb ld gens) {K : Enum → Int → Prop} (H : enumerate_Build gens monoid K) :
    CallsV Try.prog 17 #[.slice lb gens.length ld, .bool monoid] w0 (fun v w' => ∃ (r0 : Enum), ∃ (r1 : Int), ∃ (yn : Option Addr), ∃ (yo : Nat), ∃ (xD : Option Addr), ∃ (xE : Nat), ∃ (wy : Option Addr), ∃ (wz : Nat), ∃ (yp : Option Addr), ∃ (yq : Nat), ∃ (xF : Option Addr), ∃ (xG : Nat), ∃ (xH : Option Addr), ∃ (xI : Nat), v = .tuple #[.agg #[.int .i64 r0.Points, .bool r0.Monoid, .slice yn r0.Gens.length yo, .slice xD r0.Elems.length xE, .slice wy r0.Prefix.length wz, .slice yp r0.Last.length yq, .slice xF r0.Right.length xG, .slice xH r0.Rules.length xI, .int .i64 r0.Done], .int .i64 r1] ∧ Same w0 w' ∧ ISl (Rp.sl (Rp.int .i64)) A w' yn yo r0.Gens ∧ ISl (Rp.sl (Rp.int .i64)) A w' xD xE r0.Elems ∧ ISl (Rp.int .i64) A w' wy wz r0.Prefix ∧ ISl (Rp.int .i64) A w' yp yq r0.Last ∧ ISl (Rp.sl (Rp.int .i64)) A w' xF xG r0.Right ∧ ISl (rpRule) A w' xH xI r0.Rules ∧ K r0 r1) := by
 refine CallsV.of (l := [.slice lb gens.length ld, .bool monoid]) Try.func17 rfl Try.ntmps17 rfl ?_
 have hO := Owns.start hA
 have hB := Fr.refl (bl []) w0
 unfold enumerate_Build at H
 replace eF := eF.ch (Ch.start A w0)
 refine Go1.seq ?_
 refine Go1.region ?_
 have hobt := oalloc (t := 29) (cs := #[.int .i64 (0 : Int), .bool false, .slice none 0 0, .slice none 0 0, .slice none 0 0, .slice none 0 0, .slice none 0 0, .slice none 0 0, .int .i64 (0 : Int)]) ti29 hO rfl
 obtain ⟨w1, B2, gr, hs4, u5⟩ := hobt
 refine GoR.op u5 rfl rfl ?_
 replace hO := gr.own
 replace eF := eF.ch gr.ch
 replace hB := hB.trans gr.fr
 refine GoR.op ((op_assign rfl) _) rfl rfl ?_
 refine GoR.nil ?_
 refine Go1.seq ?_
 refine Go1.region ?_
 refine GoR.op ((op_move rfl) _) rfl rfl ?_
 refine GoR.op ((op_move rfl) _) rfl rfl ?_
 refine GoR.call (op_call body49 rfl (walk_enumerate_begin hO.lt eF H)) rfl rfl ?_
 intro v9 w10 hcase13
 refine Or.elim hcase13 ?_ ?_
 ·refine exE fun r8 => andE fun hv14 => andE fun u6 => fun H => ?_
  subst hv14
  clear hcase13
  replace H := oElimN H
  have sq := Stp.same hO u6
  replace hO := sq.own
  replace eF := eF.ch sq.ch
  replace hB := hB.trans sq.fr
  refine GoR.op ((op_move rfl) _) rfl rfl ?_
  refine GoR.op ((op_extract rfl rfl) _) rfl rfl ?_
  refine GoR.op ((op_extract rfl rfl) _) rfl rfl ?_
  refine GoR.op ((op_assign rfl) _) rfl rfl ?_
  refine GoR.op ((op_assign rfl) _) rfl rfl ?_
  refine GoR.nil ?_
  refine Go1.seq ?_
  refine Go1.seq ?_
  refine Go1.region ?_
  refine GoR.op ((op_move rfl) _) rfl rfl ?_
  by_cases h16 : r8 = (0 : Int)
  ·replace H := ifp h16 H
   refine GoR.op ((fun w => opB (op_neq rfl rfl w) (ndT h16)) _) rfl rfl ?_
   refine GoR.nil ?_
   refine Go1.condF rfl rfl ?_
   refine Go1.skip ?_
   refine Go1.seq ?_
   refine Go1.block ?_
   refine Go1.loopW (S := Unit) (fun s σ w => agrees σ [(4, .pointer (some ⟨B2, 0, none⟩)), (6, .pointer none)] ∧ Owns w0.heap.size w [.blk B2 (.cells #[.int .i64 (0 : Int), .bool false, .slice none 0 0, .slice none 0 0, .slice none 0 0, .slice none 0 0, .slice none 0 0, .slice none 0 0, .int .i64 (0 : Int)] 29 (0, 0))] A ∧ Fr (bl []) w0 (bl [.blk B2 (.cells #[.int .i64 (0 : Int), .bool false, .slice none 0 0, .slice none 0 0, .slice none 0 0, .slice none 0 0, .slice none 0 0, .slice none 0 0, .int .i64 (0 : Int)] 29 (0, 0))]) w) H ⟨⟨rfl, rfl, trivial⟩, hO, hB⟩ ?_
   intro X1 _
   intro H hX1 σ w17
   refine andE fun hag => andE fun hO => fun hB => ?_
   refine Go1.keep [(4, .pointer (some ⟨B2, 0, none⟩)), (6, .pointer none)] hag ?_
   refine Go1.seq ?_
   refine Go1.seq ?_
   refine Go1.region ?_
   refine GoR.op ((op_move rfl) _) rfl rfl ?_
   refine GoR.inl (vs := [.pointer none]) (caps := []) rfl rfl body50 Try.func50 rfl Try.ntmps50 rfl rfl rfl ?_
   intro RhR18 hR18
   refine Go1.seq ?_
   refine Go1.region ?_
   refine GoR.op ((op_assign rfl) _) rfl rfl ?_
   refine GoR.nil ?_
   refine Go1.seq ?_
   refine Go1.drawS 0 [(0, .pure), (1, .pure), (2, .pure), (3, .pure), (4, .stable), (5, .pure), (6, .pure), (7, .pure), (8, .pure), (9, .stable), (10, .pure), (11, .pure), (12, .pure)] mixed (by kernel_rfl) ?_
   intro w19 BW
   have sJ := Stp.same hO BW
   replace hO := sJ.own
   replace hB := hB.trans sJ.fr
   refine GoQ.pure rfl (op_move rfl) rfl rfl ?_
   exact H.elim
  replace H := ifn h16 H
  refine GoR.op ((fun w => opB (op_neq rfl rfl w) (ndF h16)) _) rfl rfl ?_
  refine GoR.nil ?_
  refine Go1.condT rfl rfl ?_
  refine Go1.seq ?_
  refine Go1.region ?_
  refine GoR.op ((op_build Try.underlying29 ti29 (pl := [(0, 1), (1, 1), (2, 1), (3, 1), (4, 1), (5, 1), (6, 1), (7, 1), (8, 1)]) (vs := []) (cs := #[.int .i64 (0 : Int), .bool false, .slice none 0 0, .slice none 0 0, .slice none 0 0, .slice none 0 0, .slice none 0 0, .slice none 0 0, .int .i64 (0 : Int)]) (by kernel_rfl) rfl (by kernel_rfl)) _) rfl rfl ?_
  refine GoR.op ((op_move rfl) _) rfl rfl ?_
  have hobt := oblkStAgg (us := [.int .i64 (0 : Int), .bool false, .slice none 0 0, .slice none 0 0, .slice none 0 0, .slice none 0 0, .slice none 0 0, .slice none 0 0, .int .i64 (0 : Int)]) (o := 0) (cs' := #[.int .i64 (0 : Int), .bool false, .slice none 0 0, .slice none 0 0, .slice none 0 0, .slice none 0 0, .slice none 0 0, .slice none 0 0, .int .i64 (0 : Int)]) 0 hO rfl rfl (Nat.le_of_ble_eq_true rfl) rfl
  obtain ⟨w22, jq, zG⟩ := hobt
  refine GoR.op (zG ti29 (by exact rfl) (by exact rfl) rfl) rfl rfl ?_
  replace hO := jq.own
  replace eF := eF.ch jq.ch
  replace hB := hB.trans jq.fr
  refine GoR.op ((op_assign rfl) _) rfl rfl ?_
  refine GoR.nil ?_
  refine Go1.retC2 Try.func17 rfl rfl (run_loadBlk (vs := [.int .i64 (0 : Int), .bool false, .slice none 0 0, .slice none 0 0, .slice none 0 0, .slice none 0 0, .slice none 0 0, .slice none 0 0, .int .i64 (0 : Int)]) 0 hO rfl rfl Try.underlying29 rfl ti29) ?_
  exact ⟨(⟨(0 : Int), false, ([] : List (List Int)), ([] : List (List Int)), ([] : List Int), ([] : List Int), ([] : List (List Int)), ([] : List Rule), (0 : Int)⟩ : Enum), r8, none, 0, none, 0, none, 0, none, 0, none, 0, none, 0, rfl, hB.same, (ISl.null _ _ _), (ISl.null _ _ _), (ISl.null _ _ _), (ISl.null _ _ _), (ISl.null _ _ _), (ISl.null _ _ _), H⟩
 ·refine exE fun r7 => exE fun r8 => exE fun lZ => exE fun uX => exE fun uY => exE fun uZ => exE fun ur => exE fun ut => exE fun uu => exE fun uv => exE fun ua => exE fun ub => exE fun uc => exE fun ud => exE fun tL => exE fun u0 => exE fun u3 => exE fun u4 => exE fun uw => exE fun ux => exE fun uy => exE fun uz => exE fun ue => exE fun uA => exE fun uB => exE fun uC => exE fun uf => exE fun cI => exE fun xJ => exE fun xK => exE fun xL => exE fun wA => exE fun wB => exE fun wC => exE fun wD => exE fun vS => exE fun wE => exE fun wF => exE fun wG => exE fun vT => andE fun hv25 => andE fun u6 => andE fun hN12 => andE fun g0 => andE fun fP => andE fun fR => andE fun g5 => andE fun gp => andE fun gq => andE fun g6 => andE fun jm => andE fun jo => fun H => ?_
  subst hv25
  clear hcase13
  replace H := oElimS H
  have kX := Stp.more hO u6 hN12
  dsimp only [List.cons_append, List.nil_append] at kX
  replace hO := kX.own
  replace eF := eF.ch kX.ch
  replace hB := hB.trans kX.fr
  replace g0 := g0.ch (Ch.assoc _ _ _ _)
  dsimp only [List.cons_append, List.nil_append] at g0
  replace fP := fP.ch (Ch.assoc _ _ _ _)
  dsimp only [List.cons_append, List.nil_append] at fP
  replace fR := fR.ch (Ch.assoc _ _ _ _)
  dsimp only [List.cons_append, List.nil_append] at fR
  replace g5 := g5.ch (Ch.assoc _ _ _ _)
  dsimp only [List.cons_append, List.nil_append] at g5
  replace gp := gp.ch (Ch.assoc _ _ _ _)
  dsimp only [List.cons_append, List.nil_append] at gp
  replace gq := gq.ch (Ch.assoc _ _ _ _)
  dsimp only [List.cons_append, List.nil_append] at gq
  replace g6 := g6.ch (Ch.assoc _ _ _ _)
  dsimp only [List.cons_append, List.nil_append] at g6
  replace jm := jm.ch (Ch.assoc _ _ _ _)
  dsimp only [List.cons_append, List.nil_append] at jm
  replace jo := jo.ch (Ch.assoc _ _ _ _)
  dsimp only [List.cons_append, List.nil_append] at jo
  refine GoR.op ((op_move rfl) _) rfl rfl ?_
  refine GoR.op ((op_extract rfl rfl) _) rfl rfl ?_
  refine GoR.op ((op_extract rfl rfl) _) rfl rfl ?_
  refine GoR.op ((op_assign rfl) _) rfl rfl ?_
  refine GoR.op ((op_assign rfl) _) rfl rfl ?_
  refine GoR.nil ?_
  refine Go1.seq ?_
  refine Go1.seq ?_
  refine Go1.region ?_
  refine GoR.op ((op_move rfl) _) rfl rfl ?_
  by_cases h38 : r8 = (0 : Int)
  ·replace H := ifp h38 H
   refine GoR.op ((fun w => opB (op_neq rfl rfl w) (ndT h38)) _) rfl rfl ?_
   refine GoR.nil ?_
   refine Go1.condF rfl rfl ?_
   refine Go1.skip ?_
   refine Go1.seq ?_
   refine Go1.block ?_
   refine Go1.loopW (S := Int × Bool × Int × List (List Int) × List (List Int) × List Int × List Int × List (List Int) × List Rule × List Str × List Int × List Int × (List (Str × Int))) (fun s σ w => match s with | (k2_40, b2_41, k2_42, d_43, d_49, d_55, d_61, d_67, d_73, d_79, d_85, d_91, m2_97) => ∃ (n48 : Nat), ∃ (p46 : Option Addr), ∃ (c47 : Nat), ∃ (qF : List Value), ∃ (n54 : Nat), ∃ (p52 : Option Addr), ∃ (c53 : Nat), ∃ (qG : List Value), ∃ (n60 : Nat), ∃ (p58 : Option Addr), ∃ (c59 : Nat), ∃ (qH : List Value), ∃ (n66 : Nat), ∃ (p64 : Option Addr), ∃ (c65 : Nat), ∃ (qI : List Value), ∃ (n72 : Nat), ∃ (p70 : Option Addr), ∃ (c71 : Nat), ∃ (qJ : List Value), ∃ (n78 : Nat), ∃ (p76 : Option Addr), ∃ (c77 : Nat), ∃ (qK : List Value), ∃ (n84 : Nat), ∃ (p82 : Option Addr), ∃ (c83 : Nat), ∃ (oF : List Value), ∃ (n90 : Nat), ∃ (p88 : Option Addr), ∃ (c89 : Nat), ∃ (qL : List Value), ∃ (n96 : Nat), ∃ (p94 : Option Addr), ∃ (c95 : Nat), ∃ (qM : List Value), agrees σ [(4, .pointer (some ⟨B2, 0, none⟩)), (6, .pointer (some ⟨lZ, 0, none⟩))] ∧ Owns w0.heap.size w [.blk lZ (.cells #[.int .i64 k2_40, .bool b2_41, .slice p46 n48 c47, .slice p52 n54 c53, .slice p58 n60 c59, .slice p64 n66 c65, .slice p70 n72 c71, .slice p76 n78 c77, .int .i64 k2_42, .map (some cI), .slice p82 n84 c83, .slice p88 n90 c89, .slice p94 n96 c95] 72 (0, 0)), .row 26 1 p46 n48 c47 qF, .row 26 1 p52 n54 c53 qG, .row 3 1 p58 n60 c59 qH, .row 3 1 p64 n66 c65 qI, .row 26 1 p70 n72 c71 qJ, .row 39 2 p76 n78 c77 qK, .row 9 1 p82 n84 c83 oF, .row 3 1 p88 n90 c89 qL, .row 3 1 p94 n96 c95 qM, .any (mapE (fun a : List UInt8 => Value.string (gstr a)) (fun a : Int => Value.int .i64 a) cI m2_97), .blk B2 (.cells #[.int .i64 (0 : Int), .bool false, .slice none 0 0, .slice none 0 0, .slice none 0 0, .slice none 0 0, .slice none 0 0, .slice none 0 0, .int .i64 (0 : Int)] 29 (0, 0))] A ∧ Els (Rp.sl (Rp.int .i64)) (bl [.blk lZ (.cells #[.int .i64 k2_40, .bool b2_41, .slice p46 n48 c47, .slice p52 n54 c53, .slice p58 n60 c59, .slice p64 n66 c65, .slice p70 n72 c71, .slice p76 n78 c77, .int .i64 k2_42, .map (some cI), .slice p82 n84 c83, .slice p88 n90 c89, .slice p94 n96 c95] 72 (0, 0)), .row 26 1 p46 n48 c47 qF, .row 26 1 p52 n54 c53 qG, .row 3 1 p58 n60 c59 qH, .row 3 1 p64 n66 c65 qI, .row 26 1 p70 n72 c71 qJ, .row 39 2 p76 n78 c77 qK, .row 9 1 p82 n84 c83 oF, .row 3 1 p88 n90 c89 qL, .row 3 1 p94 n96 c95 qM, .any (mapE (fun a : List UInt8 => Value.string (gstr a)) (fun a : Int => Value.int .i64 a) cI m2_97), .blk B2 (.cells #[.int .i64 (0 : Int), .bool false, .slice none 0 0, .slice none 0 0, .slice none 0 0, .slice none 0 0, .slice none 0 0, .slice none 0 0, .int .i64 (0 : Int)] 29 (0, 0))] ++ A) w qF d_43 ∧ Els (Rp.sl (Rp.int .i64)) (bl [.blk lZ (.cells #[.int .i64 k2_40, .bool b2_41, .slice p46 n48 c47, .slice p52 n54 c53, .slice p58 n60 c59, .slice p64 n66 c65, .slice p70 n72 c71, .slice p76 n78 c77, .int .i64 k2_42, .map (some cI), .slice p82 n84 c83, .slice p88 n90 c89, .slice p94 n96 c95] 72 (0, 0)), .row 26 1 p46 n48 c47 qF, .row 26 1 p52 n54 c53 qG, .row 3 1 p58 n60 c59 qH, .row 3 1 p64 n66 c65 qI, .row 26 1 p70 n72 c71 qJ, .row 39 2 p76 n78 c77 qK, .row 9 1 p82 n84 c83 oF, .row 3 1 p88 n90 c89 qL, .row 3 1 p94 n96 c95 qM, .any (mapE (fun a : List UInt8 => Value.string (gstr a)) (fun a : Int => Value.int .i64 a) cI m2_97), .blk B2 (.cells #[.int .i64 (0 : Int), .bool false, .slice none 0 0, .slice none 0 0, .slice none 0 0, .slice none 0 0, .slice none 0 0, .slice none 0 0, .int .i64 (0 : Int)] 29 (0, 0))] ++ A) w qG d_49 ∧ Els (Rp.int .i64) (bl [.blk lZ (.cells #[.int .i64 k2_40, .bool b2_41, .slice p46 n48 c47, .slice p52 n54 c53, .slice p58 n60 c59, .slice p64 n66 c65, .slice p70 n72 c71, .slice p76 n78 c77, .int .i64 k2_42, .map (some cI), .slice p82 n84 c83, .slice p88 n90 c89, .slice p94 n96 c95] 72 (0, 0)), .row 26 1 p46 n48 c47 qF, .row 26 1 p52 n54 c53 qG, .row 3 1 p58 n60 c59 qH, .row 3 1 p64 n66 c65 qI, .row 26 1 p70 n72 c71 qJ, .row 39 2 p76 n78 c77 qK, .row 9 1 p82 n84 c83 oF, .row 3 1 p88 n90 c89 qL, .row 3 1 p94 n96 c95 qM, .any (mapE (fun a : List UInt8 => Value.string (gstr a)) (fun a : Int => Value.int .i64 a) cI m2_97), .blk B2 (.cells #[.int .i64 (0 : Int), .bool false, .slice none 0 0, .slice none 0 0, .slice none 0 0, .slice none 0 0, .slice none 0 0, .slice none 0 0, .int .i64 (0 : Int)] 29 (0, 0))] ++ A) w qH d_55 ∧ Els (Rp.int .i64) (bl [.blk lZ (.cells #[.int .i64 k2_40, .bool b2_41, .slice p46 n48 c47, .slice p52 n54 c53, .slice p58 n60 c59, .slice p64 n66 c65, .slice p70 n72 c71, .slice p76 n78 c77, .int .i64 k2_42, .map (some cI), .slice p82 n84 c83, .slice p88 n90 c89, .slice p94 n96 c95] 72 (0, 0)), .row 26 1 p46 n48 c47 qF, .row 26 1 p52 n54 c53 qG, .row 3 1 p58 n60 c59 qH, .row 3 1 p64 n66 c65 qI, .row 26 1 p70 n72 c71 qJ, .row 39 2 p76 n78 c77 qK, .row 9 1 p82 n84 c83 oF, .row 3 1 p88 n90 c89 qL, .row 3 1 p94 n96 c95 qM, .any (mapE (fun a : List UInt8 => Value.string (gstr a)) (fun a : Int => Value.int .i64 a) cI m2_97), .blk B2 (.cells #[.int .i64 (0 : Int), .bool false, .slice none 0 0, .slice none 0 0, .slice none 0 0, .slice none 0 0, .slice none 0 0, .slice none 0 0, .int .i64 (0 : Int)] 29 (0, 0))] ++ A) w qI d_61 ∧ Els (Rp.sl (Rp.int .i64)) (bl [.blk lZ (.cells #[.int .i64 k2_40, .bool b2_41, .slice p46 n48 c47, .slice p52 n54 c53, .slice p58 n60 c59, .slice p64 n66 c65, .slice p70 n72 c71, .slice p76 n78 c77, .int .i64 k2_42, .map (some cI), .slice p82 n84 c83, .slice p88 n90 c89, .slice p94 n96 c95] 72 (0, 0)), .row 26 1 p46 n48 c47 qF, .row 26 1 p52 n54 c53 qG, .row 3 1 p58 n60 c59 qH, .row 3 1 p64 n66 c65 qI, .row 26 1 p70 n72 c71 qJ, .row 39 2 p76 n78 c77 qK, .row 9 1 p82 n84 c83 oF, .row 3 1 p88 n90 c89 qL, .row 3 1 p94 n96 c95 qM, .any (mapE (fun a : List UInt8 => Value.string (gstr a)) (fun a : Int => Value.int .i64 a) cI m2_97), .blk B2 (.cells #[.int .i64 (0 : Int), .bool false, .slice none 0 0, .slice none 0 0, .slice none 0 0, .slice none 0 0, .slice none 0 0, .slice none 0 0, .int .i64 (0 : Int)] 29 (0, 0))] ++ A) w qJ d_67 ∧ Els (rpRule) (bl [.blk lZ (.cells #[.int .i64 k2_40, .bool b2_41, .slice p46 n48 c47, .slice p52 n54 c53, .slice p58 n60 c59, .slice p64 n66 c65, .slice p70 n72 c71, .slice p76 n78 c77, .int .i64 k2_42, .map (some cI), .slice p82 n84 c83, .slice p88 n90 c89, .slice p94 n96 c95] 72 (0, 0)), .row 26 1 p46 n48 c47 qF, .row 26 1 p52 n54 c53 qG, .row 3 1 p58 n60 c59 qH, .row 3 1 p64 n66 c65 qI, .row 26 1 p70 n72 c71 qJ, .row 39 2 p76 n78 c77 qK, .row 9 1 p82 n84 c83 oF, .row 3 1 p88 n90 c89 qL, .row 3 1 p94 n96 c95 qM, .any (mapE (fun a : List UInt8 => Value.string (gstr a)) (fun a : Int => Value.int .i64 a) cI m2_97), .blk B2 (.cells #[.int .i64 (0 : Int), .bool false, .slice none 0 0, .slice none 0 0, .slice none 0 0, .slice none 0 0, .slice none 0 0, .slice none 0 0, .int .i64 (0 : Int)] 29 (0, 0))] ++ A) w qK d_73 ∧ Els (Rp.str) (bl [.blk lZ (.cells #[.int .i64 k2_40, .bool b2_41, .slice p46 n48 c47, .slice p52 n54 c53, .slice p58 n60 c59, .slice p64 n66 c65, .slice p70 n72 c71, .slice p76 n78 c77, .int .i64 k2_42, .map (some cI), .slice p82 n84 c83, .slice p88 n90 c89, .slice p94 n96 c95] 72 (0, 0)), .row 26 1 p46 n48 c47 qF, .row 26 1 p52 n54 c53 qG, .row 3 1 p58 n60 c59 qH, .row 3 1 p64 n66 c65 qI, .row 26 1 p70 n72 c71 qJ, .row 39 2 p76 n78 c77 qK, .row 9 1 p82 n84 c83 oF, .row 3 1 p88 n90 c89 qL, .row 3 1 p94 n96 c95 qM, .any (mapE (fun a : List UInt8 => Value.string (gstr a)) (fun a : Int => Value.int .i64 a) cI m2_97), .blk B2 (.cells #[.int .i64 (0 : Int), .bool false, .slice none 0 0, .slice none 0 0, .slice none 0 0, .slice none 0 0, .slice none 0 0, .slice none 0 0, .int .i64 (0 : Int)] 29 (0, 0))] ++ A) w oF d_79 ∧ Els (Rp.int .i64) (bl [.blk lZ (.cells #[.int .i64 k2_40, .bool b2_41, .slice p46 n48 c47, .slice p52 n54 c53, .slice p58 n60 c59, .slice p64 n66 c65, .slice p70 n72 c71, .slice p76 n78 c77, .int .i64 k2_42, .map (some cI), .slice p82 n84 c83, .slice p88 n90 c89, .slice p94 n96 c95] 72 (0, 0)), .row 26 1 p46 n48 c47 qF, .row 26 1 p52 n54 c53 qG, .row 3 1 p58 n60 c59 qH, .row 3 1 p64 n66 c65 qI, .row 26 1 p70 n72 c71 qJ, .row 39 2 p76 n78 c77 qK, .row 9 1 p82 n84 c83 oF, .row 3 1 p88 n90 c89 qL, .row 3 1 p94 n96 c95 qM, .any (mapE (fun a : List UInt8 => Value.string (gstr a)) (fun a : Int => Value.int .i64 a) cI m2_97), .blk B2 (.cells #[.int .i64 (0 : Int), .bool false, .slice none 0 0, .slice none 0 0, .slice none 0 0, .slice none 0 0, .slice none 0 0, .slice none 0 0, .int .i64 (0 : Int)] 29 (0, 0))] ++ A) w qL d_85 ∧ Els (Rp.int .i64) (bl [.blk lZ (.cells #[.int .i64 k2_40, .bool b2_41, .slice p46 n48 c47, .slice p52 n54 c53, .slice p58 n60 c59, .slice p64 n66 c65, .slice p70 n72 c71, .slice p76 n78 c77, .int .i64 k2_42, .map (some cI), .slice p82 n84 c83, .slice p88 n90 c89, .slice p94 n96 c95] 72 (0, 0)), .row 26 1 p46 n48 c47 qF, .row 26 1 p52 n54 c53 qG, .row 3 1 p58 n60 c59 qH, .row 3 1 p64 n66 c65 qI, .row 26 1 p70 n72 c71 qJ, .row 39 2 p76 n78 c77 qK, .row 9 1 p82 n84 c83 oF, .row 3 1 p88 n90 c89 qL, .row 3 1 p94 n96 c95 qM, .any (mapE (fun a : List UInt8 => Value.string (gstr a)) (fun a : Int => Value.int .i64 a) cI m2_97), .blk B2 (.cells #[.int .i64 (0 : Int), .bool false, .slice none 0 0, .slice none 0 0, .slice none 0 0, .slice none 0 0, .slice none 0 0, .slice none 0 0, .int .i64 (0 : Int)] 29 (0, 0))] ++ A) w qM d_91 ∧ Fr (bl []) w0 (bl [.blk lZ (.cells #[.int .i64 k2_40, .bool b2_41, .slice p46 n48 c47, .slice p52 n54 c53, .slice p58 n60 c59, .slice p64 n66 c65, .slice p70 n72 c71, .slice p76 n78 c77, .int .i64 k2_42, .map (some cI), .slice p82 n84 c83, .slice p88 n90 c89, .slice p94 n96 c95] 72 (0, 0)), .row 26 1 p46 n48 c47 qF, .row 26 1 p52 n54 c53 qG, .row 3 1 p58 n60 c59 qH, .row 3 1 p64 n66 c65 qI, .row 26 1 p70 n72 c71 qJ, .row 39 2 p76 n78 c77 qK, .row 9 1 p82 n84 c83 oF, .row 3 1 p88 n90 c89 qL, .row 3 1 p94 n96 c95 qM, .any (mapE (fun a : List UInt8 => Value.string (gstr a)) (fun a : Int => Value.int .i64 a) cI m2_97), .blk B2 (.cells #[.int .i64 (0 : Int), .bool false, .slice none 0 0, .slice none 0 0, .slice none 0 0, .slice none 0 0, .slice none 0 0, .slice none 0 0, .int .i64 (0 : Int)] 29 (0, 0))]) w) H ⟨uX, uY, uZ, ur, ut, uu, uv, ua, ub, uc, ud, tL, u0, u3, u4, uw, ux, uy, uz, ue, uA, uB, uC, uf, xJ, xK, xL, wA, wB, wC, wD, vS, wE, wF, wG, vT, ⟨rfl, rfl, trivial⟩, hO, g0, fP, fR, g5, gp, gq, g6, jm, jo, hB⟩ ?_
   intro X2
   refine prE fun k2_40 => prE fun b2_41 => prE fun k2_42 => prE fun d_43 => prE fun d_49 => prE fun d_55 => prE fun d_61 => prE fun d_67 => prE fun d_73 => prE fun d_79 => prE fun d_85 => prE fun d_91 => fun m2_97 => ?_
   intro H hX2 σ w39
   refine exE fun n48 => exE fun p46 => exE fun c47 => exE fun qF => exE fun n54 => exE fun p52 => exE fun c53 => exE fun qG => exE fun n60 => exE fun p58 => exE fun c59 => exE fun qH => exE fun n66 => exE fun p64 => exE fun c65 => exE fun qI => exE fun n72 => exE fun p70 => exE fun c71 => exE fun qJ => exE fun n78 => exE fun p76 => exE fun c77 => exE fun qK => exE fun n84 => exE fun p82 => exE fun c83 => exE fun oF => exE fun n90 => exE fun p88 => exE fun c89 => exE fun qL => exE fun n96 => exE fun p94 => exE fun c95 => exE fun qM => andE fun hag => andE fun hO => andE fun ye => andE fun vj => andE fun uP => andE fun tI => andE fun rM => andE fun rQ => andE fun rq => andE fun rs => andE fun ko => fun hB => ?_
   dsimp only at H
   refine Go1.keep [(4, .pointer (some ⟨B2, 0, none⟩)), (6, .pointer (some ⟨lZ, 0, none⟩))] hag ?_
   refine Go1.seq ?_
   refine Go1.seq ?_
   refine Go1.region ?_
   refine GoR.op ((op_move rfl) _) rfl rfl ?_
   refine GoR.inl (vs := [.pointer (some ⟨lZ, 0, none⟩)]) (caps := []) rfl rfl body50 Try.func50 rfl Try.ntmps50 rfl rfl rfl ?_
   intro RhR98 hR98
   refine Go1.seq ?_
   refine Go1.region ?_
   refine GoR.op ((op_assign rfl) _) rfl rfl ?_
   refine GoR.nil ?_
   refine Go1.seq ?_
   refine Go1.drawS 0 [(0, .pure), (1, .pure), (2, .pure), (3, .pure), (4, .stable), (5, .pure), (6, .pure), (7, .pure), (8, .pure), (9, .stable), (10, .pure), (11, .pure), (12, .pure)] mixed (by kernel_rfl) ?_
   intro w99 HB
   have jX := Stp.same hO HB
   replace ye := ye.ch jX.ch
   replace vj := vj.ch jX.ch
   replace uP := uP.ch jX.ch
   replace tI := tI.ch jX.ch
   replace rM := rM.ch jX.ch
   replace rQ := rQ.ch jX.ch
   replace rq := rq.ch jX.ch
   replace rs := rs.ch jX.ch
   replace ko := ko.ch jX.ch
   replace hO := jX.own
   replace hB := hB.trans jX.fr
   refine GoQ.pure rfl (op_move rfl) rfl rfl ?_
   refine GoQ.pure rfl (op_nilCheck rfl) rfl rfl ?_
   refine GoQ.pure rfl (op_fieldAddr Try.underlying72 rfl ti29 rfl (by decide)) rfl rfl ?_
   refine GoQ.pure rfl (op_fieldAddr Try.underlying29 rfl ti3 rfl (by decide)) rfl rfl ?_
   refine GoQ.stable rfl (oblk (i := 8) 0 hO rfl rfl Try.underlying3 rfl rfl) rfl rfl ?_
   refine GoQ.pure rfl (op_move rfl) rfl rfl ?_
   refine GoQ.pure rfl (op_nilCheck rfl) rfl rfl ?_
   refine GoQ.pure rfl (op_fieldAddr Try.underlying72 rfl ti29 rfl (by decide)) rfl rfl ?_
   refine GoQ.pure rfl (op_fieldAddr Try.underlying29 rfl ti22 rfl (by decide)) rfl rfl ?_
   refine GoQ.stable rfl (oblk (i := 3) 0 hO rfl rfl Try.underlying22 rfl rfl) rfl rfl ?_
   refine GoQ.pure rfl (op_lenN Try.underlying22 rfl (vj.neq hO 2 rfl)) rfl rfl ?_
   by_cases uF : k2_42 = (d_49.length : Int)
   ·replace H := ifp uF H
    refine GoQ.pure rfl (fun w => opB (op_eql rfl rfl w) (decide_eq_true uF)) rfl rfl ?_
    refine GoQ.pure rfl (op_assign rfl) rfl rfl ?_
    refine GoQ.nil ?_
    refine Go1.ret1V Try.func50 rfl (show _ = .bool true from rfl) ?_
    refine hR98 _ _ ?_
    refine GoR.op ((op_not rfl) _) rfl rfl ?_
    refine GoR.nil ?_
    refine Go1.condF rfl rfl ?_
    refine Go1.exit rfl ?_
    refine Go1.seq ?_
    refine Go1.region ?_
    refine GoR.op ((op_move rfl) _) rfl rfl ?_
    refine GoR.op ((op_nilCheck rfl) _) rfl rfl ?_
    refine GoR.op ((op_fieldAddr Try.underlying72 rfl ti29 rfl (by decide)) _) rfl rfl ?_
    refine GoR.op ((oblkAgg (vs := [.int .i64 k2_40, .bool b2_41, .slice p46 n48 c47, .slice p52 n54 c53, .slice p58 n60 c59, .slice p64 n66 c65, .slice p70 n72 c71, .slice p76 n78 c77, .int .i64 k2_42]) (i := 0) 0 hO rfl rfl Try.underlying29 rfl ti29 rfl) _ (Same.refl _)) rfl rfl ?_
    have hobt := oblkStAgg (us := [.int .i64 k2_40, .bool b2_41, .slice p46 n48 c47, .slice p52 n54 c53, .slice p58 n60 c59, .slice p64 n66 c65, .slice p70 n72 c71, .slice p76 n78 c77, .int .i64 k2_42]) (o := 0) (cs' := #[.int .i64 k2_40, .bool b2_41, .slice p46 n48 c47, .slice p52 n54 c53, .slice p58 n60 c59, .slice p64 n66 c65, .slice p70 n72 c71, .slice p76 n78 c77, .int .i64 k2_42]) 11 hO rfl rfl (Nat.le_of_ble_eq_true rfl) rfl
    obtain ⟨OD, fA, Ey⟩ := hobt
    dsimp only [sS, sZ] at fA
    refine GoR.op (Ey ti29 (by exact rfl) (by exact rfl) rfl) rfl rfl ?_
    replace ye := ye.ch fA.ch
    replace vj := vj.ch fA.ch
    replace uP := uP.ch fA.ch
    replace tI := tI.ch fA.ch
    replace rM := rM.ch fA.ch
    replace rQ := rQ.ch fA.ch
    replace rq := rq.ch fA.ch
    replace rs := rs.ch fA.ch
    replace ko := ko.ch fA.ch
    replace hO := fA.own
    replace hB := hB.trans fA.fr
    refine GoR.op ((op_assign rfl) _) rfl rfl ?_
    refine GoR.nil ?_
    have hobt := freeze 1 hO rfl ye
    obtain ⟨hO1, tU, sr, HC⟩ := hobt
    dsimp only [eS, eZ] at hO1 tU sr
    replace vj := vj.ch tU
    replace uP := uP.ch tU
    replace tI := tI.ch tU
    replace rM := rM.ch tU
    replace rQ := rQ.ch tU
    replace rq := rq.ch tU
    replace rs := rs.ch tU
    replace ko := ko.ch tU
    replace hB := hB.trans (Owns.dropFr _ _ 1)
    dsimp only [eS, eZ] at hB
    replace hO := hO1; clear hO1
    have hobt := freeze 1 hO rfl vj
    obtain ⟨hO1, tV, tt, HD⟩ := hobt
    dsimp only [eS, eZ] at hO1 tV tt
    replace sr := sr.ch tV
    replace uP := uP.ch tV
    replace tI := tI.ch tV
    replace rM := rM.ch tV
    replace rQ := rQ.ch tV
    replace rq := rq.ch tV
    replace rs := rs.ch tV
    replace ko := ko.ch tV
    replace hB := hB.trans (Owns.dropFr _ _ 1)
    dsimp only [eS, eZ] at hB
    replace hO := hO1; clear hO1
    have hobt := freeze 1 hO rfl uP
    obtain ⟨hO1, tW, sx, HE⟩ := hobt
    dsimp only [eS, eZ] at hO1 tW sx
    replace sr := sr.ch tW
    replace tt := tt.ch tW
    replace tI := tI.ch tW
    replace rM := rM.ch tW
    replace rQ := rQ.ch tW
    replace rq := rq.ch tW
    replace rs := rs.ch tW
    replace ko := ko.ch tW
    replace hB := hB.trans (Owns.dropFr _ _ 1)
    dsimp only [eS, eZ] at hB
    replace hO := hO1; clear hO1
    have hobt := freeze 1 hO rfl tI
    obtain ⟨hO1, tX, wk, HF⟩ := hobt
    dsimp only [eS, eZ] at hO1 tX wk
    replace sr := sr.ch tX
    replace tt := tt.ch tX
    replace sx := sx.ch tX
    replace rM := rM.ch tX
    replace rQ := rQ.ch tX
    replace rq := rq.ch tX
    replace rs := rs.ch tX
    replace ko := ko.ch tX
    replace hB := hB.trans (Owns.dropFr _ _ 1)
    dsimp only [eS, eZ] at hB
    replace hO := hO1; clear hO1
    have hobt := freeze 1 hO rfl rM
    obtain ⟨hO1, tY, yP, HG⟩ := hobt
    dsimp only [eS, eZ] at hO1 tY yP
    replace sr := sr.ch tY
    replace tt := tt.ch tY
    replace sx := sx.ch tY
    replace wk := wk.ch tY
    replace rQ := rQ.ch tY
    replace rq := rq.ch tY
    replace rs := rs.ch tY
    replace ko := ko.ch tY
    replace hB := hB.trans (Owns.dropFr _ _ 1)
    dsimp only [eS, eZ] at hB
    replace hO := hO1; clear hO1
    have hobt := freeze 1 hO rfl rQ
    obtain ⟨hO1, tZ, Cj, HH⟩ := hobt
    dsimp only [eS, eZ] at hO1 tZ Cj
    replace sr := sr.ch tZ
    replace tt := tt.ch tZ
    replace sx := sx.ch tZ
    replace wk := wk.ch tZ
    replace yP := yP.ch tZ
    replace rq := rq.ch tZ
    replace rs := rs.ch tZ
    replace ko := ko.ch tZ
    replace hB := hB.trans (Owns.dropFr _ _ 1)
    dsimp only [eS, eZ] at hB
    replace hO := hO1; clear hO1
    refine Go1.retC2 Try.func17 rfl rfl (run_loadBlk (vs := [.int .i64 k2_40, .bool b2_41, .slice p46 n48 c47, .slice p52 n54 c53, .slice p58 n60 c59, .slice p64 n66 c65, .slice p70 n72 c71, .slice p76 n78 c77, .int .i64 k2_42]) 5 hO rfl rfl Try.underlying29 rfl ti29) ?_
    exact ⟨(⟨k2_40, b2_41, d_43, d_49, d_55, d_61, d_67, d_73, k2_42⟩ : Enum), (0 : Int), p46, c47, p52, c53, p58, c59, p64, c65, p70, c71, p76, c77, (congrArg (fun l => Value.tuple (List.toArray l)) (cons_eq (congrArg (fun l => Value.agg (List.toArray l)) (cons_eq rfl (cons_eq rfl (cons_eq (congrArg (fun nn => Value.slice p46 nn c47) HC) (cons_eq (congrArg (fun nn => Value.slice p52 nn c53) HD) (cons_eq (congrArg (fun nn => Value.slice p58 nn c59) HE) (cons_eq (congrArg (fun nn => Value.slice p64 nn c65) HF) (cons_eq (congrArg (fun nn => Value.slice p70 nn c71) HG) (cons_eq (congrArg (fun nn => Value.slice p76 nn c77) HH) (cons_eq rfl rfl)))))))))) (cons_eq rfl rfl))), hB.same, (sr.ch (Ch.weak _ _ _)), (tt.ch (Ch.weak _ _ _)), (sx.ch (Ch.weak _ _ _)), (wk.ch (Ch.weak _ _ _)), (yP.ch (Ch.weak _ _ _)), (Cj.ch (Ch.weak _ _ _)), H⟩
   replace H := ifn uF H
   refine GoQ.pure rfl (fun w => opB (op_eql rfl rfl w) (decide_eq_false uF)) rfl rfl ?_
   refine GoQ.pure rfl (op_assign rfl) rfl rfl ?_
   refine GoQ.nil ?_
   refine Go1.ret1V Try.func50 rfl (show _ = .bool false from rfl) ?_
   refine hR98 _ _ ?_
   refine GoR.op ((op_not rfl) _) rfl rfl ?_
   refine GoR.nil ?_
   refine Go1.condT rfl rfl ?_
   refine Go1.skip ?_
   refine Go1.block ?_
   refine Go1.seq ?_
   refine Go1.cut [(4, .pointer (some ⟨B2, 0, none⟩)), (6, .pointer (some ⟨lZ, 0, none⟩))] ⟨rfl, rfl, trivial⟩ ?_
   intro σ _
   refine Go1.region ?_
   refine GoR.op ((op_move rfl) _) rfl rfl ?_
   have Ck : Owns w0.heap.size w99 ([.blk lZ (.cells #[.int .i64 k2_40, .bool b2_41, .slice p46 n48 c47, .slice p52 n54 c53, .slice p58 n60 c59, .slice p64 n66 c65, .slice p70 n72 c71, .slice p76 n78 c77, .int .i64 k2_42, .map (some cI), .slice p82 n84 c83, .slice p88 n90 c89, .slice p94 n96 c95] 72 (0, 0)), .row 26 1 p46 n48 c47 qF, .row 26 1 p52 n54 c53 qG, .row 3 1 p58 n60 c59 qH, .row 3 1 p64 n66 c65 qI, .row 26 1 p70 n72 c71 qJ, .row 39 2 p76 n78 c77 qK, .row 9 1 p82 n84 c83 oF, .row 3 1 p88 n90 c89 qL, .row 3 1 p94 n96 c95 qM, .any (mapE (fun a : List UInt8 => Value.string (gstr a)) (fun a : Int => Value.int .i64 a) cI m2_97)] ++ [.blk B2 (.cells #[.int .i64 (0 : Int), .bool false, .slice none 0 0, .slice none 0 0, .slice none 0 0, .slice none 0 0, .slice none 0 0, .slice none 0 0, .int .i64 (0 : Int)] 29 (0, 0))]) A := hO
   have HI := Owns.split Ck
   have hca126 : Ch (bl [.blk lZ (.cells #[.int .i64 k2_40, .bool b2_41, .slice p46 n48 c47, .slice p52 n54 c53, .slice p58 n60 c59, .slice p64 n66 c65, .slice p70 n72 c71, .slice p76 n78 c77, .int .i64 k2_42, .map (some cI), .slice p82 n84 c83, .slice p88 n90 c89, .slice p94 n96 c95] 72 (0, 0)), .row 26 1 p46 n48 c47 qF, .row 26 1 p52 n54 c53 qG, .row 3 1 p58 n60 c59 qH, .row 3 1 p64 n66 c65 qI, .row 26 1 p70 n72 c71 qJ, .row 39 2 p76 n78 c77 qK, .row 9 1 p82 n84 c83 oF, .row 3 1 p88 n90 c89 qL, .row 3 1 p94 n96 c95 qM, .any (mapE (fun a : List UInt8 => Value.string (gstr a)) (fun a : Int => Value.int .i64 a) cI m2_97), .blk B2 (.cells #[.int .i64 (0 : Int), .bool false, .slice none 0 0, .slice none 0 0, .slice none 0 0, .slice none 0 0, .slice none 0 0, .slice none 0 0, .int .i64 (0 : Int)] 29 (0, 0))] ++ A) w99 (bl [.blk lZ (.cells #[.int .i64 k2_40, .bool b2_41, .slice p46 n48 c47, .slice p52 n54 c53, .slice p58 n60 c59, .slice p64 n66 c65, .slice p70 n72 c71, .slice p76 n78 c77, .int .i64 k2_42, .map (some cI), .slice p82 n84 c83, .slice p88 n90 c89, .slice p94 n96 c95] 72 (0, 0)), .row 26 1 p46 n48 c47 qF, .row 26 1 p52 n54 c53 qG, .row 3 1 p58 n60 c59 qH, .row 3 1 p64 n66 c65 qI, .row 26 1 p70 n72 c71 qJ, .row 39 2 p76 n78 c77 qK, .row 9 1 p82 n84 c83 oF, .row 3 1 p88 n90 c89 qL, .row 3 1 p94 n96 c95 qM, .any (mapE (fun a : List UInt8 => Value.string (gstr a)) (fun a : Int => Value.int .i64 a) cI m2_97)] ++ (bl [.blk B2 (.cells #[.int .i64 (0 : Int), .bool false, .slice none 0 0, .slice none 0 0, .slice none 0 0, .slice none 0 0, .slice none 0 0, .slice none 0 0, .int .i64 (0 : Int)] 29 (0, 0))] ++ A)) w99 := Ch.assoc' [.blk lZ (.cells #[.int .i64 k2_40, .bool b2_41, .slice p46 n48 c47, .slice p52 n54 c53, .slice p58 n60 c59, .slice p64 n66 c65, .slice p70 n72 c71, .slice p76 n78 c77, .int .i64 k2_42, .map (some cI), .slice p82 n84 c83, .slice p88 n90 c89, .slice p94 n96 c95] 72 (0, 0)), .row 26 1 p46 n48 c47 qF, .row 26 1 p52 n54 c53 qG, .row 3 1 p58 n60 c59 qH, .row 3 1 p64 n66 c65 qI, .row 26 1 p70 n72 c71 qJ, .row 39 2 p76 n78 c77 qK, .row 9 1 p82 n84 c83 oF, .row 3 1 p88 n90 c89 qL, .row 3 1 p94 n96 c95 qM, .any (mapE (fun a : List UInt8 => Value.string (gstr a)) (fun a : Int => Value.int .i64 a) cI m2_97)] [.blk B2 (.cells #[.int .i64 (0 : Int), .bool false, .slice none 0 0, .slice none 0 0, .slice none 0 0, .slice none 0 0, .slice none 0 0, .slice none 0 0, .int .i64 (0 : Int)] 29 (0, 0))] A w99
   refine GoR.call (op_call body51 rfl (walk_enumerate_run_process (a0 := (⟨(⟨k2_40, b2_41, d_43, d_49, d_55, d_61, d_67, d_73, k2_42⟩ : Enum), m2_97, d_79, d_85, d_91⟩ : run)) HI (ye.ch hca126) (vj.ch hca126) (uP.ch hca126) (tI.ch hca126) (rM.ch hca126) (rQ.ch hca126) (rq.ch hca126) (rs.ch hca126) (ko.ch hca126) H)) rfl rfl ?_
   intro OE At
   refine exE fun r127 => exE fun q128 => exE fun hZ => exE fun ia => exE fun ib => exE fun m5 => exE fun gu => exE fun gv => exE fun gw => exE fun l5 => exE fun fZ => exE fun f0 => exE fun f5 => exE fun lw => exE fun ic => exE fun ie => exE fun ig => exE fun m6 => exE fun gx => exE fun gy => exE fun gz => exE fun l7 => exE fun gA => exE fun gB => exE fun gC => exE fun l8 => exE fun kG => exE fun kI => exE fun kK => exE fun qy => exE fun jr => exE fun jt => exE fun ju => exE fun oT => exE fun jv => exE fun jw => exE fun jx => exE fun oU => andE fun hv134 => andE fun hN131 => andE fun m7 => andE fun l9 => andE fun lx => andE fun m8 => andE fun ma => andE fun mb => andE fun qz => andE fun oV => andE fun oW => andE fun hF132 => fun H => ?_
   subst hv134
   have AH : Stp w0.heap.size A w99 [.blk lZ (.cells #[.int .i64 k2_40, .bool b2_41, .slice p46 n48 c47, .slice p52 n54 c53, .slice p58 n60 c59, .slice p64 n66 c65, .slice p70 n72 c71, .slice p76 n78 c77, .int .i64 k2_42, .map (some cI), .slice p82 n84 c83, .slice p88 n90 c89, .slice p94 n96 c95] 72 (0, 0)), .row 26 1 p46 n48 c47 qF, .row 26 1 p52 n54 c53 qG, .row 3 1 p58 n60 c59 qH, .row 3 1 p64 n66 c65 qI, .row 26 1 p70 n72 c71 qJ, .row 39 2 p76 n78 c77 qK, .row 9 1 p82 n84 c83 oF, .row 3 1 p88 n90 c89 qL, .row 3 1 p94 n96 c95 qM, .any (mapE (fun a : List UInt8 => Value.string (gstr a)) (fun a : Int => Value.int .i64 a) cI m2_97), .blk B2 (.cells #[.int .i64 (0 : Int), .bool false, .slice none 0 0, .slice none 0 0, .slice none 0 0, .slice none 0 0, .slice none 0 0, .slice none 0 0, .int .i64 (0 : Int)] 29 (0, 0))] At [.blk lZ (.cells #[.int .i64 q128.Enum.Points, .bool q128.Enum.Monoid, .slice ia hZ ib, .slice gv gu gw, .slice f0 fZ f5, .slice ie ic ig, .slice gy gx gz, .slice gB gA gC, .int .i64 q128.Enum.Done, .map (some cI), .slice kI kG kK, .slice jt jr ju, .slice jw jv jx] 72 (0, 0)), .row 26 1 ia hZ ib m5, .row 26 1 gv gu gw l5, .row 3 1 f0 fZ f5 lw, .row 3 1 ie ic ig m6, .row 26 1 gy gx gz l7, .row 39 2 gB gA gC l8, .row 9 1 kI kG kK qy, .row 3 1 jt jr ju oT, .row 3 1 jw jv jx oU, .any (mapE (fun a : List UInt8 => Value.string (gstr a)) (fun a : Int => Value.int .i64 a) cI q128.number), .blk B2 (.cells #[.int .i64 (0 : Int), .bool false, .slice none 0 0, .slice none 0 0, .slice none 0 0, .slice none 0 0, .slice none 0 0, .slice none 0 0, .int .i64 (0 : Int)] 29 (0, 0))] := Stp.join Ck hN131 hF132
   replace hO := AH.own
   replace hB := hB.trans AH.fr
   have hca135 : Ch (bl [.blk lZ (.cells #[.int .i64 q128.Enum.Points, .bool q128.Enum.Monoid, .slice ia hZ ib, .slice gv gu gw, .slice f0 fZ f5, .slice ie ic ig, .slice gy gx gz, .slice gB gA gC, .int .i64 q128.Enum.Done, .map (some cI), .slice kI kG kK, .slice jt jr ju, .slice jw jv jx] 72 (0, 0)), .row 26 1 ia hZ ib m5, .row 26 1 gv gu gw l5, .row 3 1 f0 fZ f5 lw, .row 3 1 ie ic ig m6, .row 26 1 gy gx gz l7, .row 39 2 gB gA gC l8, .row 9 1 kI kG kK qy, .row 3 1 jt jr ju oT, .row 3 1 jw jv jx oU, .any (mapE (fun a : List UInt8 => Value.string (gstr a)) (fun a : Int => Value.int .i64 a) cI q128.number)] ++ (bl [.blk B2 (.cells #[.int .i64 (0 : Int), .bool false, .slice none 0 0, .slice none 0 0, .slice none 0 0, .slice none 0 0, .slice none 0 0, .slice none 0 0, .int .i64 (0 : Int)] 29 (0, 0))] ++ A)) At (bl [.blk lZ (.cells #[.int .i64 q128.Enum.Points, .bool q128.Enum.Monoid, .slice ia hZ ib, .slice gv gu gw, .slice f0 fZ f5, .slice ie ic ig, .slice gy gx gz, .slice gB gA gC, .int .i64 q128.Enum.Done, .map (some cI), .slice kI kG kK, .slice jt jr ju, .slice jw jv jx] 72 (0, 0)), .row 26 1 ia hZ ib m5, .row 26 1 gv gu gw l5, .row 3 1 f0 fZ f5 lw, .row 3 1 ie ic ig m6, .row 26 1 gy gx gz l7, .row 39 2 gB gA gC l8, .row 9 1 kI kG kK qy, .row 3 1 jt jr ju oT, .row 3 1 jw jv jx oU, .any (mapE (fun a : List UInt8 => Value.string (gstr a)) (fun a : Int => Value.int .i64 a) cI q128.number), .blk B2 (.cells #[.int .i64 (0 : Int), .bool false, .slice none 0 0, .slice none 0 0, .slice none 0 0, .slice none 0 0, .slice none 0 0, .slice none 0 0, .int .i64 (0 : Int)] 29 (0, 0))] ++ A) At := Ch.assoc [.blk lZ (.cells #[.int .i64 q128.Enum.Points, .bool q128.Enum.Monoid, .slice ia hZ ib, .slice gv gu gw, .slice f0 fZ f5, .slice ie ic ig, .slice gy gx gz, .slice gB gA gC, .int .i64 q128.Enum.Done, .map (some cI), .slice kI kG kK, .slice jt jr ju, .slice jw jv jx] 72 (0, 0)), .row 26 1 ia hZ ib m5, .row 26 1 gv gu gw l5, .row 3 1 f0 fZ f5 lw, .row 3 1 ie ic ig m6, .row 26 1 gy gx gz l7, .row 39 2 gB gA gC l8, .row 9 1 kI kG kK qy, .row 3 1 jt jr ju oT, .row 3 1 jw jv jx oU, .any (mapE (fun a : List UInt8 => Value.string (gstr a)) (fun a : Int => Value.int .i64 a) cI q128.number)] [.blk B2 (.cells #[.int .i64 (0 : Int), .bool false, .slice none 0 0, .slice none 0 0, .slice none 0 0, .slice none 0 0, .slice none 0 0, .slice none 0 0, .int .i64 (0 : Int)] 29 (0, 0))] A At
   replace m7 := m7.ch hca135
   replace l9 := l9.ch hca135
   replace lx := lx.ch hca135
   replace m8 := m8.ch hca135
   replace ma := ma.ch hca135
   replace mb := mb.ch hca135
   replace qz := qz.ch hca135
   replace oV := oV.ch hca135
   replace oW := oW.ch hca135
   refine GoR.op ((op_assign rfl) _) rfl rfl ?_
   refine GoR.nil ?_
   refine Go1.seq ?_
   refine Go1.region ?_
   refine GoR.op ((op_move rfl) _) rfl rfl ?_
   by_cases sU : r127 = (0 : Int)
   ·replace H := ifp sU H
    refine GoR.op ((fun w => opB (op_neq rfl rfl w) (ndT sU)) _) rfl rfl ?_
    refine GoR.nil ?_
    refine Go1.condF rfl rfl ?_
    refine Go1.skip ?_
    refine Go1.inBlock ?_
    exact hX2 _ H _ _ ⟨hZ, ia, ib, m5, gu, gv, gw, l5, fZ, f0, f5, lw, ic, ie, ig, m6, gx, gy, gz, l7, gA, gB, gC, l8, kG, kI, kK, qy, jr, jt, ju, oT, jv, jw, jx, oU, ⟨rfl, rfl, trivial⟩, hO, m7, l9, lx, m8, ma, mb, qz, oV, oW, hB⟩
   replace H := ifn sU H
   refine GoR.op ((fun w => opB (op_neq rfl rfl w) (ndF sU)) _) rfl rfl ?_
   refine GoR.nil ?_
   refine Go1.condT rfl rfl ?_
   refine Go1.seq ?_
   refine Go1.region ?_
   refine GoR.op ((op_build Try.underlying29 ti29 (pl := [(0, 1), (1, 1), (2, 1), (3, 1), (4, 1), (5, 1), (6, 1), (7, 1), (8, 1)]) (vs := []) (cs := #[.int .i64 (0 : Int), .bool false, .slice none 0 0, .slice none 0 0, .slice none 0 0, .slice none 0 0, .slice none 0 0, .slice none 0 0, .int .i64 (0 : Int)]) (by kernel_rfl) rfl (by kernel_rfl)) _) rfl rfl ?_
   refine GoR.op ((op_move rfl) _) rfl rfl ?_
   have hobt := oblkStAgg (us := [.int .i64 (0 : Int), .bool false, .slice none 0 0, .slice none 0 0, .slice none 0 0, .slice none 0 0, .slice none 0 0, .slice none 0 0, .int .i64 (0 : Int)]) (o := 0) (cs' := #[.int .i64 (0 : Int), .bool false, .slice none 0 0, .slice none 0 0, .slice none 0 0, .slice none 0 0, .slice none 0 0, .slice none 0 0, .int .i64 (0 : Int)]) 11 hO rfl rfl (Nat.le_of_ble_eq_true rfl) rfl
   obtain ⟨OF, qA, Ez⟩ := hobt
   dsimp only [sS, sZ] at qA
   refine GoR.op (Ez ti29 (by exact rfl) (by exact rfl) rfl) rfl rfl ?_
   replace m7 := m7.ch qA.ch
   replace l9 := l9.ch qA.ch
   replace lx := lx.ch qA.ch
   replace m8 := m8.ch qA.ch
   replace ma := ma.ch qA.ch
   replace mb := mb.ch qA.ch
   replace qz := qz.ch qA.ch
   replace oV := oV.ch qA.ch
   replace oW := oW.ch qA.ch
   replace hO := qA.own
   replace hB := hB.trans qA.fr
   refine GoR.op ((op_assign rfl) _) rfl rfl ?_
   refine GoR.nil ?_
   refine Go1.retC2 Try.func17 rfl rfl (run_loadBlk (vs := [.int .i64 (0 : Int), .bool false, .slice none 0 0, .slice none 0 0, .slice none 0 0, .slice none 0 0, .slice none 0 0, .slice none 0 0, .int .i64 (0 : Int)]) 11 hO rfl rfl Try.underlying29 rfl ti29) ?_
   exact ⟨(⟨(0 : Int), false, ([] : List (List Int)), ([] : List (List Int)), ([] : List Int), ([] : List Int), ([] : List (List Int)), ([] : List Rule), (0 : Int)⟩ : Enum), r127, none, 0, none, 0, none, 0, none, 0, none, 0, none, 0, rfl, hB.same, (ISl.null _ _ _), (ISl.null _ _ _), (ISl.null _ _ _), (ISl.null _ _ _), (ISl.null _ _ _), (ISl.null _ _ _), H⟩
  replace H := ifn h38 H
  refine GoR.op ((fun w => opB (op_neq rfl rfl w) (ndF h38)) _) rfl rfl ?_
  refine GoR.nil ?_
  refine Go1.condT rfl rfl ?_
  refine Go1.seq ?_
  refine Go1.region ?_
  refine GoR.op ((op_build Try.underlying29 ti29 (pl := [(0, 1), (1, 1), (2, 1), (3, 1), (4, 1), (5, 1), (6, 1), (7, 1), (8, 1)]) (vs := []) (cs := #[.int .i64 (0 : Int), .bool false, .slice none 0 0, .slice none 0 0, .slice none 0 0, .slice none 0 0, .slice none 0 0, .slice none 0 0, .int .i64 (0 : Int)]) (by kernel_rfl) rfl (by kernel_rfl)) _) rfl rfl ?_
  refine GoR.op ((op_move rfl) _) rfl rfl ?_
  have hobt := oblkStAgg (us := [.int .i64 (0 : Int), .bool false, .slice none 0 0, .slice none 0 0, .slice none 0 0, .slice none 0 0, .slice none 0 0, .slice none 0 0, .int .i64 (0 : Int)]) (o := 0) (cs' := #[.int .i64 (0 : Int), .bool false, .slice none 0 0, .slice none 0 0, .slice none 0 0, .slice none 0 0, .slice none 0 0, .slice none 0 0, .int .i64 (0 : Int)]) 11 hO rfl rfl (Nat.le_of_ble_eq_true rfl) rfl
  obtain ⟨OG, oX, EA⟩ := hobt
  dsimp only [sS, sZ] at oX
  refine GoR.op (EA ti29 (by exact rfl) (by exact rfl) rfl) rfl rfl ?_
  replace g0 := g0.ch oX.ch
  replace fP := fP.ch oX.ch
  replace fR := fR.ch oX.ch
  replace g5 := g5.ch oX.ch
  replace gp := gp.ch oX.ch
  replace gq := gq.ch oX.ch
  replace g6 := g6.ch oX.ch
  replace jm := jm.ch oX.ch
  replace jo := jo.ch oX.ch
  replace hO := oX.own
  replace eF := eF.ch oX.ch
  replace hB := hB.trans oX.fr
  refine GoR.op ((op_assign rfl) _) rfl rfl ?_
  refine GoR.nil ?_
  refine Go1.retC2 Try.func17 rfl rfl (run_loadBlk (vs := [.int .i64 (0 : Int), .bool false, .slice none 0 0, .slice none 0 0, .slice none 0 0, .slice none 0 0, .slice none 0 0, .slice none 0 0, .int .i64 (0 : Int)]) 11 hO rfl rfl Try.underlying29 rfl ti29) ?_
  exact ⟨(⟨(0 : Int), false, ([] : List (List Int)), ([] : List (List Int)), ([] : List Int), ([] : List Int), ([] : List (List Int)), ([] : List Rule), (0 : Int)⟩ : Enum), r8, none, 0, none, 0, none, 0, none, 0, none, 0, none, 0, rfl, hB.same, (ISl.null _ _ _), (ISl.null _ _ _), (ISl.null _ _ _), (ISl.null _ _ _), (ISl.null _ _ _), (ISl.null _ _ _), H⟩
theorem body70 : Body Try.prog 70 := ⟨Try.f70, Try.func70, rfl, by kernel_rfl⟩
theorem walk_slices_Equal_int {A : List Nat} {w0 : World} {oe : Option Addr} {og : Nat} {oh : Option Addr} {ol : Nat} {s1 : List Int} {s2 : List Int} (hA : ∀ b ∈ A, b < w0.heap.size) (iT : ISl (Rp.int .i64) A w0 oe og s1) (jf : ISl (Rp.int .i64) A w0 oh ol s2) {K : Bool → Prop} (H : slices_Equal_int s1 s2 K) :
    CallsV Try.prog 70 #[.slice oe s1.length og, .slice oh s2.length ol] w0 (fun v w' => ∃ (r0 : Bool), v = .bool r0 ∧ Same w0 w' ∧ K r0) := by
 refine CallsV.of (l := [.slice oe s1.length og, .slice oh s2.length ol]) Try.func70 rfl Try.ntmps70 rfl ?_
 have hO := Owns.start hA
 have hB := Fr.refl (bl []) w0
 unfold slices_Equal_int at H
 replace iT := iT.ch (Ch.start A w0)
 replace jf := jf.ch (Ch.start A w0)
 refine Go1.seq ?_
 refine Go1.region ?_
 refine GoR.op ((op_assign rfl) _) rfl rfl ?_
 refine GoR.nil ?_
 refine Go1.seq ?_
 refine Go1.seq ?_
 refine Go1.region ?_
 refine GoR.op ((op_move rfl) _) rfl rfl ?_
 refine GoR.op ((op_len Try.underlying26 rfl) _) rfl rfl ?_
 replace H := H iT.bd
 refine GoR.op ((op_move rfl) _) rfl rfl ?_
 refine GoR.op ((op_len Try.underlying26 rfl) _) rfl rfl ?_
 replace H := H jf.bd
 by_cases h1 : (s1.length : Int) = (s2.length : Int)
 ·replace H := ifp h1 H
  refine GoR.op ((fun w => opB (op_neq rfl rfl w) (ndT h1)) _) rfl rfl ?_
  refine GoR.nil ?_
  refine Go1.condF rfl rfl ?_
  refine Go1.skip ?_
  refine Go1.seq ?_
  refine Go1.seq ?_
  refine Go1.region ?_
  refine GoR.op ((op_move rfl) _) rfl rfl ?_
  refine GoR.op ((op_len Try.underlying26 rfl) _) rfl rfl ?_
  refine GoR.op ((op_move rfl) _) rfl rfl ?_
  refine GoR.nil ?_
  refine Go1.block ?_
  refine Go1.loopW (S := Nat) (fun s σ w => agrees σ [(0, .slice oe s1.length og), (1, .slice oh s2.length ol), (12, .int .i64 (s1.length : Int)), (13, .int .i64 (s : Int))] ∧ Owns w0.heap.size w [] A ∧ ISl (Rp.int .i64) (bl [] ++ A) w oe og s1 ∧ ISl (Rp.int .i64) (bl [] ++ A) w oh ol s2 ∧ Fr (bl []) w0 (bl []) w) H ⟨⟨rfl, rfl, rfl, rfl, trivial⟩, hO, iT, jf, hB⟩ ?_
  intro X1 k1_3
  intro H hX1 σ w2
  refine andE fun hag => andE fun hO => andE fun iT => andE fun jf => fun hB => ?_
  refine Go1.keep [(0, .slice oe s1.length og), (1, .slice oh s2.length ol), (12, .int .i64 (s1.length : Int)), (13, .int .i64 (k1_3 : Int))] hag ?_
  refine Go1.seq ?_
  refine Go1.region ?_
  by_cases h4 : (k1_3 : Int) < (s1.length : Int)
  ·replace H := ifp h4 H
   refine GoR.op ((fun w => opB (op_lss rfl rfl w) (decide_eq_true h4)) _) rfl rfl ?_
   refine GoR.nil ?_
   refine Go1.seq ?_
   refine Go1.condT rfl rfl ?_
   refine Go1.skip ?_
   refine Go1.seq ?_
   refine Go1.block ?_
   refine Go1.seq ?_
   refine Go1.region ?_
   refine GoR.op ((op_move rfl) _) rfl rfl ?_
   refine GoR.op ((op_assign rfl) _) rfl rfl ?_
   refine GoR.nil ?_
   refine Go1.seq ?_
   refine Go1.drawS 0 [(0, .pure), (1, .pure), (2, .pure), (3, .stable), (4, .pure), (5, .pure), (6, .pure), (7, .stable), (8, .pure)] mixed (by kernel_rfl) ?_
   intro w5 hs6
   have pz := Stp.same hO hs6
   replace hO := pz.own
   replace iT := iT.ch pz.ch
   replace jf := jf.ch pz.ch
   replace hB := hB.trans pz.fr
   refine GoQ.pure rfl (op_move rfl) rfl rfl ?_
   refine GoQ.pure rfl (op_move rfl) rfl rfl ?_
   obtain ⟨h8, H⟩ := H
   obtain ⟨h9, H⟩ := H
   refine GoQ.pure rfl (op_index Try.underlying26 ti3 rfl rfl h8 h9 (iT.some_ h8 h9)) rfl rfl ?_
   refine GoQ.stable rfl (ldInt iT h8 h9 Try.underlying3 rfl rfl) rfl rfl ?_
   refine GoQ.pure rfl (op_move rfl) rfl rfl ?_
   refine GoQ.pure rfl (op_move rfl) rfl rfl ?_
   obtain ⟨h10, H⟩ := H
   obtain ⟨h11, H⟩ := H
   refine GoQ.pure rfl (op_index Try.underlying26 ti3 rfl rfl h10 h11 (jf.some_ h10 h11)) rfl rfl ?_
   refine GoQ.stable rfl (ldInt jf h10 h11 Try.underlying3 rfl rfl) rfl rfl ?_
   by_cases h12 : (ix s1 (k1_3 : Int)) = (ix s2 (k1_3 : Int))
   ·replace H := ifp h12 H
    refine GoQ.pure rfl (fun w => opB (op_neq rfl rfl w) (ndT h12)) rfl rfl ?_
    refine GoQ.nil ?_
    refine Go1.condF rfl rfl ?_
    refine Go1.skip ?_
    refine Go1.inBlock ?_
    refine Go1.region ?_
    refine GoR.op ((op_add rfl rfl (wrap_i64 (natbd h4 iT.bd))) _) rfl rfl ?_
    refine GoR.op ((op_move rfl) _) rfl rfl ?_
    refine GoR.nil ?_
    exact hX1 _ H _ _ ⟨⟨rfl, rfl, rfl, rfl, trivial⟩, hO, iT, jf, hB⟩
   replace H := ifn h12 H
   refine GoQ.pure rfl (fun w => opB (op_neq rfl rfl w) (ndF h12)) rfl rfl ?_
   refine GoQ.nil ?_
   refine Go1.condT rfl rfl ?_
   refine Go1.seq ?_
   refine Go1.region ?_
   refine GoR.op ((op_assign rfl) _) rfl rfl ?_
   refine GoR.nil ?_
   refine Go1.ret1 Try.func70 rfl ?_
   exact ⟨false, rfl, hB.same, H⟩
  replace H := ifn h4 H
  refine GoR.op ((fun w => opB (op_lss rfl rfl w) (decide_eq_false h4)) _) rfl rfl ?_
  refine GoR.nil ?_
  refine Go1.seq ?_
  refine Go1.condF rfl rfl ?_
  refine Go1.exit rfl ?_
  refine Go1.seq ?_
  refine Go1.region ?_
  refine GoR.op ((op_assign rfl) _) rfl rfl ?_
  refine GoR.nil ?_
  refine Go1.ret1 Try.func70 rfl ?_
  exact ⟨true, rfl, hB.same, H⟩
 replace H := ifn h1 H
 refine GoR.op ((fun w => opB (op_neq rfl rfl w) (ndF h1)) _) rfl rfl ?_
 refine GoR.nil ?_
 refine Go1.condT rfl rfl ?_
 refine Go1.seq ?_
 refine Go1.region ?_
 refine GoR.op ((op_assign rfl) _) rfl rfl ?_
 refine GoR.nil ?_
 refine Go1.ret1 Try.func70 rfl ?_
 exact ⟨false, rfl, hB.same, H⟩
theorem body69 : Body Try.prog 69 := ⟨Try.f69, Try.func69, rfl, by kernel_rfl⟩
theorem walk_slices_EqualFunc_int {A : List Nat} {w0 : World} {oe : Option Addr} {og : Nat} {oh : Option Addr} {ol : Nat} {s1 : List (List Int)} {s2 : List (List Int)} (hA : ∀ b ∈ A, b < w0.heap.size) (iT : ISl (Rp.sl (Rp.int .i64)) A w0 oe og s1) (jf : ISl (Rp.sl (Rp.int .i64)) A w0 oh ol s2) {K : Bool → Prop} (H : slices_EqualFunc_int s1 s2 K) :
    CallsV Try.prog 69 #[.slice oe s1.length og, .slice oh s2.length ol, .func (.func 70) #[] #[]] w0 (fun v w' => ∃ (r0 : Bool), v = .bool r0 ∧ Same w0 w' ∧ K r0) := by
 refine CallsV.of (l := [.slice oe s1.length og, .slice oh s2.length ol, .func (.func 70) #[] #[]]) Try.func69 rfl Try.ntmps69 rfl ?_
 have hO := Owns.start hA
 have hB := Fr.refl (bl []) w0
 unfold slices_EqualFunc_int at H
 replace iT := iT.ch (Ch.start A w0)
 replace jf := jf.ch (Ch.start A w0)
 refine Go1.seq ?_
 refine Go1.region ?_
 refine GoR.op ((op_assign rfl) _) rfl rfl ?_
 refine GoR.nil ?_
 refine Go1.seq ?_
 refine Go1.seq ?_
 refine Go1.region ?_
 refine GoR.op ((op_move rfl) _) rfl rfl ?_
 refine GoR.op ((op_len Try.underlying22 rfl) _) rfl rfl ?_
 replace H := H iT.bd
 refine GoR.op ((op_move rfl) _) rfl rfl ?_
 refine GoR.op ((op_len Try.underlying22 rfl) _) rfl rfl ?_
 replace H := H jf.bd
 by_cases h1 : (s1.length : Int) = (s2.length : Int)
 ·replace H := ifp h1 H
  refine GoR.op ((fun w => opB (op_neq rfl rfl w) (ndT h1)) _) rfl rfl ?_
  refine GoR.nil ?_
  refine Go1.condF rfl rfl ?_
  refine Go1.skip ?_
  refine Go1.seq ?_
  refine Go1.seq ?_
  refine Go1.region ?_
  refine GoR.op ((op_move rfl) _) rfl rfl ?_
  refine GoR.op ((op_len Try.underlying22 rfl) _) rfl rfl ?_
  refine GoR.op ((op_move rfl) _) rfl rfl ?_
  refine GoR.nil ?_
  refine Go1.block ?_
  refine Go1.loopW (S := Nat) (fun s σ w => agrees σ [(1, .slice oh s2.length ol), (2, .func (.func 70) #[] #[]), (15, .slice oe s1.length og), (16, .int .i64 (s1.length : Int)), (17, .int .i64 (s : Int))] ∧ Owns w0.heap.size w [] A ∧ ISl (Rp.sl (Rp.int .i64)) (bl [] ++ A) w oe og s1 ∧ ISl (Rp.sl (Rp.int .i64)) (bl [] ++ A) w oh ol s2 ∧ Fr (bl []) w0 (bl []) w) H ⟨⟨rfl, rfl, rfl, rfl, rfl, trivial⟩, hO, iT, jf, hB⟩ ?_
  intro X1 k1_3
  intro H hX1 σ w2
  refine andE fun hag => andE fun hO => andE fun iT => andE fun jf => fun hB => ?_
  refine Go1.keep [(1, .slice oh s2.length ol), (2, .func (.func 70) #[] #[]), (15, .slice oe s1.length og), (16, .int .i64 (s1.length : Int)), (17, .int .i64 (k1_3 : Int))] hag ?_
  refine Go1.seq ?_
  refine Go1.region ?_
  by_cases h4 : (k1_3 : Int) < (s1.length : Int)
  ·replace H := ifp h4 H
   refine GoR.op ((fun w => opB (op_lss rfl rfl w) (decide_eq_true h4)) _) rfl rfl ?_
   refine GoR.nil ?_
   refine Go1.seq ?_
   refine Go1.condT rfl rfl ?_
   refine Go1.skip ?_
   refine Go1.seq ?_
   refine Go1.block ?_
   refine Go1.seq ?_
   refine Go1.region ?_
   refine GoR.op ((op_move rfl) _) rfl rfl ?_
   obtain ⟨h5, H⟩ := H
   obtain ⟨h6, H⟩ := H
   refine GoR.op ((op_index Try.underlying22 ti26 rfl rfl h5 h6 (iT.some_ h5 h6)) _) rfl rfl ?_
   have hobt := ldSl iT h5 h6
   obtain ⟨p7, c8, hi9, J2⟩ := hobt
   refine GoR.op ((J2 Try.underlying26 rfl rfl) _ (Same.refl _)) rfl rfl ?_
   refine GoR.op ((op_assign rfl) _) rfl rfl ?_
   refine GoR.op ((op_assign rfl) _) rfl rfl ?_
   refine GoR.nil ?_
   refine Go1.seq ?_
   refine Go1.region ?_
   refine GoR.op ((op_move rfl) _) rfl rfl ?_
   refine GoR.op ((op_move rfl) _) rfl rfl ?_
   obtain ⟨h11, H⟩ := H
   obtain ⟨h12, H⟩ := H
   refine GoR.op ((op_index Try.underlying22 ti26 rfl rfl h11 h12 (jf.some_ h11 h12)) _) rfl rfl ?_
   have hobt := ldSl jf h11 h12
   obtain ⟨p13, c14, pI, J3⟩ := hobt
   refine GoR.op ((J3 Try.underlying26 rfl rfl) _ (Same.refl _)) rfl rfl ?_
   refine GoR.op ((op_assign rfl) _) rfl rfl ?_
   refine GoR.nil ?_
   refine Go1.seq ?_
   refine Go1.region ?_
   refine GoR.op ((op_move rfl) _) rfl rfl ?_
   refine GoR.op ((op_move rfl) _) rfl rfl ?_
   refine GoR.op ((op_move rfl) _) rfl rfl ?_
   refine GoR.call (op_callV (caps := []) body70 rfl rfl (walk_slices_Equal_int hO.lt hi9 pI H)) rfl rfl ?_
   rintro v21 w18 ⟨r17, rfl, DF, H⟩
   have fE := Stp.same hO DF
   replace hO := fE.own
   replace iT := iT.ch fE.ch
   replace jf := jf.ch fE.ch
   replace hi9 := hi9.ch fE.ch
   replace pI := pI.ch fE.ch
   replace hB := hB.trans fE.fr
   cases r17
   ·replace H := ifn Bool.false_ne_true H
    refine GoR.op ((op_not rfl) _) rfl rfl ?_
    refine GoR.nil ?_
    refine Go1.condT rfl rfl ?_
    refine Go1.seq ?_
    refine Go1.region ?_
    refine GoR.op ((op_assign rfl) _) rfl rfl ?_
    refine GoR.nil ?_
    refine Go1.ret1 Try.func69 rfl ?_
    exact ⟨false, rfl, hB.same, H⟩
   replace H := ifp rfl H
   refine GoR.op ((op_not rfl) _) rfl rfl ?_
   refine GoR.nil ?_
   refine Go1.condF rfl rfl ?_
   refine Go1.skip ?_
   refine Go1.inBlock ?_
   refine Go1.cut [(1, .slice oh s2.length ol), (2, .func (.func 70) #[] #[]), (15, .slice oe s1.length og), (16, .int .i64 (s1.length : Int)), (17, .int .i64 (k1_3 : Int))] ⟨rfl, rfl, rfl, rfl, rfl, trivial⟩ ?_
   intro σ _
   refine Go1.region ?_
   refine GoR.op ((op_add rfl rfl (wrap_i64 (natbd h4 iT.bd))) _) rfl rfl ?_
   refine GoR.op ((op_move rfl) _) rfl rfl ?_
   refine GoR.nil ?_
   exact hX1 _ H _ _ ⟨⟨rfl, rfl, rfl, rfl, rfl, trivial⟩, hO, iT, jf, hB⟩
  replace H := ifn h4 H
  refine GoR.op ((fun w => opB (op_lss rfl rfl w) (decide_eq_false h4)) _) rfl rfl ?_
  refine GoR.nil ?_
  refine Go1.seq ?_
  refine Go1.condF rfl rfl ?_
  refine Go1.exit rfl ?_
  refine Go1.seq ?_
  refine Go1.region ?_
  refine GoR.op ((op_assign rfl) _) rfl rfl ?_
  refine GoR.nil ?_
  refine Go1.ret1 Try.func69 rfl ?_
  exact ⟨true, rfl, hB.same, H⟩
 replace H := ifn h1 H
 refine GoR.op ((fun w => opB (op_neq rfl rfl w) (ndF h1)) _) rfl rfl ?_
 refine GoR.nil ?_
 refine Go1.condT rfl rfl ?_
 refine Go1.seq ?_
 refine Go1.region ?_
 refine GoR.op ((op_assign rfl) _) rfl rfl ?_
 refine GoR.nil ?_
 refine Go1.ret1 Try.func69 rfl ?_
 exact ⟨false, rfl, hB.same, H⟩
theorem body71 : Body Try.prog 71 := ⟨Try.f71, Try.func71, rfl, by kernel_rfl⟩
theorem walk_slices_Equal_api_Rule {A : List Nat} {w0 : World} {oe : Option Addr} {og : Nat} {oh : Option Addr} {ol : Nat} {s1 : List Rule} {s2 : List Rule} (hA : ∀ b ∈ A, b < w0.heap.size) (iT : ISl (rpRule) A w0 oe og s1) (jf : ISl (rpRule) A w0 oh ol s2) {K : Bool → Prop} (H : slices_Equal_api_Rule s1 s2 K) :
    CallsV Try.prog 71 #[.slice oe s1.length og, .slice oh s2.length ol] w0 (fun v w' => ∃ (r0 : Bool), v = .bool r0 ∧ Same w0 w' ∧ K r0) := by
 refine CallsV.of (l := [.slice oe s1.length og, .slice oh s2.length ol]) Try.func71 rfl Try.ntmps71 rfl ?_
 have hO := Owns.start hA
 have hB := Fr.refl (bl []) w0
 unfold slices_Equal_api_Rule at H
 replace iT := iT.ch (Ch.start A w0)
 replace jf := jf.ch (Ch.start A w0)
 refine Go1.seq ?_
 refine Go1.region ?_
 refine GoR.op ((op_assign rfl) _) rfl rfl ?_
 refine GoR.nil ?_
 refine Go1.seq ?_
 refine Go1.seq ?_
 refine Go1.region ?_
 refine GoR.op ((op_move rfl) _) rfl rfl ?_
 refine GoR.op ((op_len Try.underlying27 rfl) _) rfl rfl ?_
 replace H := H iT.bd
 refine GoR.op ((op_move rfl) _) rfl rfl ?_
 refine GoR.op ((op_len Try.underlying27 rfl) _) rfl rfl ?_
 replace H := H jf.bd
 by_cases h1 : (s1.length : Int) = (s2.length : Int)
 ·replace H := ifp h1 H
  refine GoR.op ((fun w => opB (op_neq rfl rfl w) (ndT h1)) _) rfl rfl ?_
  refine GoR.nil ?_
  refine Go1.condF rfl rfl ?_
  refine Go1.skip ?_
  refine Go1.seq ?_
  refine Go1.seq ?_
  refine Go1.region ?_
  refine GoR.op ((op_move rfl) _) rfl rfl ?_
  refine GoR.op ((op_len Try.underlying27 rfl) _) rfl rfl ?_
  refine GoR.op ((op_move rfl) _) rfl rfl ?_
  refine GoR.nil ?_
  refine Go1.block ?_
  refine Go1.loopW (S := Nat) (fun s σ w => agrees σ [(0, .slice oe s1.length og), (1, .slice oh s2.length ol), (12, .int .i64 (s1.length : Int)), (13, .int .i64 (s : Int))] ∧ Owns w0.heap.size w [] A ∧ ISl (rpRule) (bl [] ++ A) w oe og s1 ∧ ISl (rpRule) (bl [] ++ A) w oh ol s2 ∧ Fr (bl []) w0 (bl []) w) H ⟨⟨rfl, rfl, rfl, rfl, trivial⟩, hO, iT, jf, hB⟩ ?_
  intro X1 k1_3
  intro H hX1 σ w2
  refine andE fun hag => andE fun hO => andE fun iT => andE fun jf => fun hB => ?_
  refine Go1.keep [(0, .slice oe s1.length og), (1, .slice oh s2.length ol), (12, .int .i64 (s1.length : Int)), (13, .int .i64 (k1_3 : Int))] hag ?_
  refine Go1.seq ?_
  refine Go1.region ?_
  by_cases h4 : (k1_3 : Int) < (s1.length : Int)
  ·replace H := ifp h4 H
   refine GoR.op ((fun w => opB (op_lss rfl rfl w) (decide_eq_true h4)) _) rfl rfl ?_
   refine GoR.nil ?_
   refine Go1.seq ?_
   refine Go1.condT rfl rfl ?_
   refine Go1.skip ?_
   refine Go1.seq ?_
   refine Go1.block ?_
   refine Go1.seq ?_
   refine Go1.region ?_
   refine GoR.op ((op_move rfl) _) rfl rfl ?_
   refine GoR.op ((op_assign rfl) _) rfl rfl ?_
   refine GoR.nil ?_
   refine Go1.seq ?_
   refine Go1.drawS 0 [(0, .pure), (1, .pure), (2, .pure), (3, .stable), (4, .pure), (5, .pure), (6, .pure), (7, .stable), (8, .pure)] mixed (by kernel_rfl) ?_
   intro w5 hs6
   have pz := Stp.same hO hs6
   replace hO := pz.own
   replace iT := iT.ch pz.ch
   replace jf := jf.ch pz.ch
   replace hB := hB.trans pz.fr
   refine GoQ.pure rfl (op_move rfl) rfl rfl ?_
   refine GoQ.pure rfl (op_move rfl) rfl rfl ?_
   obtain ⟨h8, H⟩ := H
   obtain ⟨h9, H⟩ := H
   refine GoQ.pure rfl (op_index Try.underlying27 ti39 rfl rfl h8 h9 (iT.some_ h8 h9)) rfl rfl ?_
   have hok10 := ldFlatOk iT h8 h9
   refine GoQ.stable rfl (ldFlat iT h8 h9 Try.underlying39 rfl ti39 rfl) rfl rfl ?_
   refine GoQ.pure rfl (op_move rfl) rfl rfl ?_
   refine GoQ.pure rfl (op_move rfl) rfl rfl ?_
   obtain ⟨h11, H⟩ := H
   obtain ⟨h12, H⟩ := H
   refine GoQ.pure rfl (op_index Try.underlying27 ti39 rfl rfl h11 h12 (jf.some_ h11 h12)) rfl rfl ?_
   have hok13 := ldFlatOk jf h11 h12
   refine GoQ.stable rfl (ldFlat jf h11 h12 Try.underlying39 rfl ti39 rfl) rfl rfl ?_
   by_cases h14 : (((ix s1 (k1_3 : Int)).Left) = ((ix s2 (k1_3 : Int)).Left) ∧ ((ix s1 (k1_3 : Int)).Right) = ((ix s2 (k1_3 : Int)).Right))
   ·replace H := ifp h14 H
    refine GoQ.pure rfl (fun w => opB (op_neqSS Try.underlying39 eqh39 eqg39 (by decide) (by decide) rfl rfl Try.underlying9 Try.underlying9 rfl rfl w) (ndT h14)) rfl rfl ?_
    refine GoQ.nil ?_
    refine Go1.condF rfl rfl ?_
    refine Go1.skip ?_
    refine Go1.inBlock ?_
    refine Go1.region ?_
    refine GoR.op ((op_add rfl rfl (wrap_i64 (natbd h4 iT.bd))) _) rfl rfl ?_
    refine GoR.op ((op_move rfl) _) rfl rfl ?_
    refine GoR.nil ?_
    exact hX1 _ H _ _ ⟨⟨rfl, rfl, rfl, rfl, trivial⟩, hO, iT, jf, hB⟩
   replace H := ifn h14 H
   refine GoQ.pure rfl (fun w => opB (op_neqSS Try.underlying39 eqh39 eqg39 (by decide) (by decide) rfl rfl Try.underlying9 Try.underlying9 rfl rfl w) (ndF h14)) rfl rfl ?_
   refine GoQ.nil ?_
   refine Go1.condT rfl rfl ?_
   refine Go1.seq ?_
   refine Go1.region ?_
   refine GoR.op ((op_assign rfl) _) rfl rfl ?_
   refine GoR.nil ?_
   refine Go1.ret1 Try.func71 rfl ?_
   exact ⟨false, rfl, hB.same, H⟩
  replace H := ifn h4 H
  refine GoR.op ((fun w => opB (op_lss rfl rfl w) (decide_eq_false h4)) _) rfl rfl ?_
  refine GoR.nil ?_
  refine Go1.seq ?_
  refine Go1.condF rfl rfl ?_
  refine Go1.exit rfl ?_
  refine Go1.seq ?_
  refine Go1.region ?_
  refine GoR.op ((op_assign rfl) _) rfl rfl ?_
  refine GoR.nil ?_
  refine Go1.ret1 Try.func71 rfl ?_
  exact ⟨true, rfl, hB.same, H⟩
 replace H := ifn h1 H
 refine GoR.op ((fun w => opB (op_neq rfl rfl w) (ndF h1)) _) rfl rfl ?_
 refine GoR.nil ?_
 refine Go1.condT rfl rfl ?_
 refine Go1.seq ?_
 refine Go1.region ?_
 refine GoR.op ((op_assign rfl) _) rfl rfl ?_
 refine GoR.nil ?_
 refine Go1.ret1 Try.func71 rfl ?_
 exact ⟨false, rfl, hB.same, H⟩
end Sg
