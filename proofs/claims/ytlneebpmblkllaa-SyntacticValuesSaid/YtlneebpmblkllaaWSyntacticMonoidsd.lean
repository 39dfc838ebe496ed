/- -/
import Derived.Test.YtlneebpmblkllaaTi
import Derived.Test.YtlneebpmblkllaaWSyntacticMonoidsb
import Derived.Test.YtlneebpmblkllaaWSyntacticMonoidsc
import Derived.Test.YtlneebpmblkllaaAl
namespace Sg
open Go Go.RowKit Go.Proofs
set_option linter.unusedVariables false
set_option linter.unusedSimpArgs false
set_option maxRecDepth 100000
set_option maxHeartbeats 4000000
theorem body159 : Body Try.prog 159 := ⟨Try.f159, Try.func159, rfl, by kernel_rfl⟩
theorem body160 : Body Try.prog 160 := ⟨Try.f160, Try.func160, rfl, by kernel_rfl⟩
theorem body133 : Body Try.prog 133 := ⟨Try.f133, Try.func133, rfl, by kernel_rfl⟩
theorem walk_enumerate_run_process {A : List Nat} {n0 : Nat} {w0 : World} {eY : Nat} {aG : Nat} {aH : Option Addr} {aI : Nat} {cP : List Value} {c9 : Nat} {db : Option Addr} {de : Nat} {e9 : List Value} {cR : Nat} {cS : Option Addr} {cT : Nat} {eU : List Value} {dz : Nat} {dA : Option Addr} {dB : Nat} {fv : List Value} {aP : Nat} {a8 : Option Addr} {a9 : Nat} {cJ : List Value} {dg : Nat} {dh : Option Addr} {di : Nat} {fd : List Value} {ba : Nat} {eI : Nat} {eK : Option Addr} {eM : Nat} {gM : List Value} {eB : Nat} {eC : Option Addr} {eF : Nat} {gs : List Value} {bt : Nat} {bu : Option Addr} {bv : Nat} {dQ : List Value} {a0 : run} (hO : Owns n0 w0 [.blk eY (.cells #[.int .i64 a0.Enum.Points, .bool a0.Enum.Monoid, .slice aH aG aI, .slice db c9 de, .slice cS cR cT, .slice dA dz dB, .slice a8 aP a9, .slice dh dg di, .int .i64 a0.Enum.Done, .map (some ba), .slice eK eI eM, .slice eC eB eF, .slice bu bt bv] 156 (0, 0)), .row 31 1 aH aG aI cP, .row 31 1 db c9 de e9, .row 3 1 cS cR cT eU, .row 3 1 dA dz dB fv, .row 31 1 a8 aP a9 cJ, .row 185 2 dh dg di fd, .row 9 1 eK eI eM gM, .row 3 1 eC eB eF gs, .row 3 1 bu bt bv dQ, .any (mapE (fun a : List UInt8 => Value.string (gstr a)) (fun a : Int => Value.int .i64 a) ba a0.number)] A) (ae : Els (Rp.sl (Rp.int .i64)) (bl [.blk eY (.cells #[.int .i64 a0.Enum.Points, .bool a0.Enum.Monoid, .slice aH aG aI, .slice db c9 de, .slice cS cR cT, .slice dA dz dB, .slice a8 aP a9, .slice dh dg di, .int .i64 a0.Enum.Done, .map (some ba), .slice eK eI eM, .slice eC eB eF, .slice bu bt bv] 156 (0, 0)), .row 31 1 aH aG aI cP, .row 31 1 db c9 de e9, .row 3 1 cS cR cT eU, .row 3 1 dA dz dB fv, .row 31 1 a8 aP a9 cJ, .row 185 2 dh dg di fd, .row 9 1 eK eI eM gM, .row 3 1 eC eB eF gs, .row 3 1 bu bt bv dQ, .any (mapE (fun a : List UInt8 => Value.string (gstr a)) (fun a : Int => Value.int .i64 a) ba a0.number)] ++ A) w0 cP a0.Enum.Gens) (uG : Els (Rp.sl (Rp.int .i64)) (bl [.blk eY (.cells #[.int .i64 a0.Enum.Points, .bool a0.Enum.Monoid, .slice aH aG aI, .slice db c9 de, .slice cS cR cT, .slice dA dz dB, .slice a8 aP a9, .slice dh dg di, .int .i64 a0.Enum.Done, .map (some ba), .slice eK eI eM, .slice eC eB eF, .slice bu bt bv] 156 (0, 0)), .row 31 1 aH aG aI cP, .row 31 1 db c9 de e9, .row 3 1 cS cR cT eU, .row 3 1 dA dz dB fv, .row 31 1 a8 aP a9 cJ, .row 185 2 dh dg di fd, .row 9 1 eK eI eM gM, .row 3 1 eC eB eF gs, .row 3 1 bu bt bv dQ, .any (mapE (fun a : List UInt8 => Value.string (gstr a)) (fun a : Int => Value.int .i64 a) ba a0.number)] ++ A) w0 e9 a0.Enum.Elems) (t8 : Els (Rp.int .i64) (bl [.blk eY (.cells #[.int .i64 a0.Enum.Points, .bool a0.Enum.Monoid, .slice aH aG aI, .slice db c9 de, .slice cS cR cT, .slice dA dz dB, .slice a8 aP a9, .slice dh dg di, .int .i64 a0.Enum.Done, .map (some ba), .slice eK eI eM, .slice eC eB eF, .slice bu bt bv] 156 (0, 0)), .row 31 1 aH aG aI cP, .row 31 1 db c9 de e9, .row 3 1 cS cR cT eU, .row 3 1 dA dz dB fv, .row 31 1 a8 aP a9 cJ, .row 185 2 dh dg di fd, .row 9 1 eK eI eM gM, .row 3 1 eC eB eF gs, .row 3 1 bu bt bv dQ, .any (mapE (fun a : List UInt8 => Value.string (gstr a)) (fun a : Int => Value.int .i64 a) ba a0.number)] ++ A) w0 eU a0.Enum.Prefix) (u5 : Els (Rp.int .i64) (bl [.blk eY (.cells #[.int .i64 a0.Enum.Points, .bool a0.Enum.Monoid, .slice aH aG aI, .slice db c9 de, .slice cS cR cT, .slice dA dz dB, .slice a8 aP a9, .slice dh dg di, .int .i64 a0.Enum.Done, .map (some ba), .slice eK eI eM, .slice eC eB eF, .slice bu bt bv] 156 (0, 0)), .row 31 1 aH aG aI cP, .row 31 1 db c9 de e9, .row 3 1 cS cR cT eU, .row 3 1 dA dz dB fv, .row 31 1 a8 aP a9 cJ, .row 185 2 dh dg di fd, .row 9 1 eK eI eM gM, .row 3 1 eC eB eF gs, .row 3 1 bu bt bv dQ, .any (mapE (fun a : List UInt8 => Value.string (gstr a)) (fun a : Int => Value.int .i64 a) ba a0.number)] ++ A) w0 fv a0.Enum.Last) (af : Els (Rp.sl (Rp.int .i64)) (bl [.blk eY (.cells #[.int .i64 a0.Enum.Points, .bool a0.Enum.Monoid, .slice aH aG aI, .slice db c9 de, .slice cS cR cT, .slice dA dz dB, .slice a8 aP a9, .slice dh dg di, .int .i64 a0.Enum.Done, .map (some ba), .slice eK eI eM, .slice eC eB eF, .slice bu bt bv] 156 (0, 0)), .row 31 1 aH aG aI cP, .row 31 1 db c9 de e9, .row 3 1 cS cR cT eU, .row 3 1 dA dz dB fv, .row 31 1 a8 aP a9 cJ, .row 185 2 dh dg di fd, .row 9 1 eK eI eM gM, .row 3 1 eC eB eF gs, .row 3 1 bu bt bv dQ, .any (mapE (fun a : List UInt8 => Value.string (gstr a)) (fun a : Int => Value.int .i64 a) ba a0.number)] ++ A) w0 cJ a0.Enum.Right) (uH : Els (rpRule) (bl [.blk eY (.cells #[.int .i64 a0.Enum.Points, .bool a0.Enum.Monoid, .slice aH aG aI, .slice db c9 de, .slice cS cR cT, .slice dA dz dB, .slice a8 aP a9, .slice dh dg di, .int .i64 a0.Enum.Done, .map (some ba), .slice eK eI eM, .slice eC eB eF, .slice bu bt bv] 156 (0, 0)), .row 31 1 aH aG aI cP, .row 31 1 db c9 de e9, .row 3 1 cS cR cT eU, .row 3 1 dA dz dB fv, .row 31 1 a8 aP a9 cJ, .row 185 2 dh dg di fd, .row 9 1 eK eI eM gM, .row 3 1 eC eB eF gs, .row 3 1 bu bt bv dQ, .any (mapE (fun a : List UInt8 => Value.string (gstr a)) (fun a : Int => Value.int .i64 a) ba a0.number)] ++ A) w0 fd a0.Enum.Rules) (xz : Els (Rp.str) (bl [.blk eY (.cells #[.int .i64 a0.Enum.Points, .bool a0.Enum.Monoid, .slice aH aG aI, .slice db c9 de, .slice cS cR cT, .slice dA dz dB, .slice a8 aP a9, .slice dh dg di, .int .i64 a0.Enum.Done, .map (some ba), .slice eK eI eM, .slice eC eB eF, .slice bu bt bv] 156 (0, 0)), .row 31 1 aH aG aI cP, .row 31 1 db c9 de e9, .row 3 1 cS cR cT eU, .row 3 1 dA dz dB fv, .row 31 1 a8 aP a9 cJ, .row 185 2 dh dg di fd, .row 9 1 eK eI eM gM, .row 3 1 eC eB eF gs, .row 3 1 bu bt bv dQ, .any (mapE (fun a : List UInt8 => Value.string (gstr a)) (fun a : Int => Value.int .i64 a) ba a0.number)] ++ A) w0 gM a0.words) (wO : Els (Rp.int .i64) (bl [.blk eY (.cells #[.int .i64 a0.Enum.Points, .bool a0.Enum.Monoid, .slice aH aG aI, .slice db c9 de, .slice cS cR cT, .slice dA dz dB, .slice a8 aP a9, .slice dh dg di, .int .i64 a0.Enum.Done, .map (some ba), .slice eK eI eM, .slice eC eB eF, .slice bu bt bv] 156 (0, 0)), .row 31 1 aH aG aI cP, .row 31 1 db c9 de e9, .row 3 1 cS cR cT eU, .row 3 1 dA dz dB fv, .row 31 1 a8 aP a9 cJ, .row 185 2 dh dg di fd, .row 9 1 eK eI eM gM, .row 3 1 eC eB eF gs, .row 3 1 bu bt bv dQ, .any (mapE (fun a : List UInt8 => Value.string (gstr a)) (fun a : Int => Value.int .i64 a) ba a0.number)] ++ A) w0 gs a0.behind) (ao : Els (Rp.int .i64) (bl [.blk eY (.cells #[.int .i64 a0.Enum.Points, .bool a0.Enum.Monoid, .slice aH aG aI, .slice db c9 de, .slice cS cR cT, .slice dA dz dB, .slice a8 aP a9, .slice dh dg di, .int .i64 a0.Enum.Done, .map (some ba), .slice eK eI eM, .slice eC eB eF, .slice bu bt bv] 156 (0, 0)), .row 31 1 aH aG aI cP, .row 31 1 db c9 de e9, .row 3 1 cS cR cT eU, .row 3 1 dA dz dB fv, .row 31 1 a8 aP a9 cJ, .row 185 2 dh dg di fd, .row 9 1 eK eI eM gM, .row 3 1 eC eB eF gs, .row 3 1 bu bt bv dQ, .any (mapE (fun a : List UInt8 => Value.string (gstr a)) (fun a : Int => Value.int .i64 a) ba a0.number)] ++ A) w0 dQ a0.single) {K : Int → run → Prop} (H : J0u a0 K) :
    CallsV Try.prog 133 #[.pointer (some ⟨eY, 0, none⟩)] w0 (fun v w' => ∃ (r0 : Int) (q : run) (cf : Nat) (cg : Option Addr) (ci : Nat) (dS : List Value) (bT : Nat) (bU : Option Addr) (bV : Nat) (dI : List Value) (bG : Nat) (bH : Option Addr) (bI : Nat) (dq : List Value) (cj : Nat) (ck : Option Addr) (co : Nat) (dT : List Value) (bW : Nat) (bX : Option Addr) (bY : Nat) (dJ : List Value) (b7 : Nat) (b8 : Option Addr) (b9 : Nat) (dK : List Value) (dt : Nat) (du : Option Addr) (dw : Nat) (fk : List Value) (cU : Nat) (cV : Option Addr) (cW : Nat) (eN : List Value) (cX : Nat) (cY : Option Addr) (c5 : Nat) (eO : List Value), v = .int .i64 r0 ∧ (fun Z0 => Owns n0 w' Z0 A ∧ Els (Rp.sl (Rp.int .i64)) (bl Z0 ++ A) w' dS q.Enum.Gens ∧ Els (Rp.sl (Rp.int .i64)) (bl Z0 ++ A) w' dI q.Enum.Elems ∧ Els (Rp.int .i64) (bl Z0 ++ A) w' dq q.Enum.Prefix ∧ Els (Rp.int .i64) (bl Z0 ++ A) w' dT q.Enum.Last ∧ Els (Rp.sl (Rp.int .i64)) (bl Z0 ++ A) w' dJ q.Enum.Right ∧ Els (rpRule) (bl Z0 ++ A) w' dK q.Enum.Rules ∧ Els (Rp.str) (bl Z0 ++ A) w' fk q.words ∧ Els (Rp.int .i64) (bl Z0 ++ A) w' eN q.behind ∧ Els (Rp.int .i64) (bl Z0 ++ A) w' eO q.single ∧ Fr (bl [.blk eY (.cells #[.int .i64 a0.Enum.Points, .bool a0.Enum.Monoid, .slice aH aG aI, .slice db c9 de, .slice cS cR cT, .slice dA dz dB, .slice a8 aP a9, .slice dh dg di, .int .i64 a0.Enum.Done, .map (some ba), .slice eK eI eM, .slice eC eB eF, .slice bu bt bv] 156 (0, 0)), .row 31 1 aH aG aI cP, .row 31 1 db c9 de e9, .row 3 1 cS cR cT eU, .row 3 1 dA dz dB fv, .row 31 1 a8 aP a9 cJ, .row 185 2 dh dg di fd, .row 9 1 eK eI eM gM, .row 3 1 eC eB eF gs, .row 3 1 bu bt bv dQ, .any (mapE (fun a : List UInt8 => Value.string (gstr a)) (fun a : Int => Value.int .i64 a) ba a0.number)]) w0 (bl Z0) w' ∧ K r0 q) [.blk eY (.cells #[.int .i64 q.Enum.Points, .bool q.Enum.Monoid, .slice cg cf ci, .slice bU bT bV, .slice bH bG bI, .slice ck cj co, .slice bX bW bY, .slice b8 b7 b9, .int .i64 q.Enum.Done, .map (some ba), .slice du dt dw, .slice cV cU cW, .slice cY cX c5] 156 (0, 0)), .row 31 1 cg cf ci dS, .row 31 1 bU bT bV dI, .row 3 1 bH bG bI dq, .row 3 1 ck cj co dT, .row 31 1 bX bW bY dJ, .row 185 2 b8 b7 b9 dK, .row 9 1 du dt dw fk, .row 3 1 cV cU cW eN, .row 3 1 cY cX c5 eO, .any (mapE (fun a : List UInt8 => Value.string (gstr a)) (fun a : Int => Value.int .i64 a) ba q.number)]) := by
 refine CallsV.of (l := [.pointer (some ⟨eY, 0, none⟩)]) Try.func133 rfl Try.ntmps133 rfl ?_
 have hB := Fr.refl (bl [.blk eY (.cells #[.int .i64 a0.Enum.Points, .bool a0.Enum.Monoid, .slice aH aG aI, .slice db c9 de, .slice cS cR cT, .slice dA dz dB, .slice a8 aP a9, .slice dh dg di, .int .i64 a0.Enum.Done, .map (some ba), .slice eK eI eM, .slice eC eB eF, .slice bu bt bv] 156 (0, 0)), .row 31 1 aH aG aI cP, .row 31 1 db c9 de e9, .row 3 1 cS cR cT eU, .row 3 1 dA dz dB fv, .row 31 1 a8 aP a9 cJ, .row 185 2 dh dg di fd, .row 9 1 eK eI eM gM, .row 3 1 eC eB eF gs, .row 3 1 bu bt bv dQ, .any (mapE (fun a : List UInt8 => Value.string (gstr a)) (fun a : Int => Value.int .i64 a) ba a0.number)]) w0
 unfold J0u at H
 refine zq (zr (za rfl (zn (zq (zr ?_)))))
 refine zm rfl (zo (J01 rfl) (zo (J00 Try.underlying156 rfl ti123 rfl (by decide)) (zo (J00 Try.underlying123 rfl ti3 rfl (by decide)) (zs (oblk (i := 8) 0 hO rfl rfl Try.underlying3 rfl rfl) (za rfl ?_)))))
 refine zn (zq (zr (zm rfl (zo (J01 rfl) (zo (J00 Try.underlying156 rfl ti123 rfl (by decide)) ?_)))))
 refine zo (J00 Try.underlying123 rfl ti23 rfl (by decide)) (zs (oblk (i := 2) 0 hO rfl rfl Try.underlying23 rfl rfl) (zo (J0y Try.underlying23 rfl (ae.neq hO 1 rfl)) ?_))
 obtain ⟨h8, H⟩ := H
 obtain ⟨h9, H⟩ := H
 have zz := omake (n := (a0.Enum.Gens.length : Int)) (r := Rp.int .i64) (d := (0 : Int)) Try.underlying31 ti3 (fun _ _ => rfl) rfl hO h8 h9 (by decide)
 obtain ⟨w1, p2, vs3, m3, hE5, hs6, C1⟩ := zz
 refine zg (C1 rfl rfl) ?_
 replace hO := m3.own
 refine za rfl (zn (zq (zq (zr (zm rfl ?_)))))
 refine zo (J01 rfl) (zo (J00 Try.underlying156 rfl ti123 rfl (by decide)) (zo (J00 Try.underlying123 rfl ti23 rfl (by decide)) (zs (oblk (i := 2) 1 hO rfl rfl Try.underlying23 rfl rfl) ?_)))
 replace ae := ae.ch m3.ch
 refine zo (J0y Try.underlying23 rfl (ae.neq hO 2 rfl)) (zm rfl (zn (zb ?_)))
 replace uG := uG.ch m3.ch
 replace t8 := t8.ch m3.ch
 replace u5 := u5.ch m3.ch
 replace af := af.ch m3.ch
 replace uH := uH.ch m3.ch
 replace xz := xz.ch m3.ch
 replace wO := wO.ch m3.ch
 replace ao := ao.ch m3.ch
 replace hB := hB.trans m3.fr
 refine Go1.loopW (S := Nat × List Int × List (List Int) × List Int × List Int × List Rule × List Str × List Int × (List (Str × Int))) (fun s σ w => match s with | (k1_12, d_13, d_16, d_22, d_28, d_34, d_40, d_46, m1_52) => ∃ (pc : List Value) (n21 : Nat) (p19 : Option Addr) (c20 : Nat) (lr : List Value) (n27 : Nat) (p25 : Option Addr) (c26 : Nat) (nf : List Value) (n33 : Nat) (p31 : Option Addr) (c32 : Nat) (ng : List Value) (n39 : Nat) (p37 : Option Addr) (c38 : Nat) (nh : List Value) (n45 : Nat) (p43 : Option Addr) (c44 : Nat) (ni : List Value) (n51 : Nat) (p49 : Option Addr) (c50 : Nat) (nj : List Value), agrees σ [(0, .pointer (some ⟨eY, 0, none⟩)), (3, .int .i64 a0.Enum.Done), (4, .slice p2 a0.Enum.Gens.length a0.Enum.Gens.length), (27, .slice aH aG aI), (28, .int .i64 (a0.Enum.Gens.length : Int)), (29, .int .i64 (k1_12 : Int))] ∧ (fun Z0 => Owns n0 w Z0 A ∧ Els (Rp.int .i64) (bl Z0 ++ A) w pc d_13 ∧ Els (Rp.sl (Rp.int .i64)) (bl Z0 ++ A) w cP a0.Enum.Gens ∧ Els (Rp.sl (Rp.int .i64)) (bl Z0 ++ A) w lr d_16 ∧ Els (Rp.int .i64) (bl Z0 ++ A) w nf d_22 ∧ Els (Rp.int .i64) (bl Z0 ++ A) w ng d_28 ∧ Els (Rp.sl (Rp.int .i64)) (bl Z0 ++ A) w cJ a0.Enum.Right ∧ Els (rpRule) (bl Z0 ++ A) w nh d_34 ∧ Els (Rp.str) (bl Z0 ++ A) w ni d_40 ∧ Els (Rp.int .i64) (bl Z0 ++ A) w nj d_46 ∧ Els (Rp.int .i64) (bl Z0 ++ A) w dQ a0.single ∧ Fr (bl [.blk eY (.cells #[.int .i64 a0.Enum.Points, .bool a0.Enum.Monoid, .slice aH aG aI, .slice db c9 de, .slice cS cR cT, .slice dA dz dB, .slice a8 aP a9, .slice dh dg di, .int .i64 a0.Enum.Done, .map (some ba), .slice eK eI eM, .slice eC eB eF, .slice bu bt bv] 156 (0, 0)), .row 31 1 aH aG aI cP, .row 31 1 db c9 de e9, .row 3 1 cS cR cT eU, .row 3 1 dA dz dB fv, .row 31 1 a8 aP a9 cJ, .row 185 2 dh dg di fd, .row 9 1 eK eI eM gM, .row 3 1 eC eB eF gs, .row 3 1 bu bt bv dQ, .any (mapE (fun a : List UInt8 => Value.string (gstr a)) (fun a : Int => Value.int .i64 a) ba a0.number)]) w0 (bl Z0) w) [.row 3 1 p2 a0.Enum.Gens.length a0.Enum.Gens.length pc, .blk eY (.cells #[.int .i64 a0.Enum.Points, .bool a0.Enum.Monoid, .slice aH aG aI, .slice p19 n21 c20, .slice p25 n27 c26, .slice p31 n33 c32, .slice a8 aP a9, .slice p37 n39 c38, .int .i64 a0.Enum.Done, .map (some ba), .slice p43 n45 c44, .slice p49 n51 c50, .slice bu bt bv] 156 (0, 0)), .row 31 1 aH aG aI cP, .row 31 1 p19 n21 c20 lr, .row 3 1 p25 n27 c26 nf, .row 3 1 p31 n33 c32 ng, .row 31 1 a8 aP a9 cJ, .row 185 2 p37 n39 c38 nh, .row 9 1 p43 n45 c44 ni, .row 3 1 p49 n51 c50 nj, .row 3 1 bu bt bv dQ, .any (mapE (fun a : List UInt8 => Value.string (gstr a)) (fun a : Int => Value.int .i64 a) ba m1_52)]) H ⟨vs3, c9, db, de, e9, cR, cS, cT, eU, dz, dA, dB, fv, dg, dh, di, fd, eI, eK, eM, gM, eB, eC, eF, gs, ⟨rfl, rfl, rfl, rfl, rfl, rfl, trivial⟩, hO, hE5, ae, uG, t8, u5, af, uH, xz, wO, ao, hB⟩ ?_
 intro X1
 refine prE fun k1_12 => prE fun d_13 => prE fun d_16 => prE fun d_22 => prE fun d_28 => prE fun d_34 => prE fun d_40 => prE fun d_46 => fun m1_52 => ?_
 intro H hX1 σ w11
 refine exE fun pc => exE fun n21 => exE fun p19 => exE fun c20 => exE fun lr => exE fun n27 => exE fun p25 => exE fun c26 => exE fun nf => exE fun n33 => exE fun p31 => exE fun c32 => exE fun ng => exE fun n39 => exE fun p37 => exE fun c38 => exE fun nh => exE fun n45 => exE fun p43 => exE fun c44 => exE fun ni => exE fun n51 => exE fun p49 => exE fun c50 => exE fun nj => andE fun hag => andE fun hO => andE fun ca => andE fun ae => andE fun dC => andE fun cI => andE fun cz => andE fun af => andE fun cb => andE fun bQ => andE fun bS => andE fun ao => fun hB => ?_
 dsimp only at H
 refine Go1.keep [(0, .pointer (some ⟨eY, 0, none⟩)), (3, .int .i64 a0.Enum.Done), (4, .slice p2 a0.Enum.Gens.length a0.Enum.Gens.length), (27, .slice aH aG aI), (28, .int .i64 (a0.Enum.Gens.length : Int)), (29, .int .i64 (k1_12 : Int))] hag ?_
 refine zq (zr ?_)
 by_cases h53 : (k1_12 : Int) < (a0.Enum.Gens.length : Int)
 ·replace H := ifp h53 H
  refine zo (fun w => opB (J08 rfl rfl w) (decide_eq_true h53)) (zn (zq (zt rfl rfl (zk (zq ?_)))))
  refine zb (zq (zr (zm rfl ?_)))
  obtain ⟨h54, H⟩ := H
  obtain ⟨h55, H⟩ := H
  refine zo (J02 Try.underlying23 ti31 rfl rfl h54 (ltn (ae.neq hO 2 rfl) h55) (ae.psome hO 2 rfl h54 h55)) ?_
  have zz := oldSl 2 hO rfl ae h54 h55
  obtain ⟨p56, c57, cp, So⟩ := zz
  refine zs (So Try.underlying31 rfl rfl) (za rfl (za rfl (zn (zq (zr ?_)))))
  refine zm rfl (zo (J01 rfl) (zo (J00 Try.underlying156 rfl ti123 rfl (by decide)) (zo (J00 Try.underlying123 rfl ti23 rfl (by decide)) (zs (oblk (i := 3) 1 hO rfl rfl Try.underlying23 rfl rfl) (zm rfl ?_)))))
  obtain ⟨h60, H⟩ := H
  obtain ⟨h61, H⟩ := H
  refine zo (J02 Try.underlying23 ti31 rfl rfl h60 (ltn (dC.neq hO 3 rfl) h61) (dC.psome hO 3 rfl h60 h61)) ?_
  have zz := oldSl 3 hO rfl dC h60 h61
  obtain ⟨p62, c63, cq, Sp⟩ := zz
  refine zs (Sp Try.underlying31 rfl rfl) (zm rfl ?_)
  refine GoR.call (J0a body158 rfl (walk_trans_Compose hO.lt cq cp H)) rfl rfl ?_
  rintro v70 w67 ⟨r66, tQ, tR, rfl, Sq, bz, H⟩
  have jF := Stp.same hO Sq
  replace hO := jF.own
  refine za rfl (zn (zq ?_))
  refine Go1.drawS 0 [(0, .pure), (1, .pure), (2, .pure), (3, .stable), (4, .pure), (5, .loud), (6, .stable), (7, .pure), (8, .pure), (9, .pure), (10, .pure), (11, .pure)] mixed (by kernel_rfl) ?_
  intro w72 I7
  have ru := Stp.same hO I7
  replace hO := ru.own
  refine GoQ.pure rfl (J03 rfl) rfl rfl ?_
  refine GoQ.pure rfl (J01 rfl) rfl rfl ?_
  refine GoQ.pure rfl (J00 Try.underlying156 rfl ti154 rfl (by decide)) rfl rfl ?_
  refine GoQ.stable rfl (oblk (i := 9) 1 hO rfl rfl Try.underlying154 rfl rfl) rfl rfl ?_
  refine GoQ.pure rfl (J03 rfl) rfl rfl ?_
  replace bz := bz.ch ru.ch
  refine GoQ.call rfl (J0a body157 rfl (J0n hO.lt bz H)) (fun v w hr => by obtain ⟨_, _, hs, _, _⟩ := hr; assumption) rfl rfl ?_
  rintro v79 w76 ⟨r75, rfl, Sr, TI, H⟩
  have jG := Stp.same hO Sr
  replace hO := jG.own
  by_cases h81 : mhas m1_52 r75 = true
  ·replace H := ifp h81 H
   refine GoQ.stable rfl (olookT (a := r75) (MK.str Try.underlying9) 11 hO rfl Try.underlying154 rfl rfl h81) rfl rfl ?_
   refine GoQ.pure rfl (J03 rfl) rfl rfl ?_
   refine GoQ.pure rfl (J07 rfl rfl) rfl rfl ?_
   refine GoQ.pure rfl (J07 rfl rfl) rfl rfl ?_
   refine GoQ.pure rfl (J0i rfl) rfl rfl ?_
   refine GoQ.pure rfl (J0i rfl) rfl rfl ?_
   refine GoQ.nil ?_
   refine zq ?_
   refine Go1.cut [(0, .pointer (some ⟨eY, 0, none⟩)), (3, .int .i64 a0.Enum.Done), (4, .slice p2 a0.Enum.Gens.length a0.Enum.Gens.length), (5, .int .i64 (k1_12 : Int)), (7, .slice tQ r66.length tR), (8, .int .i64 (mgt m1_52 r75)), (9, .bool true), (27, .slice aH aG aI), (28, .int .i64 (a0.Enum.Gens.length : Int)), (29, .int .i64 (k1_12 : Int))] ⟨rfl, rfl, rfl, rfl, rfl, rfl, rfl, rfl, rfl, rfl, trivial⟩ ?_
   intro σ _
   refine zr (zm rfl (zo (J01 rfl) (zo (J00 Try.underlying156 rfl ti30 rfl (by decide)) (zs (oblk (i := 10) 1 hO rfl rfl Try.underlying30 rfl rfl) (zm rfl ?_)))))
   obtain ⟨h82, H⟩ := H
   obtain ⟨h83, H⟩ := H
   have Z1 := (jF.ch.trans ru.ch).trans jG.ch
   replace bQ := bQ.ch Z1
   refine zo (J02 Try.underlying30 ti9 rfl rfl h82 (ltn (bQ.neq hO 8 rfl) h83) (bQ.psome hO 8 rfl h82 h83)) (zs (oldStr 8 hO rfl bQ h82 h83 Try.underlying9 rfl rfl) ?_)
   have hle84 := Els.str_le bQ h82 h83
   refine zm rfl ?_
   obtain ⟨h85, H⟩ := H
   refine zo (J0c rfl rfl (wrap_i64 h85)) (zo (op_conv Try.underlying3 Try.underlying21 rfl rfl) ?_)
   obtain ⟨h86, H⟩ := H
   obtain ⟨h87, H⟩ := H
   refine zo (op_convRS Try.underlying21 Try.underlying9 rfl h86 h87) ?_
   obtain ⟨h88, H⟩ := H
   refine zo (op_addS rfl rfl h88) (za rfl (zn (zq (zb (zq ?_)))))
   refine zr (zm rfl (zo (J0l rfl) (zm rfl (zp (zp ?_)))))
   refine zp (zp (zp (zp (zp (zo (J04 rfl rfl rfl) ?_)))))
   refine za rfl (zn (zf rfl rfl (zq ?_)))
   refine Go1.cut [(0, .pointer (some ⟨eY, 0, none⟩)), (3, .int .i64 a0.Enum.Done), (4, .slice p2 a0.Enum.Gens.length a0.Enum.Gens.length), (5, .int .i64 (k1_12 : Int)), (7, .slice tQ r66.length tR), (8, .int .i64 (mgt m1_52 r75)), (9, .bool true), (10, .string (gstr ((ix d_40 a0.Enum.Done) ++ (chr (IntKind.i32.wrap ((97 : Int) + (k1_12 : Int))))))), (27, .slice aH aG aI), (28, .int .i64 (a0.Enum.Gens.length : Int)), (29, .int .i64 (k1_12 : Int))] ⟨rfl, rfl, rfl, rfl, rfl, rfl, rfl, rfl, rfl, rfl, rfl, trivial⟩ ?_
   intro σ _
   refine zr (zm rfl (zo (J0l rfl) (za rfl (zn (zf rfl rfl ?_)))))
   refine zq (zr (zm rfl (zo (J01 rfl) (zo (J00 Try.underlying156 rfl ti30 rfl (by decide)) (zs (oblk (i := 10) 1 hO rfl rfl Try.underlying30 rfl rfl) ?_)))))
   refine zm rfl ?_
   obtain ⟨h89, H⟩ := H
   obtain ⟨h90, H⟩ := H
   refine zo (J02 Try.underlying30 ti9 rfl rfl h89 (ltn (bQ.neq hO 8 rfl) h90) (bQ.psome hO 8 rfl h89 h90)) (zs (oldStr 8 hO rfl bQ h89 h90 Try.underlying9 rfl rfl) ?_)
   have hle91 := Els.str_le bQ h89 h90
   by_cases h92 : (ix d_40 a0.Enum.Done) = (([] : Str))
   ·replace H := ifp h92 H
    refine zo (fun w => opB (op_neqS rfl rfl w) (ndT h92)) (zm rfl (zp (zp (zp (zp ?_)))))
    refine zp (zp (zp (zp (zp (zp ?_)))))
    refine zo (J04 rfl rfl rfl) (za rfl (zn (zf rfl rfl (zk ?_))))
    refine Go1.inBlock ?_
    refine Go1.cut [(0, .pointer (some ⟨eY, 0, none⟩)), (3, .int .i64 a0.Enum.Done), (4, .slice p2 a0.Enum.Gens.length a0.Enum.Gens.length), (5, .int .i64 (k1_12 : Int)), (8, .int .i64 (mgt m1_52 r75)), (27, .slice aH aG aI), (28, .int .i64 (a0.Enum.Gens.length : Int)), (29, .int .i64 (k1_12 : Int))] ⟨rfl, rfl, rfl, rfl, rfl, rfl, rfl, rfl, trivial⟩ ?_
    intro σ _
    refine zr (zm rfl (zm rfl (zm rfl ?_)))
    obtain ⟨h93, H⟩ := H
    obtain ⟨h94, H⟩ := H
    replace ca := ca.ch Z1
    refine zo (J02 Try.underlying31 ti3 rfl rfl h93 (ltn (ca.neq hO 0 rfl) h94) (ca.psome hO 0 rfl h93 h94)) ?_
    have zz := ost (r := Rp.int .i64) rfl 0 hO rfl ca h93 h94 (v := .int .i64 (mgt m1_52 r75)) (u := (mgt m1_52 r75)) rfl rfl
    obtain ⟨w95, Ss, rv, Kj, OI⟩ := zz
    dsimp only [sS, sZ] at rv Kj
    refine zg (OI Try.underlying3 rfl ti3 (by exact rfl) (by exact rfl)) ?_
    replace hO := rv.own
    refine zn ?_
    refine Go1.inBlock ?_
    refine zr ?_
    replace ae := (ae.ch Z1).ch rv.ch
    refine zo (J0c rfl rfl (wrap_i64 (natbd h53 ae.bd))) (zm rfl (zn ?_))
    replace bQ := bQ.ch rv.ch
    have Z2 := Z1.trans rv.ch
    replace dC := dC.ch Z2
    replace cI := cI.ch Z2
    replace cz := cz.ch Z2
    replace af := af.ch Z2
    replace cb := cb.ch Z2
    replace bS := bS.ch Z2
    replace ao := ao.ch Z2
    replace hB := (((hB.trans jF.fr).trans ru.fr).trans jG.fr).trans rv.fr
    exact hX1 _ H _ _ ⟨Ss, n21, p19, c20, lr, n27, p25, c26, nf, n33, p31, c32, ng, n39, p37, c38, nh, n45, p43, c44, ni, n51, p49, c50, nj, ⟨rfl, rfl, rfl, rfl, rfl, rfl, trivial⟩, hO, Kj, ae, dC, cI, cz, af, cb, bQ, bS, ao, hB⟩
   replace H := ifn h92 H
   refine zo (fun w => opB (op_neqS rfl rfl w) (ndF h92)) (zm rfl (zm rfl (zm rfl (zo (J01 rfl) (zo (J00 Try.underlying156 rfl ti31 rfl (by decide)) ?_)))))
   refine zs (oblk (i := 11) 1 hO rfl rfl Try.underlying31 rfl rfl) (zm rfl ?_)
   obtain ⟨Gr, H⟩ := H
   obtain ⟨Gs, H⟩ := H
   replace bS := bS.ch Z1
   refine zo (J02 Try.underlying31 ti3 rfl rfl Gr (ltn (bS.neq hO 9 rfl) Gs) (bS.psome hO 9 rfl Gr Gs)) (zs (oldInt 9 hO rfl bS Gr Gs Try.underlying3 rfl rfl) (zm rfl ?_))
   refine GoR.inl (vs := [.pointer (some ⟨eY, 0, none⟩), .int .i64 (ix d_46 a0.Enum.Done), .int .i64 (k1_12 : Int)]) (caps := []) rfl rfl body160 Try.func160 rfl Try.ntmps160 rfl rfl rfl ?_
   intro RhR102 hR102
   refine zq (zr (za rfl (zn (zq ?_))))
   refine Go1.cut [(0, .pointer (some ⟨eY, 0, none⟩)), (1, .int .i64 (ix d_46 a0.Enum.Done)), (2, .int .i64 (k1_12 : Int))] ⟨rfl, rfl, rfl, trivial⟩ ?_
   intro σ _
   refine zr (zm rfl (zm rfl (zm rfl ?_)))
   refine GoR.inl (vs := [.pointer (some ⟨eY, 0, none⟩), .int .i64 (ix d_46 a0.Enum.Done), .int .i64 (k1_12 : Int)]) (caps := []) rfl rfl body159 Try.func159 rfl Try.ntmps159 rfl rfl rfl ?_
   intro RhR103 hR103
   refine zq (zr (za rfl (zn (zq (zq ?_)))))
   refine zr (zm rfl ?_)
   by_cases uQ : (ix d_46 a0.Enum.Done) = (-1 : Int)
   ·replace H := ifp uQ H
    refine zo (fun w => opB (J0w rfl rfl w) (decide_eq_true uQ)) (zn (zt rfl rfl (zq (zr (zm rfl ?_)))))
    refine zo (J01 rfl) (zo (J00 Try.underlying156 rfl ti31 rfl (by decide)) (zs (oblk (i := 12) 1 hO rfl rfl Try.underlying31 rfl rfl) (zm rfl ?_)))
    obtain ⟨wK, H⟩ := H
    obtain ⟨Ab, H⟩ := H
    replace ao := ao.ch Z1
    refine zo (J02 Try.underlying31 ti3 rfl rfl wK (ltn (ao.neq hO 10 rfl) Ab) (ao.psome hO 10 rfl wK Ab)) (zs (oldInt 10 hO rfl ao wK Ab Try.underlying3 rfl rfl) (za rfl (zn ?_)))
    refine Go1.ret1V Try.func159 rfl (show _ = .int .i64 (ix a0.single (k1_12 : Int)) from rfl) ?_
    refine hR103 _ _ ?_
    refine za rfl (zn (zq (zr (zm rfl (zo (J01 rfl) ?_)))))
    refine zo (J00 Try.underlying156 rfl ti123 rfl (by decide)) (zo (J00 Try.underlying123 rfl ti31 rfl (by decide)) (zs (oblk (i := 4) 1 hO rfl rfl Try.underlying31 rfl rfl) (zm rfl ?_)))
    obtain ⟨nM, H⟩ := H
    obtain ⟨qJ, H⟩ := H
    replace cI := cI.ch Z1
    refine zo (J02 Try.underlying31 ti3 rfl rfl nM (ltn (cI.neq hO 4 rfl) qJ) (cI.psome hO 4 rfl nM qJ)) (zs (oldInt 4 hO rfl cI nM qJ Try.underlying3 rfl rfl) (zm rfl ?_))
    by_cases we : (ix d_22 (ix a0.single (k1_12 : Int))) = (ix d_46 a0.Enum.Done)
    ·replace H := ifp we H
     refine zo (fun w => opB (J0w rfl rfl w) (decide_eq_true we)) (zm rfl (zm rfl (zo (J01 rfl) (zo (J00 Try.underlying156 rfl ti123 rfl (by decide)) (zo (J00 Try.underlying123 rfl ti31 rfl (by decide)) ?_)))))
     refine zs (oblk (i := 5) 1 hO rfl rfl Try.underlying31 rfl rfl) (zm rfl ?_)
     obtain ⟨CO, H⟩ := H
     obtain ⟨zV, H⟩ := H
     replace cz := cz.ch Z1
     refine zo (J02 Try.underlying31 ti3 rfl rfl CO (ltn (cz.neq hO 5 rfl) zV) (cz.psome hO 5 rfl CO zV)) (zs (oldInt 5 hO rfl cz CO zV Try.underlying3 rfl rfl) (zm rfl ?_))
     by_cases yr : (ix d_28 (ix a0.single (k1_12 : Int))) = (k1_12 : Int)
     ·replace H := ifp yr H
      refine zo (fun w => opB (J0w rfl rfl w) (decide_eq_true yr)) (zo (J05 rfl rfl rfl) (za rfl (zn ?_)))
      refine Go1.ret1V Try.func160 rfl (show _ = .bool true from rfl) ?_
      refine hR102 _ _ ?_
      refine zo (J05 rfl rfl rfl) (za rfl (zn (zt rfl rfl ?_)))
      refine Go1.cut [(0, .pointer (some ⟨eY, 0, none⟩)), (3, .int .i64 a0.Enum.Done), (4, .slice p2 a0.Enum.Gens.length a0.Enum.Gens.length), (5, .int .i64 (k1_12 : Int)), (8, .int .i64 (mgt m1_52 r75)), (10, .string (gstr ((ix d_40 a0.Enum.Done) ++ (chr (IntKind.i32.wrap ((97 : Int) + (k1_12 : Int))))))), (27, .slice aH aG aI), (28, .int .i64 (a0.Enum.Gens.length : Int)), (29, .int .i64 (k1_12 : Int))] ⟨rfl, rfl, rfl, rfl, rfl, rfl, rfl, rfl, rfl, trivial⟩ ?_
      intro σ _
      refine Go1.drawS 5 [(0, .pure), (1, .pure), (2, .pure), (3, .pure), (4, .pure), (5, .stable), (6, .pure), (7, .pure), (8, .pure), (9, .pure), (10, .stable), (11, .pure), (12, .pure), (13, .stable), (14, .pure), (15, .loud), (16, .last), (17, .pure), (18, .pure), (19, .pure), (20, .last)] mixed (by kernel_rfl) ?_
      intro W0 OJ
      have iu := Stp.same hO OJ
      replace hO := iu.own
      refine GoQ.pure rfl (J03 rfl) rfl rfl ?_
      refine GoQ.pure rfl (J03 rfl) rfl rfl ?_
      refine GoQ.pure rfl (J01 rfl) rfl rfl ?_
      refine GoQ.pure rfl (J00 Try.underlying156 rfl ti123 rfl (by decide)) rfl rfl ?_
      refine GoQ.pure rfl (J00 Try.underlying123 rfl ti121 rfl (by decide)) rfl rfl ?_
      refine GoQ.stable rfl (oblk (i := 7) 1 hO rfl rfl Try.underlying121 rfl rfl) rfl rfl ?_
      refine GoQ.pure rfl (J03 rfl) rfl rfl ?_
      refine GoQ.pure rfl (J03 rfl) rfl rfl ?_
      refine GoQ.pure rfl (J01 rfl) rfl rfl ?_
      refine GoQ.pure rfl (J00 Try.underlying156 rfl ti30 rfl (by decide)) rfl rfl ?_
      refine GoQ.stable rfl (oblk (i := 10) 1 hO rfl rfl Try.underlying30 rfl rfl) rfl rfl ?_
      refine GoQ.pure rfl (J03 rfl) rfl rfl ?_
      obtain ⟨Bn, H⟩ := H
      obtain ⟨Bj, H⟩ := H
      replace bQ := bQ.ch iu.ch
      refine GoQ.pure rfl (J02 Try.underlying30 ti9 rfl rfl Bn (ltn (bQ.neq hO 8 rfl) Bj) (bQ.psome hO 8 rfl Bn Bj)) rfl rfl ?_
      refine GoQ.stable rfl (oldStr 8 hO rfl bQ Bn Bj Try.underlying9 rfl rfl) rfl rfl ?_
      have hle118 := Els.str_le bQ Bn Bj
      refine GoQ.pure rfl (J0q Try.underlying185 ti185 (pl := [(0, 1), (1, 1)]) (vs := [(0, .string (gstr ((ix d_40 a0.Enum.Done) ++ (chr (IntKind.i32.wrap ((97 : Int) + (k1_12 : Int))))))), (1, .string (gstr (ix d_40 (mgt m1_52 r75))))]) (cs := #[.string (gstr ((ix d_40 a0.Enum.Done) ++ (chr (IntKind.i32.wrap ((97 : Int) + (k1_12 : Int)))))), .string (gstr (ix d_40 (mgt m1_52 r75)))]) (by kernel_rfl) rfl (by kernel_rfl)) rfl rfl ?_
      have zz := obuildN (r := rpRule) (n := 1) (parts := [(0, .agg #[.string (gstr ((ix d_40 a0.Enum.Done) ++ (chr (IntKind.i32.wrap ((97 : Int) + (k1_12 : Int)))))), .string (gstr (ix d_40 (mgt m1_52 r75)))])]) (vs := [.string (gstr ((ix d_40 a0.Enum.Done) ++ (chr (IntKind.i32.wrap ((97 : Int) + (k1_12 : Int)))))), .string (gstr (ix d_40 (mgt m1_52 r75)))]) (xs := [(⟨((ix d_40 a0.Enum.Done) ++ (chr (IntKind.i32.wrap ((97 : Int) + (k1_12 : Int))))), ix d_40 (mgt m1_52 r75)⟩ : Rule)]) Try.underlying121 ti185 hO (by decide) (by decide) (by kernel_rfl) (Els.flat1 (⟨((ix d_40 a0.Enum.Done) ++ (chr (IntKind.i32.wrap ((97 : Int) + (k1_12 : Int))))), ix d_40 (mgt m1_52 r75)⟩ : Rule) ⟨(lenApp h88), hle118⟩) rfl
      obtain ⟨W1, jC, fD, pq, OK, Kk⟩ := zz
      refine GoQ.loud rfl (Kk rfl) OK rfl rfl ?_
      replace hO := fD.own
      have zz := freeze 0 hO rfl pq
      obtain ⟨hO1, tf, xj, OL⟩ := zz
      dsimp only [eS, eZ] at hO1 tf xj
      replace hB := (((((hB.trans jF.fr).trans ru.fr).trans jG.fr).trans iu.fr).trans fD.fr).trans (Owns.J09 _ _ 0)
      dsimp only [eS, eZ] at hB
      replace hO := hO1; clear hO1
      obtain ⟨St, H⟩ := H
      have Z3 := ((Z1.trans iu.ch).trans fD.ch).trans tf
      replace cb := cb.ch Z3
      have zz := oapp Try.underlying121 ti185 rfl 7 hO rfl cb xj OL St (by decide)
      obtain ⟨W2, Gt, Gu, OM, my, y6, CT⟩ := zz
      dsimp only [sS, sZ] at my y6
      refine GoQ.last rfl (CT (by exact rfl) (by exact rfl)) rfl rfl ?_
      replace hO := my.own
      refine GoQ.pure rfl (J01 rfl) rfl rfl ?_
      refine GoQ.pure rfl (J00 Try.underlying156 rfl ti123 rfl (by decide)) rfl rfl ?_
      refine GoQ.pure rfl (J00 Try.underlying123 rfl ti121 rfl (by decide)) rfl rfl ?_
      have zz := J0e (v := .slice Gt (n39 + 1) Gu) (i := 7) (cs' := #[.int .i64 a0.Enum.Points, .bool a0.Enum.Monoid, .slice aH aG aI, .slice p19 n21 c20, .slice p25 n27 c26, .slice p31 n33 c32, .slice a8 aP a9, .slice Gt (n39 + 1) Gu, .int .i64 a0.Enum.Done, .map (some ba), .slice p43 n45 c44, .slice p49 n51 c50, .slice bu bt bv]) 1 hO rfl rfl rfl rfl
      obtain ⟨W3, lP, Kl⟩ := zz
      dsimp only [sS, sZ] at lP
      refine GoQ.last rfl (Kl Try.underlying121 rfl ti121 (by exact rfl) (by exact rfl)) rfl rfl ?_
      replace hO := lP.own
      refine GoQ.nil ?_
      refine Go1.inBlock ?_
      refine Go1.cut [(0, .pointer (some ⟨eY, 0, none⟩)), (3, .int .i64 a0.Enum.Done), (4, .slice p2 a0.Enum.Gens.length a0.Enum.Gens.length), (5, .int .i64 (k1_12 : Int)), (8, .int .i64 (mgt m1_52 r75)), (27, .slice aH aG aI), (28, .int .i64 (a0.Enum.Gens.length : Int)), (29, .int .i64 (k1_12 : Int))] ⟨rfl, rfl, rfl, rfl, rfl, rfl, rfl, rfl, trivial⟩ ?_
      intro σ _
      refine zr (zm rfl (zm rfl (zm rfl ?_)))
      obtain ⟨xR, H⟩ := H
      obtain ⟨Gv, H⟩ := H
      replace ca := ((ca.ch Z3).ch my.ch).ch lP.ch
      refine zo (J02 Try.underlying31 ti3 rfl rfl xR (ltn (ca.neq hO 0 rfl) Gv) (ca.psome hO 0 rfl xR Gv)) ?_
      have zz := ost (r := Rp.int .i64) rfl 0 hO rfl ca xR Gv (v := .int .i64 (mgt m1_52 r75)) (u := (mgt m1_52 r75)) rfl rfl
      obtain ⟨Su, ON, mz, Ia, Km⟩ := zz
      dsimp only [sS, sZ] at mz Ia
      refine zg (Km Try.underlying3 rfl ti3 (by exact rfl) (by exact rfl)) ?_
      replace hO := mz.own
      refine zn ?_
      refine Go1.inBlock ?_
      refine zr ?_
      have Z4 := ((Z3.trans my.ch).trans lP.ch).trans mz.ch
      replace ae := ae.ch Z4
      refine zo (J0c rfl rfl (wrap_i64 (natbd h53 ae.bd))) (zm rfl (zn ?_))
      replace y6 := (y6.ch lP.ch).ch mz.ch
      replace hB := ((hB.trans my.fr).trans lP.fr).trans mz.fr
      have Z5 := (((fD.ch.trans tf).trans my.ch).trans lP.ch).trans mz.ch
      replace bQ := bQ.ch Z5
      have Z6 := ((((iu.ch.trans fD.ch).trans tf).trans my.ch).trans lP.ch).trans mz.ch
      replace cI := cI.ch Z6
      replace cz := cz.ch Z6
      replace bS := bS.ch Z6
      replace ao := ao.ch Z6
      replace dC := dC.ch Z4
      replace af := af.ch Z4
      exact hX1 _ H _ _ ⟨ON, n21, p19, c20, lr, n27, p25, c26, nf, n33, p31, c32, ng, n39 + 1, Gt, Gu, OM, n45, p43, c44, ni, n51, p49, c50, nj, ⟨rfl, rfl, rfl, rfl, rfl, rfl, trivial⟩, hO, Ia, ae, dC, cI, cz, af, y6, bQ, bS, ao, hB⟩
     replace H := ifn yr H
     refine zo (fun w => opB (J0w rfl rfl w) (decide_eq_false yr)) (zo (J05 rfl rfl rfl) (za rfl (zn ?_)))
     refine Go1.ret1V Try.func160 rfl (show _ = .bool false from rfl) ?_
     refine hR102 _ _ ?_
     refine zo (J05 rfl rfl rfl) (za rfl (zn (zf rfl rfl (zk ?_))))
     refine Go1.inBlock ?_
     refine zr (zm rfl (zm rfl (zm rfl ?_)))
     obtain ⟨Gw, H⟩ := H
     obtain ⟨Gx, H⟩ := H
     replace ca := ca.ch Z1
     refine zo (J02 Try.underlying31 ti3 rfl rfl Gw (ltn (ca.neq hO 0 rfl) Gx) (ca.psome hO 0 rfl Gw Gx)) ?_
     have zz := ost (r := Rp.int .i64) rfl 0 hO rfl ca Gw Gx (v := .int .i64 (mgt m1_52 r75)) (u := (mgt m1_52 r75)) rfl rfl
     obtain ⟨Rt, OO, nk, Ib, Cu⟩ := zz
     dsimp only [sS, sZ] at nk Ib
     refine zg (Cu Try.underlying3 rfl ti3 (by exact rfl) (by exact rfl)) ?_
     replace hO := nk.own
     refine zn ?_
     refine Go1.inBlock ?_
     refine zr ?_
     replace ae := (ae.ch Z1).ch nk.ch
     refine zo (J0c rfl rfl (wrap_i64 (natbd h53 ae.bd))) (zm rfl (zn ?_))
     replace cI := cI.ch nk.ch
     replace cz := cz.ch nk.ch
     replace bQ := bQ.ch nk.ch
     replace bS := bS.ch nk.ch
     replace ao := ao.ch nk.ch
     have Z7 := Z1.trans nk.ch
     replace dC := dC.ch Z7
     replace af := af.ch Z7
     replace cb := cb.ch Z7
     replace hB := (((hB.trans jF.fr).trans ru.fr).trans jG.fr).trans nk.fr
     exact hX1 _ H _ _ ⟨OO, n21, p19, c20, lr, n27, p25, c26, nf, n33, p31, c32, ng, n39, p37, c38, nh, n45, p43, c44, ni, n51, p49, c50, nj, ⟨rfl, rfl, rfl, rfl, rfl, rfl, trivial⟩, hO, Ib, ae, dC, cI, cz, af, cb, bQ, bS, ao, hB⟩
    replace H := ifn we H
    refine zo (fun w => opB (J0w rfl rfl w) (decide_eq_false we)) (zm rfl (zp (zp (zp (zp ?_)))))
    refine zp (zp (zp (zp (zp (zp ?_)))))
    refine zo (J04 rfl rfl rfl) (za rfl (zn ?_))
    refine Go1.ret1V Try.func160 rfl (show _ = .bool false from rfl) ?_
    refine hR102 _ _ ?_
    refine zo (J05 rfl rfl rfl) (za rfl (zn (zf rfl rfl (zk ?_))))
    refine Go1.inBlock ?_
    refine Go1.cut [(0, .pointer (some ⟨eY, 0, none⟩)), (3, .int .i64 a0.Enum.Done), (4, .slice p2 a0.Enum.Gens.length a0.Enum.Gens.length), (5, .int .i64 (k1_12 : Int)), (8, .int .i64 (mgt m1_52 r75)), (27, .slice aH aG aI), (28, .int .i64 (a0.Enum.Gens.length : Int)), (29, .int .i64 (k1_12 : Int))] ⟨rfl, rfl, rfl, rfl, rfl, rfl, rfl, rfl, trivial⟩ ?_
    intro σ _
    refine zr (zm rfl (zm rfl (zm rfl ?_)))
    obtain ⟨x9, H⟩ := H
    obtain ⟨zY, H⟩ := H
    replace ca := ca.ch Z1
    refine zo (J02 Try.underlying31 ti3 rfl rfl x9 (ltn (ca.neq hO 0 rfl) zY) (ca.psome hO 0 rfl x9 zY)) ?_
    have zz := ost (r := Rp.int .i64) rfl 0 hO rfl ca x9 zY (v := .int .i64 (mgt m1_52 r75)) (u := (mgt m1_52 r75)) rfl rfl
    obtain ⟨W4, OP, nm, Ic, Kn⟩ := zz
    dsimp only [sS, sZ] at nm Ic
    refine zg (Kn Try.underlying3 rfl ti3 (by exact rfl) (by exact rfl)) ?_
    replace hO := nm.own
    refine zn ?_
    refine Go1.inBlock ?_
    refine zr ?_
    replace ae := (ae.ch Z1).ch nm.ch
    refine zo (J0c rfl rfl (wrap_i64 (natbd h53 ae.bd))) (zm rfl (zn ?_))
    replace cI := cI.ch nm.ch
    replace bQ := bQ.ch nm.ch
    replace bS := bS.ch nm.ch
    replace ao := ao.ch nm.ch
    have Z8 := Z1.trans nm.ch
    replace dC := dC.ch Z8
    replace cz := cz.ch Z8
    replace af := af.ch Z8
    replace cb := cb.ch Z8
    replace hB := (((hB.trans jF.fr).trans ru.fr).trans jG.fr).trans nm.fr
    exact hX1 _ H _ _ ⟨OP, n21, p19, c20, lr, n27, p25, c26, nf, n33, p31, c32, ng, n39, p37, c38, nh, n45, p43, c44, ni, n51, p49, c50, nj, ⟨rfl, rfl, rfl, rfl, rfl, rfl, trivial⟩, hO, Ic, ae, dC, cI, cz, af, cb, bQ, bS, ao, hB⟩
   replace H := ifn uQ H
   refine zo (fun w => opB (J0w rfl rfl w) (decide_eq_false uQ)) (zn (zf rfl rfl (zk (zq (zr ?_)))))
   refine zm rfl (zo (J01 rfl) (zo (J00 Try.underlying156 rfl ti123 rfl (by decide)) (zo (J00 Try.underlying123 rfl ti23 rfl (by decide)) (zs (oblk (i := 6) 1 hO rfl rfl Try.underlying23 rfl rfl) (zm rfl ?_)))))
   obtain ⟨C3, H⟩ := H
   obtain ⟨C4, H⟩ := H
   replace af := af.ch Z1
   refine zo (J02 Try.underlying23 ti31 rfl rfl C3 (ltn (af.neq hO 6 rfl) C4) (af.psome hO 6 rfl C3 C4)) ?_
   have zz := oldSl 6 hO rfl af C3 C4
   obtain ⟨W5, W6, nH, OQ⟩ := zz
   refine zs (OQ Try.underlying31 rfl rfl) (zm rfl ?_)
   obtain ⟨Gy, H⟩ := H
   obtain ⟨Gz, H⟩ := H
   refine zo (J02 Try.underlying31 ti3 rfl rfl Gy Gz (nH.some_ Gy Gz)) (zs (ldInt nH Gy Gz Try.underlying3 rfl rfl) (za rfl (zn ?_)))
   refine Go1.ret1V Try.func159 rfl (show _ = .int .i64 (ix (ix a0.Enum.Right (ix d_46 a0.Enum.Done)) (k1_12 : Int)) from rfl) ?_
   refine hR103 _ _ ?_
   refine za rfl (zn (zq ?_))
   refine Go1.cut [(0, .pointer (some ⟨eY, 0, none⟩)), (1, .int .i64 (ix d_46 a0.Enum.Done)), (2, .int .i64 (k1_12 : Int)), (7, .int .i64 (ix (ix a0.Enum.Right (ix d_46 a0.Enum.Done)) (k1_12 : Int)))] ⟨rfl, rfl, rfl, rfl, trivial⟩ ?_
   intro σ _
   refine zr (zm rfl (zo (J01 rfl) (zo (J00 Try.underlying156 rfl ti123 rfl (by decide)) (zo (J00 Try.underlying123 rfl ti31 rfl (by decide)) (zs (oblk (i := 4) 1 hO rfl rfl Try.underlying31 rfl rfl) ?_)))))
   refine zm rfl ?_
   obtain ⟨GA, H⟩ := H
   obtain ⟨Dh, H⟩ := H
   replace cI := cI.ch Z1
   refine zo (J02 Try.underlying31 ti3 rfl rfl GA (ltn (cI.neq hO 4 rfl) Dh) (cI.psome hO 4 rfl GA Dh)) (zs (oldInt 4 hO rfl cI GA Dh Try.underlying3 rfl rfl) (zm rfl ?_))
   by_cases ET : (ix d_22 (ix (ix a0.Enum.Right (ix d_46 a0.Enum.Done)) (k1_12 : Int))) = (ix d_46 a0.Enum.Done)
   ·replace H := ifp ET H
    refine zo (fun w => opB (J0w rfl rfl w) (decide_eq_true ET)) (zm rfl (zm rfl (zo (J01 rfl) (zo (J00 Try.underlying156 rfl ti123 rfl (by decide)) (zo (J00 Try.underlying123 rfl ti31 rfl (by decide)) ?_)))))
    refine zs (oblk (i := 5) 1 hO rfl rfl Try.underlying31 rfl rfl) (zm rfl ?_)
    obtain ⟨yy, H⟩ := H
    obtain ⟨GB, H⟩ := H
    replace cz := cz.ch Z1
    refine zo (J02 Try.underlying31 ti3 rfl rfl yy (ltn (cz.neq hO 5 rfl) GB) (cz.psome hO 5 rfl yy GB)) (zs (oldInt 5 hO rfl cz yy GB Try.underlying3 rfl rfl) (zm rfl ?_))
    by_cases Bu : (ix d_28 (ix (ix a0.Enum.Right (ix d_46 a0.Enum.Done)) (k1_12 : Int))) = (k1_12 : Int)
    ·replace H := ifp Bu H
     refine zo (fun w => opB (J0w rfl rfl w) (decide_eq_true Bu)) (zo (J05 rfl rfl rfl) (za rfl (zn ?_)))
     refine Go1.ret1V Try.func160 rfl (show _ = .bool true from rfl) ?_
     refine hR102 _ _ ?_
     refine zo (J05 rfl rfl rfl) (za rfl (zn (zt rfl rfl ?_)))
     refine Go1.cut [(0, .pointer (some ⟨eY, 0, none⟩)), (3, .int .i64 a0.Enum.Done), (4, .slice p2 a0.Enum.Gens.length a0.Enum.Gens.length), (5, .int .i64 (k1_12 : Int)), (8, .int .i64 (mgt m1_52 r75)), (10, .string (gstr ((ix d_40 a0.Enum.Done) ++ (chr (IntKind.i32.wrap ((97 : Int) + (k1_12 : Int))))))), (27, .slice aH aG aI), (28, .int .i64 (a0.Enum.Gens.length : Int)), (29, .int .i64 (k1_12 : Int))] ⟨rfl, rfl, rfl, rfl, rfl, rfl, rfl, rfl, rfl, trivial⟩ ?_
     intro σ _
     refine Go1.drawS 5 [(0, .pure), (1, .pure), (2, .pure), (3, .pure), (4, .pure), (5, .stable), (6, .pure), (7, .pure), (8, .pure), (9, .pure), (10, .stable), (11, .pure), (12, .pure), (13, .stable), (14, .pure), (15, .loud), (16, .last), (17, .pure), (18, .pure), (19, .pure), (20, .last)] mixed (by kernel_rfl) ?_
     intro Ko OR
     have fK := Stp.same hO OR
     replace hO := fK.own
     refine GoQ.pure rfl (J03 rfl) rfl rfl ?_
     refine GoQ.pure rfl (J03 rfl) rfl rfl ?_
     refine GoQ.pure rfl (J01 rfl) rfl rfl ?_
     refine GoQ.pure rfl (J00 Try.underlying156 rfl ti123 rfl (by decide)) rfl rfl ?_
     refine GoQ.pure rfl (J00 Try.underlying123 rfl ti121 rfl (by decide)) rfl rfl ?_
     refine GoQ.stable rfl (oblk (i := 7) 1 hO rfl rfl Try.underlying121 rfl rfl) rfl rfl ?_
     refine GoQ.pure rfl (J03 rfl) rfl rfl ?_
     refine GoQ.pure rfl (J03 rfl) rfl rfl ?_
     refine GoQ.pure rfl (J01 rfl) rfl rfl ?_
     refine GoQ.pure rfl (J00 Try.underlying156 rfl ti30 rfl (by decide)) rfl rfl ?_
     refine GoQ.stable rfl (oblk (i := 10) 1 hO rfl rfl Try.underlying30 rfl rfl) rfl rfl ?_
     refine GoQ.pure rfl (J03 rfl) rfl rfl ?_
     obtain ⟨EU, H⟩ := H
     obtain ⟨EV, H⟩ := H
     replace bQ := bQ.ch fK.ch
     refine GoQ.pure rfl (J02 Try.underlying30 ti9 rfl rfl EU (ltn (bQ.neq hO 8 rfl) EV) (bQ.psome hO 8 rfl EU EV)) rfl rfl ?_
     refine GoQ.stable rfl (oldStr 8 hO rfl bQ EU EV Try.underlying9 rfl rfl) rfl rfl ?_
     have hle181 := Els.str_le bQ EU EV
     refine GoQ.pure rfl (J0q Try.underlying185 ti185 (pl := [(0, 1), (1, 1)]) (vs := [(0, .string (gstr ((ix d_40 a0.Enum.Done) ++ (chr (IntKind.i32.wrap ((97 : Int) + (k1_12 : Int))))))), (1, .string (gstr (ix d_40 (mgt m1_52 r75))))]) (cs := #[.string (gstr ((ix d_40 a0.Enum.Done) ++ (chr (IntKind.i32.wrap ((97 : Int) + (k1_12 : Int)))))), .string (gstr (ix d_40 (mgt m1_52 r75)))]) (by kernel_rfl) rfl (by kernel_rfl)) rfl rfl ?_
     have zz := obuildN (r := rpRule) (n := 1) (parts := [(0, .agg #[.string (gstr ((ix d_40 a0.Enum.Done) ++ (chr (IntKind.i32.wrap ((97 : Int) + (k1_12 : Int)))))), .string (gstr (ix d_40 (mgt m1_52 r75)))])]) (vs := [.string (gstr ((ix d_40 a0.Enum.Done) ++ (chr (IntKind.i32.wrap ((97 : Int) + (k1_12 : Int)))))), .string (gstr (ix d_40 (mgt m1_52 r75)))]) (xs := [(⟨((ix d_40 a0.Enum.Done) ++ (chr (IntKind.i32.wrap ((97 : Int) + (k1_12 : Int))))), ix d_40 (mgt m1_52 r75)⟩ : Rule)]) Try.underlying121 ti185 hO (by decide) (by decide) (by kernel_rfl) (Els.flat1 (⟨((ix d_40 a0.Enum.Done) ++ (chr (IntKind.i32.wrap ((97 : Int) + (k1_12 : Int))))), ix d_40 (mgt m1_52 r75)⟩ : Rule) ⟨(lenApp h88), hle181⟩) rfl
     obtain ⟨W7, W8, mA, OS, OT, Kq⟩ := zz
     refine GoQ.loud rfl (Kq rfl) OT rfl rfl ?_
     replace hO := mA.own
     have zz := freeze 0 hO rfl OS
     obtain ⟨hO1, rB, xk, OU⟩ := zz
     dsimp only [eS, eZ] at hO1 rB xk
     replace hB := (((((hB.trans jF.fr).trans ru.fr).trans jG.fr).trans fK.fr).trans mA.fr).trans (Owns.J09 _ _ 0)
     dsimp only [eS, eZ] at hB
     replace hO := hO1; clear hO1
     obtain ⟨CW, H⟩ := H
     have Z9 := ((Z1.trans fK.ch).trans mA.ch).trans rB
     replace cb := cb.ch Z9
     have zz := oapp Try.underlying121 ti185 rfl 7 hO rfl cb xk OU CW (by decide)
     obtain ⟨W9, GC, GD, Er, iK, uV, CX⟩ := zz
     dsimp only [sS, sZ] at iK uV
     refine GoQ.last rfl (CX (by exact rfl) (by exact rfl)) rfl rfl ?_
     replace hO := iK.own
     refine GoQ.pure rfl (J01 rfl) rfl rfl ?_
     refine GoQ.pure rfl (J00 Try.underlying156 rfl ti123 rfl (by decide)) rfl rfl ?_
     refine GoQ.pure rfl (J00 Try.underlying123 rfl ti121 rfl (by decide)) rfl rfl ?_
     have zz := J0e (v := .slice GC (n39 + 1) GD) (i := 7) (cs' := #[.int .i64 a0.Enum.Points, .bool a0.Enum.Monoid, .slice aH aG aI, .slice p19 n21 c20, .slice p25 n27 c26, .slice p31 n33 c32, .slice a8 aP a9, .slice GC (n39 + 1) GD, .int .i64 a0.Enum.Done, .map (some ba), .slice p43 n45 c44, .slice p49 n51 c50, .slice bu bt bv]) 1 hO rfl rfl rfl rfl
     obtain ⟨Xa, lg, Kr⟩ := zz
     dsimp only [sS, sZ] at lg
     refine GoQ.last rfl (Kr Try.underlying121 rfl ti121 (by exact rfl) (by exact rfl)) rfl rfl ?_
     replace hO := lg.own
     refine GoQ.nil ?_
     refine Go1.inBlock ?_
     refine Go1.cut [(0, .pointer (some ⟨eY, 0, none⟩)), (3, .int .i64 a0.Enum.Done), (4, .slice p2 a0.Enum.Gens.length a0.Enum.Gens.length), (5, .int .i64 (k1_12 : Int)), (8, .int .i64 (mgt m1_52 r75)), (27, .slice aH aG aI), (28, .int .i64 (a0.Enum.Gens.length : Int)), (29, .int .i64 (k1_12 : Int))] ⟨rfl, rfl, rfl, rfl, rfl, rfl, rfl, rfl, trivial⟩ ?_
     intro σ _
     refine zr (zm rfl (zm rfl (zm rfl ?_)))
     obtain ⟨zW, H⟩ := H
     obtain ⟨xS, H⟩ := H
     replace ca := ((ca.ch Z9).ch iK.ch).ch lg.ch
     refine zo (J02 Try.underlying31 ti3 rfl rfl zW (ltn (ca.neq hO 0 rfl) xS) (ca.psome hO 0 rfl zW xS)) ?_
     have zz := ost (r := Rp.int .i64) rfl 0 hO rfl ca zW xS (v := .int .i64 (mgt m1_52 r75)) (u := (mgt m1_52 r75)) rfl rfl
     obtain ⟨Sv, OV, iX, Id, Di⟩ := zz
     dsimp only [sS, sZ] at iX Id
     refine zg (Di Try.underlying3 rfl ti3 (by exact rfl) (by exact rfl)) ?_
     replace hO := iX.own
     refine zn ?_
     refine Go1.inBlock ?_
     refine zr ?_
     have Z10 := ((Z9.trans iK.ch).trans lg.ch).trans iX.ch
     replace ae := ae.ch Z10
     refine zo (J0c rfl rfl (wrap_i64 (natbd h53 ae.bd))) (zm rfl (zn ?_))
     replace uV := (uV.ch lg.ch).ch iX.ch
     replace hB := ((hB.trans iK.fr).trans lg.fr).trans iX.fr
     have Z11 := (((mA.ch.trans rB).trans iK.ch).trans lg.ch).trans iX.ch
     replace bQ := bQ.ch Z11
     have Z12 := ((((fK.ch.trans mA.ch).trans rB).trans iK.ch).trans lg.ch).trans iX.ch
     replace cI := cI.ch Z12
     replace cz := cz.ch Z12
     replace af := af.ch Z12
     replace bS := bS.ch Z12
     replace dC := dC.ch Z10
     replace ao := ao.ch Z10
     exact hX1 _ H _ _ ⟨OV, n21, p19, c20, lr, n27, p25, c26, nf, n33, p31, c32, ng, n39 + 1, GC, GD, Er, n45, p43, c44, ni, n51, p49, c50, nj, ⟨rfl, rfl, rfl, rfl, rfl, rfl, trivial⟩, hO, Id, ae, dC, cI, cz, af, uV, bQ, bS, ao, hB⟩
    replace H := ifn Bu H
    refine zo (fun w => opB (J0w rfl rfl w) (decide_eq_false Bu)) (zo (J05 rfl rfl rfl) (za rfl (zn ?_)))
    refine Go1.ret1V Try.func160 rfl (show _ = .bool false from rfl) ?_
    refine hR102 _ _ ?_
    refine zo (J05 rfl rfl rfl) (za rfl (zn (zf rfl rfl (zk ?_))))
    refine Go1.inBlock ?_
    refine zr (zm rfl (zm rfl (zm rfl ?_)))
    obtain ⟨GE, H⟩ := H
    obtain ⟨C5, H⟩ := H
    replace ca := ca.ch Z1
    refine zo (J02 Try.underlying31 ti3 rfl rfl GE (ltn (ca.neq hO 0 rfl) C5) (ca.psome hO 0 rfl GE C5)) ?_
    have zz := ost (r := Rp.int .i64) rfl 0 hO rfl ca GE C5 (v := .int .i64 (mgt m1_52 r75)) (u := (mgt m1_52 r75)) rfl rfl
    obtain ⟨RM, OW, mB, Ie, Ks⟩ := zz
    dsimp only [sS, sZ] at mB Ie
    refine zg (Ks Try.underlying3 rfl ti3 (by exact rfl) (by exact rfl)) ?_
    replace hO := mB.own
    refine zn ?_
    refine Go1.inBlock ?_
    refine zr ?_
    replace ae := (ae.ch Z1).ch mB.ch
    refine zo (J0c rfl rfl (wrap_i64 (natbd h53 ae.bd))) (zm rfl (zn ?_))
    replace cI := cI.ch mB.ch
    replace cz := cz.ch mB.ch
    replace af := af.ch mB.ch
    replace bQ := bQ.ch mB.ch
    replace bS := bS.ch mB.ch
    have Z13 := Z1.trans mB.ch
    replace dC := dC.ch Z13
    replace cb := cb.ch Z13
    replace ao := ao.ch Z13
    replace hB := (((hB.trans jF.fr).trans ru.fr).trans jG.fr).trans mB.fr
    exact hX1 _ H _ _ ⟨OW, n21, p19, c20, lr, n27, p25, c26, nf, n33, p31, c32, ng, n39, p37, c38, nh, n45, p43, c44, ni, n51, p49, c50, nj, ⟨rfl, rfl, rfl, rfl, rfl, rfl, trivial⟩, hO, Ie, ae, dC, cI, cz, af, cb, bQ, bS, ao, hB⟩
   replace H := ifn ET H
   refine zo (fun w => opB (J0w rfl rfl w) (decide_eq_false ET)) (zm rfl (zp (zp (zp (zp ?_)))))
   refine zp (zp (zp (zp (zp (zp ?_)))))
   refine zo (J04 rfl rfl rfl) (za rfl (zn ?_))
   refine Go1.ret1V Try.func160 rfl (show _ = .bool false from rfl) ?_
   refine hR102 _ _ ?_
   refine zo (J05 rfl rfl rfl) (za rfl (zn (zf rfl rfl (zk ?_))))
   refine Go1.inBlock ?_
   refine Go1.cut [(0, .pointer (some ⟨eY, 0, none⟩)), (3, .int .i64 a0.Enum.Done), (4, .slice p2 a0.Enum.Gens.length a0.Enum.Gens.length), (5, .int .i64 (k1_12 : Int)), (8, .int .i64 (mgt m1_52 r75)), (27, .slice aH aG aI), (28, .int .i64 (a0.Enum.Gens.length : Int)), (29, .int .i64 (k1_12 : Int))] ⟨rfl, rfl, rfl, rfl, rfl, rfl, rfl, rfl, trivial⟩ ?_
   intro σ _
   refine zr (zm rfl (zm rfl (zm rfl ?_)))
   obtain ⟨GF, H⟩ := H
   obtain ⟨GG, H⟩ := H
   replace ca := ca.ch Z1
   refine zo (J02 Try.underlying31 ti3 rfl rfl GF (ltn (ca.neq hO 0 rfl) GG) (ca.psome hO 0 rfl GF GG)) ?_
   have zz := ost (r := Rp.int .i64) rfl 0 hO rfl ca GF GG (v := .int .i64 (mgt m1_52 r75)) (u := (mgt m1_52 r75)) rfl rfl
   obtain ⟨Xb, OX, gq, Ig, Kt⟩ := zz
   dsimp only [sS, sZ] at gq Ig
   refine zg (Kt Try.underlying3 rfl ti3 (by exact rfl) (by exact rfl)) ?_
   replace hO := gq.own
   refine zn ?_
   refine Go1.inBlock ?_
   refine zr ?_
   replace ae := (ae.ch Z1).ch gq.ch
   refine zo (J0c rfl rfl (wrap_i64 (natbd h53 ae.bd))) (zm rfl (zn ?_))
   replace cI := cI.ch gq.ch
   replace af := af.ch gq.ch
   replace bQ := bQ.ch gq.ch
   replace bS := bS.ch gq.ch
   have Z14 := Z1.trans gq.ch
   replace dC := dC.ch Z14
   replace cz := cz.ch Z14
   replace cb := cb.ch Z14
   replace ao := ao.ch Z14
   replace hB := (((hB.trans jF.fr).trans ru.fr).trans jG.fr).trans gq.fr
   exact hX1 _ H _ _ ⟨OX, n21, p19, c20, lr, n27, p25, c26, nf, n33, p31, c32, ng, n39, p37, c38, nh, n45, p43, c44, ni, n51, p49, c50, nj, ⟨rfl, rfl, rfl, rfl, rfl, rfl, trivial⟩, hO, Ig, ae, dC, cI, cz, af, cb, bQ, bS, ao, hB⟩
  replace H := ifn h81 H
  refine GoQ.stable rfl (olookF (a := r75) (MK.str Try.underlying9) 11 hO rfl Try.underlying154 ti3 rfl rfl h81) rfl rfl ?_
  refine GoQ.pure rfl (J03 rfl) rfl rfl ?_
  refine GoQ.pure rfl (J07 rfl rfl) rfl rfl ?_
  refine GoQ.pure rfl (J07 rfl rfl) rfl rfl ?_
  refine GoQ.pure rfl (J0i rfl) rfl rfl ?_
  refine GoQ.pure rfl (J0i rfl) rfl rfl ?_
  refine GoQ.nil ?_
  refine zq (zr (zm rfl (zo (J01 rfl) (zo (J00 Try.underlying156 rfl ti30 rfl (by decide)) (zs (oblk (i := 10) 1 hO rfl rfl Try.underlying30 rfl rfl) ?_)))))
  refine zm rfl ?_
  obtain ⟨Bk, H⟩ := H
  obtain ⟨yo, H⟩ := H
  have Z15 := (jF.ch.trans ru.ch).trans jG.ch
  replace bQ := bQ.ch Z15
  refine zo (J02 Try.underlying30 ti9 rfl rfl Bk (ltn (bQ.neq hO 8 rfl) yo) (bQ.psome hO 8 rfl Bk yo)) (zs (oldStr 8 hO rfl bQ Bk yo Try.underlying9 rfl rfl) ?_)
  have hle227 := Els.str_le bQ Bk yo
  refine zm rfl ?_
  obtain ⟨Sw, H⟩ := H
  refine zo (J0c rfl rfl (wrap_i64 Sw)) (zo (op_conv Try.underlying3 Try.underlying21 rfl rfl) ?_)
  obtain ⟨Sx, H⟩ := H
  obtain ⟨Sy, H⟩ := H
  refine zo (op_convRS Try.underlying21 Try.underlying9 rfl Sx Sy) ?_
  obtain ⟨yb, H⟩ := H
  refine zo (op_addS rfl rfl yb) (za rfl (zn (zq (zb (zq ?_)))))
  refine Go1.cut [(0, .pointer (some ⟨eY, 0, none⟩)), (3, .int .i64 a0.Enum.Done), (4, .slice p2 a0.Enum.Gens.length a0.Enum.Gens.length), (5, .int .i64 (k1_12 : Int)), (7, .slice tQ r66.length tR), (8, .int .i64 0), (9, .bool false), (10, .string (gstr ((ix d_40 a0.Enum.Done) ++ (chr (IntKind.i32.wrap ((97 : Int) + (k1_12 : Int))))))), (27, .slice aH aG aI), (28, .int .i64 (a0.Enum.Gens.length : Int)), (29, .int .i64 (k1_12 : Int))] ⟨rfl, rfl, rfl, rfl, rfl, rfl, rfl, rfl, rfl, rfl, rfl, trivial⟩ ?_
  intro σ _
  refine zr (zm rfl (zo (J0l rfl) (zm rfl (zm rfl (zo (J01 rfl) ?_)))))
  refine zo (J00 Try.underlying156 rfl ti123 rfl (by decide)) (zo (J00 Try.underlying123 rfl ti23 rfl (by decide)) (zs (oblk (i := 3) 1 hO rfl rfl Try.underlying23 rfl rfl) ?_))
  replace dC := dC.ch Z15
  refine zo (J0y Try.underlying23 rfl (dC.neq hO 3 rfl)) ?_
  by_cases yc : (d_16.length : Int) = (2000 : Int)
  ·replace H := ifp yc H
   refine zo (fun w => opB (J0w rfl rfl w) (decide_eq_true yc)) (zo (J05 rfl rfl rfl) (za rfl (zn (zt rfl rfl (zq ?_)))))
   refine zr (za rfl (zn ?_))
   replace hO := hO.drop 0
   replace dC := dC.ch (Owns.J06 _ _ 0)
   replace bQ := bQ.ch (Owns.J06 _ _ 0)
   replace bz := (bz.ch jG.ch).ch (Owns.J06 _ _ 0)
   have Z16 := Z15.trans (Owns.J06 _ _ 0)
   replace ae := ae.ch Z16
   replace cI := cI.ch Z16
   replace cz := cz.ch Z16
   replace af := af.ch Z16
   replace cb := cb.ch Z16
   replace bS := bS.ch Z16
   replace ao := ao.ch Z16
   replace cp := cp.ch Z16
   replace cq := cq.ch Z16
   replace hB := (((hB.trans jF.fr).trans ru.fr).trans jG.fr).trans (Owns.J09 _ _ 0)
   dsimp only [eS, eZ] at hB hO cp cq bz ae dC cI cz af cb bQ bS ao
   refine Go1.ret1 Try.func133 rfl ?_
   exact ⟨((3 : Int)), (⟨(⟨a0.Enum.Points, a0.Enum.Monoid, a0.Enum.Gens, d_16, d_22, d_28, a0.Enum.Right, d_34, a0.Enum.Done⟩ : Enum), m1_52, d_40, d_46, a0.single⟩ : run), aG, aH, aI, cP, n21, p19, c20, lr, n27, p25, c26, nf, n33, p31, c32, ng, aP, a8, a9, cJ, n39, p37, c38, nh, n45, p43, c44, ni, n51, p49, c50, nj, bt, bu, bv, dQ, rfl, hO, ae, dC, cI, cz, af, cb, bQ, bS, ao, hB, H⟩
  replace H := ifn yc H
  refine zo (fun w => opB (J0w rfl rfl w) (decide_eq_false yc)) (zo (J05 rfl rfl rfl) (za rfl (zn (zf rfl rfl (zq ?_)))))
  refine zr (zm rfl (zo (J0l rfl) (za rfl (zn (zt rfl rfl ?_)))))
  refine zr (zm rfl (zm rfl (zm rfl (zm rfl (zm rfl ?_)))))
  refine zm rfl (zm rfl (zo (J01 rfl) (zo (J00 Try.underlying156 rfl ti31 rfl (by decide)) (zs (oblk (i := 11) 1 hO rfl rfl Try.underlying31 rfl rfl) (zm rfl ?_)))))
  obtain ⟨GH, H⟩ := H
  obtain ⟨GJ, H⟩ := H
  replace bS := bS.ch Z15
  refine zo (J02 Try.underlying31 ti3 rfl rfl GH (ltn (bS.neq hO 9 rfl) GJ) (bS.psome hO 9 rfl GH GJ)) (zs (oldInt 9 hO rfl bS GH GJ Try.underlying3 rfl rfl) (zm rfl ?_))
  refine GoR.inl (vs := [.pointer (some ⟨eY, 0, none⟩), .int .i64 (ix d_46 a0.Enum.Done), .int .i64 (k1_12 : Int)]) (caps := []) rfl rfl body159 Try.func159 rfl Try.ntmps159 rfl rfl rfl ?_
  intro RhR235 hR235
  refine zq ?_
  refine Go1.cut [(0, .pointer (some ⟨eY, 0, none⟩)), (1, .int .i64 (ix d_46 a0.Enum.Done)), (2, .int .i64 (k1_12 : Int))] ⟨rfl, rfl, rfl, trivial⟩ ?_
  intro σ _
  refine zr (za rfl (zn (zq (zq (zr ?_)))))
  refine zm rfl ?_
  by_cases EW : (ix d_46 a0.Enum.Done) = (-1 : Int)
  ·replace H := ifp EW H
   refine zo (fun w => opB (J0w rfl rfl w) (decide_eq_true EW)) (zn (zt rfl rfl (zq (zr (zm rfl ?_)))))
   refine zo (J01 rfl) (zo (J00 Try.underlying156 rfl ti31 rfl (by decide)) (zs (oblk (i := 12) 1 hO rfl rfl Try.underlying31 rfl rfl) (zm rfl ?_)))
   obtain ⟨GK, H⟩ := H
   obtain ⟨GL, H⟩ := H
   replace ao := ao.ch Z15
   refine zo (J02 Try.underlying31 ti3 rfl rfl GK (ltn (ao.neq hO 10 rfl) GL) (ao.psome hO 10 rfl GK GL)) (zs (oldInt 10 hO rfl ao GK GL Try.underlying3 rfl rfl) (za rfl (zn ?_)))
   refine Go1.ret1V Try.func159 rfl (show _ = .int .i64 (ix a0.single (k1_12 : Int)) from rfl) ?_
   refine hR235 _ _ ?_
   refine GoR.inl (vs := [.pointer (some ⟨eY, 0, none⟩), .slice tQ r66.length tR, .int .i64 a0.Enum.Done, .int .i64 (k1_12 : Int), .string (gstr ((ix d_40 a0.Enum.Done) ++ (chr (IntKind.i32.wrap ((97 : Int) + (k1_12 : Int)))))), .int .i64 (ix a0.single (k1_12 : Int))]) (caps := []) rfl rfl body155 Try.func155 rfl Try.ntmps155 rfl rfl rfl ?_
   intro RhR239 hR239
   refine zq (zr (za rfl (zn (zq (zr ?_)))))
   refine zm rfl (zo (J01 rfl) (zo (J00 Try.underlying156 rfl ti123 rfl (by decide)) (zo (J00 Try.underlying123 rfl ti23 rfl (by decide)) (zs (oblk (i := 3) 1 hO rfl rfl Try.underlying23 rfl rfl) (zo (J0y Try.underlying23 rfl (dC.neq hO 3 rfl)) ?_)))))
   refine za rfl (zn (zq ?_))
   refine Go1.cut [(0, .pointer (some ⟨eY, 0, none⟩)), (1, .slice tQ r66.length tR), (2, .int .i64 a0.Enum.Done), (3, .int .i64 (k1_12 : Int)), (4, .string (gstr ((ix d_40 a0.Enum.Done) ++ (chr (IntKind.i32.wrap ((97 : Int) + (k1_12 : Int))))))), (5, .int .i64 (ix a0.single (k1_12 : Int))), (13, .int .i64 (d_16.length : Int))] ⟨rfl, rfl, rfl, rfl, rfl, rfl, rfl, trivial⟩ ?_
   intro σ _
   refine Go1.drawS 1 [(0, .pure), (1, .pure), (2, .pure), (3, .stable), (4, .pure), (6, .pure), (5, .loud), (7, .last)] mixed (by kernel_rfl) ?_
   intro RO ED
   have np := Stp.same hO ED
   replace hO := np.own
   refine GoQ.pure rfl (J03 rfl) rfl rfl ?_
   refine GoQ.pure rfl (J01 rfl) rfl rfl ?_
   refine GoQ.pure rfl (J00 Try.underlying156 rfl ti154 rfl (by decide)) rfl rfl ?_
   refine GoQ.stable rfl (oblk (i := 9) 1 hO rfl rfl Try.underlying154 rfl rfl) rfl rfl ?_
   refine GoQ.pure rfl (J03 rfl) rfl rfl ?_
   refine GoQ.pure rfl (J03 rfl) rfl rfl ?_
   replace bz := (bz.ch jG.ch).ch np.ch
   refine GoQ.call rfl (J0a body157 rfl (J0n hO.lt bz H)) (fun v w hr => by obtain ⟨_, _, hs, _, _⟩ := hr; assumption) rfl rfl ?_
   rintro Xc Xd ⟨r243, rfl, OY, TF, H⟩
   have nq := Stp.same hO OY
   replace hO := nq.own
   have zz := omapUpd (MK.str Try.underlying9) 11 hO rfl Try.underlying154 r243 (d_16.length : Int)
   obtain ⟨Xe, mC, Ku⟩ := zz
   dsimp only [sS, sZ] at mC
   refine GoQ.last rfl (Ku (by exact rfl) (by exact rfl) (by exact rfl)) rfl rfl ?_
   replace hO := mC.own
   refine GoQ.nil ?_
   refine zq (zr (zm rfl (zm rfl (zo (J01 rfl) (zo (J00 Try.underlying156 rfl ti123 rfl (by decide)) ?_)))))
   refine zo (J00 Try.underlying123 rfl ti23 rfl (by decide)) (zs (oblk (i := 3) 1 hO rfl rfl Try.underlying23 rfl rfl) (zm rfl ?_))
   replace bz := (bz.ch nq.ch).ch mC.ch
   have zz := J0k (r := Rp.sl (Rp.int .i64)) (n := 1) (parts := [(0, .slice tQ r66.length tR)]) (vs := [.slice tQ r66.length tR]) (xs := [r66]) rfl Try.underlying23 ti31 hO (by decide) (by kernel_rfl) (Els.cons rfl ⟨tQ, tR, rfl, bz⟩ (Els.nil _ _ _) (by simp [mx])) rfl
   obtain ⟨Xf, Xg, nr, O0, Uf, CA⟩ := zz
   refine zg (CA rfl) ?_
   replace hO := nr.own
   have zz := freeze 0 hO rfl O0
   obtain ⟨hO1, tg, fY, O1⟩ := zz
   dsimp only [eS, eZ] at hO1 tg fY
   replace hB := (((((((hB.trans jF.fr).trans ru.fr).trans jG.fr).trans np.fr).trans nq.fr).trans mC.fr).trans nr.fr).trans (Owns.J09 _ _ 0)
   dsimp only [eS, eZ] at hB
   replace hO := hO1; clear hO1
   obtain ⟨Sz, H⟩ := H
   have Z17 := (((np.ch.trans nq.ch).trans mC.ch).trans nr.ch).trans tg
   replace dC := dC.ch Z17
   have zz := oapp Try.underlying23 ti31 rfl 3 hO rfl dC fY O1 Sz (by decide)
   obtain ⟨Xh, Ac, Ad, O2, mD, gn, Kv⟩ := zz
   dsimp only [sS, sZ] at mD gn
   refine zg (Kv (by exact rfl) (by exact rfl)) ?_
   replace hO := mD.own
   refine zo (J01 rfl) (zo (J00 Try.underlying156 rfl ti123 rfl (by decide)) (zo (J00 Try.underlying123 rfl ti23 rfl (by decide)) ?_))
   have zz := J0e (v := .slice Ac (n21 + 1) Ad) (i := 3) (cs' := #[.int .i64 a0.Enum.Points, .bool a0.Enum.Monoid, .slice aH aG aI, .slice Ac (n21 + 1) Ad, .slice p25 n27 c26, .slice p31 n33 c32, .slice a8 aP a9, .slice p37 n39 c38, .int .i64 a0.Enum.Done, .map (some ba), .slice p43 n45 c44, .slice p49 n51 c50, .slice bu bt bv]) 1 hO rfl rfl rfl rfl
   obtain ⟨Kw, lQ, Kx⟩ := zz
   dsimp only [sS, sZ] at lQ
   refine zg (Kx Try.underlying23 rfl ti23 (by exact rfl) (by exact rfl)) ?_
   replace hO := lQ.own
   refine zn (zq ?_)
   refine Go1.cut [(0, .pointer (some ⟨eY, 0, none⟩)), (2, .int .i64 a0.Enum.Done), (3, .int .i64 (k1_12 : Int)), (4, .string (gstr ((ix d_40 a0.Enum.Done) ++ (chr (IntKind.i32.wrap ((97 : Int) + (k1_12 : Int))))))), (5, .int .i64 (ix a0.single (k1_12 : Int))), (13, .int .i64 (d_16.length : Int))] ⟨rfl, rfl, rfl, rfl, rfl, rfl, trivial⟩ ?_
   intro σ _
   refine zr (zm rfl (zm rfl (zo (J01 rfl) (zo (J00 Try.underlying156 rfl ti123 rfl (by decide)) (zo (J00 Try.underlying123 rfl ti31 rfl (by decide)) ?_)))))
   refine zs (oblk (i := 4) 1 hO rfl rfl Try.underlying31 rfl rfl) (zm rfl ?_)
   have zz := J0k (r := Rp.int .i64) (n := 1) (parts := [(0, .int .i64 a0.Enum.Done)]) (vs := [.int .i64 a0.Enum.Done]) (xs := [a0.Enum.Done]) rfl Try.underlying31 ti3 hO (by decide) (by kernel_rfl) (Els.cons rfl rfl (Els.nil _ _ _) (by simp [mx])) rfl
   obtain ⟨Xi, Xj, mE, O3, Ug, Ky⟩ := zz
   refine zg (Ky rfl) ?_
   replace hO := mE.own
   have zz := freeze 0 hO rfl O3
   obtain ⟨hO1, rC, io, O4⟩ := zz
   dsimp only [eS, eZ] at hO1 rC io
   replace hB := (((hB.trans mD.fr).trans lQ.fr).trans mE.fr).trans (Owns.J09 _ _ 0)
   dsimp only [eS, eZ] at hB
   replace hO := hO1; clear hO1
   obtain ⟨SA, H⟩ := H
   have Z18 := ((((((((Z15.trans np.ch).trans nq.ch).trans mC.ch).trans nr.ch).trans tg).trans mD.ch).trans lQ.ch).trans mE.ch).trans rC
   replace cI := cI.ch Z18
   have zz := oapp Try.underlying31 ti3 rfl 4 hO rfl cI io O4 SA (by decide)
   obtain ⟨Q2, Bv, Bw, O5, lR, iQ, Kz⟩ := zz
   dsimp only [sS, sZ] at lR iQ
   refine zg (Kz (by exact rfl) (by exact rfl)) ?_
   replace hO := lR.own
   refine zo (J01 rfl) (zo (J00 Try.underlying156 rfl ti123 rfl (by decide)) (zo (J00 Try.underlying123 rfl ti31 rfl (by decide)) ?_))
   have zz := J0e (v := .slice Bv (n27 + 1) Bw) (i := 4) (cs' := #[.int .i64 a0.Enum.Points, .bool a0.Enum.Monoid, .slice aH aG aI, .slice Ac (n21 + 1) Ad, .slice Bv (n27 + 1) Bw, .slice p31 n33 c32, .slice a8 aP a9, .slice p37 n39 c38, .int .i64 a0.Enum.Done, .map (some ba), .slice p43 n45 c44, .slice p49 n51 c50, .slice bu bt bv]) 1 hO rfl rfl rfl rfl
   obtain ⟨Xk, lh, KA⟩ := zz
   dsimp only [sS, sZ] at lh
   refine zg (KA Try.underlying31 rfl ti31 (by exact rfl) (by exact rfl)) ?_
   replace hO := lh.own
   refine zn (zq (zr (zm rfl (zm rfl (zo (J01 rfl) ?_)))))
   refine zo (J00 Try.underlying156 rfl ti123 rfl (by decide)) (zo (J00 Try.underlying123 rfl ti31 rfl (by decide)) (zs (oblk (i := 5) 1 hO rfl rfl Try.underlying31 rfl rfl) (zm rfl ?_)))
   have zz := J0k (r := Rp.int .i64) (n := 1) (parts := [(0, .int .i64 (k1_12 : Int))]) (vs := [.int .i64 (k1_12 : Int)]) (xs := [(k1_12 : Int)]) rfl Try.underlying31 ti3 hO (by decide) (by kernel_rfl) (Els.cons rfl rfl (Els.nil _ _ _) (by simp [mx])) rfl
   obtain ⟨Xl, Xm, lT, O6, Uh, KB⟩ := zz
   refine zg (KB rfl) ?_
   replace hO := lT.own
   have zz := freeze 0 hO rfl O6
   obtain ⟨hO1, pz, j5, O7⟩ := zz
   dsimp only [eS, eZ] at hO1 pz j5
   replace hB := (((hB.trans lR.fr).trans lh.fr).trans lT.fr).trans (Owns.J09 _ _ 0)
   dsimp only [eS, eZ] at hB
   replace hO := hO1; clear hO1
   obtain ⟨SB, H⟩ := H
   have Z19 := (((Z18.trans lR.ch).trans lh.ch).trans lT.ch).trans pz
   replace cz := cz.ch Z19
   have zz := oapp Try.underlying31 ti3 rfl 5 hO rfl cz j5 O7 SB (by decide)
   obtain ⟨Xn, Dj, Dk, O8, li, fT, KC⟩ := zz
   dsimp only [sS, sZ] at li fT
   refine zg (KC (by exact rfl) (by exact rfl)) ?_
   replace hO := li.own
   refine zo (J01 rfl) (zo (J00 Try.underlying156 rfl ti123 rfl (by decide)) (zo (J00 Try.underlying123 rfl ti31 rfl (by decide)) ?_))
   have zz := J0e (v := .slice Dj (n33 + 1) Dk) (i := 5) (cs' := #[.int .i64 a0.Enum.Points, .bool a0.Enum.Monoid, .slice aH aG aI, .slice Ac (n21 + 1) Ad, .slice Bv (n27 + 1) Bw, .slice Dj (n33 + 1) Dk, .slice a8 aP a9, .slice p37 n39 c38, .int .i64 a0.Enum.Done, .map (some ba), .slice p43 n45 c44, .slice p49 n51 c50, .slice bu bt bv]) 1 hO rfl rfl rfl rfl
   obtain ⟨Xo, ku, KD⟩ := zz
   dsimp only [sS, sZ] at ku
   refine zg (KD Try.underlying31 rfl ti31 (by exact rfl) (by exact rfl)) ?_
   replace hO := ku.own
   refine zn (zq ?_)
   refine Go1.cut [(0, .pointer (some ⟨eY, 0, none⟩)), (4, .string (gstr ((ix d_40 a0.Enum.Done) ++ (chr (IntKind.i32.wrap ((97 : Int) + (k1_12 : Int))))))), (5, .int .i64 (ix a0.single (k1_12 : Int))), (13, .int .i64 (d_16.length : Int))] ⟨rfl, rfl, rfl, rfl, trivial⟩ ?_
   intro σ _
   refine zr (zm rfl (zm rfl (zo (J01 rfl) (zo (J00 Try.underlying156 rfl ti30 rfl (by decide)) (zs (oblk (i := 10) 1 hO rfl rfl Try.underlying30 rfl rfl) ?_)))))
   refine zm rfl ?_
   have zz := J0k (r := Rp.str) (n := 1) (parts := [(0, .string (gstr ((ix d_40 a0.Enum.Done) ++ (chr (IntKind.i32.wrap ((97 : Int) + (k1_12 : Int)))))))]) (vs := [.string (gstr ((ix d_40 a0.Enum.Done) ++ (chr (IntKind.i32.wrap ((97 : Int) + (k1_12 : Int))))))]) (xs := [(ix d_40 a0.Enum.Done) ++ (chr (IntKind.i32.wrap ((97 : Int) + (k1_12 : Int))))]) rfl Try.underlying30 ti9 hO (by decide) (by kernel_rfl) (Els.cons rfl ⟨rfl, (lenApp yb)⟩ (Els.nil _ _ _) (by simp [mx])) rfl
   obtain ⟨KE, Xp, lj, O9, Ui, KF⟩ := zz
   refine zg (KF rfl) ?_
   replace hO := lj.own
   have zz := freeze 0 hO rfl O9
   obtain ⟨hO1, gU, pC, Pa⟩ := zz
   dsimp only [eS, eZ] at hO1 gU pC
   replace hB := (((hB.trans li.fr).trans ku.fr).trans lj.fr).trans (Owns.J09 _ _ 0)
   dsimp only [eS, eZ] at hB
   replace hO := hO1; clear hO1
   obtain ⟨SC, H⟩ := H
   have Z20 := (((((((((((Z17.trans mD.ch).trans lQ.ch).trans mE.ch).trans rC).trans lR.ch).trans lh.ch).trans lT.ch).trans pz).trans li.ch).trans ku.ch).trans lj.ch).trans gU
   replace bQ := bQ.ch Z20
   have zz := oapp Try.underlying30 ti9 rfl 8 hO rfl bQ pC Pa SC (by decide)
   obtain ⟨Xq, EX, EY, Pb, kw, tj, KG⟩ := zz
   dsimp only [sS, sZ] at kw tj
   refine zg (KG (by exact rfl) (by exact rfl)) ?_
   replace hO := kw.own
   refine zo (J01 rfl) (zo (J00 Try.underlying156 rfl ti30 rfl (by decide)) ?_)
   have zz := J0e (v := .slice EX (n45 + 1) EY) (i := 10) (cs' := #[.int .i64 a0.Enum.Points, .bool a0.Enum.Monoid, .slice aH aG aI, .slice Ac (n21 + 1) Ad, .slice Bv (n27 + 1) Bw, .slice Dj (n33 + 1) Dk, .slice a8 aP a9, .slice p37 n39 c38, .int .i64 a0.Enum.Done, .map (some ba), .slice EX (n45 + 1) EY, .slice p49 n51 c50, .slice bu bt bv]) 1 hO rfl rfl rfl rfl
   obtain ⟨Xr, jW, KH⟩ := zz
   dsimp only [sS, sZ] at jW
   refine zg (KH Try.underlying30 rfl ti30 (by exact rfl) (by exact rfl)) ?_
   replace hO := jW.own
   refine zn (zq (zr (zm rfl (zm rfl (zo (J01 rfl) ?_)))))
   refine zo (J00 Try.underlying156 rfl ti31 rfl (by decide)) (zs (oblk (i := 11) 1 hO rfl rfl Try.underlying31 rfl rfl) (zm rfl ?_))
   have zz := J0k (r := Rp.int .i64) (n := 1) (parts := [(0, .int .i64 (ix a0.single (k1_12 : Int)))]) (vs := [.int .i64 (ix a0.single (k1_12 : Int))]) (xs := [(ix a0.single (k1_12 : Int))]) rfl Try.underlying31 ti3 hO (by decide) (by kernel_rfl) (Els.cons rfl rfl (Els.nil _ _ _) (by simp [mx])) rfl
   obtain ⟨Xs, Xt, kx, Pc, Uj, CD⟩ := zz
   refine zg (CD rfl) ?_
   replace hO := kx.own
   have zz := freeze 0 hO rfl Pc
   obtain ⟨hO1, nI, xl, Pd⟩ := zz
   dsimp only [eS, eZ] at hO1 nI xl
   replace hB := (((hB.trans kw.fr).trans jW.fr).trans kx.fr).trans (Owns.J09 _ _ 0)
   dsimp only [eS, eZ] at hB
   replace hO := hO1; clear hO1
   obtain ⟨Dl, H⟩ := H
   have Z21 := (((Z20.trans kw.ch).trans jW.ch).trans kx.ch).trans nI
   replace bS := bS.ch Z21
   have zz := oapp Try.underlying31 ti3 rfl 9 hO rfl bS xl Pd Dl (by decide)
   obtain ⟨Xu, GM, GN, Pe, jX, y7, CE⟩ := zz
   dsimp only [sS, sZ] at jX y7
   refine zg (CE (by exact rfl) (by exact rfl)) ?_
   replace hO := jX.own
   refine zo (J01 rfl) (zo (J00 Try.underlying156 rfl ti31 rfl (by decide)) ?_)
   have zz := J0e (v := .slice GM (n51 + 1) GN) (i := 11) (cs' := #[.int .i64 a0.Enum.Points, .bool a0.Enum.Monoid, .slice aH aG aI, .slice Ac (n21 + 1) Ad, .slice Bv (n27 + 1) Bw, .slice Dj (n33 + 1) Dk, .slice a8 aP a9, .slice p37 n39 c38, .int .i64 a0.Enum.Done, .map (some ba), .slice EX (n45 + 1) EY, .slice GM (n51 + 1) GN, .slice bu bt bv]) 1 hO rfl rfl rfl rfl
   obtain ⟨Xv, eX, KI⟩ := zz
   dsimp only [sS, sZ] at eX
   refine zg (KI Try.underlying31 rfl ti31 (by exact rfl) (by exact rfl)) ?_
   replace hO := eX.own
   refine zn (zq ?_)
   refine Go1.cut [(13, .int .i64 (d_16.length : Int))] ⟨rfl, trivial⟩ ?_
   intro σ _
   refine zr (zm rfl (za rfl (zn ?_)))
   refine Go1.ret1V Try.func155 rfl (show _ = .int .i64 (d_16.length : Int) from rfl) ?_
   refine hR239 _ _ ?_
   refine za rfl (zn ?_)
   refine Go1.inBlock ?_
   refine zr (zm rfl (zm rfl (zm rfl ?_)))
   obtain ⟨GO, H⟩ := H
   obtain ⟨GP, H⟩ := H
   have Z22 := (((((((((Z19.trans li.ch).trans ku.ch).trans lj.ch).trans gU).trans kw.ch).trans jW.ch).trans kx.ch).trans nI).trans jX.ch).trans eX.ch
   replace ca := ca.ch Z22
   refine zo (J02 Try.underlying31 ti3 rfl rfl GO (ltn (ca.neq hO 0 rfl) GP) (ca.psome hO 0 rfl GO GP)) ?_
   have zz := ost (r := Rp.int .i64) rfl 0 hO rfl ca GO GP (v := .int .i64 (d_16.length : Int)) (u := (d_16.length : Int)) rfl rfl
   obtain ⟨Q9, Pg, jY, Ih, KJ⟩ := zz
   dsimp only [sS, sZ] at jY Ih
   refine zg (KJ Try.underlying3 rfl ti3 (by exact rfl) (by exact rfl)) ?_
   replace hO := jY.own
   refine zn ?_
   refine Go1.inBlock ?_
   refine zr ?_
   replace ae := (ae.ch Z22).ch jY.ch
   refine zo (J0c rfl rfl (wrap_i64 (natbd h53 ae.bd))) (zm rfl (zn ?_))
   replace y7 := (y7.ch eX.ch).ch jY.ch
   replace hB := ((hB.trans jX.fr).trans eX.fr).trans jY.fr
   have Z23 := ((((jW.ch.trans kx.ch).trans nI).trans jX.ch).trans eX.ch).trans jY.ch
   replace tj := tj.ch Z23
   have Z24 := ((((((((ku.ch.trans lj.ch).trans gU).trans kw.ch).trans jW.ch).trans kx.ch).trans nI).trans jX.ch).trans eX.ch).trans jY.ch
   replace fT := fT.ch Z24
   have Z25 := ((((((((((((lh.ch.trans lT.ch).trans pz).trans li.ch).trans ku.ch).trans lj.ch).trans gU).trans kw.ch).trans jW.ch).trans kx.ch).trans nI).trans jX.ch).trans eX.ch).trans jY.ch
   replace iQ := iQ.ch Z25
   have Z26 := ((((((((((((((((lQ.ch.trans mE.ch).trans rC).trans lR.ch).trans lh.ch).trans lT.ch).trans pz).trans li.ch).trans ku.ch).trans lj.ch).trans gU).trans kw.ch).trans jW.ch).trans kx.ch).trans nI).trans jX.ch).trans eX.ch).trans jY.ch
   replace gn := gn.ch Z26
   have Z27 := ((Z21.trans jX.ch).trans eX.ch).trans jY.ch
   replace ao := ao.ch Z27
   have Z28 := Z22.trans jY.ch
   replace af := af.ch Z28
   replace cb := cb.ch Z28
   exact hX1 _ H _ _ ⟨Pg, n21 + 1, Ac, Ad, O2, n27 + 1, Bv, Bw, O5, n33 + 1, Dj, Dk, O8, n39, p37, c38, nh, n45 + 1, EX, EY, Pb, n51 + 1, GM, GN, Pe, ⟨rfl, rfl, rfl, rfl, rfl, rfl, trivial⟩, hO, Ih, ae, gn, iQ, fT, af, cb, tj, y7, ao, hB⟩
  replace H := ifn EW H
  refine zo (fun w => opB (J0w rfl rfl w) (decide_eq_false EW)) (zn (zf rfl rfl (zk (zq (zr ?_)))))
  refine zm rfl (zo (J01 rfl) (zo (J00 Try.underlying156 rfl ti123 rfl (by decide)) (zo (J00 Try.underlying123 rfl ti23 rfl (by decide)) (zs (oblk (i := 6) 1 hO rfl rfl Try.underlying23 rfl rfl) (zm rfl ?_)))))
  obtain ⟨GQ, H⟩ := H
  obtain ⟨GR, H⟩ := H
  replace af := af.ch Z15
  refine zo (J02 Try.underlying23 ti31 rfl rfl GQ (ltn (af.neq hO 6 rfl) GR) (af.psome hO 6 rfl GQ GR)) ?_
  have zz := oldSl 6 hO rfl af GQ GR
  obtain ⟨Xw, Xx, fh, Ph⟩ := zz
  refine zs (Ph Try.underlying31 rfl rfl) (zm rfl ?_)
  obtain ⟨xU, H⟩ := H
  obtain ⟨GT, H⟩ := H
  refine zo (J02 Try.underlying31 ti3 rfl rfl xU GT (fh.some_ xU GT)) (zs (ldInt fh xU GT Try.underlying3 rfl rfl) (za rfl (zn ?_)))
  refine Go1.ret1V Try.func159 rfl (show _ = .int .i64 (ix (ix a0.Enum.Right (ix d_46 a0.Enum.Done)) (k1_12 : Int)) from rfl) ?_
  refine hR235 _ _ ?_
  refine GoR.inl (vs := [.pointer (some ⟨eY, 0, none⟩), .slice tQ r66.length tR, .int .i64 a0.Enum.Done, .int .i64 (k1_12 : Int), .string (gstr ((ix d_40 a0.Enum.Done) ++ (chr (IntKind.i32.wrap ((97 : Int) + (k1_12 : Int)))))), .int .i64 (ix (ix a0.Enum.Right (ix d_46 a0.Enum.Done)) (k1_12 : Int))]) (caps := []) rfl rfl body155 Try.func155 rfl Try.ntmps155 rfl rfl rfl ?_
  intro RhR377 hR377
  refine zq ?_
  refine Go1.cut [(0, .pointer (some ⟨eY, 0, none⟩)), (1, .slice tQ r66.length tR), (2, .int .i64 a0.Enum.Done), (3, .int .i64 (k1_12 : Int)), (4, .string (gstr ((ix d_40 a0.Enum.Done) ++ (chr (IntKind.i32.wrap ((97 : Int) + (k1_12 : Int))))))), (5, .int .i64 (ix (ix a0.Enum.Right (ix d_46 a0.Enum.Done)) (k1_12 : Int)))] ⟨rfl, rfl, rfl, rfl, rfl, rfl, trivial⟩ ?_
  intro σ _
  refine zr (za rfl (zn (zq (zr (zm rfl ?_)))))
  refine zo (J01 rfl) (zo (J00 Try.underlying156 rfl ti123 rfl (by decide)) (zo (J00 Try.underlying123 rfl ti23 rfl (by decide)) (zs (oblk (i := 3) 1 hO rfl rfl Try.underlying23 rfl rfl) (zo (J0y Try.underlying23 rfl (dC.neq hO 3 rfl)) (za rfl ?_)))))
  refine zn (zq ?_)
  refine Go1.drawS 1 [(0, .pure), (1, .pure), (2, .pure), (3, .stable), (4, .pure), (6, .pure), (5, .loud), (7, .last)] mixed (by kernel_rfl) ?_
  intro Xy Pi
  have mF := Stp.same hO Pi
  replace hO := mF.own
  refine GoQ.pure rfl (J03 rfl) rfl rfl ?_
  refine GoQ.pure rfl (J01 rfl) rfl rfl ?_
  refine GoQ.pure rfl (J00 Try.underlying156 rfl ti154 rfl (by decide)) rfl rfl ?_
  refine GoQ.stable rfl (oblk (i := 9) 1 hO rfl rfl Try.underlying154 rfl rfl) rfl rfl ?_
  refine GoQ.pure rfl (J03 rfl) rfl rfl ?_
  refine GoQ.pure rfl (J03 rfl) rfl rfl ?_
  replace bz := (bz.ch jG.ch).ch mF.ch
  refine GoQ.call rfl (J0a body157 rfl (J0n hO.lt bz H)) (fun v w hr => by obtain ⟨_, _, hs, _, _⟩ := hr; assumption) rfl rfl ?_
  rintro Xz XA ⟨r381, rfl, Pj, TG, H⟩
  have gH := Stp.same hO Pj
  replace hO := gH.own
  have zz := omapUpd (MK.str Try.underlying9) 11 hO rfl Try.underlying154 r381 (d_16.length : Int)
  obtain ⟨XB, gC, CJ⟩ := zz
  dsimp only [sS, sZ] at gC
  refine GoQ.last rfl (CJ (by exact rfl) (by exact rfl) (by exact rfl)) rfl rfl ?_
  replace hO := gC.own
  refine GoQ.nil ?_
  refine zq (zr (zm rfl (zm rfl (zo (J01 rfl) (zo (J00 Try.underlying156 rfl ti123 rfl (by decide)) ?_)))))
  refine zo (J00 Try.underlying123 rfl ti23 rfl (by decide)) (zs (oblk (i := 3) 1 hO rfl rfl Try.underlying23 rfl rfl) (zm rfl ?_))
  replace bz := (bz.ch gH.ch).ch gC.ch
  have zz := J0k (r := Rp.sl (Rp.int .i64)) (n := 1) (parts := [(0, .slice tQ r66.length tR)]) (vs := [.slice tQ r66.length tR]) (xs := [r66]) rfl Try.underlying23 ti31 hO (by decide) (by kernel_rfl) (Els.cons rfl ⟨tQ, tR, rfl, bz⟩ (Els.nil _ _ _) (by simp [mx])) rfl
  obtain ⟨XC, SD, gI, Pk, Uk, KK⟩ := zz
  refine zg (KK rfl) ?_
  replace hO := gI.own
  have zz := freeze 0 hO rfl Pk
  obtain ⟨hO1, rD, f0, Pl⟩ := zz
  dsimp only [eS, eZ] at hO1 rD f0
  replace hB := (((((((hB.trans jF.fr).trans ru.fr).trans jG.fr).trans mF.fr).trans gH.fr).trans gC.fr).trans gI.fr).trans (Owns.J09 _ _ 0)
  dsimp only [eS, eZ] at hB
  replace hO := hO1; clear hO1
  obtain ⟨h400, H⟩ := H
  have Z29 := (((mF.ch.trans gH.ch).trans gC.ch).trans gI.ch).trans rD
  replace dC := dC.ch Z29
  have zz := oapp Try.underlying23 ti31 rfl 3 hO rfl dC f0 Pl h400 (by decide)
  obtain ⟨Ra, Ae, Af, ob, f9, dp, Dn⟩ := zz
  dsimp only [sS, sZ] at f9 dp
  refine zg (Dn (by exact rfl) (by exact rfl)) ?_
  replace hO := f9.own
  refine zo (J01 rfl) (zo (J00 Try.underlying156 rfl ti123 rfl (by decide)) (zo (J00 Try.underlying123 rfl ti23 rfl (by decide)) ?_))
  have zz := J0e (v := .slice Ae (n21 + 1) Af) (i := 3) (cs' := #[.int .i64 a0.Enum.Points, .bool a0.Enum.Monoid, .slice aH aG aI, .slice Ae (n21 + 1) Af, .slice p25 n27 c26, .slice p31 n33 c32, .slice a8 aP a9, .slice p37 n39 c38, .int .i64 a0.Enum.Done, .map (some ba), .slice p43 n45 c44, .slice p49 n51 c50, .slice bu bt bv]) 1 hO rfl rfl rfl rfl
  obtain ⟨XD, f8, KL⟩ := zz
  dsimp only [sS, sZ] at f8
  refine zg (KL Try.underlying23 rfl ti23 (by exact rfl) (by exact rfl)) ?_
  replace hO := f8.own
  refine zn (zq ?_)
  refine Go1.cut [(0, .pointer (some ⟨eY, 0, none⟩)), (2, .int .i64 a0.Enum.Done), (3, .int .i64 (k1_12 : Int)), (4, .string (gstr ((ix d_40 a0.Enum.Done) ++ (chr (IntKind.i32.wrap ((97 : Int) + (k1_12 : Int))))))), (5, .int .i64 (ix (ix a0.Enum.Right (ix d_46 a0.Enum.Done)) (k1_12 : Int))), (13, .int .i64 (d_16.length : Int))] ⟨rfl, rfl, rfl, rfl, rfl, rfl, trivial⟩ ?_
  intro σ _
  refine zr (zm rfl (zm rfl (zo (J01 rfl) (zo (J00 Try.underlying156 rfl ti123 rfl (by decide)) (zo (J00 Try.underlying123 rfl ti31 rfl (by decide)) ?_)))))
  refine zs (oblk (i := 4) 1 hO rfl rfl Try.underlying31 rfl rfl) (zm rfl ?_)
  have zz := J0k (r := Rp.int .i64) (n := 1) (parts := [(0, .int .i64 a0.Enum.Done)]) (vs := [.int .i64 a0.Enum.Done]) (xs := [a0.Enum.Done]) rfl Try.underlying31 ti3 hO (by decide) (by kernel_rfl) (Els.cons rfl rfl (Els.nil _ _ _) (by simp [mx])) rfl
  obtain ⟨XE, XF, fB, yd, Ii, Do⟩ := zz
  refine zg (Do rfl) ?_
  replace hO := fB.own
  have zz := freeze 0 hO rfl yd
  obtain ⟨hO1, pD, ip, Pm⟩ := zz
  dsimp only [eS, eZ] at hO1 pD ip
  replace hB := (((hB.trans f9.fr).trans f8.fr).trans fB.fr).trans (Owns.J09 _ _ 0)
  dsimp only [eS, eZ] at hB
  replace hO := hO1; clear hO1
  obtain ⟨Dp, H⟩ := H
  have Z30 := ((((((((Z15.trans mF.ch).trans gH.ch).trans gC.ch).trans gI.ch).trans rD).trans f9.ch).trans f8.ch).trans fB.ch).trans pD
  replace cI := cI.ch Z30
  have zz := oapp Try.underlying31 ti3 rfl 4 hO rfl cI ip Pm Dp (by decide)
  obtain ⟨XG, Bx, By, Pn, iL, ii, KM⟩ := zz
  dsimp only [sS, sZ] at iL ii
  refine zg (KM (by exact rfl) (by exact rfl)) ?_
  replace hO := iL.own
  refine zo (J01 rfl) (zo (J00 Try.underlying156 rfl ti123 rfl (by decide)) (zo (J00 Try.underlying123 rfl ti31 rfl (by decide)) ?_))
  have zz := J0e (v := .slice Bx (n27 + 1) By) (i := 4) (cs' := #[.int .i64 a0.Enum.Points, .bool a0.Enum.Monoid, .slice aH aG aI, .slice Ae (n21 + 1) Af, .slice Bx (n27 + 1) By, .slice p31 n33 c32, .slice a8 aP a9, .slice p37 n39 c38, .int .i64 a0.Enum.Done, .map (some ba), .slice p43 n45 c44, .slice p49 n51 c50, .slice bu bt bv]) 1 hO rfl rfl rfl rfl
  obtain ⟨XH, kz, KN⟩ := zz
  dsimp only [sS, sZ] at kz
  refine zg (KN Try.underlying31 rfl ti31 (by exact rfl) (by exact rfl)) ?_
  replace hO := kz.own
  refine zn (zq (zr (zm rfl (zm rfl (zo (J01 rfl) ?_)))))
  refine zo (J00 Try.underlying156 rfl ti123 rfl (by decide)) (zo (J00 Try.underlying123 rfl ti31 rfl (by decide)) (zs (oblk (i := 5) 1 hO rfl rfl Try.underlying31 rfl rfl) (zm rfl ?_)))
  have zz := J0k (r := Rp.int .i64) (n := 1) (parts := [(0, .int .i64 (k1_12 : Int))]) (vs := [.int .i64 (k1_12 : Int)]) (xs := [(k1_12 : Int)]) rfl Try.underlying31 ti3 hO (by decide) (by kernel_rfl) (Els.cons rfl rfl (Els.nil _ _ _) (by simp [mx])) rfl
  obtain ⟨XJ, XK, lk, Po, Ul, KO⟩ := zz
  refine zg (KO rfl) ?_
  replace hO := lk.own
  have zz := freeze 0 hO rfl Po
  obtain ⟨hO1, oc, j6, Pp⟩ := zz
  dsimp only [eS, eZ] at hO1 oc j6
  replace hB := (((hB.trans iL.fr).trans kz.fr).trans lk.fr).trans (Owns.J09 _ _ 0)
  dsimp only [eS, eZ] at hB
  replace hO := hO1; clear hO1
  obtain ⟨Ag, H⟩ := H
  have Z31 := (((Z30.trans iL.ch).trans kz.ch).trans lk.ch).trans oc
  replace cz := cz.ch Z31
  have zz := oapp Try.underlying31 ti3 rfl 5 hO rfl cz j6 Pp Ag (by decide)
  obtain ⟨XL, Dq, Dr, Pq, kA, kV, KP⟩ := zz
  dsimp only [sS, sZ] at kA kV
  refine zg (KP (by exact rfl) (by exact rfl)) ?_
  replace hO := kA.own
  refine zo (J01 rfl) (zo (J00 Try.underlying156 rfl ti123 rfl (by decide)) (zo (J00 Try.underlying123 rfl ti31 rfl (by decide)) ?_))
  have zz := J0e (v := .slice Dq (n33 + 1) Dr) (i := 5) (cs' := #[.int .i64 a0.Enum.Points, .bool a0.Enum.Monoid, .slice aH aG aI, .slice Ae (n21 + 1) Af, .slice Bx (n27 + 1) By, .slice Dq (n33 + 1) Dr, .slice a8 aP a9, .slice p37 n39 c38, .int .i64 a0.Enum.Done, .map (some ba), .slice p43 n45 c44, .slice p49 n51 c50, .slice bu bt bv]) 1 hO rfl rfl rfl rfl
  obtain ⟨XM, j3, KQ⟩ := zz
  dsimp only [sS, sZ] at j3
  refine zg (KQ Try.underlying31 rfl ti31 (by exact rfl) (by exact rfl)) ?_
  replace hO := j3.own
  refine zn (zq ?_)
  refine Go1.cut [(0, .pointer (some ⟨eY, 0, none⟩)), (4, .string (gstr ((ix d_40 a0.Enum.Done) ++ (chr (IntKind.i32.wrap ((97 : Int) + (k1_12 : Int))))))), (5, .int .i64 (ix (ix a0.Enum.Right (ix d_46 a0.Enum.Done)) (k1_12 : Int))), (13, .int .i64 (d_16.length : Int))] ⟨rfl, rfl, rfl, rfl, trivial⟩ ?_
  intro σ _
  refine zr (zm rfl (zm rfl (zo (J01 rfl) (zo (J00 Try.underlying156 rfl ti30 rfl (by decide)) (zs (oblk (i := 10) 1 hO rfl rfl Try.underlying30 rfl rfl) ?_)))))
  refine zm rfl ?_
  have zz := J0k (r := Rp.str) (n := 1) (parts := [(0, .string (gstr ((ix d_40 a0.Enum.Done) ++ (chr (IntKind.i32.wrap ((97 : Int) + (k1_12 : Int)))))))]) (vs := [.string (gstr ((ix d_40 a0.Enum.Done) ++ (chr (IntKind.i32.wrap ((97 : Int) + (k1_12 : Int))))))]) (xs := [(ix d_40 a0.Enum.Done) ++ (chr (IntKind.i32.wrap ((97 : Int) + (k1_12 : Int))))]) rfl Try.underlying30 ti9 hO (by decide) (by kernel_rfl) (Els.cons rfl ⟨rfl, (lenApp yb)⟩ (Els.nil _ _ _) (by simp [mx])) rfl
  obtain ⟨XN, XO, kB, Pr, Um, C9⟩ := zz
  refine zg (C9 rfl) ?_
  replace hO := kB.own
  have zz := freeze 0 hO rfl Pr
  obtain ⟨hO1, nJ, pE, Ps⟩ := zz
  dsimp only [eS, eZ] at hO1 nJ pE
  replace hB := (((hB.trans kA.fr).trans j3.fr).trans kB.fr).trans (Owns.J09 _ _ 0)
  dsimp only [eS, eZ] at hB
  replace hO := hO1; clear hO1
  obtain ⟨SE, H⟩ := H
  have Z32 := (((((((((((Z29.trans f9.ch).trans f8.ch).trans fB.ch).trans pD).trans iL.ch).trans kz.ch).trans lk.ch).trans oc).trans kA.ch).trans j3.ch).trans kB.ch).trans nJ
  replace bQ := bQ.ch Z32
  have zz := oapp Try.underlying30 ti9 rfl 8 hO rfl bQ pE Ps SE (by decide)
  obtain ⟨XP, E0, E3, Pt, fL, tm, KR⟩ := zz
  dsimp only [sS, sZ] at fL tm
  refine zg (KR (by exact rfl) (by exact rfl)) ?_
  replace hO := fL.own
  refine zo (J01 rfl) (zo (J00 Try.underlying156 rfl ti30 rfl (by decide)) ?_)
  have zz := J0e (v := .slice E0 (n45 + 1) E3) (i := 10) (cs' := #[.int .i64 a0.Enum.Points, .bool a0.Enum.Monoid, .slice aH aG aI, .slice Ae (n21 + 1) Af, .slice Bx (n27 + 1) By, .slice Dq (n33 + 1) Dr, .slice a8 aP a9, .slice p37 n39 c38, .int .i64 a0.Enum.Done, .map (some ba), .slice E0 (n45 + 1) E3, .slice p49 n51 c50, .slice bu bt bv]) 1 hO rfl rfl rfl rfl
  obtain ⟨XQ, jD, KS⟩ := zz
  dsimp only [sS, sZ] at jD
  refine zg (KS Try.underlying30 rfl ti30 (by exact rfl) (by exact rfl)) ?_
  replace hO := jD.own
  refine zn (zq (zr (zm rfl (zm rfl (zo (J01 rfl) ?_)))))
  refine zo (J00 Try.underlying156 rfl ti31 rfl (by decide)) (zs (oblk (i := 11) 1 hO rfl rfl Try.underlying31 rfl rfl) (zm rfl ?_))
  have zz := J0k (r := Rp.int .i64) (n := 1) (parts := [(0, .int .i64 (ix (ix a0.Enum.Right (ix d_46 a0.Enum.Done)) (k1_12 : Int)))]) (vs := [.int .i64 (ix (ix a0.Enum.Right (ix d_46 a0.Enum.Done)) (k1_12 : Int))]) (xs := [(ix (ix a0.Enum.Right (ix d_46 a0.Enum.Done)) (k1_12 : Int))]) rfl Try.underlying31 ti3 hO (by decide) (by kernel_rfl) (Els.cons rfl rfl (Els.nil _ _ _) (by simp [mx])) rfl
  obtain ⟨XR, XS, fM, Pu, Un, KT⟩ := zz
  refine zg (KT rfl) ?_
  replace hO := fM.own
  have zz := freeze 0 hO rfl Pu
  obtain ⟨hO1, mV, xm, Pv⟩ := zz
  dsimp only [eS, eZ] at hO1 mV xm
  replace hB := (((hB.trans fL.fr).trans jD.fr).trans fM.fr).trans (Owns.J09 _ _ 0)
  dsimp only [eS, eZ] at hB
  replace hO := hO1; clear hO1
  obtain ⟨SF, H⟩ := H
  have Z33 := (((Z32.trans fL.ch).trans jD.ch).trans fM.ch).trans mV
  replace bS := bS.ch Z33
  have zz := oapp Try.underlying31 ti3 rfl 9 hO rfl bS xm Pv SF (by decide)
  obtain ⟨XT, GU, GW, Pw, f7, xh, KU⟩ := zz
  dsimp only [sS, sZ] at f7 xh
  refine zg (KU (by exact rfl) (by exact rfl)) ?_
  replace hO := f7.own
  refine zo (J01 rfl) (zo (J00 Try.underlying156 rfl ti31 rfl (by decide)) ?_)
  have zz := J0e (v := .slice GU (n51 + 1) GW) (i := 11) (cs' := #[.int .i64 a0.Enum.Points, .bool a0.Enum.Monoid, .slice aH aG aI, .slice Ae (n21 + 1) Af, .slice Bx (n27 + 1) By, .slice Dq (n33 + 1) Dr, .slice a8 aP a9, .slice p37 n39 c38, .int .i64 a0.Enum.Done, .map (some ba), .slice E0 (n45 + 1) E3, .slice GU (n51 + 1) GW, .slice bu bt bv]) 1 hO rfl rfl rfl rfl
  obtain ⟨XU, jv, KV⟩ := zz
  dsimp only [sS, sZ] at jv
  refine zg (KV Try.underlying31 rfl ti31 (by exact rfl) (by exact rfl)) ?_
  replace hO := jv.own
  refine zn (zq ?_)
  refine Go1.cut [(13, .int .i64 (d_16.length : Int))] ⟨rfl, trivial⟩ ?_
  intro σ _
  refine zr (zm rfl (za rfl (zn ?_)))
  refine Go1.ret1V Try.func155 rfl (show _ = .int .i64 (d_16.length : Int) from rfl) ?_
  refine hR377 _ _ ?_
  refine za rfl (zn ?_)
  refine Go1.inBlock ?_
  refine zr (zm rfl (zm rfl (zm rfl ?_)))
  obtain ⟨GX, H⟩ := H
  obtain ⟨Ah, H⟩ := H
  have Z34 := (((((((((Z31.trans kA.ch).trans j3.ch).trans kB.ch).trans nJ).trans fL.ch).trans jD.ch).trans fM.ch).trans mV).trans f7.ch).trans jv.ch
  replace ca := ca.ch Z34
  refine zo (J02 Try.underlying31 ti3 rfl rfl GX (ltn (ca.neq hO 0 rfl) Ah) (ca.psome hO 0 rfl GX Ah)) ?_
  have zz := ost (r := Rp.int .i64) rfl 0 hO rfl ca GX Ah (v := .int .i64 (d_16.length : Int)) (u := (d_16.length : Int)) rfl rfl
  obtain ⟨XV, Px, fC, Ij, KW⟩ := zz
  dsimp only [sS, sZ] at fC Ij
  refine zg (KW Try.underlying3 rfl ti3 (by exact rfl) (by exact rfl)) ?_
  replace hO := fC.own
  refine zn ?_
  refine Go1.inBlock ?_
  refine zr ?_
  replace ae := (ae.ch Z34).ch fC.ch
  refine zo (J0c rfl rfl (wrap_i64 (natbd h53 ae.bd))) (zm rfl (zn ?_))
  replace xh := (xh.ch jv.ch).ch fC.ch
  replace hB := ((hB.trans f7.fr).trans jv.fr).trans fC.fr
  have Z35 := ((((jD.ch.trans fM.ch).trans mV).trans f7.ch).trans jv.ch).trans fC.ch
  replace tm := tm.ch Z35
  have Z36 := ((((((((j3.ch.trans kB.ch).trans nJ).trans fL.ch).trans jD.ch).trans fM.ch).trans mV).trans f7.ch).trans jv.ch).trans fC.ch
  replace kV := kV.ch Z36
  have Z37 := ((((((((((((kz.ch.trans lk.ch).trans oc).trans kA.ch).trans j3.ch).trans kB.ch).trans nJ).trans fL.ch).trans jD.ch).trans fM.ch).trans mV).trans f7.ch).trans jv.ch).trans fC.ch
  replace ii := ii.ch Z37
  have Z38 := ((((((((((((((((f8.ch.trans fB.ch).trans pD).trans iL.ch).trans kz.ch).trans lk.ch).trans oc).trans kA.ch).trans j3.ch).trans kB.ch).trans nJ).trans fL.ch).trans jD.ch).trans fM.ch).trans mV).trans f7.ch).trans jv.ch).trans fC.ch
  replace dp := dp.ch Z38
  have Z39 := ((Z33.trans f7.ch).trans jv.ch).trans fC.ch
  replace af := af.ch Z39
  have Z40 := Z34.trans fC.ch
  replace cb := cb.ch Z40
  replace ao := ao.ch Z40
  exact hX1 _ H _ _ ⟨Px, n21 + 1, Ae, Af, ob, n27 + 1, Bx, By, Pn, n33 + 1, Dq, Dr, Pq, n39, p37, c38, nh, n45 + 1, E0, E3, Pt, n51 + 1, GU, GW, Pw, ⟨rfl, rfl, rfl, rfl, rfl, rfl, trivial⟩, hO, Ij, ae, dp, ii, kV, af, cb, tm, xh, ao, hB⟩
 replace H := ifn h53 H
 refine zo (fun w => opB (J08 rfl rfl w) (decide_eq_false h53)) (zn (zq (zf rfl rfl ?_)))
 refine Go1.exit rfl ?_
 refine zq (zr (zm rfl (zm rfl (zo (J01 rfl) (zo (J00 Try.underlying156 rfl ti123 rfl (by decide)) ?_)))))
 refine zo (J00 Try.underlying123 rfl ti23 rfl (by decide)) (zs (oblk (i := 6) 1 hO rfl rfl Try.underlying23 rfl rfl) (zm rfl ?_))
 have zz := freeze 0 hO rfl ca
 obtain ⟨hO1, vD, uA, Py⟩ := zz
 dsimp only [eS, eZ] at hO1 vD uA
 replace hB := hB.trans (Owns.J09 _ _ 0)
 dsimp only [eS, eZ] at hB
 replace hO := hO1; clear hO1
 have zz := J0k (r := Rp.sl (Rp.int .i64)) (n := 1) (parts := [(0, .slice p2 a0.Enum.Gens.length a0.Enum.Gens.length)]) (vs := [.slice p2 a0.Enum.Gens.length a0.Enum.Gens.length]) (xs := [d_13]) rfl Try.underlying23 ti31 hO (by decide) (by kernel_rfl) (Els.cons rfl ⟨p2, a0.Enum.Gens.length, congrArg some (congrArg (fun nn => Value.slice p2 nn a0.Enum.Gens.length) Py), uA⟩ (Els.nil _ _ _) (by simp [mx])) rfl
 obtain ⟨XW, XX, sx, Pz, Uo, Db⟩ := zz
 refine zg (Db rfl) ?_
 replace hO := sx.own
 have zz := freeze 0 hO rfl Pz
 obtain ⟨hO1, u6, xn, PA⟩ := zz
 dsimp only [eS, eZ] at hO1 u6 xn
 replace hB := (hB.trans sx.fr).trans (Owns.J09 _ _ 0)
 dsimp only [eS, eZ] at hB
 replace hO := hO1; clear hO1
 obtain ⟨SG, H⟩ := H
 have Z41 := (vD.trans sx.ch).trans u6
 replace af := af.ch Z41
 have zz := oapp Try.underlying23 ti31 rfl 5 hO rfl af xn PA SG (by decide)
 obtain ⟨XY, E4, E5, PB, p9, y8, KX⟩ := zz
 dsimp only [sS, sZ] at p9 y8
 refine zg (KX (by exact rfl) (by exact rfl)) ?_
 replace hO := p9.own
 refine zo (J01 rfl) (zo (J00 Try.underlying156 rfl ti123 rfl (by decide)) (zo (J00 Try.underlying123 rfl ti23 rfl (by decide)) ?_))
 have zz := J0e (v := .slice E4 (aP + 1) E5) (i := 6) (cs' := #[.int .i64 a0.Enum.Points, .bool a0.Enum.Monoid, .slice aH aG aI, .slice p19 n21 c20, .slice p25 n27 c26, .slice p31 n33 c32, .slice E4 (aP + 1) E5, .slice p37 n39 c38, .int .i64 a0.Enum.Done, .map (some ba), .slice p43 n45 c44, .slice p49 n51 c50, .slice bu bt bv]) 0 hO rfl rfl rfl rfl
 obtain ⟨X0, od, KY⟩ := zz
 dsimp only [sS, sZ] at od
 refine zg (KY Try.underlying23 rfl ti23 (by exact rfl) (by exact rfl)) ?_
 replace hO := od.own
 refine zn (zq ?_)
 refine Go1.cut [(0, .pointer (some ⟨eY, 0, none⟩))] ⟨rfl, trivial⟩ ?_
 intro σ _
 refine zr (zm rfl (zo (J01 rfl) (zo (J00 Try.underlying156 rfl ti123 rfl (by decide)) (zo (J00 Try.underlying123 rfl ti3 rfl (by decide)) (zs (oblk (i := 8) 0 hO rfl rfl Try.underlying3 rfl rfl) ?_)))))
 obtain ⟨SJ, H⟩ := H
 refine zo (J0c rfl rfl (wrap_i64 SJ)) (zo (J01 rfl) (zo (J00 Try.underlying156 rfl ti123 rfl (by decide)) (zo (J00 Try.underlying123 rfl ti3 rfl (by decide)) ?_)))
 have zz := J0e (v := .int .i64 (a0.Enum.Done + (1 : Int))) (i := 8) (cs' := #[.int .i64 a0.Enum.Points, .bool a0.Enum.Monoid, .slice aH aG aI, .slice p19 n21 c20, .slice p25 n27 c26, .slice p31 n33 c32, .slice E4 (aP + 1) E5, .slice p37 n39 c38, .int .i64 (a0.Enum.Done + (1 : Int)), .map (some ba), .slice p43 n45 c44, .slice p49 n51 c50, .slice bu bt bv]) 0 hO rfl rfl rfl rfl
 obtain ⟨Ya, gD, K1⟩ := zz
 dsimp only [sS, sZ] at gD
 refine zg (K1 Try.underlying3 rfl ti3 (by exact rfl) (by exact rfl)) ?_
 replace hO := gD.own
 refine zn (zq (zr (za rfl (zn ?_))))
 refine Go1.ret1 Try.func133 rfl ?_
 replace y8 := (y8.ch od.ch).ch gD.ch
 replace hB := ((hB.trans p9.fr).trans od.fr).trans gD.fr
 have Z42 := ((Z41.trans p9.ch).trans od.ch).trans gD.ch
 replace ae := ae.ch Z42
 replace dC := dC.ch Z42
 replace cI := cI.ch Z42
 replace cz := cz.ch Z42
 replace cb := cb.ch Z42
 replace bQ := bQ.ch Z42
 replace bS := bS.ch Z42
 replace ao := ao.ch Z42
 exact ⟨((0 : Int)), (⟨(⟨a0.Enum.Points, a0.Enum.Monoid, a0.Enum.Gens, d_16, d_22, d_28, a0.Enum.Right ++ ([d_13]), d_34, (a0.Enum.Done + (1 : Int))⟩ : Enum), m1_52, d_40, d_46, a0.single⟩ : run), aG, aH, aI, cP, n21, p19, c20, lr, n27, p25, c26, nf, n33, p31, c32, ng, (aP + 1), E4, E5, PB, n39, p37, c38, nh, n45, p43, c44, ni, n51, p49, c50, nj, bt, bu, bv, dQ, rfl, hO, ae, dC, cI, cz, y8, cb, bQ, bS, ao, hB, H⟩
theorem body132 : Body Try.prog 132 := ⟨Try.f132, Try.func132, rfl, by kernel_rfl⟩
theorem body101 : Body Try.prog 101 := ⟨Try.f101, Try.func101, rfl, by kernel_rfl⟩
theorem walk_enumerate_Build {A : List Nat} {w0 : World} {Ds : Option Addr} {Du : Nat} {gens : List (List Int)} {monoid : Bool} (hA : ∀ b ∈ A, b < w0.heap.size) (qa : ISl (Rp.sl (Rp.int .i64)) A w0 Ds Du gens) {K : Enum → Int → Prop} (H : J16 gens monoid K) :
    CallsV Try.prog 101 #[.slice Ds gens.length Du, .bool monoid] w0 (fun v w' => ∃ (r0 : Enum) (r1 : Int) (BL : Option Addr) (BM : Nat) (AD : Option Addr) (AE : Nat) (zB : Option Addr) (zC : Nat) (BN : Option Addr) (BO : Nat) (AF : Option Addr) (AG : Nat) (AH : Option Addr) (AI : Nat), v = .tuple #[.agg #[.int .i64 r0.Points, .bool r0.Monoid, .slice BL r0.Gens.length BM, .slice AD r0.Elems.length AE, .slice zB r0.Prefix.length zC, .slice BN r0.Last.length BO, .slice AF r0.Right.length AG, .slice AH r0.Rules.length AI, .int .i64 r0.Done], .int .i64 r1] ∧ Same w0 w' ∧ ISl (Rp.sl (Rp.int .i64)) A w' BL BM r0.Gens ∧ ISl (Rp.sl (Rp.int .i64)) A w' AD AE r0.Elems ∧ ISl (Rp.int .i64) A w' zB zC r0.Prefix ∧ ISl (Rp.int .i64) A w' BN BO r0.Last ∧ ISl (Rp.sl (Rp.int .i64)) A w' AF AG r0.Right ∧ ISl (rpRule) A w' AH AI r0.Rules ∧ K r0 r1) := by
 refine CallsV.of (l := [.slice Ds gens.length Du, .bool monoid]) Try.func101 rfl Try.ntmps101 rfl ?_
 have hO := Owns.start hA
 have hB := Fr.refl (bl []) w0
 unfold J16 at H
 refine zq (zr ?_)
 have zz := oalloc (t := 123) (cs := #[.int .i64 0, .bool false, .slice none 0 0, .slice none 0 0, .slice none 0 0, .slice none 0 0, .slice none 0 0, .slice none 0 0, .int .i64 0]) ti123 hO rfl
 obtain ⟨w1, B2, cB, hs4, ic⟩ := zz
 refine GoR.op ic rfl rfl ?_
 replace hO := cB.own
 refine za rfl (zn (zq (zr (zm rfl (zm rfl ?_)))))
 replace qa := (qa.ch (Ch.start A w0)).ch cB.ch
 refine GoR.call (J0a body131 rfl (walk_enumerate_begin hO.lt qa H)) rfl rfl ?_
 intro v9 w10 hcase13
 refine Or.elim hcase13 ?_ ?_
 ·refine exE fun r8 => andE fun hv14 => andE fun Bg => fun H => ?_
  subst hv14
  clear hcase13
  replace H := oElimN H
  have E6 := Stp.same hO Bg
  replace hO := E6.own
  refine zm rfl (zo (J07 rfl rfl) (zo (J07 rfl rfl) (za rfl (za rfl (zn ?_)))))
  refine zq (zq (zr (zm rfl ?_)))
  by_cases h16 : r8 = (0 : Int)
  ·replace H := ifp h16 H
   refine zo (fun w => opB (J0g rfl rfl w) (ndT h16)) (zn (zf rfl rfl (zk (zq (zb ?_)))))
   replace hB := (hB.trans cB.fr).trans E6.fr
   refine Go1.loopW (S := Unit) (fun s σ w => agrees σ [(4, .pointer (some ⟨B2, 0, none⟩)), (6, .pointer none)] ∧ Owns w0.heap.size w [.blk B2 (.cells #[.int .i64 0, .bool false, .slice none 0 0, .slice none 0 0, .slice none 0 0, .slice none 0 0, .slice none 0 0, .slice none 0 0, .int .i64 0] 123 (0, 0))] A ∧ Fr (bl []) w0 (bl [.blk B2 (.cells #[.int .i64 0, .bool false, .slice none 0 0, .slice none 0 0, .slice none 0 0, .slice none 0 0, .slice none 0 0, .slice none 0 0, .int .i64 0] 123 (0, 0))]) w) H ⟨⟨rfl, rfl, trivial⟩, hO, hB⟩ ?_
   intro X1 _
   intro H hX1 σ w17
   refine andE fun hag => andE fun hO => fun hB => ?_
   refine Go1.keep [(4, .pointer (some ⟨B2, 0, none⟩)), (6, .pointer none)] hag ?_
   refine zq (zq (zr (zm rfl ?_)))
   refine GoR.inl (vs := [.pointer none]) (caps := []) rfl rfl body132 Try.func132 rfl Try.ntmps132 rfl rfl rfl ?_
   intro RhR18 hR18
   refine zq (zr (za rfl (zn (zq ?_))))
   refine Go1.drawS 0 [(0, .pure), (1, .pure), (2, .pure), (3, .pure), (4, .stable), (5, .pure), (6, .pure), (7, .pure), (8, .pure), (9, .stable), (10, .pure), (11, .pure), (12, .pure)] mixed (by kernel_rfl) ?_
   intro w19 SK
   have oe := Stp.same hO SK
   replace hO := oe.own
   refine GoQ.pure rfl (J03 rfl) rfl rfl ?_
   exact H.elim
  replace H := ifn h16 H
  refine zo (fun w => opB (J0g rfl rfl w) (ndF h16)) (zn (zt rfl rfl (zq (zr (zo (J0q Try.underlying123 ti123 (pl := [(0, 1), (1, 1), (2, 1), (3, 1), (4, 1), (5, 1), (6, 1), (7, 1), (8, 1)]) (vs := []) (cs := #[.int .i64 0, .bool false, .slice none 0 0, .slice none 0 0, .slice none 0 0, .slice none 0 0, .slice none 0 0, .slice none 0 0, .int .i64 0]) (by kernel_rfl) rfl (by kernel_rfl)) ?_)))))
  refine zm rfl ?_
  have zz := J0b (us := [.int .i64 0, .bool false, .slice none 0 0, .slice none 0 0, .slice none 0 0, .slice none 0 0, .slice none 0 0, .slice none 0 0, .int .i64 0]) (o := 0) (cs' := #[.int .i64 0, .bool false, .slice none 0 0, .slice none 0 0, .slice none 0 0, .slice none 0 0, .slice none 0 0, .slice none 0 0, .int .i64 0]) 0 hO rfl rfl (Nat.le_of_ble_eq_true rfl) rfl
  obtain ⟨w22, l9, Ay⟩ := zz
  refine zg (Ay ti123 (by exact rfl) (by exact rfl) rfl) ?_
  replace hO := l9.own
  refine za rfl (zn ?_)
  refine Go1.retC2 Try.func101 rfl rfl (J0f (vs := [.int .i64 0, .bool false, .slice none 0 0, .slice none 0 0, .slice none 0 0, .slice none 0 0, .slice none 0 0, .slice none 0 0, .int .i64 0]) 0 hO rfl rfl Try.underlying123 rfl ti123) ?_
  replace hB := ((hB.trans cB.fr).trans E6.fr).trans l9.fr
  exact ⟨(⟨(0 : Int), false, ([] : List (List Int)), ([] : List (List Int)), ([] : List Int), ([] : List Int), ([] : List (List Int)), ([] : List Rule), (0 : Int)⟩ : Enum), r8, none, 0, none, 0, none, 0, none, 0, none, 0, none, 0, rfl, hB.same, (ISl.null _ _ _), (ISl.null _ _ _), (ISl.null _ _ _), (ISl.null _ _ _), (ISl.null _ _ _), (ISl.null _ _ _), H⟩
 ·refine exE fun r7 => exE fun r8 => exE fun mW => exE fun Bz => exE fun BA => exE fun BB => exE fun AJ => exE fun AK => exE fun AM => exE fun AO => exE fun Ai => exE fun Aj => exE fun Ak => exE fun Al => exE fun zA => exE fun BC => exE fun BD => exE fun BE => exE fun AP => exE fun AQ => exE fun AR => exE fun AT => exE fun Am => exE fun AU => exE fun AV => exE fun AW => exE fun Ao => exE fun cN => exE fun E7 => exE fun E8 => exE fun E9 => exE fun DW => exE fun DX => exE fun DY => exE fun D0 => exE fun Dv => exE fun D1 => exE fun D2 => exE fun D3 => exE fun Dw => andE fun hv25 => andE fun Bg => andE fun hN12 => andE fun ml => andE fun lD => andE fun kK => andE fun mm => andE fun lE => andE fun lF => andE fun sD => andE fun qb => andE fun qc => fun H => ?_
  subst hv25
  clear hcase13
  replace H := oElimS H
  have mS := Stp.more hO Bg hN12
  dsimp only [List.cons_append, List.nil_append] at mS
  replace hO := mS.own
  replace ml := ml.ch (Ch.assoc _ _ _ _)
  dsimp only [List.cons_append, List.nil_append] at ml
  replace lD := lD.ch (Ch.assoc _ _ _ _)
  dsimp only [List.cons_append, List.nil_append] at lD
  replace kK := kK.ch (Ch.assoc _ _ _ _)
  dsimp only [List.cons_append, List.nil_append] at kK
  replace mm := mm.ch (Ch.assoc _ _ _ _)
  dsimp only [List.cons_append, List.nil_append] at mm
  replace lE := lE.ch (Ch.assoc _ _ _ _)
  dsimp only [List.cons_append, List.nil_append] at lE
  replace lF := lF.ch (Ch.assoc _ _ _ _)
  dsimp only [List.cons_append, List.nil_append] at lF
  replace sD := sD.ch (Ch.assoc _ _ _ _)
  dsimp only [List.cons_append, List.nil_append] at sD
  replace qb := qb.ch (Ch.assoc _ _ _ _)
  dsimp only [List.cons_append, List.nil_append] at qb
  replace qc := qc.ch (Ch.assoc _ _ _ _)
  dsimp only [List.cons_append, List.nil_append] at qc
  refine zm rfl (zo (J07 rfl rfl) (zo (J07 rfl rfl) (za rfl (za rfl (zn ?_)))))
  refine zq (zq (zr (zm rfl ?_)))
  by_cases h38 : r8 = (0 : Int)
  ·replace H := ifp h38 H
   refine zo (fun w => opB (J0g rfl rfl w) (ndT h38)) (zn (zf rfl rfl (zk (zq (zb ?_)))))
   replace hB := (hB.trans cB.fr).trans mS.fr
   refine Go1.loopW (S := Int × Bool × Int × List (List Int) × List (List Int) × List Int × List Int × List (List Int) × List Rule × List Str × List Int × List Int × (List (Str × Int))) (fun s σ w => match s with | (k2_40, b2_41, k2_42, d_43, d_49, d_55, d_61, d_67, d_73, d_79, d_85, d_91, m2_97) => ∃ (n48 : Nat) (p46 : Option Addr) (c47 : Nat) (sL : List Value) (n54 : Nat) (p52 : Option Addr) (c53 : Nat) (pK : List Value) (n60 : Nat) (p58 : Option Addr) (c59 : Nat) (sM : List Value) (n66 : Nat) (p64 : Option Addr) (c65 : Nat) (sN : List Value) (n72 : Nat) (p70 : Option Addr) (c71 : Nat) (sO : List Value) (n78 : Nat) (p76 : Option Addr) (c77 : Nat) (sP : List Value) (n84 : Nat) (p82 : Option Addr) (c83 : Nat) (pN : List Value) (n90 : Nat) (p88 : Option Addr) (c89 : Nat) (sQ : List Value) (n96 : Nat) (p94 : Option Addr) (c95 : Nat) (sR : List Value), agrees σ [(4, .pointer (some ⟨B2, 0, none⟩)), (6, .pointer (some ⟨mW, 0, none⟩))] ∧ (fun Z0 => Owns w0.heap.size w Z0 A ∧ Els (Rp.sl (Rp.int .i64)) (bl Z0 ++ A) w sL d_43 ∧ Els (Rp.sl (Rp.int .i64)) (bl Z0 ++ A) w pK d_49 ∧ Els (Rp.int .i64) (bl Z0 ++ A) w sM d_55 ∧ Els (Rp.int .i64) (bl Z0 ++ A) w sN d_61 ∧ Els (Rp.sl (Rp.int .i64)) (bl Z0 ++ A) w sO d_67 ∧ Els (rpRule) (bl Z0 ++ A) w sP d_73 ∧ Els (Rp.str) (bl Z0 ++ A) w pN d_79 ∧ Els (Rp.int .i64) (bl Z0 ++ A) w sQ d_85 ∧ Els (Rp.int .i64) (bl Z0 ++ A) w sR d_91 ∧ Fr (bl []) w0 (bl Z0) w) [.blk mW (.cells #[.int .i64 k2_40, .bool b2_41, .slice p46 n48 c47, .slice p52 n54 c53, .slice p58 n60 c59, .slice p64 n66 c65, .slice p70 n72 c71, .slice p76 n78 c77, .int .i64 k2_42, .map (some cN), .slice p82 n84 c83, .slice p88 n90 c89, .slice p94 n96 c95] 156 (0, 0)), .row 31 1 p46 n48 c47 sL, .row 31 1 p52 n54 c53 pK, .row 3 1 p58 n60 c59 sM, .row 3 1 p64 n66 c65 sN, .row 31 1 p70 n72 c71 sO, .row 185 2 p76 n78 c77 sP, .row 9 1 p82 n84 c83 pN, .row 3 1 p88 n90 c89 sQ, .row 3 1 p94 n96 c95 sR, .any (mapE (fun a : List UInt8 => Value.string (gstr a)) (fun a : Int => Value.int .i64 a) cN m2_97), .blk B2 (.cells #[.int .i64 0, .bool false, .slice none 0 0, .slice none 0 0, .slice none 0 0, .slice none 0 0, .slice none 0 0, .slice none 0 0, .int .i64 0] 123 (0, 0))]) H ⟨Bz, BA, BB, AJ, AK, AM, AO, Ai, Aj, Ak, Al, zA, BC, BD, BE, AP, AQ, AR, AT, Am, AU, AV, AW, Ao, E7, E8, E9, DW, DX, DY, D0, Dv, D1, D2, D3, Dw, ⟨rfl, rfl, trivial⟩, hO, ml, lD, kK, mm, lE, lF, sD, qb, qc, hB⟩ ?_
   intro X2
   refine prE fun k2_40 => prE fun b2_41 => prE fun k2_42 => prE fun d_43 => prE fun d_49 => prE fun d_55 => prE fun d_61 => prE fun d_67 => prE fun d_73 => prE fun d_79 => prE fun d_85 => prE fun d_91 => fun m2_97 => ?_
   intro H hX2 σ w39
   refine exE fun n48 => exE fun p46 => exE fun c47 => exE fun sL => exE fun n54 => exE fun p52 => exE fun c53 => exE fun pK => exE fun n60 => exE fun p58 => exE fun c59 => exE fun sM => exE fun n66 => exE fun p64 => exE fun c65 => exE fun sN => exE fun n72 => exE fun p70 => exE fun c71 => exE fun sO => exE fun n78 => exE fun p76 => exE fun c77 => exE fun sP => exE fun n84 => exE fun p82 => exE fun c83 => exE fun pN => exE fun n90 => exE fun p88 => exE fun c89 => exE fun sQ => exE fun n96 => exE fun p94 => exE fun c95 => exE fun sR => andE fun hag => andE fun hO => andE fun BG => andE fun ye => andE fun xA => andE fun wh => andE fun t5 => andE fun t9 => andE fun ns => andE fun tF => andE fun kl => fun hB => ?_
   dsimp only at H
   refine Go1.keep [(4, .pointer (some ⟨B2, 0, none⟩)), (6, .pointer (some ⟨mW, 0, none⟩))] hag ?_
   refine zq (zq (zr (zm rfl ?_)))
   refine GoR.inl (vs := [.pointer (some ⟨mW, 0, none⟩)]) (caps := []) rfl rfl body132 Try.func132 rfl Try.ntmps132 rfl rfl rfl ?_
   intro RhR98 hR98
   refine zq (zr (za rfl (zn (zq ?_))))
   refine Go1.drawS 0 [(0, .pure), (1, .pure), (2, .pure), (3, .pure), (4, .stable), (5, .pure), (6, .pure), (7, .pure), (8, .pure), (9, .stable), (10, .pure), (11, .pure), (12, .pure)] mixed (by kernel_rfl) ?_
   intro w99 PC
   have gR := Stp.same hO PC
   replace hO := gR.own
   refine GoQ.pure rfl (J03 rfl) rfl rfl ?_
   refine GoQ.pure rfl (J01 rfl) rfl rfl ?_
   refine GoQ.pure rfl (J00 Try.underlying156 rfl ti123 rfl (by decide)) rfl rfl ?_
   refine GoQ.pure rfl (J00 Try.underlying123 rfl ti3 rfl (by decide)) rfl rfl ?_
   refine GoQ.stable rfl (oblk (i := 8) 0 hO rfl rfl Try.underlying3 rfl rfl) rfl rfl ?_
   refine GoQ.pure rfl (J03 rfl) rfl rfl ?_
   refine GoQ.pure rfl (J01 rfl) rfl rfl ?_
   refine GoQ.pure rfl (J00 Try.underlying156 rfl ti123 rfl (by decide)) rfl rfl ?_
   refine GoQ.pure rfl (J00 Try.underlying123 rfl ti23 rfl (by decide)) rfl rfl ?_
   refine GoQ.stable rfl (oblk (i := 3) 0 hO rfl rfl Try.underlying23 rfl rfl) rfl rfl ?_
   replace ye := ye.ch gR.ch
   refine GoQ.pure rfl (J0y Try.underlying23 rfl (ye.neq hO 2 rfl)) rfl rfl ?_
   by_cases Fa : k2_42 = (d_49.length : Int)
   ·replace H := ifp Fa H
    refine GoQ.pure rfl (fun w => opB (J0w rfl rfl w) (decide_eq_true Fa)) rfl rfl ?_
    refine GoQ.pure rfl (J0i rfl) rfl rfl ?_
    refine GoQ.nil ?_
    refine Go1.ret1V Try.func132 rfl (show _ = .bool true from rfl) ?_
    refine hR98 _ _ ?_
    refine zo (J0l rfl) (zn (zf rfl rfl ?_))
    refine Go1.exit rfl ?_
    refine zq (zr (zm rfl (zo (J01 rfl) (zo (J00 Try.underlying156 rfl ti123 rfl (by decide)) (zs (J0j (vs := [.int .i64 k2_40, .bool b2_41, .slice p46 n48 c47, .slice p52 n54 c53, .slice p58 n60 c59, .slice p64 n66 c65, .slice p70 n72 c71, .slice p76 n78 c77, .int .i64 k2_42]) (i := 0) 0 hO rfl rfl Try.underlying123 rfl ti123 rfl) ?_)))))
    have zz := J0b (us := [.int .i64 k2_40, .bool b2_41, .slice p46 n48 c47, .slice p52 n54 c53, .slice p58 n60 c59, .slice p64 n66 c65, .slice p70 n72 c71, .slice p76 n78 c77, .int .i64 k2_42]) (o := 0) (cs' := #[.int .i64 k2_40, .bool b2_41, .slice p46 n48 c47, .slice p52 n54 c53, .slice p58 n60 c59, .slice p64 n66 c65, .slice p70 n72 c71, .slice p76 n78 c77, .int .i64 k2_42]) 11 hO rfl rfl (Nat.le_of_ble_eq_true rfl) rfl
    obtain ⟨Yb, ju, Dx⟩ := zz
    dsimp only [sS, sZ] at ju
    refine zg (Dx ti123 (by exact rfl) (by exact rfl) rfl) ?_
    replace hO := ju.own
    refine za rfl (zn ?_)
    replace BG := (BG.ch gR.ch).ch ju.ch
    have zz := freeze 1 hO rfl BG
    obtain ⟨hO1, wo, uB, PD⟩ := zz
    dsimp only [eS, eZ] at hO1 wo uB
    replace hB := ((hB.trans gR.fr).trans ju.fr).trans (Owns.J09 _ _ 1)
    dsimp only [eS, eZ] at hB
    replace hO := hO1; clear hO1
    replace ye := (ye.ch ju.ch).ch wo
    have zz := freeze 1 hO rfl ye
    obtain ⟨hO1, wq, vE, PE⟩ := zz
    dsimp only [eS, eZ] at hO1 wq vE
    replace hB := hB.trans (Owns.J09 _ _ 1)
    dsimp only [eS, eZ] at hB
    replace hO := hO1; clear hO1
    have Z1 := ((gR.ch.trans ju.ch).trans wo).trans wq
    replace xA := xA.ch Z1
    have zz := freeze 1 hO rfl xA
    obtain ⟨hO1, wr, xo, PF⟩ := zz
    dsimp only [eS, eZ] at hO1 wr xo
    replace hB := hB.trans (Owns.J09 _ _ 1)
    dsimp only [eS, eZ] at hB
    replace hO := hO1; clear hO1
    replace wh := (wh.ch Z1).ch wr
    have zz := freeze 1 hO rfl wh
    obtain ⟨hO1, ws, y9, PG⟩ := zz
    dsimp only [eS, eZ] at hO1 ws y9
    replace hB := hB.trans (Owns.J09 _ _ 1)
    dsimp only [eS, eZ] at hB
    replace hO := hO1; clear hO1
    replace t5 := ((t5.ch Z1).ch wr).ch ws
    have zz := freeze 1 hO rfl t5
    obtain ⟨hO1, wt, Cj, PH⟩ := zz
    dsimp only [eS, eZ] at hO1 wt Cj
    replace hB := hB.trans (Owns.J09 _ _ 1)
    dsimp only [eS, eZ] at hB
    replace hO := hO1; clear hO1
    have Z2 := ((Z1.trans wr).trans ws).trans wt
    replace t9 := t9.ch Z2
    have zz := freeze 1 hO rfl t9
    obtain ⟨hO1, wu, Ik, PJ⟩ := zz
    dsimp only [eS, eZ] at hO1 wu Ik
    replace hB := hB.trans (Owns.J09 _ _ 1)
    dsimp only [eS, eZ] at hB
    replace hO := hO1; clear hO1
    refine Go1.retC2 Try.func101 rfl rfl (J0f (vs := [.int .i64 k2_40, .bool b2_41, .slice p46 n48 c47, .slice p52 n54 c53, .slice p58 n60 c59, .slice p64 n66 c65, .slice p70 n72 c71, .slice p76 n78 c77, .int .i64 k2_42]) 5 hO rfl rfl Try.underlying123 rfl ti123) ?_
    replace Cj := Cj.ch wu
    replace y9 := (y9.ch wt).ch wu
    have Z3 := (ws.trans wt).trans wu
    replace xo := xo.ch Z3
    have Z4 := ((wr.trans ws).trans wt).trans wu
    replace vE := vE.ch Z4
    have Z5 := (((wq.trans wr).trans ws).trans wt).trans wu
    replace uB := uB.ch Z5
    exact ⟨(⟨k2_40, b2_41, d_43, d_49, d_55, d_61, d_67, d_73, k2_42⟩ : Enum), (0 : Int), p46, c47, p52, c53, p58, c59, p64, c65, p70, c71, p76, c77, (congrArg (fun l => Value.tuple (List.toArray l)) (J0h (congrArg (fun l => Value.agg (List.toArray l)) (J0h rfl (J0h rfl (J0h (congrArg (fun nn => Value.slice p46 nn c47) PD) (J0h (congrArg (fun nn => Value.slice p52 nn c53) PE) (J0h (congrArg (fun nn => Value.slice p58 nn c59) PF) (J0h (congrArg (fun nn => Value.slice p64 nn c65) PG) (J0h (congrArg (fun nn => Value.slice p70 nn c71) PH) (J0h (congrArg (fun nn => Value.slice p76 nn c77) PJ) (J0h rfl rfl)))))))))) (J0h rfl rfl))), hB.same, (uB.ch (Ch.weak _ _ _)), (vE.ch (Ch.weak _ _ _)), (xo.ch (Ch.weak _ _ _)), (y9.ch (Ch.weak _ _ _)), (Cj.ch (Ch.weak _ _ _)), (Ik.ch (Ch.weak _ _ _)), H⟩
   replace H := ifn Fa H
   refine GoQ.pure rfl (fun w => opB (J0w rfl rfl w) (decide_eq_false Fa)) rfl rfl ?_
   refine GoQ.pure rfl (J0i rfl) rfl rfl ?_
   refine GoQ.nil ?_
   refine Go1.ret1V Try.func132 rfl (show _ = .bool false from rfl) ?_
   refine hR98 _ _ ?_
   refine zo (J0l rfl) (zn (zt rfl rfl (zk (zb (zq ?_)))))
   refine Go1.cut [(4, .pointer (some ⟨B2, 0, none⟩)), (6, .pointer (some ⟨mW, 0, none⟩))] ⟨rfl, rfl, trivial⟩ ?_
   intro σ _
   refine zr (zm rfl ?_)
   have Il : Owns w0.heap.size w99 ([.blk mW (.cells #[.int .i64 k2_40, .bool b2_41, .slice p46 n48 c47, .slice p52 n54 c53, .slice p58 n60 c59, .slice p64 n66 c65, .slice p70 n72 c71, .slice p76 n78 c77, .int .i64 k2_42, .map (some cN), .slice p82 n84 c83, .slice p88 n90 c89, .slice p94 n96 c95] 156 (0, 0)), .row 31 1 p46 n48 c47 sL, .row 31 1 p52 n54 c53 pK, .row 3 1 p58 n60 c59 sM, .row 3 1 p64 n66 c65 sN, .row 31 1 p70 n72 c71 sO, .row 185 2 p76 n78 c77 sP, .row 9 1 p82 n84 c83 pN, .row 3 1 p88 n90 c89 sQ, .row 3 1 p94 n96 c95 sR, .any (mapE (fun a : List UInt8 => Value.string (gstr a)) (fun a : Int => Value.int .i64 a) cN m2_97)] ++ [.blk B2 (.cells #[.int .i64 0, .bool false, .slice none 0 0, .slice none 0 0, .slice none 0 0, .slice none 0 0, .slice none 0 0, .slice none 0 0, .int .i64 0] 123 (0, 0))]) A := hO
   have PK := Owns.split Il
   have hca126 : Ch (bl [.blk mW (.cells #[.int .i64 k2_40, .bool b2_41, .slice p46 n48 c47, .slice p52 n54 c53, .slice p58 n60 c59, .slice p64 n66 c65, .slice p70 n72 c71, .slice p76 n78 c77, .int .i64 k2_42, .map (some cN), .slice p82 n84 c83, .slice p88 n90 c89, .slice p94 n96 c95] 156 (0, 0)), .row 31 1 p46 n48 c47 sL, .row 31 1 p52 n54 c53 pK, .row 3 1 p58 n60 c59 sM, .row 3 1 p64 n66 c65 sN, .row 31 1 p70 n72 c71 sO, .row 185 2 p76 n78 c77 sP, .row 9 1 p82 n84 c83 pN, .row 3 1 p88 n90 c89 sQ, .row 3 1 p94 n96 c95 sR, .any (mapE (fun a : List UInt8 => Value.string (gstr a)) (fun a : Int => Value.int .i64 a) cN m2_97), .blk B2 (.cells #[.int .i64 0, .bool false, .slice none 0 0, .slice none 0 0, .slice none 0 0, .slice none 0 0, .slice none 0 0, .slice none 0 0, .int .i64 0] 123 (0, 0))] ++ A) w99 (bl [.blk mW (.cells #[.int .i64 k2_40, .bool b2_41, .slice p46 n48 c47, .slice p52 n54 c53, .slice p58 n60 c59, .slice p64 n66 c65, .slice p70 n72 c71, .slice p76 n78 c77, .int .i64 k2_42, .map (some cN), .slice p82 n84 c83, .slice p88 n90 c89, .slice p94 n96 c95] 156 (0, 0)), .row 31 1 p46 n48 c47 sL, .row 31 1 p52 n54 c53 pK, .row 3 1 p58 n60 c59 sM, .row 3 1 p64 n66 c65 sN, .row 31 1 p70 n72 c71 sO, .row 185 2 p76 n78 c77 sP, .row 9 1 p82 n84 c83 pN, .row 3 1 p88 n90 c89 sQ, .row 3 1 p94 n96 c95 sR, .any (mapE (fun a : List UInt8 => Value.string (gstr a)) (fun a : Int => Value.int .i64 a) cN m2_97)] ++ (bl [.blk B2 (.cells #[.int .i64 0, .bool false, .slice none 0 0, .slice none 0 0, .slice none 0 0, .slice none 0 0, .slice none 0 0, .slice none 0 0, .int .i64 0] 123 (0, 0))] ++ A)) w99 := Ch.assoc' [.blk mW (.cells #[.int .i64 k2_40, .bool b2_41, .slice p46 n48 c47, .slice p52 n54 c53, .slice p58 n60 c59, .slice p64 n66 c65, .slice p70 n72 c71, .slice p76 n78 c77, .int .i64 k2_42, .map (some cN), .slice p82 n84 c83, .slice p88 n90 c89, .slice p94 n96 c95] 156 (0, 0)), .row 31 1 p46 n48 c47 sL, .row 31 1 p52 n54 c53 pK, .row 3 1 p58 n60 c59 sM, .row 3 1 p64 n66 c65 sN, .row 31 1 p70 n72 c71 sO, .row 185 2 p76 n78 c77 sP, .row 9 1 p82 n84 c83 pN, .row 3 1 p88 n90 c89 sQ, .row 3 1 p94 n96 c95 sR, .any (mapE (fun a : List UInt8 => Value.string (gstr a)) (fun a : Int => Value.int .i64 a) cN m2_97)] [.blk B2 (.cells #[.int .i64 0, .bool false, .slice none 0 0, .slice none 0 0, .slice none 0 0, .slice none 0 0, .slice none 0 0, .slice none 0 0, .int .i64 0] 123 (0, 0))] A w99
   replace BG := BG.ch gR.ch
   replace xA := xA.ch gR.ch
   replace wh := wh.ch gR.ch
   replace t5 := t5.ch gR.ch
   replace t9 := t9.ch gR.ch
   replace ns := ns.ch gR.ch
   replace tF := tF.ch gR.ch
   replace kl := kl.ch gR.ch
   refine GoR.call (J0a body133 rfl (walk_enumerate_run_process (a0 := (⟨(⟨k2_40, b2_41, d_43, d_49, d_55, d_61, d_67, d_73, k2_42⟩ : Enum), m2_97, d_79, d_85, d_91⟩ : run)) PK (BG.ch hca126) (ye.ch hca126) (xA.ch hca126) (wh.ch hca126) (t5.ch hca126) (t9.ch hca126) (ns.ch hca126) (tF.ch hca126) (kl.ch hca126) H)) rfl rfl ?_
   intro Yc CQ
   refine exE fun r127 => exE fun q128 => exE fun iw => exE fun iA => exE fun iB => exE fun mG => exE fun gV => exE fun gW => exE fun gX => exE fun lU => exE fun gJ => exE fun gK => exE fun gL => exE fun lm => exE fun iC => exE fun iD => exE fun iE => exE fun mH => exE fun gY => exE fun g5 => exE fun g6 => exE fun lV => exE fun g7 => exE fun g8 => exE fun g9 => exE fun lW => exE fun kC => exE fun kD => exE fun kE => exE fun sy => exE fun jH => exE fun jI => exE fun jJ => exE fun qd => exE fun jK => exE fun jL => exE fun jM => exE fun qe => andE fun hv134 => andE fun hN131 => andE fun mI => andE fun lX => andE fun lp => andE fun mJ => andE fun lY => andE fun l5 => andE fun sA => andE fun qf => andE fun qg => andE fun hF132 => fun H => ?_
   subst hv134
   have mp : Stp w0.heap.size A w99 [.blk mW (.cells #[.int .i64 k2_40, .bool b2_41, .slice p46 n48 c47, .slice p52 n54 c53, .slice p58 n60 c59, .slice p64 n66 c65, .slice p70 n72 c71, .slice p76 n78 c77, .int .i64 k2_42, .map (some cN), .slice p82 n84 c83, .slice p88 n90 c89, .slice p94 n96 c95] 156 (0, 0)), .row 31 1 p46 n48 c47 sL, .row 31 1 p52 n54 c53 pK, .row 3 1 p58 n60 c59 sM, .row 3 1 p64 n66 c65 sN, .row 31 1 p70 n72 c71 sO, .row 185 2 p76 n78 c77 sP, .row 9 1 p82 n84 c83 pN, .row 3 1 p88 n90 c89 sQ, .row 3 1 p94 n96 c95 sR, .any (mapE (fun a : List UInt8 => Value.string (gstr a)) (fun a : Int => Value.int .i64 a) cN m2_97), .blk B2 (.cells #[.int .i64 0, .bool false, .slice none 0 0, .slice none 0 0, .slice none 0 0, .slice none 0 0, .slice none 0 0, .slice none 0 0, .int .i64 0] 123 (0, 0))] CQ [.blk mW (.cells #[.int .i64 q128.Enum.Points, .bool q128.Enum.Monoid, .slice iA iw iB, .slice gW gV gX, .slice gK gJ gL, .slice iD iC iE, .slice g5 gY g6, .slice g8 g7 g9, .int .i64 q128.Enum.Done, .map (some cN), .slice kD kC kE, .slice jI jH jJ, .slice jL jK jM] 156 (0, 0)), .row 31 1 iA iw iB mG, .row 31 1 gW gV gX lU, .row 3 1 gK gJ gL lm, .row 3 1 iD iC iE mH, .row 31 1 g5 gY g6 lV, .row 185 2 g8 g7 g9 lW, .row 9 1 kD kC kE sy, .row 3 1 jI jH jJ qd, .row 3 1 jL jK jM qe, .any (mapE (fun a : List UInt8 => Value.string (gstr a)) (fun a : Int => Value.int .i64 a) cN q128.number), .blk B2 (.cells #[.int .i64 0, .bool false, .slice none 0 0, .slice none 0 0, .slice none 0 0, .slice none 0 0, .slice none 0 0, .slice none 0 0, .int .i64 0] 123 (0, 0))] := Stp.join Il hN131 hF132
   replace hO := mp.own
   have hca135 : Ch (bl [.blk mW (.cells #[.int .i64 q128.Enum.Points, .bool q128.Enum.Monoid, .slice iA iw iB, .slice gW gV gX, .slice gK gJ gL, .slice iD iC iE, .slice g5 gY g6, .slice g8 g7 g9, .int .i64 q128.Enum.Done, .map (some cN), .slice kD kC kE, .slice jI jH jJ, .slice jL jK jM] 156 (0, 0)), .row 31 1 iA iw iB mG, .row 31 1 gW gV gX lU, .row 3 1 gK gJ gL lm, .row 3 1 iD iC iE mH, .row 31 1 g5 gY g6 lV, .row 185 2 g8 g7 g9 lW, .row 9 1 kD kC kE sy, .row 3 1 jI jH jJ qd, .row 3 1 jL jK jM qe, .any (mapE (fun a : List UInt8 => Value.string (gstr a)) (fun a : Int => Value.int .i64 a) cN q128.number)] ++ (bl [.blk B2 (.cells #[.int .i64 0, .bool false, .slice none 0 0, .slice none 0 0, .slice none 0 0, .slice none 0 0, .slice none 0 0, .slice none 0 0, .int .i64 0] 123 (0, 0))] ++ A)) CQ (bl [.blk mW (.cells #[.int .i64 q128.Enum.Points, .bool q128.Enum.Monoid, .slice iA iw iB, .slice gW gV gX, .slice gK gJ gL, .slice iD iC iE, .slice g5 gY g6, .slice g8 g7 g9, .int .i64 q128.Enum.Done, .map (some cN), .slice kD kC kE, .slice jI jH jJ, .slice jL jK jM] 156 (0, 0)), .row 31 1 iA iw iB mG, .row 31 1 gW gV gX lU, .row 3 1 gK gJ gL lm, .row 3 1 iD iC iE mH, .row 31 1 g5 gY g6 lV, .row 185 2 g8 g7 g9 lW, .row 9 1 kD kC kE sy, .row 3 1 jI jH jJ qd, .row 3 1 jL jK jM qe, .any (mapE (fun a : List UInt8 => Value.string (gstr a)) (fun a : Int => Value.int .i64 a) cN q128.number), .blk B2 (.cells #[.int .i64 0, .bool false, .slice none 0 0, .slice none 0 0, .slice none 0 0, .slice none 0 0, .slice none 0 0, .slice none 0 0, .int .i64 0] 123 (0, 0))] ++ A) CQ := Ch.assoc [.blk mW (.cells #[.int .i64 q128.Enum.Points, .bool q128.Enum.Monoid, .slice iA iw iB, .slice gW gV gX, .slice gK gJ gL, .slice iD iC iE, .slice g5 gY g6, .slice g8 g7 g9, .int .i64 q128.Enum.Done, .map (some cN), .slice kD kC kE, .slice jI jH jJ, .slice jL jK jM] 156 (0, 0)), .row 31 1 iA iw iB mG, .row 31 1 gW gV gX lU, .row 3 1 gK gJ gL lm, .row 3 1 iD iC iE mH, .row 31 1 g5 gY g6 lV, .row 185 2 g8 g7 g9 lW, .row 9 1 kD kC kE sy, .row 3 1 jI jH jJ qd, .row 3 1 jL jK jM qe, .any (mapE (fun a : List UInt8 => Value.string (gstr a)) (fun a : Int => Value.int .i64 a) cN q128.number)] [.blk B2 (.cells #[.int .i64 0, .bool false, .slice none 0 0, .slice none 0 0, .slice none 0 0, .slice none 0 0, .slice none 0 0, .slice none 0 0, .int .i64 0] 123 (0, 0))] A CQ
   refine za rfl (zn (zq (zr (zm rfl ?_))))
   by_cases Fb : r127 = (0 : Int)
   ·replace H := ifp Fb H
    refine zo (fun w => opB (J0g rfl rfl w) (ndT Fb)) (zn (zf rfl rfl (zk ?_)))
    refine Go1.inBlock ?_
    replace mI := mI.ch hca135
    replace lX := lX.ch hca135
    replace lp := lp.ch hca135
    replace mJ := mJ.ch hca135
    replace lY := lY.ch hca135
    replace l5 := l5.ch hca135
    replace sA := sA.ch hca135
    replace qf := qf.ch hca135
    replace qg := qg.ch hca135
    replace hB := (hB.trans gR.fr).trans mp.fr
    exact hX2 _ H _ _ ⟨iw, iA, iB, mG, gV, gW, gX, lU, gJ, gK, gL, lm, iC, iD, iE, mH, gY, g5, g6, lV, g7, g8, g9, lW, kC, kD, kE, sy, jH, jI, jJ, qd, jK, jL, jM, qe, ⟨rfl, rfl, trivial⟩, hO, mI, lX, lp, mJ, lY, l5, sA, qf, qg, hB⟩
   replace H := ifn Fb H
   refine zo (fun w => opB (J0g rfl rfl w) (ndF Fb)) (zn (zt rfl rfl (zq (zr (zo (J0q Try.underlying123 ti123 (pl := [(0, 1), (1, 1), (2, 1), (3, 1), (4, 1), (5, 1), (6, 1), (7, 1), (8, 1)]) (vs := []) (cs := #[.int .i64 0, .bool false, .slice none 0 0, .slice none 0 0, .slice none 0 0, .slice none 0 0, .slice none 0 0, .slice none 0 0, .int .i64 0]) (by kernel_rfl) rfl (by kernel_rfl)) ?_)))))
   refine zm rfl ?_
   have zz := J0b (us := [.int .i64 0, .bool false, .slice none 0 0, .slice none 0 0, .slice none 0 0, .slice none 0 0, .slice none 0 0, .slice none 0 0, .int .i64 0]) (o := 0) (cs' := #[.int .i64 0, .bool false, .slice none 0 0, .slice none 0 0, .slice none 0 0, .slice none 0 0, .slice none 0 0, .slice none 0 0, .int .i64 0]) 11 hO rfl rfl (Nat.le_of_ble_eq_true rfl) rfl
   obtain ⟨Yd, sB, K2⟩ := zz
   dsimp only [sS, sZ] at sB
   refine zg (K2 ti123 (by exact rfl) (by exact rfl) rfl) ?_
   replace hO := sB.own
   refine za rfl (zn ?_)
   refine Go1.retC2 Try.func101 rfl rfl (J0f (vs := [.int .i64 0, .bool false, .slice none 0 0, .slice none 0 0, .slice none 0 0, .slice none 0 0, .slice none 0 0, .slice none 0 0, .int .i64 0]) 11 hO rfl rfl Try.underlying123 rfl ti123) ?_
   replace hB := ((hB.trans gR.fr).trans mp.fr).trans sB.fr
   exact ⟨(⟨(0 : Int), false, ([] : List (List Int)), ([] : List (List Int)), ([] : List Int), ([] : List Int), ([] : List (List Int)), ([] : List Rule), (0 : Int)⟩ : Enum), r127, none, 0, none, 0, none, 0, none, 0, none, 0, none, 0, rfl, hB.same, (ISl.null _ _ _), (ISl.null _ _ _), (ISl.null _ _ _), (ISl.null _ _ _), (ISl.null _ _ _), (ISl.null _ _ _), H⟩
  replace H := ifn h38 H
  refine zo (fun w => opB (J0g rfl rfl w) (ndF h38)) (zn (zt rfl rfl (zq (zr (zo (J0q Try.underlying123 ti123 (pl := [(0, 1), (1, 1), (2, 1), (3, 1), (4, 1), (5, 1), (6, 1), (7, 1), (8, 1)]) (vs := []) (cs := #[.int .i64 0, .bool false, .slice none 0 0, .slice none 0 0, .slice none 0 0, .slice none 0 0, .slice none 0 0, .slice none 0 0, .int .i64 0]) (by kernel_rfl) rfl (by kernel_rfl)) ?_)))))
  refine zm rfl ?_
  have zz := J0b (us := [.int .i64 0, .bool false, .slice none 0 0, .slice none 0 0, .slice none 0 0, .slice none 0 0, .slice none 0 0, .slice none 0 0, .int .i64 0]) (o := 0) (cs' := #[.int .i64 0, .bool false, .slice none 0 0, .slice none 0 0, .slice none 0 0, .slice none 0 0, .slice none 0 0, .slice none 0 0, .int .i64 0]) 11 hO rfl rfl (Nat.le_of_ble_eq_true rfl) rfl
  obtain ⟨Ye, jw, K3⟩ := zz
  dsimp only [sS, sZ] at jw
  refine zg (K3 ti123 (by exact rfl) (by exact rfl) rfl) ?_
  replace hO := jw.own
  refine za rfl (zn ?_)
  refine Go1.retC2 Try.func101 rfl rfl (J0f (vs := [.int .i64 0, .bool false, .slice none 0 0, .slice none 0 0, .slice none 0 0, .slice none 0 0, .slice none 0 0, .slice none 0 0, .int .i64 0]) 11 hO rfl rfl Try.underlying123 rfl ti123) ?_
  replace hB := ((hB.trans cB.fr).trans mS.fr).trans jw.fr
  exact ⟨(⟨(0 : Int), false, ([] : List (List Int)), ([] : List (List Int)), ([] : List Int), ([] : List Int), ([] : List (List Int)), ([] : List Rule), (0 : Int)⟩ : Enum), r8, none, 0, none, 0, none, 0, none, 0, none, 0, none, 0, rfl, hB.same, (ISl.null _ _ _), (ISl.null _ _ _), (ISl.null _ _ _), (ISl.null _ _ _), (ISl.null _ _ _), (ISl.null _ _ _), H⟩
theorem body134 : Body Try.prog 134 := ⟨Try.f134, Try.func134, rfl, by kernel_rfl⟩
theorem walk_slices_Index_int {A : List Nat} {w0 : World} {nK : Option Addr} {sI : Nat} {s_ : List Int} {v : Int} (hA : ∀ b ∈ A, b < w0.heap.size) (iR : ISl (Rp.int .i64) A w0 nK sI s_) {K : Int → Prop} (H : J1d s_ v K) :
    CallsV Try.prog 134 #[.slice nK s_.length sI, .int .i64 v] w0 (fun v w' => ∃ (r0 : Int), v = .int .i64 r0 ∧ Same w0 w' ∧ K r0) := by
 refine CallsV.of (l := [.slice nK s_.length sI, .int .i64 v]) Try.func134 rfl Try.ntmps134 rfl ?_
 have hO := Owns.start hA
 have hB := Fr.refl (bl []) w0
 unfold J1d at H
 refine zq (zr (za rfl (zn (zq (zq ?_)))))
 refine zr (zm rfl (zo (J0d Try.underlying31 rfl) ?_))
 replace iR := iR.ch (Ch.start A w0)
 replace H := H iR.bd
 refine zm rfl (zn (zb ?_))
 refine Go1.loopW (S := Nat) (fun s σ w => agrees σ [(0, .slice nK s_.length sI), (1, .int .i64 v), (7, .int .i64 (s_.length : Int)), (8, .int .i64 (s : Int))] ∧ Owns w0.heap.size w [] A ∧ ISl (Rp.int .i64) (bl [] ++ A) w nK sI s_ ∧ Fr (bl []) w0 (bl []) w) H ⟨⟨rfl, rfl, rfl, rfl, trivial⟩, hO, iR, hB⟩ ?_
 intro X1 k1_2
 intro H hX1 σ w1
 refine andE fun hag => andE fun hO => andE fun iR => fun hB => ?_
 refine Go1.keep [(0, .slice nK s_.length sI), (1, .int .i64 v), (7, .int .i64 (s_.length : Int)), (8, .int .i64 (k1_2 : Int))] hag ?_
 refine zq (zr ?_)
 by_cases h3 : (k1_2 : Int) < (s_.length : Int)
 ·replace H := ifp h3 H
  refine zo (fun w => opB (J08 rfl rfl w) (decide_eq_true h3)) (zn (zq (zt rfl rfl (zk (zq ?_)))))
  refine zb (zq (zr (zm rfl (za rfl (zn ?_)))))
  refine zq (zr (zm rfl (zm rfl (zm rfl ?_))))
  obtain ⟨h4, H⟩ := H
  obtain ⟨h5, H⟩ := H
  refine zo (J02 Try.underlying31 ti3 rfl rfl h4 h5 (iR.some_ h4 h5)) (zs (ldInt iR h4 h5 Try.underlying3 rfl rfl) ?_)
  by_cases h6 : v = (ix s_ (k1_2 : Int))
  ·replace H := ifp h6 H
   refine zo (fun w => opB (J0w rfl rfl w) (decide_eq_true h6)) (zn (zt rfl rfl (zq (zr (zm rfl ?_)))))
   refine za rfl (zn ?_)
   refine Go1.ret1 Try.func134 rfl ?_
   exact ⟨(k1_2 : Int), rfl, hB.same, H⟩
  replace H := ifn h6 H
  refine zo (fun w => opB (J0w rfl rfl w) (decide_eq_false h6)) (zn (zf rfl rfl (zk ?_)))
  refine Go1.inBlock ?_
  refine zr (zo (J0c rfl rfl (wrap_i64 (natbd h3 iR.bd))) (zm rfl (zn ?_)))
  exact hX1 _ H _ _ ⟨⟨rfl, rfl, rfl, rfl, trivial⟩, hO, iR, hB⟩
 replace H := ifn h3 H
 refine zo (fun w => opB (J08 rfl rfl w) (decide_eq_false h3)) (zn (zq (zf rfl rfl ?_)))
 refine Go1.exit rfl ?_
 refine zq (zr (za rfl (zn ?_)))
 refine Go1.ret1 Try.func134 rfl ?_
 exact ⟨(-1 : Int), rfl, hB.same, H⟩
theorem body102 : Body Try.prog 102 := ⟨Try.f102, Try.func102, rfl, by kernel_rfl⟩
theorem walk_slices_Contains_int {A : List Nat} {w0 : World} {nK : Option Addr} {sI : Nat} {s_ : List Int} {v : Int} (hA : ∀ b ∈ A, b < w0.heap.size) (iR : ISl (Rp.int .i64) A w0 nK sI s_) {K : Bool → Prop} (H : J0B s_ v K) :
    CallsV Try.prog 102 #[.slice nK s_.length sI, .int .i64 v] w0 (fun v w' => ∃ (r0 : Bool), v = .bool r0 ∧ Same w0 w' ∧ K r0) := by
 refine CallsV.of (l := [.slice nK s_.length sI, .int .i64 v]) Try.func102 rfl Try.ntmps102 rfl ?_
 have hO := Owns.start hA
 have hB := Fr.refl (bl []) w0
 unfold J0B at H
 refine zq (zr (za rfl (zn (zq (zr ?_)))))
 refine zm rfl (zm rfl ?_)
 replace iR := iR.ch (Ch.start A w0)
 refine GoR.call (J0a body134 rfl (walk_slices_Index_int hO.lt iR H)) rfl rfl ?_
 rintro v5 w2 ⟨r1, rfl, hs3, H⟩
 have v8 := Stp.same hO hs3
 replace hO := v8.own
 by_cases h7 : (0 : Int) ≤ r1
 ·replace H := ifp h7 H
  refine zo (fun w => opB (J0L rfl rfl w) (decide_eq_true h7)) (za rfl (zn ?_))
  refine Go1.ret1 Try.func102 rfl ?_
  replace hB := hB.trans v8.fr
  exact ⟨true, rfl, hB.same, H⟩
 replace H := ifn h7 H
 refine zo (fun w => opB (J0L rfl rfl w) (decide_eq_false h7)) (za rfl (zn ?_))
 refine Go1.ret1 Try.func102 rfl ?_
 replace hB := hB.trans v8.fr
 exact ⟨false, rfl, hB.same, H⟩
theorem body103 : Body Try.prog 103 := ⟨Try.f103, Try.func103, rfl, by kernel_rfl⟩
theorem walk_syntactic_part_accept {A : List Nat} {w0 : World} {vV : Option Addr} {vW : Nat} {p_f : Option Addr} {c_f : Nat} {p : part} {f : List Int} (hA : ∀ b ∈ A, b < w0.heap.size) (qH : ISl (Rp.bool) A w0 vV vW p.final) (h_f : ISl (Rp.int .i64) A w0 p_f c_f f) {K : Bool → Prop} (H : J0J p f K) :
    CallsV Try.prog 103 #[.agg #[.int .i64 p.start, .slice vV p.final.length vW, .int .i64 p.shift], .slice p_f f.length c_f] w0 (fun v w' => ∃ (r0 : Bool), v = .bool r0 ∧ Same w0 w' ∧ K r0) := by
 refine CallsV.of (l := [.agg #[.int .i64 p.start, .slice vV p.final.length vW, .int .i64 p.shift], .slice p_f f.length c_f]) Try.func103 rfl Try.ntmps103 rfl ?_
 have hO := Owns.start hA
 have hB := Fr.refl (bl []) w0
 unfold J0J at H
 refine zq (zr ?_)
 have zz := obox (t := 120) (v := .agg #[.int .i64 p.start, .slice vV p.final.length vW, .int .i64 p.shift]) (cs := #[.int .i64 p.start, .slice vV p.final.length vW, .int .i64 p.shift]) hO rfl
 obtain ⟨w1, B2, cB, hs4, ic⟩ := zz
 refine zg (ic rfl) ?_
 replace hO := cB.own
 refine za rfl (zn (zq ?_))
 refine Go1.drawS 0 [(0, .pure), (1, .stable), (2, .pure), (3, .pure), (4, .stable), (5, .pure), (6, .stable), (7, .pure), (8, .stable), (9, .pure), (10, .pure), (11, .stable), (12, .pure)] mixed (by kernel_rfl) ?_
 intro w7 hs8
 have ja := Stp.same hO hs8
 replace hO := ja.own
 refine GoQ.pure rfl (J00 Try.underlying120 rfl ti22 rfl (by decide)) rfl rfl ?_
 refine GoQ.stable rfl (oblk (i := 1) 0 hO rfl rfl Try.underlying22 rfl rfl) rfl rfl ?_
 refine GoQ.pure rfl (J03 rfl) rfl rfl ?_
 refine GoQ.pure rfl (J00 Try.underlying120 rfl ti3 rfl (by decide)) rfl rfl ?_
 refine GoQ.stable rfl (oblk (i := 0) 0 hO rfl rfl Try.underlying3 rfl rfl) rfl rfl ?_
 obtain ⟨h10, H⟩ := H
 obtain ⟨h11, H⟩ := H
 have Z1 := ((Ch.start A w0).trans cB.ch).trans ja.ch
 replace h_f := h_f.ch Z1
 refine GoQ.pure rfl (J02 Try.underlying31 ti3 rfl rfl h10 h11 (h_f.some_ h10 h11)) rfl rfl ?_
 refine GoQ.stable rfl (ldInt h_f h10 h11 Try.underlying3 rfl rfl) rfl rfl ?_
 refine GoQ.pure rfl (J00 Try.underlying120 rfl ti3 rfl (by decide)) rfl rfl ?_
 refine GoQ.stable rfl (oblk (i := 2) 0 hO rfl rfl Try.underlying3 rfl rfl) rfl rfl ?_
 obtain ⟨h12, H⟩ := H
 refine GoQ.pure rfl (op_sub rfl rfl (wrap_i64 h12)) rfl rfl ?_
 obtain ⟨h13, H⟩ := H
 obtain ⟨h14, H⟩ := H
 replace qH := qH.ch Z1
 refine GoQ.pure rfl (J02 Try.underlying22 ti4 rfl rfl h13 h14 (qH.some_ h13 h14)) rfl rfl ?_
 refine GoQ.stable rfl (ldBool qH h13 h14 Try.underlying4 rfl rfl) rfl rfl ?_
 refine GoQ.pure rfl (J0i rfl) rfl rfl ?_
 refine GoQ.nil ?_
 refine Go1.ret1 Try.func103 rfl ?_
 replace hB := (hB.trans cB.fr).trans ja.fr
 exact ⟨ix p.final ((ix f p.start) - p.shift), rfl, hB.same, H⟩
end Sg
