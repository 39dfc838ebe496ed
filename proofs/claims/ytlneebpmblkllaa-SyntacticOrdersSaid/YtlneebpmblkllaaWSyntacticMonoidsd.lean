/- -/
import Derived.Test.YtlneebpmblkllaaTi
import Derived.Test.YtlneebpmblkllaaWSyntacticMonoidsb
import Derived.Test.YtlneebpmblkllaaWSyntacticMonoidsc
import Derived.Test.YtlneebpmblkllaaAl
namespace Sg
open Go Go.RowKit Go.Proofs
set_option linter.unusedVariables false
set_option linter.unusedSimpArgs false
set_option maxRecDepth 100000
set_option maxHeartbeats 4000000
theorem body159 : Body Try.prog 159 := ⟨Try.f159, Try.func159, rfl, by kernel_rfl⟩
theorem body160 : Body Try.prog 160 := ⟨Try.f160, Try.func160, rfl, by kernel_rfl⟩
theorem body133 : Body Try.prog 133 := ⟨Try.f133, Try.func133, rfl, by kernel_rfl⟩
theorem walk_enumerate_run_process {A : List Nat} {n0 : Nat} {w0 : World} {fm : Nat} {aF : Nat} {aG : Option Addr} {aH : Nat} {dg : List Value} {dx : Nat} {dy : Option Addr} {dz : Nat} {fq : List Value} {di : Nat} {dj : Option Addr} {dk : Nat} {ff : List Value} {dP : Nat} {dQ : Option Addr} {dR : Nat} {fE : List Value} {aP : Nat} {aW : Option Addr} {aX : Nat} {c6 : List Value} {dA : Nat} {dB : Option Addr} {dC : Nat} {ft : List Value} {aY : Nat} {eV : Nat} {eX : Option Addr} {eY : Nat} {gO : List Value} {eH : Nat} {eI : Option Addr} {eK : Nat} {gx : List Value} {bD : Nat} {bE : Option Addr} {bF : Nat} {d4 : List Value} {a0 : run} (hO : Owns n0 w0 [.blk fm (.cells #[.int .i64 a0.Enum.Points, .bool a0.Enum.Monoid, .slice aG aF aH, .slice dy dx dz, .slice dj di dk, .slice dQ dP dR, .slice aW aP aX, .slice dB dA dC, .int .i64 a0.Enum.Done, .map (some aY), .slice eX eV eY, .slice eI eH eK, .slice bE bD bF] 156 (0, 0)), .row 31 1 aG aF aH dg, .row 31 1 dy dx dz fq, .row 3 1 dj di dk ff, .row 3 1 dQ dP dR fE, .row 31 1 aW aP aX c6, .row 185 2 dB dA dC ft, .row 9 1 eX eV eY gO, .row 3 1 eI eH eK gx, .row 3 1 bE bD bF d4, .any (mapE (fun a : List UInt8 => Value.string (gstr a)) (fun a : Int => Value.int .i64 a) aY a0.number)] A) (ad : Els (Rp.sl (Rp.int .i64)) (bl [.blk fm (.cells #[.int .i64 a0.Enum.Points, .bool a0.Enum.Monoid, .slice aG aF aH, .slice dy dx dz, .slice dj di dk, .slice dQ dP dR, .slice aW aP aX, .slice dB dA dC, .int .i64 a0.Enum.Done, .map (some aY), .slice eX eV eY, .slice eI eH eK, .slice bE bD bF] 156 (0, 0)), .row 31 1 aG aF aH dg, .row 31 1 dy dx dz fq, .row 3 1 dj di dk ff, .row 3 1 dQ dP dR fE, .row 31 1 aW aP aX c6, .row 185 2 dB dA dC ft, .row 9 1 eX eV eY gO, .row 3 1 eI eH eK gx, .row 3 1 bE bD bF d4, .any (mapE (fun a : List UInt8 => Value.string (gstr a)) (fun a : Int => Value.int .i64 a) aY a0.number)] ++ A) w0 dg a0.Enum.Gens) (ur : Els (Rp.sl (Rp.int .i64)) (bl [.blk fm (.cells #[.int .i64 a0.Enum.Points, .bool a0.Enum.Monoid, .slice aG aF aH, .slice dy dx dz, .slice dj di dk, .slice dQ dP dR, .slice aW aP aX, .slice dB dA dC, .int .i64 a0.Enum.Done, .map (some aY), .slice eX eV eY, .slice eI eH eK, .slice bE bD bF] 156 (0, 0)), .row 31 1 aG aF aH dg, .row 31 1 dy dx dz fq, .row 3 1 dj di dk ff, .row 3 1 dQ dP dR fE, .row 31 1 aW aP aX c6, .row 185 2 dB dA dC ft, .row 9 1 eX eV eY gO, .row 3 1 eI eH eK gx, .row 3 1 bE bD bF d4, .any (mapE (fun a : List UInt8 => Value.string (gstr a)) (fun a : Int => Value.int .i64 a) aY a0.number)] ++ A) w0 fq a0.Enum.Elems) (tM : Els (Rp.int .i64) (bl [.blk fm (.cells #[.int .i64 a0.Enum.Points, .bool a0.Enum.Monoid, .slice aG aF aH, .slice dy dx dz, .slice dj di dk, .slice dQ dP dR, .slice aW aP aX, .slice dB dA dC, .int .i64 a0.Enum.Done, .map (some aY), .slice eX eV eY, .slice eI eH eK, .slice bE bD bF] 156 (0, 0)), .row 31 1 aG aF aH dg, .row 31 1 dy dx dz fq, .row 3 1 dj di dk ff, .row 3 1 dQ dP dR fE, .row 31 1 aW aP aX c6, .row 185 2 dB dA dC ft, .row 9 1 eX eV eY gO, .row 3 1 eI eH eK gx, .row 3 1 bE bD bF d4, .any (mapE (fun a : List UInt8 => Value.string (gstr a)) (fun a : Int => Value.int .i64 a) aY a0.number)] ++ A) w0 ff a0.Enum.Prefix) (uN : Els (Rp.int .i64) (bl [.blk fm (.cells #[.int .i64 a0.Enum.Points, .bool a0.Enum.Monoid, .slice aG aF aH, .slice dy dx dz, .slice dj di dk, .slice dQ dP dR, .slice aW aP aX, .slice dB dA dC, .int .i64 a0.Enum.Done, .map (some aY), .slice eX eV eY, .slice eI eH eK, .slice bE bD bF] 156 (0, 0)), .row 31 1 aG aF aH dg, .row 31 1 dy dx dz fq, .row 3 1 dj di dk ff, .row 3 1 dQ dP dR fE, .row 31 1 aW aP aX c6, .row 185 2 dB dA dC ft, .row 9 1 eX eV eY gO, .row 3 1 eI eH eK gx, .row 3 1 bE bD bF d4, .any (mapE (fun a : List UInt8 => Value.string (gstr a)) (fun a : Int => Value.int .i64 a) aY a0.number)] ++ A) w0 fE a0.Enum.Last) (ae : Els (Rp.sl (Rp.int .i64)) (bl [.blk fm (.cells #[.int .i64 a0.Enum.Points, .bool a0.Enum.Monoid, .slice aG aF aH, .slice dy dx dz, .slice dj di dk, .slice dQ dP dR, .slice aW aP aX, .slice dB dA dC, .int .i64 a0.Enum.Done, .map (some aY), .slice eX eV eY, .slice eI eH eK, .slice bE bD bF] 156 (0, 0)), .row 31 1 aG aF aH dg, .row 31 1 dy dx dz fq, .row 3 1 dj di dk ff, .row 3 1 dQ dP dR fE, .row 31 1 aW aP aX c6, .row 185 2 dB dA dC ft, .row 9 1 eX eV eY gO, .row 3 1 eI eH eK gx, .row 3 1 bE bD bF d4, .any (mapE (fun a : List UInt8 => Value.string (gstr a)) (fun a : Int => Value.int .i64 a) aY a0.number)] ++ A) w0 c6 a0.Enum.Right) (ut : Els (rpRule) (bl [.blk fm (.cells #[.int .i64 a0.Enum.Points, .bool a0.Enum.Monoid, .slice aG aF aH, .slice dy dx dz, .slice dj di dk, .slice dQ dP dR, .slice aW aP aX, .slice dB dA dC, .int .i64 a0.Enum.Done, .map (some aY), .slice eX eV eY, .slice eI eH eK, .slice bE bD bF] 156 (0, 0)), .row 31 1 aG aF aH dg, .row 31 1 dy dx dz fq, .row 3 1 dj di dk ff, .row 3 1 dQ dP dR fE, .row 31 1 aW aP aX c6, .row 185 2 dB dA dC ft, .row 9 1 eX eV eY gO, .row 3 1 eI eH eK gx, .row 3 1 bE bD bF d4, .any (mapE (fun a : List UInt8 => Value.string (gstr a)) (fun a : Int => Value.int .i64 a) aY a0.number)] ++ A) w0 ft a0.Enum.Rules) (xd : Els (Rp.str) (bl [.blk fm (.cells #[.int .i64 a0.Enum.Points, .bool a0.Enum.Monoid, .slice aG aF aH, .slice dy dx dz, .slice dj di dk, .slice dQ dP dR, .slice aW aP aX, .slice dB dA dC, .int .i64 a0.Enum.Done, .map (some aY), .slice eX eV eY, .slice eI eH eK, .slice bE bD bF] 156 (0, 0)), .row 31 1 aG aF aH dg, .row 31 1 dy dx dz fq, .row 3 1 dj di dk ff, .row 3 1 dQ dP dR fE, .row 31 1 aW aP aX c6, .row 185 2 dB dA dC ft, .row 9 1 eX eV eY gO, .row 3 1 eI eH eK gx, .row 3 1 bE bD bF d4, .any (mapE (fun a : List UInt8 => Value.string (gstr a)) (fun a : Int => Value.int .i64 a) aY a0.number)] ++ A) w0 gO a0.words) (wv : Els (Rp.int .i64) (bl [.blk fm (.cells #[.int .i64 a0.Enum.Points, .bool a0.Enum.Monoid, .slice aG aF aH, .slice dy dx dz, .slice dj di dk, .slice dQ dP dR, .slice aW aP aX, .slice dB dA dC, .int .i64 a0.Enum.Done, .map (some aY), .slice eX eV eY, .slice eI eH eK, .slice bE bD bF] 156 (0, 0)), .row 31 1 aG aF aH dg, .row 31 1 dy dx dz fq, .row 3 1 dj di dk ff, .row 3 1 dQ dP dR fE, .row 31 1 aW aP aX c6, .row 185 2 dB dA dC ft, .row 9 1 eX eV eY gO, .row 3 1 eI eH eK gx, .row 3 1 bE bD bF d4, .any (mapE (fun a : List UInt8 => Value.string (gstr a)) (fun a : Int => Value.int .i64 a) aY a0.number)] ++ A) w0 gx a0.behind) (ao : Els (Rp.int .i64) (bl [.blk fm (.cells #[.int .i64 a0.Enum.Points, .bool a0.Enum.Monoid, .slice aG aF aH, .slice dy dx dz, .slice dj di dk, .slice dQ dP dR, .slice aW aP aX, .slice dB dA dC, .int .i64 a0.Enum.Done, .map (some aY), .slice eX eV eY, .slice eI eH eK, .slice bE bD bF] 156 (0, 0)), .row 31 1 aG aF aH dg, .row 31 1 dy dx dz fq, .row 3 1 dj di dk ff, .row 3 1 dQ dP dR fE, .row 31 1 aW aP aX c6, .row 185 2 dB dA dC ft, .row 9 1 eX eV eY gO, .row 3 1 eI eH eK gx, .row 3 1 bE bD bF d4, .any (mapE (fun a : List UInt8 => Value.string (gstr a)) (fun a : Int => Value.int .i64 a) aY a0.number)] ++ A) w0 d4 a0.single) {K : Int → run → Prop} (H : J0x a0 K) :
    CallsV Try.prog 133 #[.pointer (some ⟨fm, 0, none⟩)] w0 (fun v w' => ∃ (r0 : Int) (q : run) (cE : Nat) (cF : Option Addr) (cG : Nat) (d6 : List Value) (ci : Nat) (cj : Option Addr) (ck : Nat) (dU : List Value) (bW : Nat) (bX : Option Addr) (bY : Nat) (dI : List Value) (cH : Nat) (cI : Option Addr) (cJ : Nat) (d7 : List Value) (co : Nat) (cp : Option Addr) (cq : Nat) (dV : List Value) (cr : Nat) (cv : Option Addr) (cw : Nat) (dW : List Value) (dK : Nat) (dM : Option Addr) (dN : Nat) (fx : List Value) (dm : Nat) (dn : Option Addr) (dp : Nat) (e8 : List Value) (dq : Nat) (dr : Option Addr) (dt : Nat) (e9 : List Value), v = .int .i64 r0 ∧ (fun Z0 => Owns n0 w' Z0 A ∧ Els (Rp.sl (Rp.int .i64)) (bl Z0 ++ A) w' d6 q.Enum.Gens ∧ Els (Rp.sl (Rp.int .i64)) (bl Z0 ++ A) w' dU q.Enum.Elems ∧ Els (Rp.int .i64) (bl Z0 ++ A) w' dI q.Enum.Prefix ∧ Els (Rp.int .i64) (bl Z0 ++ A) w' d7 q.Enum.Last ∧ Els (Rp.sl (Rp.int .i64)) (bl Z0 ++ A) w' dV q.Enum.Right ∧ Els (rpRule) (bl Z0 ++ A) w' dW q.Enum.Rules ∧ Els (Rp.str) (bl Z0 ++ A) w' fx q.words ∧ Els (Rp.int .i64) (bl Z0 ++ A) w' e8 q.behind ∧ Els (Rp.int .i64) (bl Z0 ++ A) w' e9 q.single ∧ Fr (bl [.blk fm (.cells #[.int .i64 a0.Enum.Points, .bool a0.Enum.Monoid, .slice aG aF aH, .slice dy dx dz, .slice dj di dk, .slice dQ dP dR, .slice aW aP aX, .slice dB dA dC, .int .i64 a0.Enum.Done, .map (some aY), .slice eX eV eY, .slice eI eH eK, .slice bE bD bF] 156 (0, 0)), .row 31 1 aG aF aH dg, .row 31 1 dy dx dz fq, .row 3 1 dj di dk ff, .row 3 1 dQ dP dR fE, .row 31 1 aW aP aX c6, .row 185 2 dB dA dC ft, .row 9 1 eX eV eY gO, .row 3 1 eI eH eK gx, .row 3 1 bE bD bF d4, .any (mapE (fun a : List UInt8 => Value.string (gstr a)) (fun a : Int => Value.int .i64 a) aY a0.number)]) w0 (bl Z0) w' ∧ K r0 q) [.blk fm (.cells #[.int .i64 q.Enum.Points, .bool q.Enum.Monoid, .slice cF cE cG, .slice cj ci ck, .slice bX bW bY, .slice cI cH cJ, .slice cp co cq, .slice cv cr cw, .int .i64 q.Enum.Done, .map (some aY), .slice dM dK dN, .slice dn dm dp, .slice dr dq dt] 156 (0, 0)), .row 31 1 cF cE cG d6, .row 31 1 cj ci ck dU, .row 3 1 bX bW bY dI, .row 3 1 cI cH cJ d7, .row 31 1 cp co cq dV, .row 185 2 cv cr cw dW, .row 9 1 dM dK dN fx, .row 3 1 dn dm dp e8, .row 3 1 dr dq dt e9, .any (mapE (fun a : List UInt8 => Value.string (gstr a)) (fun a : Int => Value.int .i64 a) aY q.number)]) := by
 refine CallsV.of (l := [.pointer (some ⟨fm, 0, none⟩)]) Try.func133 rfl Try.ntmps133 rfl ?_
 have hB := Fr.refl (bl [.blk fm (.cells #[.int .i64 a0.Enum.Points, .bool a0.Enum.Monoid, .slice aG aF aH, .slice dy dx dz, .slice dj di dk, .slice dQ dP dR, .slice aW aP aX, .slice dB dA dC, .int .i64 a0.Enum.Done, .map (some aY), .slice eX eV eY, .slice eI eH eK, .slice bE bD bF] 156 (0, 0)), .row 31 1 aG aF aH dg, .row 31 1 dy dx dz fq, .row 3 1 dj di dk ff, .row 3 1 dQ dP dR fE, .row 31 1 aW aP aX c6, .row 185 2 dB dA dC ft, .row 9 1 eX eV eY gO, .row 3 1 eI eH eK gx, .row 3 1 bE bD bF d4, .any (mapE (fun a : List UInt8 => Value.string (gstr a)) (fun a : Int => Value.int .i64 a) aY a0.number)]) w0
 unfold J0x at H
 refine zq (zr (za rfl (zn (zq (zr ?_)))))
 refine zm rfl (zo (J01 rfl) (zo (J00 Try.underlying156 rfl ti123 rfl (by decide)) (zo (J00 Try.underlying123 rfl ti3 rfl (by decide)) (zs (oblk (i := 8) 0 hO rfl rfl Try.underlying3 rfl rfl) (za rfl ?_)))))
 refine zn (zq (zr (zm rfl (zo (J01 rfl) (zo (J00 Try.underlying156 rfl ti123 rfl (by decide)) ?_)))))
 refine zo (J00 Try.underlying123 rfl ti23 rfl (by decide)) (zs (oblk (i := 2) 0 hO rfl rfl Try.underlying23 rfl rfl) (zo (J0w Try.underlying23 rfl (ad.neq hO 1 rfl)) ?_))
 obtain ⟨h8, H⟩ := H
 obtain ⟨h9, H⟩ := H
 have zz := omake (n := (a0.Enum.Gens.length : Int)) (r := Rp.int .i64) (d := (0 : Int)) Try.underlying31 ti3 (fun _ _ => rfl) rfl hO h8 h9 (by decide)
 obtain ⟨w1, p2, vs3, m5, hE5, hs6, CP⟩ := zz
 refine zg (CP rfl rfl) ?_
 replace hO := m5.own
 refine za rfl (zn (zq (zq (zr (zm rfl ?_)))))
 refine zo (J01 rfl) (zo (J00 Try.underlying156 rfl ti123 rfl (by decide)) (zo (J00 Try.underlying123 rfl ti23 rfl (by decide)) (zs (oblk (i := 2) 1 hO rfl rfl Try.underlying23 rfl rfl) ?_)))
 replace ad := ad.ch m5.ch
 refine zo (J0w Try.underlying23 rfl (ad.neq hO 2 rfl)) (zm rfl (zn (zb ?_)))
 replace ur := ur.ch m5.ch
 replace tM := tM.ch m5.ch
 replace uN := uN.ch m5.ch
 replace ae := ae.ch m5.ch
 replace ut := ut.ch m5.ch
 replace xd := xd.ch m5.ch
 replace wv := wv.ch m5.ch
 replace ao := ao.ch m5.ch
 replace hB := hB.trans m5.fr
 refine Go1.loopW (S := Nat × List Int × List (List Int) × List Int × List Int × List Rule × List Str × List Int × (List (Str × Int))) (fun s σ w => match s with | (k1_12, d_13, d_16, d_22, d_28, d_34, d_40, d_46, m1_52) => ∃ (pe : List Value) (n21 : Nat) (p19 : Option Addr) (c20 : Nat) (lv : List Value) (n27 : Nat) (p25 : Option Addr) (c26 : Nat) (ng : List Value) (n33 : Nat) (p31 : Option Addr) (c32 : Nat) (nh : List Value) (n39 : Nat) (p37 : Option Addr) (c38 : Nat) (ni : List Value) (n45 : Nat) (p43 : Option Addr) (c44 : Nat) (nj : List Value) (n51 : Nat) (p49 : Option Addr) (c50 : Nat) (nk : List Value), agrees σ [(0, .pointer (some ⟨fm, 0, none⟩)), (3, .int .i64 a0.Enum.Done), (4, .slice p2 a0.Enum.Gens.length a0.Enum.Gens.length), (27, .slice aG aF aH), (28, .int .i64 (a0.Enum.Gens.length : Int)), (29, .int .i64 (k1_12 : Int))] ∧ (fun Z0 => Owns n0 w Z0 A ∧ Els (Rp.int .i64) (bl Z0 ++ A) w pe d_13 ∧ Els (Rp.sl (Rp.int .i64)) (bl Z0 ++ A) w dg a0.Enum.Gens ∧ Els (Rp.sl (Rp.int .i64)) (bl Z0 ++ A) w lv d_16 ∧ Els (Rp.int .i64) (bl Z0 ++ A) w ng d_22 ∧ Els (Rp.int .i64) (bl Z0 ++ A) w nh d_28 ∧ Els (Rp.sl (Rp.int .i64)) (bl Z0 ++ A) w c6 a0.Enum.Right ∧ Els (rpRule) (bl Z0 ++ A) w ni d_34 ∧ Els (Rp.str) (bl Z0 ++ A) w nj d_40 ∧ Els (Rp.int .i64) (bl Z0 ++ A) w nk d_46 ∧ Els (Rp.int .i64) (bl Z0 ++ A) w d4 a0.single ∧ Fr (bl [.blk fm (.cells #[.int .i64 a0.Enum.Points, .bool a0.Enum.Monoid, .slice aG aF aH, .slice dy dx dz, .slice dj di dk, .slice dQ dP dR, .slice aW aP aX, .slice dB dA dC, .int .i64 a0.Enum.Done, .map (some aY), .slice eX eV eY, .slice eI eH eK, .slice bE bD bF] 156 (0, 0)), .row 31 1 aG aF aH dg, .row 31 1 dy dx dz fq, .row 3 1 dj di dk ff, .row 3 1 dQ dP dR fE, .row 31 1 aW aP aX c6, .row 185 2 dB dA dC ft, .row 9 1 eX eV eY gO, .row 3 1 eI eH eK gx, .row 3 1 bE bD bF d4, .any (mapE (fun a : List UInt8 => Value.string (gstr a)) (fun a : Int => Value.int .i64 a) aY a0.number)]) w0 (bl Z0) w) [.row 3 1 p2 a0.Enum.Gens.length a0.Enum.Gens.length pe, .blk fm (.cells #[.int .i64 a0.Enum.Points, .bool a0.Enum.Monoid, .slice aG aF aH, .slice p19 n21 c20, .slice p25 n27 c26, .slice p31 n33 c32, .slice aW aP aX, .slice p37 n39 c38, .int .i64 a0.Enum.Done, .map (some aY), .slice p43 n45 c44, .slice p49 n51 c50, .slice bE bD bF] 156 (0, 0)), .row 31 1 aG aF aH dg, .row 31 1 p19 n21 c20 lv, .row 3 1 p25 n27 c26 ng, .row 3 1 p31 n33 c32 nh, .row 31 1 aW aP aX c6, .row 185 2 p37 n39 c38 ni, .row 9 1 p43 n45 c44 nj, .row 3 1 p49 n51 c50 nk, .row 3 1 bE bD bF d4, .any (mapE (fun a : List UInt8 => Value.string (gstr a)) (fun a : Int => Value.int .i64 a) aY m1_52)]) H ⟨vs3, dx, dy, dz, fq, di, dj, dk, ff, dP, dQ, dR, fE, dA, dB, dC, ft, eV, eX, eY, gO, eH, eI, eK, gx, ⟨rfl, rfl, rfl, rfl, rfl, rfl, trivial⟩, hO, hE5, ad, ur, tM, uN, ae, ut, xd, wv, ao, hB⟩ ?_
 intro X1
 refine prE fun k1_12 => prE fun d_13 => prE fun d_16 => prE fun d_22 => prE fun d_28 => prE fun d_34 => prE fun d_40 => prE fun d_46 => fun m1_52 => ?_
 intro H hX1 σ w11
 refine exE fun pe => exE fun n21 => exE fun p19 => exE fun c20 => exE fun lv => exE fun n27 => exE fun p25 => exE fun c26 => exE fun ng => exE fun n33 => exE fun p31 => exE fun c32 => exE fun nh => exE fun n39 => exE fun p37 => exE fun c38 => exE fun ni => exE fun n45 => exE fun p43 => exE fun c44 => exE fun nj => exE fun n51 => exE fun p49 => exE fun c50 => exE fun nk => andE fun hag => andE fun hO => andE fun cx => andE fun ad => andE fun dS => andE fun cY => andE fun cT => andE fun ae => andE fun cz => andE fun cd => andE fun ce => andE fun ao => fun hB => ?_
 dsimp only at H
 refine Go1.keep [(0, .pointer (some ⟨fm, 0, none⟩)), (3, .int .i64 a0.Enum.Done), (4, .slice p2 a0.Enum.Gens.length a0.Enum.Gens.length), (27, .slice aG aF aH), (28, .int .i64 (a0.Enum.Gens.length : Int)), (29, .int .i64 (k1_12 : Int))] hag ?_
 refine zq (zr ?_)
 by_cases h53 : (k1_12 : Int) < (a0.Enum.Gens.length : Int)
 ·replace H := ifp h53 H
  refine zo (fun w => opB (J08 rfl rfl w) (decide_eq_true h53)) (zn (zq (zt rfl rfl (zk (zq ?_)))))
  refine zb (zq (zr (zm rfl ?_)))
  obtain ⟨h54, H⟩ := H
  obtain ⟨h55, H⟩ := H
  refine zo (J02 Try.underlying23 ti31 rfl rfl h54 (ltn (ad.neq hO 2 rfl) h55) (ad.psome hO 2 rfl h54 h55)) ?_
  have zz := oldSl 2 hO rfl ad h54 h55
  obtain ⟨p56, c57, cL, Sf⟩ := zz
  refine zs (Sf Try.underlying31 rfl rfl) (za rfl (za rfl (zn (zq (zr ?_)))))
  refine zm rfl (zo (J01 rfl) (zo (J00 Try.underlying156 rfl ti123 rfl (by decide)) (zo (J00 Try.underlying123 rfl ti23 rfl (by decide)) (zs (oblk (i := 3) 1 hO rfl rfl Try.underlying23 rfl rfl) (zm rfl ?_)))))
  obtain ⟨h60, H⟩ := H
  obtain ⟨h61, H⟩ := H
  refine zo (J02 Try.underlying23 ti31 rfl rfl h60 (ltn (dS.neq hO 3 rfl) h61) (dS.psome hO 3 rfl h60 h61)) ?_
  have zz := oldSl 3 hO rfl dS h60 h61
  obtain ⟨p62, c63, cM, Sh⟩ := zz
  refine zs (Sh Try.underlying31 rfl rfl) (zm rfl ?_)
  refine GoR.call (J0a body158 rfl (walk_trans_Compose hO.lt cM cL H)) rfl rfl ?_
  rintro v70 w67 ⟨r66, tE, tF, rfl, Si, bM, H⟩
  have jC := Stp.same hO Si
  replace hO := jC.own
  refine za rfl (zn (zq ?_))
  refine Go1.drawS 0 [(0, .pure), (1, .pure), (2, .pure), (3, .stable), (4, .pure), (5, .loud), (6, .stable), (7, .pure), (8, .pure), (9, .pure), (10, .pure), (11, .pure)] mixed (by kernel_rfl) ?_
  intro w72 I2
  have jE := Stp.same hO I2
  replace hO := jE.own
  refine GoQ.pure rfl (J03 rfl) rfl rfl ?_
  refine GoQ.pure rfl (J01 rfl) rfl rfl ?_
  refine GoQ.pure rfl (J00 Try.underlying156 rfl ti154 rfl (by decide)) rfl rfl ?_
  refine GoQ.stable rfl (oblk (i := 9) 1 hO rfl rfl Try.underlying154 rfl rfl) rfl rfl ?_
  refine GoQ.pure rfl (J03 rfl) rfl rfl ?_
  replace bM := bM.ch jE.ch
  refine GoQ.call rfl (J0a body157 rfl (J0l hO.lt bM H)) (fun v w hr => by obtain ⟨_, _, hs, _, _⟩ := hr; assumption) rfl rfl ?_
  rintro v79 w76 ⟨r75, rfl, Gj, TV, H⟩
  have gK := Stp.same hO Gj
  replace hO := gK.own
  by_cases h81 : mhas m1_52 r75 = true
  ·replace H := ifp h81 H
   refine GoQ.stable rfl (olookT (a := r75) (MK.str Try.underlying9) 11 hO rfl Try.underlying154 rfl rfl h81) rfl rfl ?_
   refine GoQ.pure rfl (J03 rfl) rfl rfl ?_
   refine GoQ.pure rfl (J07 rfl rfl) rfl rfl ?_
   refine GoQ.pure rfl (J07 rfl rfl) rfl rfl ?_
   refine GoQ.pure rfl (J0e rfl) rfl rfl ?_
   refine GoQ.pure rfl (J0e rfl) rfl rfl ?_
   refine GoQ.nil ?_
   refine zq ?_
   refine Go1.cut [(0, .pointer (some ⟨fm, 0, none⟩)), (3, .int .i64 a0.Enum.Done), (4, .slice p2 a0.Enum.Gens.length a0.Enum.Gens.length), (5, .int .i64 (k1_12 : Int)), (7, .slice tE r66.length tF), (8, .int .i64 (mgt m1_52 r75)), (9, .bool true), (27, .slice aG aF aH), (28, .int .i64 (a0.Enum.Gens.length : Int)), (29, .int .i64 (k1_12 : Int))] ⟨rfl, rfl, rfl, rfl, rfl, rfl, rfl, rfl, rfl, rfl, trivial⟩ ?_
   intro σ _
   refine zr (zm rfl (zo (J01 rfl) (zo (J00 Try.underlying156 rfl ti30 rfl (by decide)) (zs (oblk (i := 10) 1 hO rfl rfl Try.underlying30 rfl rfl) (zm rfl ?_)))))
   obtain ⟨h82, H⟩ := H
   obtain ⟨h83, H⟩ := H
   have Z1 := (jC.ch.trans jE.ch).trans gK.ch
   replace cd := cd.ch Z1
   refine zo (J02 Try.underlying30 ti9 rfl rfl h82 (ltn (cd.neq hO 8 rfl) h83) (cd.psome hO 8 rfl h82 h83)) (zs (oldStr 8 hO rfl cd h82 h83 Try.underlying9 rfl rfl) ?_)
   have hle84 := Els.str_le cd h82 h83
   refine zm rfl ?_
   obtain ⟨h85, H⟩ := H
   refine zo (J0c rfl rfl (wrap_i64 h85)) (zo (op_conv Try.underlying3 Try.underlying21 rfl rfl) ?_)
   obtain ⟨h86, H⟩ := H
   obtain ⟨h87, H⟩ := H
   refine zo (op_convRS Try.underlying21 Try.underlying9 rfl h86 h87) ?_
   obtain ⟨h88, H⟩ := H
   refine zo (op_addS rfl rfl h88) (za rfl (zn (zq (zb (zq ?_)))))
   refine zr (zm rfl (zo (J0p rfl) (zm rfl (zp (zp ?_)))))
   refine zp (zp (zp (zp (zp (zo (J05 rfl rfl rfl) ?_)))))
   refine za rfl (zn (zf rfl rfl (zq ?_)))
   refine Go1.cut [(0, .pointer (some ⟨fm, 0, none⟩)), (3, .int .i64 a0.Enum.Done), (4, .slice p2 a0.Enum.Gens.length a0.Enum.Gens.length), (5, .int .i64 (k1_12 : Int)), (7, .slice tE r66.length tF), (8, .int .i64 (mgt m1_52 r75)), (9, .bool true), (10, .string (gstr ((ix d_40 a0.Enum.Done) ++ (chr (IntKind.i32.wrap ((97 : Int) + (k1_12 : Int))))))), (27, .slice aG aF aH), (28, .int .i64 (a0.Enum.Gens.length : Int)), (29, .int .i64 (k1_12 : Int))] ⟨rfl, rfl, rfl, rfl, rfl, rfl, rfl, rfl, rfl, rfl, rfl, trivial⟩ ?_
   intro σ _
   refine zr (zm rfl (zo (J0p rfl) (za rfl (zn (zf rfl rfl ?_)))))
   refine zq (zr (zm rfl (zo (J01 rfl) (zo (J00 Try.underlying156 rfl ti30 rfl (by decide)) (zs (oblk (i := 10) 1 hO rfl rfl Try.underlying30 rfl rfl) ?_)))))
   refine zm rfl ?_
   obtain ⟨h89, H⟩ := H
   obtain ⟨h90, H⟩ := H
   refine zo (J02 Try.underlying30 ti9 rfl rfl h89 (ltn (cd.neq hO 8 rfl) h90) (cd.psome hO 8 rfl h89 h90)) (zs (oldStr 8 hO rfl cd h89 h90 Try.underlying9 rfl rfl) ?_)
   have hle91 := Els.str_le cd h89 h90
   by_cases h92 : (ix d_40 a0.Enum.Done) = (([] : Str))
   ·replace H := ifp h92 H
    refine zo (fun w => opB (op_neqS rfl rfl w) (ndT h92)) (zm rfl (zp (zp (zp (zp ?_)))))
    refine zp (zp (zp (zp (zp (zp ?_)))))
    refine zo (J05 rfl rfl rfl) (za rfl (zn (zf rfl rfl (zk ?_))))
    refine Go1.inBlock ?_
    refine Go1.cut [(0, .pointer (some ⟨fm, 0, none⟩)), (3, .int .i64 a0.Enum.Done), (4, .slice p2 a0.Enum.Gens.length a0.Enum.Gens.length), (5, .int .i64 (k1_12 : Int)), (8, .int .i64 (mgt m1_52 r75)), (27, .slice aG aF aH), (28, .int .i64 (a0.Enum.Gens.length : Int)), (29, .int .i64 (k1_12 : Int))] ⟨rfl, rfl, rfl, rfl, rfl, rfl, rfl, rfl, trivial⟩ ?_
    intro σ _
    refine zr (zm rfl (zm rfl (zm rfl ?_)))
    obtain ⟨h93, H⟩ := H
    obtain ⟨h94, H⟩ := H
    replace cx := cx.ch Z1
    refine zo (J02 Try.underlying31 ti3 rfl rfl h93 (ltn (cx.neq hO 0 rfl) h94) (cx.psome hO 0 rfl h93 h94)) ?_
    have zz := ost (r := Rp.int .i64) rfl 0 hO rfl cx h93 h94 (v := .int .i64 (mgt m1_52 r75)) (u := (mgt m1_52 r75)) rfl rfl
    obtain ⟨w95, Sj, rk, Ke, OD⟩ := zz
    dsimp only [sS, sZ] at rk Ke
    refine zg (OD Try.underlying3 rfl ti3 (by exact rfl) (by exact rfl)) ?_
    replace hO := rk.own
    refine zn ?_
    refine Go1.inBlock ?_
    refine zr ?_
    replace ad := (ad.ch Z1).ch rk.ch
    refine zo (J0c rfl rfl (wrap_i64 (natbd h53 ad.bd))) (zm rfl (zn ?_))
    replace cd := cd.ch rk.ch
    have Z2 := Z1.trans rk.ch
    replace dS := dS.ch Z2
    replace cY := cY.ch Z2
    replace cT := cT.ch Z2
    replace ae := ae.ch Z2
    replace cz := cz.ch Z2
    replace ce := ce.ch Z2
    replace ao := ao.ch Z2
    replace hB := (((hB.trans jC.fr).trans jE.fr).trans gK.fr).trans rk.fr
    exact hX1 _ H _ _ ⟨Sj, n21, p19, c20, lv, n27, p25, c26, ng, n33, p31, c32, nh, n39, p37, c38, ni, n45, p43, c44, nj, n51, p49, c50, nk, ⟨rfl, rfl, rfl, rfl, rfl, rfl, trivial⟩, hO, Ke, ad, dS, cY, cT, ae, cz, cd, ce, ao, hB⟩
   replace H := ifn h92 H
   refine zo (fun w => opB (op_neqS rfl rfl w) (ndF h92)) (zm rfl (zm rfl (zm rfl (zo (J01 rfl) (zo (J00 Try.underlying156 rfl ti31 rfl (by decide)) ?_)))))
   refine zs (oblk (i := 11) 1 hO rfl rfl Try.underlying31 rfl rfl) (zm rfl ?_)
   obtain ⟨Gk, H⟩ := H
   obtain ⟨Gl, H⟩ := H
   replace ce := ce.ch Z1
   refine zo (J02 Try.underlying31 ti3 rfl rfl Gk (ltn (ce.neq hO 9 rfl) Gl) (ce.psome hO 9 rfl Gk Gl)) (zs (oldInt 9 hO rfl ce Gk Gl Try.underlying3 rfl rfl) (zm rfl ?_))
   refine GoR.inl (vs := [.pointer (some ⟨fm, 0, none⟩), .int .i64 (ix d_46 a0.Enum.Done), .int .i64 (k1_12 : Int)]) (caps := []) rfl rfl body160 Try.func160 rfl Try.ntmps160 rfl rfl rfl ?_
   intro RhR102 hR102
   refine zq (zr (za rfl (zn (zq ?_))))
   refine Go1.cut [(0, .pointer (some ⟨fm, 0, none⟩)), (1, .int .i64 (ix d_46 a0.Enum.Done)), (2, .int .i64 (k1_12 : Int))] ⟨rfl, rfl, rfl, trivial⟩ ?_
   intro σ _
   refine zr (zm rfl (zm rfl (zm rfl ?_)))
   refine GoR.inl (vs := [.pointer (some ⟨fm, 0, none⟩), .int .i64 (ix d_46 a0.Enum.Done), .int .i64 (k1_12 : Int)]) (caps := []) rfl rfl body159 Try.func159 rfl Try.ntmps159 rfl rfl rfl ?_
   intro RhR103 hR103
   refine zq (zr (za rfl (zn (zq (zq ?_)))))
   refine zr (zm rfl ?_)
   by_cases uC : (ix d_46 a0.Enum.Done) = (-1 : Int)
   ·replace H := ifp uC H
    refine zo (fun w => opB (J0A rfl rfl w) (decide_eq_true uC)) (zn (zt rfl rfl (zq (zr (zm rfl ?_)))))
    refine zo (J01 rfl) (zo (J00 Try.underlying156 rfl ti31 rfl (by decide)) (zs (oblk (i := 12) 1 hO rfl rfl Try.underlying31 rfl rfl) (zm rfl ?_)))
    obtain ⟨wr, H⟩ := H
    obtain ⟨zP, H⟩ := H
    replace ao := ao.ch Z1
    refine zo (J02 Try.underlying31 ti3 rfl rfl wr (ltn (ao.neq hO 10 rfl) zP) (ao.psome hO 10 rfl wr zP)) (zs (oldInt 10 hO rfl ao wr zP Try.underlying3 rfl rfl) (za rfl (zn ?_)))
    refine Go1.ret1V Try.func159 rfl (show _ = .int .i64 (ix a0.single (k1_12 : Int)) from rfl) ?_
    refine hR103 _ _ ?_
    refine za rfl (zn (zq (zr (zm rfl (zo (J01 rfl) ?_)))))
    refine zo (J00 Try.underlying156 rfl ti123 rfl (by decide)) (zo (J00 Try.underlying123 rfl ti31 rfl (by decide)) (zs (oblk (i := 4) 1 hO rfl rfl Try.underlying31 rfl rfl) (zm rfl ?_)))
    obtain ⟨nN, H⟩ := H
    obtain ⟨qG, H⟩ := H
    replace cY := cY.ch Z1
    refine zo (J02 Try.underlying31 ti3 rfl rfl nN (ltn (cY.neq hO 4 rfl) qG) (cY.psome hO 4 rfl nN qG)) (zs (oldInt 4 hO rfl cY nN qG Try.underlying3 rfl rfl) (zm rfl ?_))
    by_cases vO : (ix d_22 (ix a0.single (k1_12 : Int))) = (ix d_46 a0.Enum.Done)
    ·replace H := ifp vO H
     refine zo (fun w => opB (J0A rfl rfl w) (decide_eq_true vO)) (zm rfl (zm rfl (zo (J01 rfl) (zo (J00 Try.underlying156 rfl ti123 rfl (by decide)) (zo (J00 Try.underlying123 rfl ti31 rfl (by decide)) ?_)))))
     refine zs (oblk (i := 5) 1 hO rfl rfl Try.underlying31 rfl rfl) (zm rfl ?_)
     obtain ⟨CC, H⟩ := H
     obtain ⟨zD, H⟩ := H
     replace cT := cT.ch Z1
     refine zo (J02 Try.underlying31 ti3 rfl rfl CC (ltn (cT.neq hO 5 rfl) zD) (cT.psome hO 5 rfl CC zD)) (zs (oldInt 5 hO rfl cT CC zD Try.underlying3 rfl rfl) (zm rfl ?_))
     by_cases x4 : (ix d_28 (ix a0.single (k1_12 : Int))) = (k1_12 : Int)
     ·replace H := ifp x4 H
      refine zo (fun w => opB (J0A rfl rfl w) (decide_eq_true x4)) (zo (J06 rfl rfl rfl) (za rfl (zn ?_)))
      refine Go1.ret1V Try.func160 rfl (show _ = .bool true from rfl) ?_
      refine hR102 _ _ ?_
      refine zo (J06 rfl rfl rfl) (za rfl (zn (zt rfl rfl ?_)))
      refine Go1.cut [(0, .pointer (some ⟨fm, 0, none⟩)), (3, .int .i64 a0.Enum.Done), (4, .slice p2 a0.Enum.Gens.length a0.Enum.Gens.length), (5, .int .i64 (k1_12 : Int)), (8, .int .i64 (mgt m1_52 r75)), (10, .string (gstr ((ix d_40 a0.Enum.Done) ++ (chr (IntKind.i32.wrap ((97 : Int) + (k1_12 : Int))))))), (27, .slice aG aF aH), (28, .int .i64 (a0.Enum.Gens.length : Int)), (29, .int .i64 (k1_12 : Int))] ⟨rfl, rfl, rfl, rfl, rfl, rfl, rfl, rfl, rfl, trivial⟩ ?_
      intro σ _
      refine Go1.drawS 5 [(0, .pure), (1, .pure), (2, .pure), (3, .pure), (4, .pure), (5, .stable), (6, .pure), (7, .pure), (8, .pure), (9, .pure), (10, .stable), (11, .pure), (12, .pure), (13, .stable), (14, .pure), (15, .loud), (16, .last), (17, .pure), (18, .pure), (19, .pure), (20, .last)] mixed (by kernel_rfl) ?_
      intro Xc OE
      have iq := Stp.same hO OE
      replace hO := iq.own
      refine GoQ.pure rfl (J03 rfl) rfl rfl ?_
      refine GoQ.pure rfl (J03 rfl) rfl rfl ?_
      refine GoQ.pure rfl (J01 rfl) rfl rfl ?_
      refine GoQ.pure rfl (J00 Try.underlying156 rfl ti123 rfl (by decide)) rfl rfl ?_
      refine GoQ.pure rfl (J00 Try.underlying123 rfl ti121 rfl (by decide)) rfl rfl ?_
      refine GoQ.stable rfl (oblk (i := 7) 1 hO rfl rfl Try.underlying121 rfl rfl) rfl rfl ?_
      refine GoQ.pure rfl (J03 rfl) rfl rfl ?_
      refine GoQ.pure rfl (J03 rfl) rfl rfl ?_
      refine GoQ.pure rfl (J01 rfl) rfl rfl ?_
      refine GoQ.pure rfl (J00 Try.underlying156 rfl ti30 rfl (by decide)) rfl rfl ?_
      refine GoQ.stable rfl (oblk (i := 10) 1 hO rfl rfl Try.underlying30 rfl rfl) rfl rfl ?_
      refine GoQ.pure rfl (J03 rfl) rfl rfl ?_
      obtain ⟨A8, H⟩ := H
      obtain ⟨A4, H⟩ := H
      replace cd := cd.ch iq.ch
      refine GoQ.pure rfl (J02 Try.underlying30 ti9 rfl rfl A8 (ltn (cd.neq hO 8 rfl) A4) (cd.psome hO 8 rfl A8 A4)) rfl rfl ?_
      refine GoQ.stable rfl (oldStr 8 hO rfl cd A8 A4 Try.underlying9 rfl rfl) rfl rfl ?_
      have hle118 := Els.str_le cd A8 A4
      refine GoQ.pure rfl (J0s Try.underlying185 ti185 (pl := [(0, 1), (1, 1)]) (vs := [(0, .string (gstr ((ix d_40 a0.Enum.Done) ++ (chr (IntKind.i32.wrap ((97 : Int) + (k1_12 : Int))))))), (1, .string (gstr (ix d_40 (mgt m1_52 r75))))]) (cs := #[.string (gstr ((ix d_40 a0.Enum.Done) ++ (chr (IntKind.i32.wrap ((97 : Int) + (k1_12 : Int)))))), .string (gstr (ix d_40 (mgt m1_52 r75)))]) (by kernel_rfl) rfl (by kernel_rfl)) rfl rfl ?_
      have zz := obuildN (r := rpRule) (n := 1) (parts := [(0, .agg #[.string (gstr ((ix d_40 a0.Enum.Done) ++ (chr (IntKind.i32.wrap ((97 : Int) + (k1_12 : Int)))))), .string (gstr (ix d_40 (mgt m1_52 r75)))])]) (vs := [.string (gstr ((ix d_40 a0.Enum.Done) ++ (chr (IntKind.i32.wrap ((97 : Int) + (k1_12 : Int)))))), .string (gstr (ix d_40 (mgt m1_52 r75)))]) (xs := [(⟨((ix d_40 a0.Enum.Done) ++ (chr (IntKind.i32.wrap ((97 : Int) + (k1_12 : Int))))), ix d_40 (mgt m1_52 r75)⟩ : Rule)]) Try.underlying121 ti185 hO (by decide) (by decide) (by kernel_rfl) (Els.flat1 (⟨((ix d_40 a0.Enum.Done) ++ (chr (IntKind.i32.wrap ((97 : Int) + (k1_12 : Int))))), ix d_40 (mgt m1_52 r75)⟩ : Rule) ⟨(lenApp h88), hle118⟩) rfl
      obtain ⟨Xd, jz, fL, po, OF, Kf⟩ := zz
      refine GoQ.loud rfl (Kf rfl) OF rfl rfl ?_
      replace hO := fL.own
      have zz := freeze 0 hO rfl po
      obtain ⟨hO1, sT, wQ, OG⟩ := zz
      dsimp only [eS, eZ] at hO1 sT wQ
      replace hB := (((((hB.trans jC.fr).trans jE.fr).trans gK.fr).trans iq.fr).trans fL.fr).trans (Owns.J09 _ _ 0)
      dsimp only [eS, eZ] at hB
      replace hO := hO1; clear hO1
      obtain ⟨Sk, H⟩ := H
      have Z3 := ((Z1.trans iq.ch).trans fL.ch).trans sT
      replace cz := cz.ch Z3
      have zz := oapp Try.underlying121 ti185 rfl 7 hO rfl cz wQ OG Sk (by decide)
      obtain ⟨Xe, Gm, Gn, OH, mz, yK, CG⟩ := zz
      dsimp only [sS, sZ] at mz yK
      refine GoQ.last rfl (CG (by exact rfl) (by exact rfl)) rfl rfl ?_
      replace hO := mz.own
      refine GoQ.pure rfl (J01 rfl) rfl rfl ?_
      refine GoQ.pure rfl (J00 Try.underlying156 rfl ti123 rfl (by decide)) rfl rfl ?_
      refine GoQ.pure rfl (J00 Try.underlying123 rfl ti121 rfl (by decide)) rfl rfl ?_
      have zz := J0f (v := .slice Gm (n39 + 1) Gn) (i := 7) (cs' := #[.int .i64 a0.Enum.Points, .bool a0.Enum.Monoid, .slice aG aF aH, .slice p19 n21 c20, .slice p25 n27 c26, .slice p31 n33 c32, .slice aW aP aX, .slice Gm (n39 + 1) Gn, .int .i64 a0.Enum.Done, .map (some aY), .slice p43 n45 c44, .slice p49 n51 c50, .slice bE bD bF]) 1 hO rfl rfl rfl rfl
      obtain ⟨Xf, lT, Kg⟩ := zz
      dsimp only [sS, sZ] at lT
      refine GoQ.last rfl (Kg Try.underlying121 rfl ti121 (by exact rfl) (by exact rfl)) rfl rfl ?_
      replace hO := lT.own
      refine GoQ.nil ?_
      refine Go1.inBlock ?_
      refine Go1.cut [(0, .pointer (some ⟨fm, 0, none⟩)), (3, .int .i64 a0.Enum.Done), (4, .slice p2 a0.Enum.Gens.length a0.Enum.Gens.length), (5, .int .i64 (k1_12 : Int)), (8, .int .i64 (mgt m1_52 r75)), (27, .slice aG aF aH), (28, .int .i64 (a0.Enum.Gens.length : Int)), (29, .int .i64 (k1_12 : Int))] ⟨rfl, rfl, rfl, rfl, rfl, rfl, rfl, rfl, trivial⟩ ?_
      intro σ _
      refine zr (zm rfl (zm rfl (zm rfl ?_)))
      obtain ⟨xz, H⟩ := H
      obtain ⟨Gp, H⟩ := H
      replace cx := ((cx.ch Z3).ch mz.ch).ch lT.ch
      refine zo (J02 Try.underlying31 ti3 rfl rfl xz (ltn (cx.neq hO 0 rfl) Gp) (cx.psome hO 0 rfl xz Gp)) ?_
      have zz := ost (r := Rp.int .i64) rfl 0 hO rfl cx xz Gp (v := .int .i64 (mgt m1_52 r75)) (u := (mgt m1_52 r75)) rfl rfl
      obtain ⟨Sl, OI, mA, H4, Kh⟩ := zz
      dsimp only [sS, sZ] at mA H4
      refine zg (Kh Try.underlying3 rfl ti3 (by exact rfl) (by exact rfl)) ?_
      replace hO := mA.own
      refine zn ?_
      refine Go1.inBlock ?_
      refine zr ?_
      have Z4 := ((Z3.trans mz.ch).trans lT.ch).trans mA.ch
      replace ad := ad.ch Z4
      refine zo (J0c rfl rfl (wrap_i64 (natbd h53 ad.bd))) (zm rfl (zn ?_))
      replace yK := (yK.ch lT.ch).ch mA.ch
      replace hB := ((hB.trans mz.fr).trans lT.fr).trans mA.fr
      have Z5 := (((fL.ch.trans sT).trans mz.ch).trans lT.ch).trans mA.ch
      replace cd := cd.ch Z5
      have Z6 := ((((iq.ch.trans fL.ch).trans sT).trans mz.ch).trans lT.ch).trans mA.ch
      replace cY := cY.ch Z6
      replace cT := cT.ch Z6
      replace ce := ce.ch Z6
      replace ao := ao.ch Z6
      replace dS := dS.ch Z4
      replace ae := ae.ch Z4
      exact hX1 _ H _ _ ⟨OI, n21, p19, c20, lv, n27, p25, c26, ng, n33, p31, c32, nh, n39 + 1, Gm, Gn, OH, n45, p43, c44, nj, n51, p49, c50, nk, ⟨rfl, rfl, rfl, rfl, rfl, rfl, trivial⟩, hO, H4, ad, dS, cY, cT, ae, yK, cd, ce, ao, hB⟩
     replace H := ifn x4 H
     refine zo (fun w => opB (J0A rfl rfl w) (decide_eq_false x4)) (zo (J06 rfl rfl rfl) (za rfl (zn ?_)))
     refine Go1.ret1V Try.func160 rfl (show _ = .bool false from rfl) ?_
     refine hR102 _ _ ?_
     refine zo (J06 rfl rfl rfl) (za rfl (zn (zf rfl rfl (zk ?_))))
     refine Go1.inBlock ?_
     refine zr (zm rfl (zm rfl (zm rfl ?_)))
     obtain ⟨Gq, H⟩ := H
     obtain ⟨Gr, H⟩ := H
     replace cx := cx.ch Z1
     refine zo (J02 Try.underlying31 ti3 rfl rfl Gq (ltn (cx.neq hO 0 rfl) Gr) (cx.psome hO 0 rfl Gq Gr)) ?_
     have zz := ost (r := Rp.int .i64) rfl 0 hO rfl cx Gq Gr (v := .int .i64 (mgt m1_52 r75)) (u := (mgt m1_52 r75)) rfl rfl
     obtain ⟨Rl, OJ, nm, H5, Ck⟩ := zz
     dsimp only [sS, sZ] at nm H5
     refine zg (Ck Try.underlying3 rfl ti3 (by exact rfl) (by exact rfl)) ?_
     replace hO := nm.own
     refine zn ?_
     refine Go1.inBlock ?_
     refine zr ?_
     replace ad := (ad.ch Z1).ch nm.ch
     refine zo (J0c rfl rfl (wrap_i64 (natbd h53 ad.bd))) (zm rfl (zn ?_))
     replace cY := cY.ch nm.ch
     replace cT := cT.ch nm.ch
     replace cd := cd.ch nm.ch
     replace ce := ce.ch nm.ch
     replace ao := ao.ch nm.ch
     have Z7 := Z1.trans nm.ch
     replace dS := dS.ch Z7
     replace ae := ae.ch Z7
     replace cz := cz.ch Z7
     replace hB := (((hB.trans jC.fr).trans jE.fr).trans gK.fr).trans nm.fr
     exact hX1 _ H _ _ ⟨OJ, n21, p19, c20, lv, n27, p25, c26, ng, n33, p31, c32, nh, n39, p37, c38, ni, n45, p43, c44, nj, n51, p49, c50, nk, ⟨rfl, rfl, rfl, rfl, rfl, rfl, trivial⟩, hO, H5, ad, dS, cY, cT, ae, cz, cd, ce, ao, hB⟩
    replace H := ifn vO H
    refine zo (fun w => opB (J0A rfl rfl w) (decide_eq_false vO)) (zm rfl (zp (zp (zp (zp ?_)))))
    refine zp (zp (zp (zp (zp (zp ?_)))))
    refine zo (J05 rfl rfl rfl) (za rfl (zn ?_))
    refine Go1.ret1V Try.func160 rfl (show _ = .bool false from rfl) ?_
    refine hR102 _ _ ?_
    refine zo (J06 rfl rfl rfl) (za rfl (zn (zf rfl rfl (zk ?_))))
    refine Go1.inBlock ?_
    refine Go1.cut [(0, .pointer (some ⟨fm, 0, none⟩)), (3, .int .i64 a0.Enum.Done), (4, .slice p2 a0.Enum.Gens.length a0.Enum.Gens.length), (5, .int .i64 (k1_12 : Int)), (8, .int .i64 (mgt m1_52 r75)), (27, .slice aG aF aH), (28, .int .i64 (a0.Enum.Gens.length : Int)), (29, .int .i64 (k1_12 : Int))] ⟨rfl, rfl, rfl, rfl, rfl, rfl, rfl, rfl, trivial⟩ ?_
    intro σ _
    refine zr (zm rfl (zm rfl (zm rfl ?_)))
    obtain ⟨xK, H⟩ := H
    obtain ⟨zG, H⟩ := H
    replace cx := cx.ch Z1
    refine zo (J02 Try.underlying31 ti3 rfl rfl xK (ltn (cx.neq hO 0 rfl) zG) (cx.psome hO 0 rfl xK zG)) ?_
    have zz := ost (r := Rp.int .i64) rfl 0 hO rfl cx xK zG (v := .int .i64 (mgt m1_52 r75)) (u := (mgt m1_52 r75)) rfl rfl
    obtain ⟨Xg, OK, np, H6, Ki⟩ := zz
    dsimp only [sS, sZ] at np H6
    refine zg (Ki Try.underlying3 rfl ti3 (by exact rfl) (by exact rfl)) ?_
    replace hO := np.own
    refine zn ?_
    refine Go1.inBlock ?_
    refine zr ?_
    replace ad := (ad.ch Z1).ch np.ch
    refine zo (J0c rfl rfl (wrap_i64 (natbd h53 ad.bd))) (zm rfl (zn ?_))
    replace cY := cY.ch np.ch
    replace cd := cd.ch np.ch
    replace ce := ce.ch np.ch
    replace ao := ao.ch np.ch
    have Z8 := Z1.trans np.ch
    replace dS := dS.ch Z8
    replace cT := cT.ch Z8
    replace ae := ae.ch Z8
    replace cz := cz.ch Z8
    replace hB := (((hB.trans jC.fr).trans jE.fr).trans gK.fr).trans np.fr
    exact hX1 _ H _ _ ⟨OK, n21, p19, c20, lv, n27, p25, c26, ng, n33, p31, c32, nh, n39, p37, c38, ni, n45, p43, c44, nj, n51, p49, c50, nk, ⟨rfl, rfl, rfl, rfl, rfl, rfl, trivial⟩, hO, H6, ad, dS, cY, cT, ae, cz, cd, ce, ao, hB⟩
   replace H := ifn uC H
   refine zo (fun w => opB (J0A rfl rfl w) (decide_eq_false uC)) (zn (zf rfl rfl (zk (zq (zr ?_)))))
   refine zm rfl (zo (J01 rfl) (zo (J00 Try.underlying156 rfl ti123 rfl (by decide)) (zo (J00 Try.underlying123 rfl ti23 rfl (by decide)) (zs (oblk (i := 6) 1 hO rfl rfl Try.underlying23 rfl rfl) (zm rfl ?_)))))
   obtain ⟨CR, H⟩ := H
   obtain ⟨CT, H⟩ := H
   replace ae := ae.ch Z1
   refine zo (J02 Try.underlying23 ti31 rfl rfl CR (ltn (ae.neq hO 6 rfl) CT) (ae.psome hO 6 rfl CR CT)) ?_
   have zz := oldSl 6 hO rfl ae CR CT
   obtain ⟨Xh, Xi, nI, OL⟩ := zz
   refine zs (OL Try.underlying31 rfl rfl) (zm rfl ?_)
   obtain ⟨Gs, H⟩ := H
   obtain ⟨Gt, H⟩ := H
   refine zo (J02 Try.underlying31 ti3 rfl rfl Gs Gt (nI.some_ Gs Gt)) (zs (ldInt nI Gs Gt Try.underlying3 rfl rfl) (za rfl (zn ?_)))
   refine Go1.ret1V Try.func159 rfl (show _ = .int .i64 (ix (ix a0.Enum.Right (ix d_46 a0.Enum.Done)) (k1_12 : Int)) from rfl) ?_
   refine hR103 _ _ ?_
   refine za rfl (zn (zq ?_))
   refine Go1.cut [(0, .pointer (some ⟨fm, 0, none⟩)), (1, .int .i64 (ix d_46 a0.Enum.Done)), (2, .int .i64 (k1_12 : Int)), (7, .int .i64 (ix (ix a0.Enum.Right (ix d_46 a0.Enum.Done)) (k1_12 : Int)))] ⟨rfl, rfl, rfl, rfl, trivial⟩ ?_
   intro σ _
   refine zr (zm rfl (zo (J01 rfl) (zo (J00 Try.underlying156 rfl ti123 rfl (by decide)) (zo (J00 Try.underlying123 rfl ti31 rfl (by decide)) (zs (oblk (i := 4) 1 hO rfl rfl Try.underlying31 rfl rfl) ?_)))))
   refine zm rfl ?_
   obtain ⟨Gu, H⟩ := H
   obtain ⟨C7, H⟩ := H
   replace cY := cY.ch Z1
   refine zo (J02 Try.underlying31 ti3 rfl rfl Gu (ltn (cY.neq hO 4 rfl) C7) (cY.psome hO 4 rfl Gu C7)) (zs (oldInt 4 hO rfl cY Gu C7 Try.underlying3 rfl rfl) (zm rfl ?_))
   by_cases EJ : (ix d_22 (ix (ix a0.Enum.Right (ix d_46 a0.Enum.Done)) (k1_12 : Int))) = (ix d_46 a0.Enum.Done)
   ·replace H := ifp EJ H
    refine zo (fun w => opB (J0A rfl rfl w) (decide_eq_true EJ)) (zm rfl (zm rfl (zo (J01 rfl) (zo (J00 Try.underlying156 rfl ti123 rfl (by decide)) (zo (J00 Try.underlying123 rfl ti31 rfl (by decide)) ?_)))))
    refine zs (oblk (i := 5) 1 hO rfl rfl Try.underlying31 rfl rfl) (zm rfl ?_)
    obtain ⟨x9, H⟩ := H
    obtain ⟨Gv, H⟩ := H
    replace cT := cT.ch Z1
    refine zo (J02 Try.underlying31 ti3 rfl rfl x9 (ltn (cT.neq hO 5 rfl) Gv) (cT.psome hO 5 rfl x9 Gv)) (zs (oldInt 5 hO rfl cT x9 Gv Try.underlying3 rfl rfl) (zm rfl ?_))
    by_cases Bf : (ix d_28 (ix (ix a0.Enum.Right (ix d_46 a0.Enum.Done)) (k1_12 : Int))) = (k1_12 : Int)
    ·replace H := ifp Bf H
     refine zo (fun w => opB (J0A rfl rfl w) (decide_eq_true Bf)) (zo (J06 rfl rfl rfl) (za rfl (zn ?_)))
     refine Go1.ret1V Try.func160 rfl (show _ = .bool true from rfl) ?_
     refine hR102 _ _ ?_
     refine zo (J06 rfl rfl rfl) (za rfl (zn (zt rfl rfl ?_)))
     refine Go1.cut [(0, .pointer (some ⟨fm, 0, none⟩)), (3, .int .i64 a0.Enum.Done), (4, .slice p2 a0.Enum.Gens.length a0.Enum.Gens.length), (5, .int .i64 (k1_12 : Int)), (8, .int .i64 (mgt m1_52 r75)), (10, .string (gstr ((ix d_40 a0.Enum.Done) ++ (chr (IntKind.i32.wrap ((97 : Int) + (k1_12 : Int))))))), (27, .slice aG aF aH), (28, .int .i64 (a0.Enum.Gens.length : Int)), (29, .int .i64 (k1_12 : Int))] ⟨rfl, rfl, rfl, rfl, rfl, rfl, rfl, rfl, rfl, trivial⟩ ?_
     intro σ _
     refine Go1.drawS 5 [(0, .pure), (1, .pure), (2, .pure), (3, .pure), (4, .pure), (5, .stable), (6, .pure), (7, .pure), (8, .pure), (9, .pure), (10, .stable), (11, .pure), (12, .pure), (13, .stable), (14, .pure), (15, .loud), (16, .last), (17, .pure), (18, .pure), (19, .pure), (20, .last)] mixed (by kernel_rfl) ?_
     intro Kj OM
     have fQ := Stp.same hO OM
     replace hO := fQ.own
     refine GoQ.pure rfl (J03 rfl) rfl rfl ?_
     refine GoQ.pure rfl (J03 rfl) rfl rfl ?_
     refine GoQ.pure rfl (J01 rfl) rfl rfl ?_
     refine GoQ.pure rfl (J00 Try.underlying156 rfl ti123 rfl (by decide)) rfl rfl ?_
     refine GoQ.pure rfl (J00 Try.underlying123 rfl ti121 rfl (by decide)) rfl rfl ?_
     refine GoQ.stable rfl (oblk (i := 7) 1 hO rfl rfl Try.underlying121 rfl rfl) rfl rfl ?_
     refine GoQ.pure rfl (J03 rfl) rfl rfl ?_
     refine GoQ.pure rfl (J03 rfl) rfl rfl ?_
     refine GoQ.pure rfl (J01 rfl) rfl rfl ?_
     refine GoQ.pure rfl (J00 Try.underlying156 rfl ti30 rfl (by decide)) rfl rfl ?_
     refine GoQ.stable rfl (oblk (i := 10) 1 hO rfl rfl Try.underlying30 rfl rfl) rfl rfl ?_
     refine GoQ.pure rfl (J03 rfl) rfl rfl ?_
     obtain ⟨EK, H⟩ := H
     obtain ⟨EL, H⟩ := H
     replace cd := cd.ch fQ.ch
     refine GoQ.pure rfl (J02 Try.underlying30 ti9 rfl rfl EK (ltn (cd.neq hO 8 rfl) EL) (cd.psome hO 8 rfl EK EL)) rfl rfl ?_
     refine GoQ.stable rfl (oldStr 8 hO rfl cd EK EL Try.underlying9 rfl rfl) rfl rfl ?_
     have hle181 := Els.str_le cd EK EL
     refine GoQ.pure rfl (J0s Try.underlying185 ti185 (pl := [(0, 1), (1, 1)]) (vs := [(0, .string (gstr ((ix d_40 a0.Enum.Done) ++ (chr (IntKind.i32.wrap ((97 : Int) + (k1_12 : Int))))))), (1, .string (gstr (ix d_40 (mgt m1_52 r75))))]) (cs := #[.string (gstr ((ix d_40 a0.Enum.Done) ++ (chr (IntKind.i32.wrap ((97 : Int) + (k1_12 : Int)))))), .string (gstr (ix d_40 (mgt m1_52 r75)))]) (by kernel_rfl) rfl (by kernel_rfl)) rfl rfl ?_
     have zz := obuildN (r := rpRule) (n := 1) (parts := [(0, .agg #[.string (gstr ((ix d_40 a0.Enum.Done) ++ (chr (IntKind.i32.wrap ((97 : Int) + (k1_12 : Int)))))), .string (gstr (ix d_40 (mgt m1_52 r75)))])]) (vs := [.string (gstr ((ix d_40 a0.Enum.Done) ++ (chr (IntKind.i32.wrap ((97 : Int) + (k1_12 : Int)))))), .string (gstr (ix d_40 (mgt m1_52 r75)))]) (xs := [(⟨((ix d_40 a0.Enum.Done) ++ (chr (IntKind.i32.wrap ((97 : Int) + (k1_12 : Int))))), ix d_40 (mgt m1_52 r75)⟩ : Rule)]) Try.underlying121 ti185 hO (by decide) (by decide) (by kernel_rfl) (Els.flat1 (⟨((ix d_40 a0.Enum.Done) ++ (chr (IntKind.i32.wrap ((97 : Int) + (k1_12 : Int))))), ix d_40 (mgt m1_52 r75)⟩ : Rule) ⟨(lenApp h88), hle181⟩) rfl
     obtain ⟨Xj, Xk, mB, ON, OO, Kk⟩ := zz
     refine GoQ.loud rfl (Kk rfl) OO rfl rfl ?_
     replace hO := mB.own
     have zz := freeze 0 hO rfl ON
     obtain ⟨hO1, ro, wR, OP⟩ := zz
     dsimp only [eS, eZ] at hO1 ro wR
     replace hB := (((((hB.trans jC.fr).trans jE.fr).trans gK.fr).trans fQ.fr).trans mB.fr).trans (Owns.J09 _ _ 0)
     dsimp only [eS, eZ] at hB
     replace hO := hO1; clear hO1
     obtain ⟨CK, H⟩ := H
     have Z9 := ((Z1.trans fQ.ch).trans mB.ch).trans ro
     replace cz := cz.ch Z9
     have zz := oapp Try.underlying121 ti185 rfl 7 hO rfl cz wR OP CK (by decide)
     obtain ⟨Xl, Gw, Gx, Eg, iH, uH, CM⟩ := zz
     dsimp only [sS, sZ] at iH uH
     refine GoQ.last rfl (CM (by exact rfl) (by exact rfl)) rfl rfl ?_
     replace hO := iH.own
     refine GoQ.pure rfl (J01 rfl) rfl rfl ?_
     refine GoQ.pure rfl (J00 Try.underlying156 rfl ti123 rfl (by decide)) rfl rfl ?_
     refine GoQ.pure rfl (J00 Try.underlying123 rfl ti121 rfl (by decide)) rfl rfl ?_
     have zz := J0f (v := .slice Gw (n39 + 1) Gx) (i := 7) (cs' := #[.int .i64 a0.Enum.Points, .bool a0.Enum.Monoid, .slice aG aF aH, .slice p19 n21 c20, .slice p25 n27 c26, .slice p31 n33 c32, .slice aW aP aX, .slice Gw (n39 + 1) Gx, .int .i64 a0.Enum.Done, .map (some aY), .slice p43 n45 c44, .slice p49 n51 c50, .slice bE bD bF]) 1 hO rfl rfl rfl rfl
     obtain ⟨Xm, lh, Kl⟩ := zz
     dsimp only [sS, sZ] at lh
     refine GoQ.last rfl (Kl Try.underlying121 rfl ti121 (by exact rfl) (by exact rfl)) rfl rfl ?_
     replace hO := lh.own
     refine GoQ.nil ?_
     refine Go1.inBlock ?_
     refine Go1.cut [(0, .pointer (some ⟨fm, 0, none⟩)), (3, .int .i64 a0.Enum.Done), (4, .slice p2 a0.Enum.Gens.length a0.Enum.Gens.length), (5, .int .i64 (k1_12 : Int)), (8, .int .i64 (mgt m1_52 r75)), (27, .slice aG aF aH), (28, .int .i64 (a0.Enum.Gens.length : Int)), (29, .int .i64 (k1_12 : Int))] ⟨rfl, rfl, rfl, rfl, rfl, rfl, rfl, rfl, trivial⟩ ?_
     intro σ _
     refine zr (zm rfl (zm rfl (zm rfl ?_)))
     obtain ⟨zE, H⟩ := H
     obtain ⟨xA, H⟩ := H
     replace cx := ((cx.ch Z9).ch iH.ch).ch lh.ch
     refine zo (J02 Try.underlying31 ti3 rfl rfl zE (ltn (cx.neq hO 0 rfl) xA) (cx.psome hO 0 rfl zE xA)) ?_
     have zz := ost (r := Rp.int .i64) rfl 0 hO rfl cx zE xA (v := .int .i64 (mgt m1_52 r75)) (u := (mgt m1_52 r75)) rfl rfl
     obtain ⟨Sm, OQ, iW, H7, C8⟩ := zz
     dsimp only [sS, sZ] at iW H7
     refine zg (C8 Try.underlying3 rfl ti3 (by exact rfl) (by exact rfl)) ?_
     replace hO := iW.own
     refine zn ?_
     refine Go1.inBlock ?_
     refine zr ?_
     have Z10 := ((Z9.trans iH.ch).trans lh.ch).trans iW.ch
     replace ad := ad.ch Z10
     refine zo (J0c rfl rfl (wrap_i64 (natbd h53 ad.bd))) (zm rfl (zn ?_))
     replace uH := (uH.ch lh.ch).ch iW.ch
     replace hB := ((hB.trans iH.fr).trans lh.fr).trans iW.fr
     have Z11 := (((mB.ch.trans ro).trans iH.ch).trans lh.ch).trans iW.ch
     replace cd := cd.ch Z11
     have Z12 := ((((fQ.ch.trans mB.ch).trans ro).trans iH.ch).trans lh.ch).trans iW.ch
     replace cY := cY.ch Z12
     replace cT := cT.ch Z12
     replace ae := ae.ch Z12
     replace ce := ce.ch Z12
     replace dS := dS.ch Z10
     replace ao := ao.ch Z10
     exact hX1 _ H _ _ ⟨OQ, n21, p19, c20, lv, n27, p25, c26, ng, n33, p31, c32, nh, n39 + 1, Gw, Gx, Eg, n45, p43, c44, nj, n51, p49, c50, nk, ⟨rfl, rfl, rfl, rfl, rfl, rfl, trivial⟩, hO, H7, ad, dS, cY, cT, ae, uH, cd, ce, ao, hB⟩
    replace H := ifn Bf H
    refine zo (fun w => opB (J0A rfl rfl w) (decide_eq_false Bf)) (zo (J06 rfl rfl rfl) (za rfl (zn ?_)))
    refine Go1.ret1V Try.func160 rfl (show _ = .bool false from rfl) ?_
    refine hR102 _ _ ?_
    refine zo (J06 rfl rfl rfl) (za rfl (zn (zf rfl rfl (zk ?_))))
    refine Go1.inBlock ?_
    refine zr (zm rfl (zm rfl (zm rfl ?_)))
    obtain ⟨Gy, H⟩ := H
    obtain ⟨CU, H⟩ := H
    replace cx := cx.ch Z1
    refine zo (J02 Try.underlying31 ti3 rfl rfl Gy (ltn (cx.neq hO 0 rfl) CU) (cx.psome hO 0 rfl Gy CU)) ?_
    have zz := ost (r := Rp.int .i64) rfl 0 hO rfl cx Gy CU (v := .int .i64 (mgt m1_52 r75)) (u := (mgt m1_52 r75)) rfl rfl
    obtain ⟨RD, OR, mC, H8, Km⟩ := zz
    dsimp only [sS, sZ] at mC H8
    refine zg (Km Try.underlying3 rfl ti3 (by exact rfl) (by exact rfl)) ?_
    replace hO := mC.own
    refine zn ?_
    refine Go1.inBlock ?_
    refine zr ?_
    replace ad := (ad.ch Z1).ch mC.ch
    refine zo (J0c rfl rfl (wrap_i64 (natbd h53 ad.bd))) (zm rfl (zn ?_))
    replace cY := cY.ch mC.ch
    replace cT := cT.ch mC.ch
    replace ae := ae.ch mC.ch
    replace cd := cd.ch mC.ch
    replace ce := ce.ch mC.ch
    have Z13 := Z1.trans mC.ch
    replace dS := dS.ch Z13
    replace cz := cz.ch Z13
    replace ao := ao.ch Z13
    replace hB := (((hB.trans jC.fr).trans jE.fr).trans gK.fr).trans mC.fr
    exact hX1 _ H _ _ ⟨OR, n21, p19, c20, lv, n27, p25, c26, ng, n33, p31, c32, nh, n39, p37, c38, ni, n45, p43, c44, nj, n51, p49, c50, nk, ⟨rfl, rfl, rfl, rfl, rfl, rfl, trivial⟩, hO, H8, ad, dS, cY, cT, ae, cz, cd, ce, ao, hB⟩
   replace H := ifn EJ H
   refine zo (fun w => opB (J0A rfl rfl w) (decide_eq_false EJ)) (zm rfl (zp (zp (zp (zp ?_)))))
   refine zp (zp (zp (zp (zp (zp ?_)))))
   refine zo (J05 rfl rfl rfl) (za rfl (zn ?_))
   refine Go1.ret1V Try.func160 rfl (show _ = .bool false from rfl) ?_
   refine hR102 _ _ ?_
   refine zo (J06 rfl rfl rfl) (za rfl (zn (zf rfl rfl (zk ?_))))
   refine Go1.inBlock ?_
   refine Go1.cut [(0, .pointer (some ⟨fm, 0, none⟩)), (3, .int .i64 a0.Enum.Done), (4, .slice p2 a0.Enum.Gens.length a0.Enum.Gens.length), (5, .int .i64 (k1_12 : Int)), (8, .int .i64 (mgt m1_52 r75)), (27, .slice aG aF aH), (28, .int .i64 (a0.Enum.Gens.length : Int)), (29, .int .i64 (k1_12 : Int))] ⟨rfl, rfl, rfl, rfl, rfl, rfl, rfl, rfl, trivial⟩ ?_
   intro σ _
   refine zr (zm rfl (zm rfl (zm rfl ?_)))
   obtain ⟨Gz, H⟩ := H
   obtain ⟨GA, H⟩ := H
   replace cx := cx.ch Z1
   refine zo (J02 Try.underlying31 ti3 rfl rfl Gz (ltn (cx.neq hO 0 rfl) GA) (cx.psome hO 0 rfl Gz GA)) ?_
   have zz := ost (r := Rp.int .i64) rfl 0 hO rfl cx Gz GA (v := .int .i64 (mgt m1_52 r75)) (u := (mgt m1_52 r75)) rfl rfl
   obtain ⟨Xn, OS, gv, H9, Kn⟩ := zz
   dsimp only [sS, sZ] at gv H9
   refine zg (Kn Try.underlying3 rfl ti3 (by exact rfl) (by exact rfl)) ?_
   replace hO := gv.own
   refine zn ?_
   refine Go1.inBlock ?_
   refine zr ?_
   replace ad := (ad.ch Z1).ch gv.ch
   refine zo (J0c rfl rfl (wrap_i64 (natbd h53 ad.bd))) (zm rfl (zn ?_))
   replace cY := cY.ch gv.ch
   replace ae := ae.ch gv.ch
   replace cd := cd.ch gv.ch
   replace ce := ce.ch gv.ch
   have Z14 := Z1.trans gv.ch
   replace dS := dS.ch Z14
   replace cT := cT.ch Z14
   replace cz := cz.ch Z14
   replace ao := ao.ch Z14
   replace hB := (((hB.trans jC.fr).trans jE.fr).trans gK.fr).trans gv.fr
   exact hX1 _ H _ _ ⟨OS, n21, p19, c20, lv, n27, p25, c26, ng, n33, p31, c32, nh, n39, p37, c38, ni, n45, p43, c44, nj, n51, p49, c50, nk, ⟨rfl, rfl, rfl, rfl, rfl, rfl, trivial⟩, hO, H9, ad, dS, cY, cT, ae, cz, cd, ce, ao, hB⟩
  replace H := ifn h81 H
  refine GoQ.stable rfl (olookF (a := r75) (MK.str Try.underlying9) 11 hO rfl Try.underlying154 ti3 rfl rfl h81) rfl rfl ?_
  refine GoQ.pure rfl (J03 rfl) rfl rfl ?_
  refine GoQ.pure rfl (J07 rfl rfl) rfl rfl ?_
  refine GoQ.pure rfl (J07 rfl rfl) rfl rfl ?_
  refine GoQ.pure rfl (J0e rfl) rfl rfl ?_
  refine GoQ.pure rfl (J0e rfl) rfl rfl ?_
  refine GoQ.nil ?_
  refine zq (zr (zm rfl (zo (J01 rfl) (zo (J00 Try.underlying156 rfl ti30 rfl (by decide)) (zs (oblk (i := 10) 1 hO rfl rfl Try.underlying30 rfl rfl) ?_)))))
  refine zm rfl ?_
  obtain ⟨A5, H⟩ := H
  obtain ⟨xW, H⟩ := H
  have Z15 := (jC.ch.trans jE.ch).trans gK.ch
  replace cd := cd.ch Z15
  refine zo (J02 Try.underlying30 ti9 rfl rfl A5 (ltn (cd.neq hO 8 rfl) xW) (cd.psome hO 8 rfl A5 xW)) (zs (oldStr 8 hO rfl cd A5 xW Try.underlying9 rfl rfl) ?_)
  have hle227 := Els.str_le cd A5 xW
  refine zm rfl ?_
  obtain ⟨Sn, H⟩ := H
  refine zo (J0c rfl rfl (wrap_i64 Sn)) (zo (op_conv Try.underlying3 Try.underlying21 rfl rfl) ?_)
  obtain ⟨So, H⟩ := H
  obtain ⟨Sp, H⟩ := H
  refine zo (op_convRS Try.underlying21 Try.underlying9 rfl So Sp) ?_
  obtain ⟨xM, H⟩ := H
  refine zo (op_addS rfl rfl xM) (za rfl (zn (zq (zb (zq ?_)))))
  refine Go1.cut [(0, .pointer (some ⟨fm, 0, none⟩)), (3, .int .i64 a0.Enum.Done), (4, .slice p2 a0.Enum.Gens.length a0.Enum.Gens.length), (5, .int .i64 (k1_12 : Int)), (7, .slice tE r66.length tF), (8, .int .i64 0), (9, .bool false), (10, .string (gstr ((ix d_40 a0.Enum.Done) ++ (chr (IntKind.i32.wrap ((97 : Int) + (k1_12 : Int))))))), (27, .slice aG aF aH), (28, .int .i64 (a0.Enum.Gens.length : Int)), (29, .int .i64 (k1_12 : Int))] ⟨rfl, rfl, rfl, rfl, rfl, rfl, rfl, rfl, rfl, rfl, rfl, trivial⟩ ?_
  intro σ _
  refine zr (zm rfl (zo (J0p rfl) (zm rfl (zm rfl (zo (J01 rfl) ?_)))))
  refine zo (J00 Try.underlying156 rfl ti123 rfl (by decide)) (zo (J00 Try.underlying123 rfl ti23 rfl (by decide)) (zs (oblk (i := 3) 1 hO rfl rfl Try.underlying23 rfl rfl) ?_))
  replace dS := dS.ch Z15
  refine zo (J0w Try.underlying23 rfl (dS.neq hO 3 rfl)) ?_
  by_cases xN : (d_16.length : Int) = (2000 : Int)
  ·replace H := ifp xN H
   refine zo (fun w => opB (J0A rfl rfl w) (decide_eq_true xN)) (zo (J06 rfl rfl rfl) (za rfl (zn (zt rfl rfl (zq ?_)))))
   refine zr (za rfl (zn ?_))
   replace hO := hO.drop 0
   replace dS := dS.ch (Owns.J04 _ _ 0)
   replace cd := cd.ch (Owns.J04 _ _ 0)
   replace bM := (bM.ch gK.ch).ch (Owns.J04 _ _ 0)
   have Z16 := Z15.trans (Owns.J04 _ _ 0)
   replace ad := ad.ch Z16
   replace cY := cY.ch Z16
   replace cT := cT.ch Z16
   replace ae := ae.ch Z16
   replace cz := cz.ch Z16
   replace ce := ce.ch Z16
   replace ao := ao.ch Z16
   replace cL := cL.ch Z16
   replace cM := cM.ch Z16
   replace hB := (((hB.trans jC.fr).trans jE.fr).trans gK.fr).trans (Owns.J09 _ _ 0)
   dsimp only [eS, eZ] at hB hO cL cM bM ad dS cY cT ae cz cd ce ao
   refine Go1.ret1 Try.func133 rfl ?_
   exact ⟨((3 : Int)), (⟨(⟨a0.Enum.Points, a0.Enum.Monoid, a0.Enum.Gens, d_16, d_22, d_28, a0.Enum.Right, d_34, a0.Enum.Done⟩ : Enum), m1_52, d_40, d_46, a0.single⟩ : run), aF, aG, aH, dg, n21, p19, c20, lv, n27, p25, c26, ng, n33, p31, c32, nh, aP, aW, aX, c6, n39, p37, c38, ni, n45, p43, c44, nj, n51, p49, c50, nk, bD, bE, bF, d4, rfl, hO, ad, dS, cY, cT, ae, cz, cd, ce, ao, hB, H⟩
  replace H := ifn xN H
  refine zo (fun w => opB (J0A rfl rfl w) (decide_eq_false xN)) (zo (J06 rfl rfl rfl) (za rfl (zn (zf rfl rfl (zq ?_)))))
  refine zr (zm rfl (zo (J0p rfl) (za rfl (zn (zt rfl rfl ?_)))))
  refine zr (zm rfl (zm rfl (zm rfl (zm rfl (zm rfl ?_)))))
  refine zm rfl (zm rfl (zo (J01 rfl) (zo (J00 Try.underlying156 rfl ti31 rfl (by decide)) (zs (oblk (i := 11) 1 hO rfl rfl Try.underlying31 rfl rfl) (zm rfl ?_)))))
  obtain ⟨GB, H⟩ := H
  obtain ⟨GC, H⟩ := H
  replace ce := ce.ch Z15
  refine zo (J02 Try.underlying31 ti3 rfl rfl GB (ltn (ce.neq hO 9 rfl) GC) (ce.psome hO 9 rfl GB GC)) (zs (oldInt 9 hO rfl ce GB GC Try.underlying3 rfl rfl) (zm rfl ?_))
  refine GoR.inl (vs := [.pointer (some ⟨fm, 0, none⟩), .int .i64 (ix d_46 a0.Enum.Done), .int .i64 (k1_12 : Int)]) (caps := []) rfl rfl body159 Try.func159 rfl Try.ntmps159 rfl rfl rfl ?_
  intro RhR235 hR235
  refine zq ?_
  refine Go1.cut [(0, .pointer (some ⟨fm, 0, none⟩)), (1, .int .i64 (ix d_46 a0.Enum.Done)), (2, .int .i64 (k1_12 : Int))] ⟨rfl, rfl, rfl, trivial⟩ ?_
  intro σ _
  refine zr (za rfl (zn (zq (zq (zr ?_)))))
  refine zm rfl ?_
  by_cases EM : (ix d_46 a0.Enum.Done) = (-1 : Int)
  ·replace H := ifp EM H
   refine zo (fun w => opB (J0A rfl rfl w) (decide_eq_true EM)) (zn (zt rfl rfl (zq (zr (zm rfl ?_)))))
   refine zo (J01 rfl) (zo (J00 Try.underlying156 rfl ti31 rfl (by decide)) (zs (oblk (i := 12) 1 hO rfl rfl Try.underlying31 rfl rfl) (zm rfl ?_)))
   obtain ⟨GD, H⟩ := H
   obtain ⟨GE, H⟩ := H
   replace ao := ao.ch Z15
   refine zo (J02 Try.underlying31 ti3 rfl rfl GD (ltn (ao.neq hO 10 rfl) GE) (ao.psome hO 10 rfl GD GE)) (zs (oldInt 10 hO rfl ao GD GE Try.underlying3 rfl rfl) (za rfl (zn ?_)))
   refine Go1.ret1V Try.func159 rfl (show _ = .int .i64 (ix a0.single (k1_12 : Int)) from rfl) ?_
   refine hR235 _ _ ?_
   refine GoR.inl (vs := [.pointer (some ⟨fm, 0, none⟩), .slice tE r66.length tF, .int .i64 a0.Enum.Done, .int .i64 (k1_12 : Int), .string (gstr ((ix d_40 a0.Enum.Done) ++ (chr (IntKind.i32.wrap ((97 : Int) + (k1_12 : Int)))))), .int .i64 (ix a0.single (k1_12 : Int))]) (caps := []) rfl rfl body155 Try.func155 rfl Try.ntmps155 rfl rfl rfl ?_
   intro RhR239 hR239
   refine zq (zr (za rfl (zn (zq (zr ?_)))))
   refine zm rfl (zo (J01 rfl) (zo (J00 Try.underlying156 rfl ti123 rfl (by decide)) (zo (J00 Try.underlying123 rfl ti23 rfl (by decide)) (zs (oblk (i := 3) 1 hO rfl rfl Try.underlying23 rfl rfl) (zo (J0w Try.underlying23 rfl (dS.neq hO 3 rfl)) ?_)))))
   refine za rfl (zn (zq ?_))
   refine Go1.cut [(0, .pointer (some ⟨fm, 0, none⟩)), (1, .slice tE r66.length tF), (2, .int .i64 a0.Enum.Done), (3, .int .i64 (k1_12 : Int)), (4, .string (gstr ((ix d_40 a0.Enum.Done) ++ (chr (IntKind.i32.wrap ((97 : Int) + (k1_12 : Int))))))), (5, .int .i64 (ix a0.single (k1_12 : Int))), (13, .int .i64 (d_16.length : Int))] ⟨rfl, rfl, rfl, rfl, rfl, rfl, rfl, trivial⟩ ?_
   intro σ _
   refine Go1.drawS 1 [(0, .pure), (1, .pure), (2, .pure), (3, .stable), (4, .pure), (6, .pure), (5, .loud), (7, .last)] mixed (by kernel_rfl) ?_
   intro RF Et
   have nq := Stp.same hO Et
   replace hO := nq.own
   refine GoQ.pure rfl (J03 rfl) rfl rfl ?_
   refine GoQ.pure rfl (J01 rfl) rfl rfl ?_
   refine GoQ.pure rfl (J00 Try.underlying156 rfl ti154 rfl (by decide)) rfl rfl ?_
   refine GoQ.stable rfl (oblk (i := 9) 1 hO rfl rfl Try.underlying154 rfl rfl) rfl rfl ?_
   refine GoQ.pure rfl (J03 rfl) rfl rfl ?_
   refine GoQ.pure rfl (J03 rfl) rfl rfl ?_
   replace bM := (bM.ch gK.ch).ch nq.ch
   refine GoQ.call rfl (J0a body157 rfl (J0l hO.lt bM H)) (fun v w hr => by obtain ⟨_, _, hs, _, _⟩ := hr; assumption) rfl rfl ?_
   rintro Xo Xp ⟨r243, rfl, OT, TS, H⟩
   have nr := Stp.same hO OT
   replace hO := nr.own
   have zz := omapUpd (MK.str Try.underlying9) 11 hO rfl Try.underlying154 r243 (d_16.length : Int)
   obtain ⟨Xq, mD, Ko⟩ := zz
   dsimp only [sS, sZ] at mD
   refine GoQ.last rfl (Ko (by exact rfl) (by exact rfl) (by exact rfl)) rfl rfl ?_
   replace hO := mD.own
   refine GoQ.nil ?_
   refine zq (zr (zm rfl (zm rfl (zo (J01 rfl) (zo (J00 Try.underlying156 rfl ti123 rfl (by decide)) ?_)))))
   refine zo (J00 Try.underlying123 rfl ti23 rfl (by decide)) (zs (oblk (i := 3) 1 hO rfl rfl Try.underlying23 rfl rfl) (zm rfl ?_))
   replace bM := (bM.ch nr.ch).ch mD.ch
   have zz := J0j (r := Rp.sl (Rp.int .i64)) (n := 1) (parts := [(0, .slice tE r66.length tF)]) (vs := [.slice tE r66.length tF]) (xs := [r66]) rfl Try.underlying23 ti31 hO (by decide) (by kernel_rfl) (Els.cons rfl ⟨tE, tF, rfl, bM⟩ (Els.nil _ _ _) (by simp [mx])) rfl
   obtain ⟨Xr, Xs, ns, OU, Ur, Cq⟩ := zz
   refine zg (Cq rfl) ?_
   replace hO := ns.own
   have zz := freeze 0 hO rfl OU
   obtain ⟨hO1, sU, f9, OV⟩ := zz
   dsimp only [eS, eZ] at hO1 sU f9
   replace hB := (((((((hB.trans jC.fr).trans jE.fr).trans gK.fr).trans nq.fr).trans nr.fr).trans mD.fr).trans ns.fr).trans (Owns.J09 _ _ 0)
   dsimp only [eS, eZ] at hB
   replace hO := hO1; clear hO1
   obtain ⟨Sq, H⟩ := H
   have Z17 := (((nq.ch.trans nr.ch).trans mD.ch).trans ns.ch).trans sU
   replace dS := dS.ch Z17
   have zz := oapp Try.underlying23 ti31 rfl 3 hO rfl dS f9 OV Sq (by decide)
   obtain ⟨Xt, zQ, zR, OW, mE, gt, Kq⟩ := zz
   dsimp only [sS, sZ] at mE gt
   refine zg (Kq (by exact rfl) (by exact rfl)) ?_
   replace hO := mE.own
   refine zo (J01 rfl) (zo (J00 Try.underlying156 rfl ti123 rfl (by decide)) (zo (J00 Try.underlying123 rfl ti23 rfl (by decide)) ?_))
   have zz := J0f (v := .slice zQ (n21 + 1) zR) (i := 3) (cs' := #[.int .i64 a0.Enum.Points, .bool a0.Enum.Monoid, .slice aG aF aH, .slice zQ (n21 + 1) zR, .slice p25 n27 c26, .slice p31 n33 c32, .slice aW aP aX, .slice p37 n39 c38, .int .i64 a0.Enum.Done, .map (some aY), .slice p43 n45 c44, .slice p49 n51 c50, .slice bE bD bF]) 1 hO rfl rfl rfl rfl
   obtain ⟨Kr, lU, Ks⟩ := zz
   dsimp only [sS, sZ] at lU
   refine zg (Ks Try.underlying23 rfl ti23 (by exact rfl) (by exact rfl)) ?_
   replace hO := lU.own
   refine zn (zq ?_)
   refine Go1.cut [(0, .pointer (some ⟨fm, 0, none⟩)), (2, .int .i64 a0.Enum.Done), (3, .int .i64 (k1_12 : Int)), (4, .string (gstr ((ix d_40 a0.Enum.Done) ++ (chr (IntKind.i32.wrap ((97 : Int) + (k1_12 : Int))))))), (5, .int .i64 (ix a0.single (k1_12 : Int))), (13, .int .i64 (d_16.length : Int))] ⟨rfl, rfl, rfl, rfl, rfl, rfl, trivial⟩ ?_
   intro σ _
   refine zr (zm rfl (zm rfl (zo (J01 rfl) (zo (J00 Try.underlying156 rfl ti123 rfl (by decide)) (zo (J00 Try.underlying123 rfl ti31 rfl (by decide)) ?_)))))
   refine zs (oblk (i := 4) 1 hO rfl rfl Try.underlying31 rfl rfl) (zm rfl ?_)
   have zz := J0j (r := Rp.int .i64) (n := 1) (parts := [(0, .int .i64 a0.Enum.Done)]) (vs := [.int .i64 a0.Enum.Done]) (xs := [a0.Enum.Done]) rfl Try.underlying31 ti3 hO (by decide) (by kernel_rfl) (Els.cons rfl rfl (Els.nil _ _ _) (by simp [mx])) rfl
   obtain ⟨Xu, Xv, mF, OX, Us, Kt⟩ := zz
   refine zg (Kt rfl) ?_
   replace hO := mF.own
   have zz := freeze 0 hO rfl OX
   obtain ⟨hO1, rp, ii, OY⟩ := zz
   dsimp only [eS, eZ] at hO1 rp ii
   replace hB := (((hB.trans mE.fr).trans lU.fr).trans mF.fr).trans (Owns.J09 _ _ 0)
   dsimp only [eS, eZ] at hB
   replace hO := hO1; clear hO1
   obtain ⟨Sr, H⟩ := H
   have Z18 := ((((((((Z15.trans nq.ch).trans nr.ch).trans mD.ch).trans ns.ch).trans sU).trans mE.ch).trans lU.ch).trans mF.ch).trans rp
   replace cY := cY.ch Z18
   have zz := oapp Try.underlying31 ti3 rfl 4 hO rfl cY ii OY Sr (by decide)
   obtain ⟨QU, Bg, Bi, O0, lV, iO, Ku⟩ := zz
   dsimp only [sS, sZ] at lV iO
   refine zg (Ku (by exact rfl) (by exact rfl)) ?_
   replace hO := lV.own
   refine zo (J01 rfl) (zo (J00 Try.underlying156 rfl ti123 rfl (by decide)) (zo (J00 Try.underlying123 rfl ti31 rfl (by decide)) ?_))
   have zz := J0f (v := .slice Bg (n27 + 1) Bi) (i := 4) (cs' := #[.int .i64 a0.Enum.Points, .bool a0.Enum.Monoid, .slice aG aF aH, .slice zQ (n21 + 1) zR, .slice Bg (n27 + 1) Bi, .slice p31 n33 c32, .slice aW aP aX, .slice p37 n39 c38, .int .i64 a0.Enum.Done, .map (some aY), .slice p43 n45 c44, .slice p49 n51 c50, .slice bE bD bF]) 1 hO rfl rfl rfl rfl
   obtain ⟨Xw, li, Kv⟩ := zz
   dsimp only [sS, sZ] at li
   refine zg (Kv Try.underlying31 rfl ti31 (by exact rfl) (by exact rfl)) ?_
   replace hO := li.own
   refine zn (zq (zr (zm rfl (zm rfl (zo (J01 rfl) ?_)))))
   refine zo (J00 Try.underlying156 rfl ti123 rfl (by decide)) (zo (J00 Try.underlying123 rfl ti31 rfl (by decide)) (zs (oblk (i := 5) 1 hO rfl rfl Try.underlying31 rfl rfl) (zm rfl ?_)))
   have zz := J0j (r := Rp.int .i64) (n := 1) (parts := [(0, .int .i64 (k1_12 : Int))]) (vs := [.int .i64 (k1_12 : Int)]) (xs := [(k1_12 : Int)]) rfl Try.underlying31 ti3 hO (by decide) (by kernel_rfl) (Els.cons rfl rfl (Els.nil _ _ _) (by simp [mx])) rfl
   obtain ⟨Xx, Xy, lW, O1, Ut, Kw⟩ := zz
   refine zg (Kw rfl) ?_
   replace hO := lW.own
   have zz := freeze 0 hO rfl O1
   obtain ⟨hO1, pt, j3, O2⟩ := zz
   dsimp only [eS, eZ] at hO1 pt j3
   replace hB := (((hB.trans lV.fr).trans li.fr).trans lW.fr).trans (Owns.J09 _ _ 0)
   dsimp only [eS, eZ] at hB
   replace hO := hO1; clear hO1
   obtain ⟨Ss, H⟩ := H
   have Z19 := (((Z18.trans lV.ch).trans li.ch).trans lW.ch).trans pt
   replace cT := cT.ch Z19
   have zz := oapp Try.underlying31 ti3 rfl 5 hO rfl cT j3 O2 Ss (by decide)
   obtain ⟨Xz, C9, Db, O3, lj, f0, Kx⟩ := zz
   dsimp only [sS, sZ] at lj f0
   refine zg (Kx (by exact rfl) (by exact rfl)) ?_
   replace hO := lj.own
   refine zo (J01 rfl) (zo (J00 Try.underlying156 rfl ti123 rfl (by decide)) (zo (J00 Try.underlying123 rfl ti31 rfl (by decide)) ?_))
   have zz := J0f (v := .slice C9 (n33 + 1) Db) (i := 5) (cs' := #[.int .i64 a0.Enum.Points, .bool a0.Enum.Monoid, .slice aG aF aH, .slice zQ (n21 + 1) zR, .slice Bg (n27 + 1) Bi, .slice C9 (n33 + 1) Db, .slice aW aP aX, .slice p37 n39 c38, .int .i64 a0.Enum.Done, .map (some aY), .slice p43 n45 c44, .slice p49 n51 c50, .slice bE bD bF]) 1 hO rfl rfl rfl rfl
   obtain ⟨XA, kt, Ky⟩ := zz
   dsimp only [sS, sZ] at kt
   refine zg (Ky Try.underlying31 rfl ti31 (by exact rfl) (by exact rfl)) ?_
   replace hO := kt.own
   refine zn (zq ?_)
   refine Go1.cut [(0, .pointer (some ⟨fm, 0, none⟩)), (4, .string (gstr ((ix d_40 a0.Enum.Done) ++ (chr (IntKind.i32.wrap ((97 : Int) + (k1_12 : Int))))))), (5, .int .i64 (ix a0.single (k1_12 : Int))), (13, .int .i64 (d_16.length : Int))] ⟨rfl, rfl, rfl, rfl, trivial⟩ ?_
   intro σ _
   refine zr (zm rfl (zm rfl (zo (J01 rfl) (zo (J00 Try.underlying156 rfl ti30 rfl (by decide)) (zs (oblk (i := 10) 1 hO rfl rfl Try.underlying30 rfl rfl) ?_)))))
   refine zm rfl ?_
   have zz := J0j (r := Rp.str) (n := 1) (parts := [(0, .string (gstr ((ix d_40 a0.Enum.Done) ++ (chr (IntKind.i32.wrap ((97 : Int) + (k1_12 : Int)))))))]) (vs := [.string (gstr ((ix d_40 a0.Enum.Done) ++ (chr (IntKind.i32.wrap ((97 : Int) + (k1_12 : Int))))))]) (xs := [(ix d_40 a0.Enum.Done) ++ (chr (IntKind.i32.wrap ((97 : Int) + (k1_12 : Int))))]) rfl Try.underlying30 ti9 hO (by decide) (by kernel_rfl) (Els.cons rfl ⟨rfl, (lenApp xM)⟩ (Els.nil _ _ _) (by simp [mx])) rfl
   obtain ⟨Kz, XB, lk, O4, Uu, KA⟩ := zz
   refine zg (KA rfl) ?_
   replace hO := lk.own
   have zz := freeze 0 hO rfl O4
   obtain ⟨hO1, gT, pv, O5⟩ := zz
   dsimp only [eS, eZ] at hO1 gT pv
   replace hB := (((hB.trans lj.fr).trans kt.fr).trans lk.fr).trans (Owns.J09 _ _ 0)
   dsimp only [eS, eZ] at hB
   replace hO := hO1; clear hO1
   obtain ⟨St, H⟩ := H
   have Z20 := (((((((((((Z17.trans mE.ch).trans lU.ch).trans mF.ch).trans rp).trans lV.ch).trans li.ch).trans lW.ch).trans pt).trans lj.ch).trans kt.ch).trans lk.ch).trans gT
   replace cd := cd.ch Z20
   have zz := oapp Try.underlying30 ti9 rfl 8 hO rfl cd pv O5 St (by decide)
   obtain ⟨XC, EO, EP, O6, ku, sV, KB⟩ := zz
   dsimp only [sS, sZ] at ku sV
   refine zg (KB (by exact rfl) (by exact rfl)) ?_
   replace hO := ku.own
   refine zo (J01 rfl) (zo (J00 Try.underlying156 rfl ti30 rfl (by decide)) ?_)
   have zz := J0f (v := .slice EO (n45 + 1) EP) (i := 10) (cs' := #[.int .i64 a0.Enum.Points, .bool a0.Enum.Monoid, .slice aG aF aH, .slice zQ (n21 + 1) zR, .slice Bg (n27 + 1) Bi, .slice C9 (n33 + 1) Db, .slice aW aP aX, .slice p37 n39 c38, .int .i64 a0.Enum.Done, .map (some aY), .slice EO (n45 + 1) EP, .slice p49 n51 c50, .slice bE bD bF]) 1 hO rfl rfl rfl rfl
   obtain ⟨XD, jU, KC⟩ := zz
   dsimp only [sS, sZ] at jU
   refine zg (KC Try.underlying30 rfl ti30 (by exact rfl) (by exact rfl)) ?_
   replace hO := jU.own
   refine zn (zq (zr (zm rfl (zm rfl (zo (J01 rfl) ?_)))))
   refine zo (J00 Try.underlying156 rfl ti31 rfl (by decide)) (zs (oblk (i := 11) 1 hO rfl rfl Try.underlying31 rfl rfl) (zm rfl ?_))
   have zz := J0j (r := Rp.int .i64) (n := 1) (parts := [(0, .int .i64 (ix a0.single (k1_12 : Int)))]) (vs := [.int .i64 (ix a0.single (k1_12 : Int))]) (xs := [(ix a0.single (k1_12 : Int))]) rfl Try.underlying31 ti3 hO (by decide) (by kernel_rfl) (Els.cons rfl rfl (Els.nil _ _ _) (by simp [mx])) rfl
   obtain ⟨XE, XF, kw, O7, Uv, Ct⟩ := zz
   refine zg (Ct rfl) ?_
   replace hO := kw.own
   have zz := freeze 0 hO rfl O7
   obtain ⟨hO1, nJ, wS, O8⟩ := zz
   dsimp only [eS, eZ] at hO1 nJ wS
   replace hB := (((hB.trans ku.fr).trans jU.fr).trans kw.fr).trans (Owns.J09 _ _ 0)
   dsimp only [eS, eZ] at hB
   replace hO := hO1; clear hO1
   obtain ⟨Dc, H⟩ := H
   have Z21 := (((Z20.trans ku.ch).trans jU.ch).trans kw.ch).trans nJ
   replace ce := ce.ch Z21
   have zz := oapp Try.underlying31 ti3 rfl 9 hO rfl ce wS O8 Dc (by decide)
   obtain ⟨XG, GF, GG, O9, jV, yL, Cu⟩ := zz
   dsimp only [sS, sZ] at jV yL
   refine zg (Cu (by exact rfl) (by exact rfl)) ?_
   replace hO := jV.own
   refine zo (J01 rfl) (zo (J00 Try.underlying156 rfl ti31 rfl (by decide)) ?_)
   have zz := J0f (v := .slice GF (n51 + 1) GG) (i := 11) (cs' := #[.int .i64 a0.Enum.Points, .bool a0.Enum.Monoid, .slice aG aF aH, .slice zQ (n21 + 1) zR, .slice Bg (n27 + 1) Bi, .slice C9 (n33 + 1) Db, .slice aW aP aX, .slice p37 n39 c38, .int .i64 a0.Enum.Done, .map (some aY), .slice EO (n45 + 1) EP, .slice GF (n51 + 1) GG, .slice bE bD bF]) 1 hO rfl rfl rfl rfl
   obtain ⟨XH, fk, KD⟩ := zz
   dsimp only [sS, sZ] at fk
   refine zg (KD Try.underlying31 rfl ti31 (by exact rfl) (by exact rfl)) ?_
   replace hO := fk.own
   refine zn (zq ?_)
   refine Go1.cut [(13, .int .i64 (d_16.length : Int))] ⟨rfl, trivial⟩ ?_
   intro σ _
   refine zr (zm rfl (za rfl (zn ?_)))
   refine Go1.ret1V Try.func155 rfl (show _ = .int .i64 (d_16.length : Int) from rfl) ?_
   refine hR239 _ _ ?_
   refine za rfl (zn ?_)
   refine Go1.inBlock ?_
   refine zr (zm rfl (zm rfl (zm rfl ?_)))
   obtain ⟨GH, H⟩ := H
   obtain ⟨GJ, H⟩ := H
   have Z22 := (((((((((Z19.trans lj.ch).trans kt.ch).trans lk.ch).trans gT).trans ku.ch).trans jU.ch).trans kw.ch).trans nJ).trans jV.ch).trans fk.ch
   replace cx := cx.ch Z22
   refine zo (J02 Try.underlying31 ti3 rfl rfl GH (ltn (cx.neq hO 0 rfl) GJ) (cx.psome hO 0 rfl GH GJ)) ?_
   have zz := ost (r := Rp.int .i64) rfl 0 hO rfl cx GH GJ (v := .int .i64 (d_16.length : Int)) (u := (d_16.length : Int)) rfl rfl
   obtain ⟨Q2, Pa, jW, Ia, KE⟩ := zz
   dsimp only [sS, sZ] at jW Ia
   refine zg (KE Try.underlying3 rfl ti3 (by exact rfl) (by exact rfl)) ?_
   replace hO := jW.own
   refine zn ?_
   refine Go1.inBlock ?_
   refine zr ?_
   replace ad := (ad.ch Z22).ch jW.ch
   refine zo (J0c rfl rfl (wrap_i64 (natbd h53 ad.bd))) (zm rfl (zn ?_))
   replace yL := (yL.ch fk.ch).ch jW.ch
   replace hB := ((hB.trans jV.fr).trans fk.fr).trans jW.fr
   have Z23 := ((((jU.ch.trans kw.ch).trans nJ).trans jV.ch).trans fk.ch).trans jW.ch
   replace sV := sV.ch Z23
   have Z24 := ((((((((kt.ch.trans lk.ch).trans gT).trans ku.ch).trans jU.ch).trans kw.ch).trans nJ).trans jV.ch).trans fk.ch).trans jW.ch
   replace f0 := f0.ch Z24
   have Z25 := ((((((((((((li.ch.trans lW.ch).trans pt).trans lj.ch).trans kt.ch).trans lk.ch).trans gT).trans ku.ch).trans jU.ch).trans kw.ch).trans nJ).trans jV.ch).trans fk.ch).trans jW.ch
   replace iO := iO.ch Z25
   have Z26 := ((((((((((((((((lU.ch.trans mF.ch).trans rp).trans lV.ch).trans li.ch).trans lW.ch).trans pt).trans lj.ch).trans kt.ch).trans lk.ch).trans gT).trans ku.ch).trans jU.ch).trans kw.ch).trans nJ).trans jV.ch).trans fk.ch).trans jW.ch
   replace gt := gt.ch Z26
   have Z27 := ((Z21.trans jV.ch).trans fk.ch).trans jW.ch
   replace ao := ao.ch Z27
   have Z28 := Z22.trans jW.ch
   replace ae := ae.ch Z28
   replace cz := cz.ch Z28
   exact hX1 _ H _ _ ⟨Pa, n21 + 1, zQ, zR, OW, n27 + 1, Bg, Bi, O0, n33 + 1, C9, Db, O3, n39, p37, c38, ni, n45 + 1, EO, EP, O6, n51 + 1, GF, GG, O9, ⟨rfl, rfl, rfl, rfl, rfl, rfl, trivial⟩, hO, Ia, ad, gt, iO, f0, ae, cz, sV, yL, ao, hB⟩
  replace H := ifn EM H
  refine zo (fun w => opB (J0A rfl rfl w) (decide_eq_false EM)) (zn (zf rfl rfl (zk (zq (zr ?_)))))
  refine zm rfl (zo (J01 rfl) (zo (J00 Try.underlying156 rfl ti123 rfl (by decide)) (zo (J00 Try.underlying123 rfl ti23 rfl (by decide)) (zs (oblk (i := 6) 1 hO rfl rfl Try.underlying23 rfl rfl) (zm rfl ?_)))))
  obtain ⟨GK, H⟩ := H
  obtain ⟨GL, H⟩ := H
  replace ae := ae.ch Z15
  refine zo (J02 Try.underlying23 ti31 rfl rfl GK (ltn (ae.neq hO 6 rfl) GL) (ae.psome hO 6 rfl GK GL)) ?_
  have zz := oldSl 6 hO rfl ae GK GL
  obtain ⟨XJ, XK, fw, Pb⟩ := zz
  refine zs (Pb Try.underlying31 rfl rfl) (zm rfl ?_)
  obtain ⟨xC, H⟩ := H
  obtain ⟨GM, H⟩ := H
  refine zo (J02 Try.underlying31 ti3 rfl rfl xC GM (fw.some_ xC GM)) (zs (ldInt fw xC GM Try.underlying3 rfl rfl) (za rfl (zn ?_)))
  refine Go1.ret1V Try.func159 rfl (show _ = .int .i64 (ix (ix a0.Enum.Right (ix d_46 a0.Enum.Done)) (k1_12 : Int)) from rfl) ?_
  refine hR235 _ _ ?_
  refine GoR.inl (vs := [.pointer (some ⟨fm, 0, none⟩), .slice tE r66.length tF, .int .i64 a0.Enum.Done, .int .i64 (k1_12 : Int), .string (gstr ((ix d_40 a0.Enum.Done) ++ (chr (IntKind.i32.wrap ((97 : Int) + (k1_12 : Int)))))), .int .i64 (ix (ix a0.Enum.Right (ix d_46 a0.Enum.Done)) (k1_12 : Int))]) (caps := []) rfl rfl body155 Try.func155 rfl Try.ntmps155 rfl rfl rfl ?_
  intro RhR377 hR377
  refine zq ?_
  refine Go1.cut [(0, .pointer (some ⟨fm, 0, none⟩)), (1, .slice tE r66.length tF), (2, .int .i64 a0.Enum.Done), (3, .int .i64 (k1_12 : Int)), (4, .string (gstr ((ix d_40 a0.Enum.Done) ++ (chr (IntKind.i32.wrap ((97 : Int) + (k1_12 : Int))))))), (5, .int .i64 (ix (ix a0.Enum.Right (ix d_46 a0.Enum.Done)) (k1_12 : Int)))] ⟨rfl, rfl, rfl, rfl, rfl, rfl, trivial⟩ ?_
  intro σ _
  refine zr (za rfl (zn (zq (zr (zm rfl ?_)))))
  refine zo (J01 rfl) (zo (J00 Try.underlying156 rfl ti123 rfl (by decide)) (zo (J00 Try.underlying123 rfl ti23 rfl (by decide)) (zs (oblk (i := 3) 1 hO rfl rfl Try.underlying23 rfl rfl) (zo (J0w Try.underlying23 rfl (dS.neq hO 3 rfl)) (za rfl ?_)))))
  refine zn (zq ?_)
  refine Go1.drawS 1 [(0, .pure), (1, .pure), (2, .pure), (3, .stable), (4, .pure), (6, .pure), (5, .loud), (7, .last)] mixed (by kernel_rfl) ?_
  intro XL Pc
  have mG := Stp.same hO Pc
  replace hO := mG.own
  refine GoQ.pure rfl (J03 rfl) rfl rfl ?_
  refine GoQ.pure rfl (J01 rfl) rfl rfl ?_
  refine GoQ.pure rfl (J00 Try.underlying156 rfl ti154 rfl (by decide)) rfl rfl ?_
  refine GoQ.stable rfl (oblk (i := 9) 1 hO rfl rfl Try.underlying154 rfl rfl) rfl rfl ?_
  refine GoQ.pure rfl (J03 rfl) rfl rfl ?_
  refine GoQ.pure rfl (J03 rfl) rfl rfl ?_
  replace bM := (bM.ch gK.ch).ch mG.ch
  refine GoQ.call rfl (J0a body157 rfl (J0l hO.lt bM H)) (fun v w hr => by obtain ⟨_, _, hs, _, _⟩ := hr; assumption) rfl rfl ?_
  rintro XM XN ⟨r381, rfl, Pd, TT, H⟩
  have gI := Stp.same hO Pd
  replace hO := gI.own
  have zz := omapUpd (MK.str Try.underlying9) 11 hO rfl Try.underlying154 r381 (d_16.length : Int)
  obtain ⟨XO, gC, Cy⟩ := zz
  dsimp only [sS, sZ] at gC
  refine GoQ.last rfl (Cy (by exact rfl) (by exact rfl) (by exact rfl)) rfl rfl ?_
  replace hO := gC.own
  refine GoQ.nil ?_
  refine zq (zr (zm rfl (zm rfl (zo (J01 rfl) (zo (J00 Try.underlying156 rfl ti123 rfl (by decide)) ?_)))))
  refine zo (J00 Try.underlying123 rfl ti23 rfl (by decide)) (zs (oblk (i := 3) 1 hO rfl rfl Try.underlying23 rfl rfl) (zm rfl ?_))
  replace bM := (bM.ch gI.ch).ch gC.ch
  have zz := J0j (r := Rp.sl (Rp.int .i64)) (n := 1) (parts := [(0, .slice tE r66.length tF)]) (vs := [.slice tE r66.length tF]) (xs := [r66]) rfl Try.underlying23 ti31 hO (by decide) (by kernel_rfl) (Els.cons rfl ⟨tE, tF, rfl, bM⟩ (Els.nil _ _ _) (by simp [mx])) rfl
  obtain ⟨XP, Su, gJ, Pe, Uw, KF⟩ := zz
  refine zg (KF rfl) ?_
  replace hO := gJ.own
  have zz := freeze 0 hO rfl Pe
  obtain ⟨hO1, rq, gc, Pg⟩ := zz
  dsimp only [eS, eZ] at hO1 rq gc
  replace hB := (((((((hB.trans jC.fr).trans jE.fr).trans gK.fr).trans mG.fr).trans gI.fr).trans gC.fr).trans gJ.fr).trans (Owns.J09 _ _ 0)
  dsimp only [eS, eZ] at hB
  replace hO := hO1; clear hO1
  obtain ⟨h400, H⟩ := H
  have Z29 := (((mG.ch.trans gI.ch).trans gC.ch).trans gJ.ch).trans rq
  replace dS := dS.ch Z29
  have zz := oapp Try.underlying23 ti31 rfl 3 hO rfl dS gc Pg h400 (by decide)
  obtain ⟨Q3, zS, zT, oc, gk, dH, Dd⟩ := zz
  dsimp only [sS, sZ] at gk dH
  refine zg (Dd (by exact rfl) (by exact rfl)) ?_
  replace hO := gk.own
  refine zo (J01 rfl) (zo (J00 Try.underlying156 rfl ti123 rfl (by decide)) (zo (J00 Try.underlying123 rfl ti23 rfl (by decide)) ?_))
  have zz := J0f (v := .slice zS (n21 + 1) zT) (i := 3) (cs' := #[.int .i64 a0.Enum.Points, .bool a0.Enum.Monoid, .slice aG aF aH, .slice zS (n21 + 1) zT, .slice p25 n27 c26, .slice p31 n33 c32, .slice aW aP aX, .slice p37 n39 c38, .int .i64 a0.Enum.Done, .map (some aY), .slice p43 n45 c44, .slice p49 n51 c50, .slice bE bD bF]) 1 hO rfl rfl rfl rfl
  obtain ⟨XQ, gj, KG⟩ := zz
  dsimp only [sS, sZ] at gj
  refine zg (KG Try.underlying23 rfl ti23 (by exact rfl) (by exact rfl)) ?_
  replace hO := gj.own
  refine zn (zq ?_)
  refine Go1.cut [(0, .pointer (some ⟨fm, 0, none⟩)), (2, .int .i64 a0.Enum.Done), (3, .int .i64 (k1_12 : Int)), (4, .string (gstr ((ix d_40 a0.Enum.Done) ++ (chr (IntKind.i32.wrap ((97 : Int) + (k1_12 : Int))))))), (5, .int .i64 (ix (ix a0.Enum.Right (ix d_46 a0.Enum.Done)) (k1_12 : Int))), (13, .int .i64 (d_16.length : Int))] ⟨rfl, rfl, rfl, rfl, rfl, rfl, trivial⟩ ?_
  intro σ _
  refine zr (zm rfl (zm rfl (zo (J01 rfl) (zo (J00 Try.underlying156 rfl ti123 rfl (by decide)) (zo (J00 Try.underlying123 rfl ti31 rfl (by decide)) ?_)))))
  refine zs (oblk (i := 4) 1 hO rfl rfl Try.underlying31 rfl rfl) (zm rfl ?_)
  have zz := J0j (r := Rp.int .i64) (n := 1) (parts := [(0, .int .i64 a0.Enum.Done)]) (vs := [.int .i64 a0.Enum.Done]) (xs := [a0.Enum.Done]) rfl Try.underlying31 ti3 hO (by decide) (by kernel_rfl) (Els.cons rfl rfl (Els.nil _ _ _) (by simp [mx])) rfl
  obtain ⟨XR, XS, fJ, xO, Ib, De⟩ := zz
  refine zg (De rfl) ?_
  replace hO := fJ.own
  have zz := freeze 0 hO rfl xO
  obtain ⟨hO1, pz, ik, Ph⟩ := zz
  dsimp only [eS, eZ] at hO1 pz ik
  replace hB := (((hB.trans gk.fr).trans gj.fr).trans fJ.fr).trans (Owns.J09 _ _ 0)
  dsimp only [eS, eZ] at hB
  replace hO := hO1; clear hO1
  obtain ⟨Df, H⟩ := H
  have Z30 := ((((((((Z15.trans mG.ch).trans gI.ch).trans gC.ch).trans gJ.ch).trans rq).trans gk.ch).trans gj.ch).trans fJ.ch).trans pz
  replace cY := cY.ch Z30
  have zz := oapp Try.underlying31 ti3 rfl 4 hO rfl cY ik Ph Df (by decide)
  obtain ⟨XT, Bj, Bk, Pi, iI, ie, KH⟩ := zz
  dsimp only [sS, sZ] at iI ie
  refine zg (KH (by exact rfl) (by exact rfl)) ?_
  replace hO := iI.own
  refine zo (J01 rfl) (zo (J00 Try.underlying156 rfl ti123 rfl (by decide)) (zo (J00 Try.underlying123 rfl ti31 rfl (by decide)) ?_))
  have zz := J0f (v := .slice Bj (n27 + 1) Bk) (i := 4) (cs' := #[.int .i64 a0.Enum.Points, .bool a0.Enum.Monoid, .slice aG aF aH, .slice zS (n21 + 1) zT, .slice Bj (n27 + 1) Bk, .slice p31 n33 c32, .slice aW aP aX, .slice p37 n39 c38, .int .i64 a0.Enum.Done, .map (some aY), .slice p43 n45 c44, .slice p49 n51 c50, .slice bE bD bF]) 1 hO rfl rfl rfl rfl
  obtain ⟨XU, kx, KI⟩ := zz
  dsimp only [sS, sZ] at kx
  refine zg (KI Try.underlying31 rfl ti31 (by exact rfl) (by exact rfl)) ?_
  replace hO := kx.own
  refine zn (zq (zr (zm rfl (zm rfl (zo (J01 rfl) ?_)))))
  refine zo (J00 Try.underlying156 rfl ti123 rfl (by decide)) (zo (J00 Try.underlying123 rfl ti31 rfl (by decide)) (zs (oblk (i := 5) 1 hO rfl rfl Try.underlying31 rfl rfl) (zm rfl ?_)))
  have zz := J0j (r := Rp.int .i64) (n := 1) (parts := [(0, .int .i64 (k1_12 : Int))]) (vs := [.int .i64 (k1_12 : Int)]) (xs := [(k1_12 : Int)]) rfl Try.underlying31 ti3 hO (by decide) (by kernel_rfl) (Els.cons rfl rfl (Els.nil _ _ _) (by simp [mx])) rfl
  obtain ⟨XV, XW, lm, Pj, Ux, KJ⟩ := zz
  refine zg (KJ rfl) ?_
  replace hO := lm.own
  have zz := freeze 0 hO rfl Pj
  obtain ⟨hO1, od, j4, Pk⟩ := zz
  dsimp only [eS, eZ] at hO1 od j4
  replace hB := (((hB.trans iI.fr).trans kx.fr).trans lm.fr).trans (Owns.J09 _ _ 0)
  dsimp only [eS, eZ] at hB
  replace hO := hO1; clear hO1
  obtain ⟨zU, H⟩ := H
  have Z31 := (((Z30.trans iI.ch).trans kx.ch).trans lm.ch).trans od
  replace cT := cT.ch Z31
  have zz := oapp Try.underlying31 ti3 rfl 5 hO rfl cT j4 Pk zU (by decide)
  obtain ⟨XX, Dg, Dh, Pl, kz, kV, KK⟩ := zz
  dsimp only [sS, sZ] at kz kV
  refine zg (KK (by exact rfl) (by exact rfl)) ?_
  replace hO := kz.own
  refine zo (J01 rfl) (zo (J00 Try.underlying156 rfl ti123 rfl (by decide)) (zo (J00 Try.underlying123 rfl ti31 rfl (by decide)) ?_))
  have zz := J0f (v := .slice Dg (n33 + 1) Dh) (i := 5) (cs' := #[.int .i64 a0.Enum.Points, .bool a0.Enum.Monoid, .slice aG aF aH, .slice zS (n21 + 1) zT, .slice Bj (n27 + 1) Bk, .slice Dg (n33 + 1) Dh, .slice aW aP aX, .slice p37 n39 c38, .int .i64 a0.Enum.Done, .map (some aY), .slice p43 n45 c44, .slice p49 n51 c50, .slice bE bD bF]) 1 hO rfl rfl rfl rfl
  obtain ⟨XY, jX, KL⟩ := zz
  dsimp only [sS, sZ] at jX
  refine zg (KL Try.underlying31 rfl ti31 (by exact rfl) (by exact rfl)) ?_
  replace hO := jX.own
  refine zn (zq ?_)
  refine Go1.cut [(0, .pointer (some ⟨fm, 0, none⟩)), (4, .string (gstr ((ix d_40 a0.Enum.Done) ++ (chr (IntKind.i32.wrap ((97 : Int) + (k1_12 : Int))))))), (5, .int .i64 (ix (ix a0.Enum.Right (ix d_46 a0.Enum.Done)) (k1_12 : Int))), (13, .int .i64 (d_16.length : Int))] ⟨rfl, rfl, rfl, rfl, trivial⟩ ?_
  intro σ _
  refine zr (zm rfl (zm rfl (zo (J01 rfl) (zo (J00 Try.underlying156 rfl ti30 rfl (by decide)) (zs (oblk (i := 10) 1 hO rfl rfl Try.underlying30 rfl rfl) ?_)))))
  refine zm rfl ?_
  have zz := J0j (r := Rp.str) (n := 1) (parts := [(0, .string (gstr ((ix d_40 a0.Enum.Done) ++ (chr (IntKind.i32.wrap ((97 : Int) + (k1_12 : Int)))))))]) (vs := [.string (gstr ((ix d_40 a0.Enum.Done) ++ (chr (IntKind.i32.wrap ((97 : Int) + (k1_12 : Int))))))]) (xs := [(ix d_40 a0.Enum.Done) ++ (chr (IntKind.i32.wrap ((97 : Int) + (k1_12 : Int))))]) rfl Try.underlying30 ti9 hO (by decide) (by kernel_rfl) (Els.cons rfl ⟨rfl, (lenApp xM)⟩ (Els.nil _ _ _) (by simp [mx])) rfl
  obtain ⟨X0, Ya, kA, Pm, Uy, C0⟩ := zz
  refine zg (C0 rfl) ?_
  replace hO := kA.own
  have zz := freeze 0 hO rfl Pm
  obtain ⟨hO1, nK, pC, Pn⟩ := zz
  dsimp only [eS, eZ] at hO1 nK pC
  replace hB := (((hB.trans kz.fr).trans jX.fr).trans kA.fr).trans (Owns.J09 _ _ 0)
  dsimp only [eS, eZ] at hB
  replace hO := hO1; clear hO1
  obtain ⟨Sv, H⟩ := H
  have Z32 := (((((((((((Z29.trans gk.ch).trans gj.ch).trans fJ.ch).trans pz).trans iI.ch).trans kx.ch).trans lm.ch).trans od).trans kz.ch).trans jX.ch).trans kA.ch).trans nK
  replace cd := cd.ch Z32
  have zz := oapp Try.underlying30 ti9 rfl 8 hO rfl cd pC Pn Sv (by decide)
  obtain ⟨Yb, EQ, ER, Po, fR, sW, KM⟩ := zz
  dsimp only [sS, sZ] at fR sW
  refine zg (KM (by exact rfl) (by exact rfl)) ?_
  replace hO := fR.own
  refine zo (J01 rfl) (zo (J00 Try.underlying156 rfl ti30 rfl (by decide)) ?_)
  have zz := J0f (v := .slice EQ (n45 + 1) ER) (i := 10) (cs' := #[.int .i64 a0.Enum.Points, .bool a0.Enum.Monoid, .slice aG aF aH, .slice zS (n21 + 1) zT, .slice Bj (n27 + 1) Bk, .slice Dg (n33 + 1) Dh, .slice aW aP aX, .slice p37 n39 c38, .int .i64 a0.Enum.Done, .map (some aY), .slice EQ (n45 + 1) ER, .slice p49 n51 c50, .slice bE bD bF]) 1 hO rfl rfl rfl rfl
  obtain ⟨Yc, jA, KN⟩ := zz
  dsimp only [sS, sZ] at jA
  refine zg (KN Try.underlying30 rfl ti30 (by exact rfl) (by exact rfl)) ?_
  replace hO := jA.own
  refine zn (zq (zr (zm rfl (zm rfl (zo (J01 rfl) ?_)))))
  refine zo (J00 Try.underlying156 rfl ti31 rfl (by decide)) (zs (oblk (i := 11) 1 hO rfl rfl Try.underlying31 rfl rfl) (zm rfl ?_))
  have zz := J0j (r := Rp.int .i64) (n := 1) (parts := [(0, .int .i64 (ix (ix a0.Enum.Right (ix d_46 a0.Enum.Done)) (k1_12 : Int)))]) (vs := [.int .i64 (ix (ix a0.Enum.Right (ix d_46 a0.Enum.Done)) (k1_12 : Int))]) (xs := [(ix (ix a0.Enum.Right (ix d_46 a0.Enum.Done)) (k1_12 : Int))]) rfl Try.underlying31 ti3 hO (by decide) (by kernel_rfl) (Els.cons rfl rfl (Els.nil _ _ _) (by simp [mx])) rfl
  obtain ⟨Yd, Ye, fS, Pp, Uz, KO⟩ := zz
  refine zg (KO rfl) ?_
  replace hO := fS.own
  have zz := freeze 0 hO rfl Pp
  obtain ⟨hO1, mW, wT, Pq⟩ := zz
  dsimp only [eS, eZ] at hO1 mW wT
  replace hB := (((hB.trans fR.fr).trans jA.fr).trans fS.fr).trans (Owns.J09 _ _ 0)
  dsimp only [eS, eZ] at hB
  replace hO := hO1; clear hO1
  obtain ⟨Sw, H⟩ := H
  have Z33 := (((Z32.trans fR.ch).trans jA.ch).trans fS.ch).trans mW
  replace ce := ce.ch Z33
  have zz := oapp Try.underlying31 ti3 rfl 9 hO rfl ce wT Pq Sw (by decide)
  obtain ⟨Yf, GN, GO, Pr, gi, wO, KP⟩ := zz
  dsimp only [sS, sZ] at gi wO
  refine zg (KP (by exact rfl) (by exact rfl)) ?_
  replace hO := gi.own
  refine zo (J01 rfl) (zo (J00 Try.underlying156 rfl ti31 rfl (by decide)) ?_)
  have zz := J0f (v := .slice GN (n51 + 1) GO) (i := 11) (cs' := #[.int .i64 a0.Enum.Points, .bool a0.Enum.Monoid, .slice aG aF aH, .slice zS (n21 + 1) zT, .slice Bj (n27 + 1) Bk, .slice Dg (n33 + 1) Dh, .slice aW aP aX, .slice p37 n39 c38, .int .i64 a0.Enum.Done, .map (some aY), .slice EQ (n45 + 1) ER, .slice GN (n51 + 1) GO, .slice bE bD bF]) 1 hO rfl rfl rfl rfl
  obtain ⟨Yg, jr, KQ⟩ := zz
  dsimp only [sS, sZ] at jr
  refine zg (KQ Try.underlying31 rfl ti31 (by exact rfl) (by exact rfl)) ?_
  replace hO := jr.own
  refine zn (zq ?_)
  refine Go1.cut [(13, .int .i64 (d_16.length : Int))] ⟨rfl, trivial⟩ ?_
  intro σ _
  refine zr (zm rfl (za rfl (zn ?_)))
  refine Go1.ret1V Try.func155 rfl (show _ = .int .i64 (d_16.length : Int) from rfl) ?_
  refine hR377 _ _ ?_
  refine za rfl (zn ?_)
  refine Go1.inBlock ?_
  refine zr (zm rfl (zm rfl (zm rfl ?_)))
  obtain ⟨GP, H⟩ := H
  obtain ⟨zV, H⟩ := H
  have Z34 := (((((((((Z31.trans kz.ch).trans jX.ch).trans kA.ch).trans nK).trans fR.ch).trans jA.ch).trans fS.ch).trans mW).trans gi.ch).trans jr.ch
  replace cx := cx.ch Z34
  refine zo (J02 Try.underlying31 ti3 rfl rfl GP (ltn (cx.neq hO 0 rfl) zV) (cx.psome hO 0 rfl GP zV)) ?_
  have zz := ost (r := Rp.int .i64) rfl 0 hO rfl cx GP zV (v := .int .i64 (d_16.length : Int)) (u := (d_16.length : Int)) rfl rfl
  obtain ⟨Yh, Ps, fK, Ic, KR⟩ := zz
  dsimp only [sS, sZ] at fK Ic
  refine zg (KR Try.underlying3 rfl ti3 (by exact rfl) (by exact rfl)) ?_
  replace hO := fK.own
  refine zn ?_
  refine Go1.inBlock ?_
  refine zr ?_
  replace ad := (ad.ch Z34).ch fK.ch
  refine zo (J0c rfl rfl (wrap_i64 (natbd h53 ad.bd))) (zm rfl (zn ?_))
  replace wO := (wO.ch jr.ch).ch fK.ch
  replace hB := ((hB.trans gi.fr).trans jr.fr).trans fK.fr
  have Z35 := ((((jA.ch.trans fS.ch).trans mW).trans gi.ch).trans jr.ch).trans fK.ch
  replace sW := sW.ch Z35
  have Z36 := ((((((((jX.ch.trans kA.ch).trans nK).trans fR.ch).trans jA.ch).trans fS.ch).trans mW).trans gi.ch).trans jr.ch).trans fK.ch
  replace kV := kV.ch Z36
  have Z37 := ((((((((((((kx.ch.trans lm.ch).trans od).trans kz.ch).trans jX.ch).trans kA.ch).trans nK).trans fR.ch).trans jA.ch).trans fS.ch).trans mW).trans gi.ch).trans jr.ch).trans fK.ch
  replace ie := ie.ch Z37
  have Z38 := ((((((((((((((((gj.ch.trans fJ.ch).trans pz).trans iI.ch).trans kx.ch).trans lm.ch).trans od).trans kz.ch).trans jX.ch).trans kA.ch).trans nK).trans fR.ch).trans jA.ch).trans fS.ch).trans mW).trans gi.ch).trans jr.ch).trans fK.ch
  replace dH := dH.ch Z38
  have Z39 := ((Z33.trans gi.ch).trans jr.ch).trans fK.ch
  replace ae := ae.ch Z39
  have Z40 := Z34.trans fK.ch
  replace cz := cz.ch Z40
  replace ao := ao.ch Z40
  exact hX1 _ H _ _ ⟨Ps, n21 + 1, zS, zT, oc, n27 + 1, Bj, Bk, Pi, n33 + 1, Dg, Dh, Pl, n39, p37, c38, ni, n45 + 1, EQ, ER, Po, n51 + 1, GN, GO, Pr, ⟨rfl, rfl, rfl, rfl, rfl, rfl, trivial⟩, hO, Ic, ad, dH, ie, kV, ae, cz, sW, wO, ao, hB⟩
 replace H := ifn h53 H
 refine zo (fun w => opB (J08 rfl rfl w) (decide_eq_false h53)) (zn (zq (zf rfl rfl ?_)))
 refine Go1.exit rfl ?_
 refine zq (zr (zm rfl (zm rfl (zo (J01 rfl) (zo (J00 Try.underlying156 rfl ti123 rfl (by decide)) ?_)))))
 refine zo (J00 Try.underlying123 rfl ti23 rfl (by decide)) (zs (oblk (i := 6) 1 hO rfl rfl Try.underlying23 rfl rfl) (zm rfl ?_))
 have zz := freeze 0 hO rfl cx
 obtain ⟨hO1, vk, uh, Pt⟩ := zz
 dsimp only [eS, eZ] at hO1 vk uh
 replace hB := hB.trans (Owns.J09 _ _ 0)
 dsimp only [eS, eZ] at hB
 replace hO := hO1; clear hO1
 have zz := J0j (r := Rp.sl (Rp.int .i64)) (n := 1) (parts := [(0, .slice p2 a0.Enum.Gens.length a0.Enum.Gens.length)]) (vs := [.slice p2 a0.Enum.Gens.length a0.Enum.Gens.length]) (xs := [d_13]) rfl Try.underlying23 ti31 hO (by decide) (by kernel_rfl) (Els.cons rfl ⟨p2, a0.Enum.Gens.length, congrArg some (congrArg (fun nn => Value.slice p2 nn a0.Enum.Gens.length) Pt), uh⟩ (Els.nil _ _ _) (by simp [mx])) rfl
 obtain ⟨Yi, Yj, sq, Pu, UA, C1⟩ := zz
 refine zg (C1 rfl) ?_
 replace hO := sq.own
 have zz := freeze 0 hO rfl Pu
 obtain ⟨hO1, uO, wU, Pv⟩ := zz
 dsimp only [eS, eZ] at hO1 uO wU
 replace hB := (hB.trans sq.fr).trans (Owns.J09 _ _ 0)
 dsimp only [eS, eZ] at hB
 replace hO := hO1; clear hO1
 obtain ⟨Sx, H⟩ := H
 have Z41 := (vk.trans sq.ch).trans uO
 replace ae := ae.ch Z41
 have zz := oapp Try.underlying23 ti31 rfl 5 hO rfl ae wU Pv Sx (by decide)
 obtain ⟨Yk, ES, ET, Pw, pY, yM, KS⟩ := zz
 dsimp only [sS, sZ] at pY yM
 refine zg (KS (by exact rfl) (by exact rfl)) ?_
 replace hO := pY.own
 refine zo (J01 rfl) (zo (J00 Try.underlying156 rfl ti123 rfl (by decide)) (zo (J00 Try.underlying123 rfl ti23 rfl (by decide)) ?_))
 have zz := J0f (v := .slice ES (aP + 1) ET) (i := 6) (cs' := #[.int .i64 a0.Enum.Points, .bool a0.Enum.Monoid, .slice aG aF aH, .slice p19 n21 c20, .slice p25 n27 c26, .slice p31 n33 c32, .slice ES (aP + 1) ET, .slice p37 n39 c38, .int .i64 a0.Enum.Done, .map (some aY), .slice p43 n45 c44, .slice p49 n51 c50, .slice bE bD bF]) 0 hO rfl rfl rfl rfl
 obtain ⟨Yl, oe, KT⟩ := zz
 dsimp only [sS, sZ] at oe
 refine zg (KT Try.underlying23 rfl ti23 (by exact rfl) (by exact rfl)) ?_
 replace hO := oe.own
 refine zn (zq ?_)
 refine Go1.cut [(0, .pointer (some ⟨fm, 0, none⟩))] ⟨rfl, trivial⟩ ?_
 intro σ _
 refine zr (zm rfl (zo (J01 rfl) (zo (J00 Try.underlying156 rfl ti123 rfl (by decide)) (zo (J00 Try.underlying123 rfl ti3 rfl (by decide)) (zs (oblk (i := 8) 0 hO rfl rfl Try.underlying3 rfl rfl) ?_)))))
 obtain ⟨Sy, H⟩ := H
 refine zo (J0c rfl rfl (wrap_i64 Sy)) (zo (J01 rfl) (zo (J00 Try.underlying156 rfl ti123 rfl (by decide)) (zo (J00 Try.underlying123 rfl ti3 rfl (by decide)) ?_)))
 have zz := J0f (v := .int .i64 (a0.Enum.Done + (1 : Int))) (i := 8) (cs' := #[.int .i64 a0.Enum.Points, .bool a0.Enum.Monoid, .slice aG aF aH, .slice p19 n21 c20, .slice p25 n27 c26, .slice p31 n33 c32, .slice ES (aP + 1) ET, .slice p37 n39 c38, .int .i64 (a0.Enum.Done + (1 : Int)), .map (some aY), .slice p43 n45 c44, .slice p49 n51 c50, .slice bE bD bF]) 0 hO rfl rfl rfl rfl
 obtain ⟨Ym, gD, KU⟩ := zz
 dsimp only [sS, sZ] at gD
 refine zg (KU Try.underlying3 rfl ti3 (by exact rfl) (by exact rfl)) ?_
 replace hO := gD.own
 refine zn (zq (zr (za rfl (zn ?_))))
 refine Go1.ret1 Try.func133 rfl ?_
 replace yM := (yM.ch oe.ch).ch gD.ch
 replace hB := ((hB.trans pY.fr).trans oe.fr).trans gD.fr
 have Z42 := ((Z41.trans pY.ch).trans oe.ch).trans gD.ch
 replace ad := ad.ch Z42
 replace dS := dS.ch Z42
 replace cY := cY.ch Z42
 replace cT := cT.ch Z42
 replace cz := cz.ch Z42
 replace cd := cd.ch Z42
 replace ce := ce.ch Z42
 replace ao := ao.ch Z42
 exact ⟨((0 : Int)), (⟨(⟨a0.Enum.Points, a0.Enum.Monoid, a0.Enum.Gens, d_16, d_22, d_28, a0.Enum.Right ++ ([d_13]), d_34, (a0.Enum.Done + (1 : Int))⟩ : Enum), m1_52, d_40, d_46, a0.single⟩ : run), aF, aG, aH, dg, n21, p19, c20, lv, n27, p25, c26, ng, n33, p31, c32, nh, (aP + 1), ES, ET, Pw, n39, p37, c38, ni, n45, p43, c44, nj, n51, p49, c50, nk, bD, bE, bF, d4, rfl, hO, ad, dS, cY, cT, yM, cz, cd, ce, ao, hB, H⟩
theorem body132 : Body Try.prog 132 := ⟨Try.f132, Try.func132, rfl, by kernel_rfl⟩
theorem body101 : Body Try.prog 101 := ⟨Try.f101, Try.func101, rfl, by kernel_rfl⟩
theorem walk_enumerate_Build {A : List Nat} {w0 : World} {Di : Option Addr} {Dj : Nat} {gens : List (List Int)} {monoid : Bool} (hA : ∀ b ∈ A, b < w0.heap.size) (p6 : ISl (Rp.sl (Rp.int .i64)) A w0 Di Dj gens) {K : Enum → Int → Prop} (H : J15 gens monoid K) :
    CallsV Try.prog 101 #[.slice Di gens.length Dj, .bool monoid] w0 (fun v w' => ∃ (r0 : Enum) (r1 : Int) (By : Option Addr) (Bz : Nat) (Am : Option Addr) (Ao : Nat) (y3 : Option Addr) (y4 : Nat) (BA : Option Addr) (BB : Nat) (Ap : Option Addr) (Aq : Nat) (Ar : Option Addr) (At : Nat), v = .tuple #[.agg #[.int .i64 r0.Points, .bool r0.Monoid, .slice By r0.Gens.length Bz, .slice Am r0.Elems.length Ao, .slice y3 r0.Prefix.length y4, .slice BA r0.Last.length BB, .slice Ap r0.Right.length Aq, .slice Ar r0.Rules.length At, .int .i64 r0.Done], .int .i64 r1] ∧ Same w0 w' ∧ ISl (Rp.sl (Rp.int .i64)) A w' By Bz r0.Gens ∧ ISl (Rp.sl (Rp.int .i64)) A w' Am Ao r0.Elems ∧ ISl (Rp.int .i64) A w' y3 y4 r0.Prefix ∧ ISl (Rp.int .i64) A w' BA BB r0.Last ∧ ISl (Rp.sl (Rp.int .i64)) A w' Ap Aq r0.Right ∧ ISl (rpRule) A w' Ar At r0.Rules ∧ K r0 r1) := by
 refine CallsV.of (l := [.slice Di gens.length Dj, .bool monoid]) Try.func101 rfl Try.ntmps101 rfl ?_
 have hO := Owns.start hA
 have hB := Fr.refl (bl []) w0
 unfold J15 at H
 refine zq (zr ?_)
 have zz := oalloc (t := 123) (cs := #[.int .i64 0, .bool false, .slice none 0 0, .slice none 0 0, .slice none 0 0, .slice none 0 0, .slice none 0 0, .slice none 0 0, .int .i64 0]) ti123 hO rfl
 obtain ⟨w1, B2, c5, hs4, iQ⟩ := zz
 refine GoR.op iQ rfl rfl ?_
 replace hO := c5.own
 refine za rfl (zn (zq (zr (zm rfl (zm rfl ?_)))))
 replace p6 := (p6.ch (Ch.start A w0)).ch c5.ch
 refine GoR.call (J0a body131 rfl (walk_enumerate_begin hO.lt p6 H)) rfl rfl ?_
 intro v9 w10 hcase13
 refine Or.elim hcase13 ?_ ?_
 ·refine exE fun r8 => andE fun hv14 => andE fun xS => fun H => ?_
  subst hv14
  clear hcase13
  replace H := oElimN H
  have EU := Stp.same hO xS
  replace hO := EU.own
  refine zm rfl (zo (J07 rfl rfl) (zo (J07 rfl rfl) (za rfl (za rfl (zn ?_)))))
  refine zq (zq (zr (zm rfl ?_)))
  by_cases h16 : r8 = (0 : Int)
  ·replace H := ifp h16 H
   refine zo (fun w => opB (J0g rfl rfl w) (ndT h16)) (zn (zf rfl rfl (zk (zq (zb ?_)))))
   replace hB := (hB.trans c5.fr).trans EU.fr
   refine Go1.loopW (S := Unit) (fun s σ w => agrees σ [(4, .pointer (some ⟨B2, 0, none⟩)), (6, .pointer none)] ∧ Owns w0.heap.size w [.blk B2 (.cells #[.int .i64 0, .bool false, .slice none 0 0, .slice none 0 0, .slice none 0 0, .slice none 0 0, .slice none 0 0, .slice none 0 0, .int .i64 0] 123 (0, 0))] A ∧ Fr (bl []) w0 (bl [.blk B2 (.cells #[.int .i64 0, .bool false, .slice none 0 0, .slice none 0 0, .slice none 0 0, .slice none 0 0, .slice none 0 0, .slice none 0 0, .int .i64 0] 123 (0, 0))]) w) H ⟨⟨rfl, rfl, trivial⟩, hO, hB⟩ ?_
   intro X1 _
   intro H hX1 σ w17
   refine andE fun hag => andE fun hO => fun hB => ?_
   refine Go1.keep [(4, .pointer (some ⟨B2, 0, none⟩)), (6, .pointer none)] hag ?_
   refine zq (zq (zr (zm rfl ?_)))
   refine GoR.inl (vs := [.pointer none]) (caps := []) rfl rfl body132 Try.func132 rfl Try.ntmps132 rfl rfl rfl ?_
   intro RhR18 hR18
   refine zq (zr (za rfl (zn (zq ?_))))
   refine Go1.drawS 0 [(0, .pure), (1, .pure), (2, .pure), (3, .pure), (4, .stable), (5, .pure), (6, .pure), (7, .pure), (8, .pure), (9, .stable), (10, .pure), (11, .pure), (12, .pure)] mixed (by kernel_rfl) ?_
   intro w19 Sz
   have ui := Stp.same hO Sz
   replace hO := ui.own
   refine GoQ.pure rfl (J03 rfl) rfl rfl ?_
   exact H.elim
  replace H := ifn h16 H
  refine zo (fun w => opB (J0g rfl rfl w) (ndF h16)) (zn (zt rfl rfl (zq (zr (zo (J0s Try.underlying123 ti123 (pl := [(0, 1), (1, 1), (2, 1), (3, 1), (4, 1), (5, 1), (6, 1), (7, 1), (8, 1)]) (vs := []) (cs := #[.int .i64 0, .bool false, .slice none 0 0, .slice none 0 0, .slice none 0 0, .slice none 0 0, .slice none 0 0, .slice none 0 0, .int .i64 0]) (by kernel_rfl) rfl (by kernel_rfl)) ?_)))))
  refine zm rfl ?_
  have zz := J0b (us := [.int .i64 0, .bool false, .slice none 0 0, .slice none 0 0, .slice none 0 0, .slice none 0 0, .slice none 0 0, .slice none 0 0, .int .i64 0]) (o := 0) (cs' := #[.int .i64 0, .bool false, .slice none 0 0, .slice none 0 0, .slice none 0 0, .slice none 0 0, .slice none 0 0, .slice none 0 0, .int .i64 0]) 0 hO rfl rfl (Nat.le_of_ble_eq_true rfl) rfl
  obtain ⟨w22, mc, Ag⟩ := zz
  refine zg (Ag ti123 (by exact rfl) (by exact rfl) rfl) ?_
  replace hO := mc.own
  refine za rfl (zn ?_)
  refine Go1.retC2 Try.func101 rfl rfl (J0h (vs := [.int .i64 0, .bool false, .slice none 0 0, .slice none 0 0, .slice none 0 0, .slice none 0 0, .slice none 0 0, .slice none 0 0, .int .i64 0]) 0 hO rfl rfl Try.underlying123 rfl ti123) ?_
  replace hB := ((hB.trans c5.fr).trans EU.fr).trans mc.fr
  exact ⟨(⟨(0 : Int), false, ([] : List (List Int)), ([] : List (List Int)), ([] : List Int), ([] : List Int), ([] : List (List Int)), ([] : List Rule), (0 : Int)⟩ : Enum), r8, none, 0, none, 0, none, 0, none, 0, none, 0, none, 0, rfl, hB.same, (ISl.null _ _ _), (ISl.null _ _ _), (ISl.null _ _ _), (ISl.null _ _ _), (ISl.null _ _ _), (ISl.null _ _ _), H⟩
 ·refine exE fun r7 => exE fun r8 => exE fun mX => exE fun Bl => exE fun Bm => exE fun Bn => exE fun Au => exE fun Aw => exE fun Ax => exE fun Ay => exE fun zW => exE fun zX => exE fun zY => exE fun z3 => exE fun yY => exE fun Bo => exE fun Bp => exE fun Bq => exE fun Az => exE fun AA => exE fun AB => exE fun AC => exE fun z4 => exE fun AD => exE fun AE => exE fun AF => exE fun z5 => exE fun db => exE fun EV => exE fun EW => exE fun EX => exE fun DJ => exE fun DK => exE fun DL => exE fun DN => exE fun Dk => exE fun DO => exE fun DP => exE fun DR => exE fun Dl => andE fun hv25 => andE fun xS => andE fun hN12 => andE fun mm => andE fun lF => andE fun kI => andE fun mo => andE fun lG => andE fun lH => andE fun sw => andE fun p9 => andE fun qa => fun H => ?_
  subst hv25
  clear hcase13
  replace H := oElimS H
  have mU := Stp.more hO xS hN12
  dsimp only [List.cons_append, List.nil_append] at mU
  replace hO := mU.own
  replace mm := mm.ch (Ch.assoc _ _ _ _)
  dsimp only [List.cons_append, List.nil_append] at mm
  replace lF := lF.ch (Ch.assoc _ _ _ _)
  dsimp only [List.cons_append, List.nil_append] at lF
  replace kI := kI.ch (Ch.assoc _ _ _ _)
  dsimp only [List.cons_append, List.nil_append] at kI
  replace mo := mo.ch (Ch.assoc _ _ _ _)
  dsimp only [List.cons_append, List.nil_append] at mo
  replace lG := lG.ch (Ch.assoc _ _ _ _)
  dsimp only [List.cons_append, List.nil_append] at lG
  replace lH := lH.ch (Ch.assoc _ _ _ _)
  dsimp only [List.cons_append, List.nil_append] at lH
  replace sw := sw.ch (Ch.assoc _ _ _ _)
  dsimp only [List.cons_append, List.nil_append] at sw
  replace p9 := p9.ch (Ch.assoc _ _ _ _)
  dsimp only [List.cons_append, List.nil_append] at p9
  replace qa := qa.ch (Ch.assoc _ _ _ _)
  dsimp only [List.cons_append, List.nil_append] at qa
  refine zm rfl (zo (J07 rfl rfl) (zo (J07 rfl rfl) (za rfl (za rfl (zn ?_)))))
  refine zq (zq (zr (zm rfl ?_)))
  by_cases h38 : r8 = (0 : Int)
  ·replace H := ifp h38 H
   refine zo (fun w => opB (J0g rfl rfl w) (ndT h38)) (zn (zf rfl rfl (zk (zq (zb ?_)))))
   replace hB := (hB.trans c5.fr).trans mU.fr
   refine Go1.loopW (S := Int × Bool × Int × List (List Int) × List (List Int) × List Int × List Int × List (List Int) × List Rule × List Str × List Int × List Int × (List (Str × Int))) (fun s σ w => match s with | (k2_40, b2_41, k2_42, d_43, d_49, d_55, d_61, d_67, d_73, d_79, d_85, d_91, m2_97) => ∃ (n48 : Nat) (p46 : Option Addr) (c47 : Nat) (sB : List Value) (n54 : Nat) (p52 : Option Addr) (c53 : Nat) (pG : List Value) (n60 : Nat) (p58 : Option Addr) (c59 : Nat) (sC : List Value) (n66 : Nat) (p64 : Option Addr) (c65 : Nat) (sD : List Value) (n72 : Nat) (p70 : Option Addr) (c71 : Nat) (sE : List Value) (n78 : Nat) (p76 : Option Addr) (c77 : Nat) (sF : List Value) (n84 : Nat) (p82 : Option Addr) (c83 : Nat) (pK : List Value) (n90 : Nat) (p88 : Option Addr) (c89 : Nat) (sG : List Value) (n96 : Nat) (p94 : Option Addr) (c95 : Nat) (sH : List Value), agrees σ [(4, .pointer (some ⟨B2, 0, none⟩)), (6, .pointer (some ⟨mX, 0, none⟩))] ∧ (fun Z0 => Owns w0.heap.size w Z0 A ∧ Els (Rp.sl (Rp.int .i64)) (bl Z0 ++ A) w sB d_43 ∧ Els (Rp.sl (Rp.int .i64)) (bl Z0 ++ A) w pG d_49 ∧ Els (Rp.int .i64) (bl Z0 ++ A) w sC d_55 ∧ Els (Rp.int .i64) (bl Z0 ++ A) w sD d_61 ∧ Els (Rp.sl (Rp.int .i64)) (bl Z0 ++ A) w sE d_67 ∧ Els (rpRule) (bl Z0 ++ A) w sF d_73 ∧ Els (Rp.str) (bl Z0 ++ A) w pK d_79 ∧ Els (Rp.int .i64) (bl Z0 ++ A) w sG d_85 ∧ Els (Rp.int .i64) (bl Z0 ++ A) w sH d_91 ∧ Fr (bl []) w0 (bl Z0) w) [.blk mX (.cells #[.int .i64 k2_40, .bool b2_41, .slice p46 n48 c47, .slice p52 n54 c53, .slice p58 n60 c59, .slice p64 n66 c65, .slice p70 n72 c71, .slice p76 n78 c77, .int .i64 k2_42, .map (some db), .slice p82 n84 c83, .slice p88 n90 c89, .slice p94 n96 c95] 156 (0, 0)), .row 31 1 p46 n48 c47 sB, .row 31 1 p52 n54 c53 pG, .row 3 1 p58 n60 c59 sC, .row 3 1 p64 n66 c65 sD, .row 31 1 p70 n72 c71 sE, .row 185 2 p76 n78 c77 sF, .row 9 1 p82 n84 c83 pK, .row 3 1 p88 n90 c89 sG, .row 3 1 p94 n96 c95 sH, .any (mapE (fun a : List UInt8 => Value.string (gstr a)) (fun a : Int => Value.int .i64 a) db m2_97), .blk B2 (.cells #[.int .i64 0, .bool false, .slice none 0 0, .slice none 0 0, .slice none 0 0, .slice none 0 0, .slice none 0 0, .slice none 0 0, .int .i64 0] 123 (0, 0))]) H ⟨Bl, Bm, Bn, Au, Aw, Ax, Ay, zW, zX, zY, z3, yY, Bo, Bp, Bq, Az, AA, AB, AC, z4, AD, AE, AF, z5, EV, EW, EX, DJ, DK, DL, DN, Dk, DO, DP, DR, Dl, ⟨rfl, rfl, trivial⟩, hO, mm, lF, kI, mo, lG, lH, sw, p9, qa, hB⟩ ?_
   intro X2
   refine prE fun k2_40 => prE fun b2_41 => prE fun k2_42 => prE fun d_43 => prE fun d_49 => prE fun d_55 => prE fun d_61 => prE fun d_67 => prE fun d_73 => prE fun d_79 => prE fun d_85 => prE fun d_91 => fun m2_97 => ?_
   intro H hX2 σ w39
   refine exE fun n48 => exE fun p46 => exE fun c47 => exE fun sB => exE fun n54 => exE fun p52 => exE fun c53 => exE fun pG => exE fun n60 => exE fun p58 => exE fun c59 => exE fun sC => exE fun n66 => exE fun p64 => exE fun c65 => exE fun sD => exE fun n72 => exE fun p70 => exE fun c71 => exE fun sE => exE fun n78 => exE fun p76 => exE fun c77 => exE fun sF => exE fun n84 => exE fun p82 => exE fun c83 => exE fun pK => exE fun n90 => exE fun p88 => exE fun c89 => exE fun sG => exE fun n96 => exE fun p94 => exE fun c95 => exE fun sH => andE fun hag => andE fun hO => andE fun Br => andE fun ww => andE fun xe => andE fun vR => andE fun tJ => andE fun tN => andE fun nt => andE fun tt => andE fun kj => fun hB => ?_
   dsimp only at H
   refine Go1.keep [(4, .pointer (some ⟨B2, 0, none⟩)), (6, .pointer (some ⟨mX, 0, none⟩))] hag ?_
   refine zq (zq (zr (zm rfl ?_)))
   refine GoR.inl (vs := [.pointer (some ⟨mX, 0, none⟩)]) (caps := []) rfl rfl body132 Try.func132 rfl Try.ntmps132 rfl rfl rfl ?_
   intro RhR98 hR98
   refine zq (zr (za rfl (zn (zq ?_))))
   refine Go1.drawS 0 [(0, .pure), (1, .pure), (2, .pure), (3, .pure), (4, .stable), (5, .pure), (6, .pure), (7, .pure), (8, .pure), (9, .stable), (10, .pure), (11, .pure), (12, .pure)] mixed (by kernel_rfl) ?_
   intro w99 Px
   have gQ := Stp.same hO Px
   replace hO := gQ.own
   refine GoQ.pure rfl (J03 rfl) rfl rfl ?_
   refine GoQ.pure rfl (J01 rfl) rfl rfl ?_
   refine GoQ.pure rfl (J00 Try.underlying156 rfl ti123 rfl (by decide)) rfl rfl ?_
   refine GoQ.pure rfl (J00 Try.underlying123 rfl ti3 rfl (by decide)) rfl rfl ?_
   refine GoQ.stable rfl (oblk (i := 8) 0 hO rfl rfl Try.underlying3 rfl rfl) rfl rfl ?_
   refine GoQ.pure rfl (J03 rfl) rfl rfl ?_
   refine GoQ.pure rfl (J01 rfl) rfl rfl ?_
   refine GoQ.pure rfl (J00 Try.underlying156 rfl ti123 rfl (by decide)) rfl rfl ?_
   refine GoQ.pure rfl (J00 Try.underlying123 rfl ti23 rfl (by decide)) rfl rfl ?_
   refine GoQ.stable rfl (oblk (i := 3) 0 hO rfl rfl Try.underlying23 rfl rfl) rfl rfl ?_
   replace ww := ww.ch gQ.ch
   refine GoQ.pure rfl (J0w Try.underlying23 rfl (ww.neq hO 2 rfl)) rfl rfl ?_
   by_cases EY : k2_42 = (d_49.length : Int)
   ·replace H := ifp EY H
    refine GoQ.pure rfl (fun w => opB (J0A rfl rfl w) (decide_eq_true EY)) rfl rfl ?_
    refine GoQ.pure rfl (J0e rfl) rfl rfl ?_
    refine GoQ.nil ?_
    refine Go1.ret1V Try.func132 rfl (show _ = .bool true from rfl) ?_
    refine hR98 _ _ ?_
    refine zo (J0p rfl) (zn (zf rfl rfl ?_))
    refine Go1.exit rfl ?_
    refine zq (zr (zm rfl (zo (J01 rfl) (zo (J00 Try.underlying156 rfl ti123 rfl (by decide)) (zs (J0n (vs := [.int .i64 k2_40, .bool b2_41, .slice p46 n48 c47, .slice p52 n54 c53, .slice p58 n60 c59, .slice p64 n66 c65, .slice p70 n72 c71, .slice p76 n78 c77, .int .i64 k2_42]) (i := 0) 0 hO rfl rfl Try.underlying123 rfl ti123 rfl) ?_)))))
    have zz := J0b (us := [.int .i64 k2_40, .bool b2_41, .slice p46 n48 c47, .slice p52 n54 c53, .slice p58 n60 c59, .slice p64 n66 c65, .slice p70 n72 c71, .slice p76 n78 c77, .int .i64 k2_42]) (o := 0) (cs' := #[.int .i64 k2_40, .bool b2_41, .slice p46 n48 c47, .slice p52 n54 c53, .slice p58 n60 c59, .slice p64 n66 c65, .slice p70 n72 c71, .slice p76 n78 c77, .int .i64 k2_42]) 11 hO rfl rfl (Nat.le_of_ble_eq_true rfl) rfl
    obtain ⟨Yn, jq, Dn⟩ := zz
    dsimp only [sS, sZ] at jq
    refine zg (Dn ti123 (by exact rfl) (by exact rfl) rfl) ?_
    replace hO := jq.own
    refine za rfl (zn ?_)
    replace Br := (Br.ch gQ.ch).ch jq.ch
    have zz := freeze 1 hO rfl Br
    obtain ⟨hO1, vW, uj, Py⟩ := zz
    dsimp only [eS, eZ] at hO1 vW uj
    replace hB := ((hB.trans gQ.fr).trans jq.fr).trans (Owns.J09 _ _ 1)
    dsimp only [eS, eZ] at hB
    replace hO := hO1; clear hO1
    replace ww := (ww.ch jq.ch).ch vW
    have zz := freeze 1 hO rfl ww
    obtain ⟨hO1, vX, vm, Pz⟩ := zz
    dsimp only [eS, eZ] at hO1 vX vm
    replace hB := hB.trans (Owns.J09 _ _ 1)
    dsimp only [eS, eZ] at hB
    replace hO := hO1; clear hO1
    have Z1 := ((gQ.ch.trans jq.ch).trans vW).trans vX
    replace xe := xe.ch Z1
    have zz := freeze 1 hO rfl xe
    obtain ⟨hO1, vY, wV, PA⟩ := zz
    dsimp only [eS, eZ] at hO1 vY wV
    replace hB := hB.trans (Owns.J09 _ _ 1)
    dsimp only [eS, eZ] at hB
    replace hO := hO1; clear hO1
    replace vR := (vR.ch Z1).ch vY
    have zz := freeze 1 hO rfl vR
    obtain ⟨hO1, v7, yN, PB⟩ := zz
    dsimp only [eS, eZ] at hO1 v7 yN
    replace hB := hB.trans (Owns.J09 _ _ 1)
    dsimp only [eS, eZ] at hB
    replace hO := hO1; clear hO1
    replace tJ := ((tJ.ch Z1).ch vY).ch v7
    have zz := freeze 1 hO rfl tJ
    obtain ⟨hO1, v8, B9, PC⟩ := zz
    dsimp only [eS, eZ] at hO1 v8 B9
    replace hB := hB.trans (Owns.J09 _ _ 1)
    dsimp only [eS, eZ] at hB
    replace hO := hO1; clear hO1
    have Z2 := ((Z1.trans vY).trans v7).trans v8
    replace tN := tN.ch Z2
    have zz := freeze 1 hO rfl tN
    obtain ⟨hO1, wa, Id, PD⟩ := zz
    dsimp only [eS, eZ] at hO1 wa Id
    replace hB := hB.trans (Owns.J09 _ _ 1)
    dsimp only [eS, eZ] at hB
    replace hO := hO1; clear hO1
    refine Go1.retC2 Try.func101 rfl rfl (J0h (vs := [.int .i64 k2_40, .bool b2_41, .slice p46 n48 c47, .slice p52 n54 c53, .slice p58 n60 c59, .slice p64 n66 c65, .slice p70 n72 c71, .slice p76 n78 c77, .int .i64 k2_42]) 5 hO rfl rfl Try.underlying123 rfl ti123) ?_
    replace B9 := B9.ch wa
    replace yN := (yN.ch v8).ch wa
    have Z3 := (v7.trans v8).trans wa
    replace wV := wV.ch Z3
    have Z4 := ((vY.trans v7).trans v8).trans wa
    replace vm := vm.ch Z4
    have Z5 := (((vX.trans vY).trans v7).trans v8).trans wa
    replace uj := uj.ch Z5
    exact ⟨(⟨k2_40, b2_41, d_43, d_49, d_55, d_61, d_67, d_73, k2_42⟩ : Enum), (0 : Int), p46, c47, p52, c53, p58, c59, p64, c65, p70, c71, p76, c77, (congrArg (fun l => Value.tuple (List.toArray l)) (J0i (congrArg (fun l => Value.agg (List.toArray l)) (J0i rfl (J0i rfl (J0i (congrArg (fun nn => Value.slice p46 nn c47) Py) (J0i (congrArg (fun nn => Value.slice p52 nn c53) Pz) (J0i (congrArg (fun nn => Value.slice p58 nn c59) PA) (J0i (congrArg (fun nn => Value.slice p64 nn c65) PB) (J0i (congrArg (fun nn => Value.slice p70 nn c71) PC) (J0i (congrArg (fun nn => Value.slice p76 nn c77) PD) (J0i rfl rfl)))))))))) (J0i rfl rfl))), hB.same, (uj.ch (Ch.weak _ _ _)), (vm.ch (Ch.weak _ _ _)), (wV.ch (Ch.weak _ _ _)), (yN.ch (Ch.weak _ _ _)), (B9.ch (Ch.weak _ _ _)), (Id.ch (Ch.weak _ _ _)), H⟩
   replace H := ifn EY H
   refine GoQ.pure rfl (fun w => opB (J0A rfl rfl w) (decide_eq_false EY)) rfl rfl ?_
   refine GoQ.pure rfl (J0e rfl) rfl rfl ?_
   refine GoQ.nil ?_
   refine Go1.ret1V Try.func132 rfl (show _ = .bool false from rfl) ?_
   refine hR98 _ _ ?_
   refine zo (J0p rfl) (zn (zt rfl rfl (zk (zb (zq ?_)))))
   refine Go1.cut [(4, .pointer (some ⟨B2, 0, none⟩)), (6, .pointer (some ⟨mX, 0, none⟩))] ⟨rfl, rfl, trivial⟩ ?_
   intro σ _
   refine zr (zm rfl ?_)
   have Ie : Owns w0.heap.size w99 ([.blk mX (.cells #[.int .i64 k2_40, .bool b2_41, .slice p46 n48 c47, .slice p52 n54 c53, .slice p58 n60 c59, .slice p64 n66 c65, .slice p70 n72 c71, .slice p76 n78 c77, .int .i64 k2_42, .map (some db), .slice p82 n84 c83, .slice p88 n90 c89, .slice p94 n96 c95] 156 (0, 0)), .row 31 1 p46 n48 c47 sB, .row 31 1 p52 n54 c53 pG, .row 3 1 p58 n60 c59 sC, .row 3 1 p64 n66 c65 sD, .row 31 1 p70 n72 c71 sE, .row 185 2 p76 n78 c77 sF, .row 9 1 p82 n84 c83 pK, .row 3 1 p88 n90 c89 sG, .row 3 1 p94 n96 c95 sH, .any (mapE (fun a : List UInt8 => Value.string (gstr a)) (fun a : Int => Value.int .i64 a) db m2_97)] ++ [.blk B2 (.cells #[.int .i64 0, .bool false, .slice none 0 0, .slice none 0 0, .slice none 0 0, .slice none 0 0, .slice none 0 0, .slice none 0 0, .int .i64 0] 123 (0, 0))]) A := hO
   have PE := Owns.split Ie
   have hca126 : Ch (bl [.blk mX (.cells #[.int .i64 k2_40, .bool b2_41, .slice p46 n48 c47, .slice p52 n54 c53, .slice p58 n60 c59, .slice p64 n66 c65, .slice p70 n72 c71, .slice p76 n78 c77, .int .i64 k2_42, .map (some db), .slice p82 n84 c83, .slice p88 n90 c89, .slice p94 n96 c95] 156 (0, 0)), .row 31 1 p46 n48 c47 sB, .row 31 1 p52 n54 c53 pG, .row 3 1 p58 n60 c59 sC, .row 3 1 p64 n66 c65 sD, .row 31 1 p70 n72 c71 sE, .row 185 2 p76 n78 c77 sF, .row 9 1 p82 n84 c83 pK, .row 3 1 p88 n90 c89 sG, .row 3 1 p94 n96 c95 sH, .any (mapE (fun a : List UInt8 => Value.string (gstr a)) (fun a : Int => Value.int .i64 a) db m2_97), .blk B2 (.cells #[.int .i64 0, .bool false, .slice none 0 0, .slice none 0 0, .slice none 0 0, .slice none 0 0, .slice none 0 0, .slice none 0 0, .int .i64 0] 123 (0, 0))] ++ A) w99 (bl [.blk mX (.cells #[.int .i64 k2_40, .bool b2_41, .slice p46 n48 c47, .slice p52 n54 c53, .slice p58 n60 c59, .slice p64 n66 c65, .slice p70 n72 c71, .slice p76 n78 c77, .int .i64 k2_42, .map (some db), .slice p82 n84 c83, .slice p88 n90 c89, .slice p94 n96 c95] 156 (0, 0)), .row 31 1 p46 n48 c47 sB, .row 31 1 p52 n54 c53 pG, .row 3 1 p58 n60 c59 sC, .row 3 1 p64 n66 c65 sD, .row 31 1 p70 n72 c71 sE, .row 185 2 p76 n78 c77 sF, .row 9 1 p82 n84 c83 pK, .row 3 1 p88 n90 c89 sG, .row 3 1 p94 n96 c95 sH, .any (mapE (fun a : List UInt8 => Value.string (gstr a)) (fun a : Int => Value.int .i64 a) db m2_97)] ++ (bl [.blk B2 (.cells #[.int .i64 0, .bool false, .slice none 0 0, .slice none 0 0, .slice none 0 0, .slice none 0 0, .slice none 0 0, .slice none 0 0, .int .i64 0] 123 (0, 0))] ++ A)) w99 := Ch.assoc' [.blk mX (.cells #[.int .i64 k2_40, .bool b2_41, .slice p46 n48 c47, .slice p52 n54 c53, .slice p58 n60 c59, .slice p64 n66 c65, .slice p70 n72 c71, .slice p76 n78 c77, .int .i64 k2_42, .map (some db), .slice p82 n84 c83, .slice p88 n90 c89, .slice p94 n96 c95] 156 (0, 0)), .row 31 1 p46 n48 c47 sB, .row 31 1 p52 n54 c53 pG, .row 3 1 p58 n60 c59 sC, .row 3 1 p64 n66 c65 sD, .row 31 1 p70 n72 c71 sE, .row 185 2 p76 n78 c77 sF, .row 9 1 p82 n84 c83 pK, .row 3 1 p88 n90 c89 sG, .row 3 1 p94 n96 c95 sH, .any (mapE (fun a : List UInt8 => Value.string (gstr a)) (fun a : Int => Value.int .i64 a) db m2_97)] [.blk B2 (.cells #[.int .i64 0, .bool false, .slice none 0 0, .slice none 0 0, .slice none 0 0, .slice none 0 0, .slice none 0 0, .slice none 0 0, .int .i64 0] 123 (0, 0))] A w99
   replace Br := Br.ch gQ.ch
   replace xe := xe.ch gQ.ch
   replace vR := vR.ch gQ.ch
   replace tJ := tJ.ch gQ.ch
   replace tN := tN.ch gQ.ch
   replace nt := nt.ch gQ.ch
   replace tt := tt.ch gQ.ch
   replace kj := kj.ch gQ.ch
   refine GoR.call (J0a body133 rfl (walk_enumerate_run_process (a0 := (⟨(⟨k2_40, b2_41, d_43, d_49, d_55, d_61, d_67, d_73, k2_42⟩ : Enum), m2_97, d_79, d_85, d_91⟩ : run)) PE (Br.ch hca126) (ww.ch hca126) (xe.ch hca126) (vR.ch hca126) (tJ.ch hca126) (tN.ch hca126) (nt.ch hca126) (tt.ch hca126) (kj.ch hca126) H)) rfl rfl ?_
   intro Yo CE
   refine exE fun r127 => exE fun q128 => exE fun iv => exE fun iw => exE fun iA => exE fun mH => exE fun gU => exE fun gV => exE fun gW => exE fun lX => exE fun gL => exE fun gM => exE fun gN => exE fun lp => exE fun iB => exE fun iC => exE fun iD => exE fun mI => exE fun gX => exE fun gY => exE fun g5 => exE fun lY => exE fun g6 => exE fun g7 => exE fun g8 => exE fun l5 => exE fun kB => exE fun kC => exE fun kD => exE fun sr => exE fun jF => exE fun jG => exE fun jH => exE fun qb => exE fun jI => exE fun jJ => exE fun jK => exE fun qc => andE fun hv134 => andE fun hN131 => andE fun mJ => andE fun l7 => andE fun lr => andE fun mK => andE fun l8 => andE fun l9 => andE fun ss => andE fun qd => andE fun qe => andE fun hF132 => fun H => ?_
   subst hv134
   have mq : Stp w0.heap.size A w99 [.blk mX (.cells #[.int .i64 k2_40, .bool b2_41, .slice p46 n48 c47, .slice p52 n54 c53, .slice p58 n60 c59, .slice p64 n66 c65, .slice p70 n72 c71, .slice p76 n78 c77, .int .i64 k2_42, .map (some db), .slice p82 n84 c83, .slice p88 n90 c89, .slice p94 n96 c95] 156 (0, 0)), .row 31 1 p46 n48 c47 sB, .row 31 1 p52 n54 c53 pG, .row 3 1 p58 n60 c59 sC, .row 3 1 p64 n66 c65 sD, .row 31 1 p70 n72 c71 sE, .row 185 2 p76 n78 c77 sF, .row 9 1 p82 n84 c83 pK, .row 3 1 p88 n90 c89 sG, .row 3 1 p94 n96 c95 sH, .any (mapE (fun a : List UInt8 => Value.string (gstr a)) (fun a : Int => Value.int .i64 a) db m2_97), .blk B2 (.cells #[.int .i64 0, .bool false, .slice none 0 0, .slice none 0 0, .slice none 0 0, .slice none 0 0, .slice none 0 0, .slice none 0 0, .int .i64 0] 123 (0, 0))] CE [.blk mX (.cells #[.int .i64 q128.Enum.Points, .bool q128.Enum.Monoid, .slice iw iv iA, .slice gV gU gW, .slice gM gL gN, .slice iC iB iD, .slice gY gX g5, .slice g7 g6 g8, .int .i64 q128.Enum.Done, .map (some db), .slice kC kB kD, .slice jG jF jH, .slice jJ jI jK] 156 (0, 0)), .row 31 1 iw iv iA mH, .row 31 1 gV gU gW lX, .row 3 1 gM gL gN lp, .row 3 1 iC iB iD mI, .row 31 1 gY gX g5 lY, .row 185 2 g7 g6 g8 l5, .row 9 1 kC kB kD sr, .row 3 1 jG jF jH qb, .row 3 1 jJ jI jK qc, .any (mapE (fun a : List UInt8 => Value.string (gstr a)) (fun a : Int => Value.int .i64 a) db q128.number), .blk B2 (.cells #[.int .i64 0, .bool false, .slice none 0 0, .slice none 0 0, .slice none 0 0, .slice none 0 0, .slice none 0 0, .slice none 0 0, .int .i64 0] 123 (0, 0))] := Stp.join Ie hN131 hF132
   replace hO := mq.own
   have hca135 : Ch (bl [.blk mX (.cells #[.int .i64 q128.Enum.Points, .bool q128.Enum.Monoid, .slice iw iv iA, .slice gV gU gW, .slice gM gL gN, .slice iC iB iD, .slice gY gX g5, .slice g7 g6 g8, .int .i64 q128.Enum.Done, .map (some db), .slice kC kB kD, .slice jG jF jH, .slice jJ jI jK] 156 (0, 0)), .row 31 1 iw iv iA mH, .row 31 1 gV gU gW lX, .row 3 1 gM gL gN lp, .row 3 1 iC iB iD mI, .row 31 1 gY gX g5 lY, .row 185 2 g7 g6 g8 l5, .row 9 1 kC kB kD sr, .row 3 1 jG jF jH qb, .row 3 1 jJ jI jK qc, .any (mapE (fun a : List UInt8 => Value.string (gstr a)) (fun a : Int => Value.int .i64 a) db q128.number)] ++ (bl [.blk B2 (.cells #[.int .i64 0, .bool false, .slice none 0 0, .slice none 0 0, .slice none 0 0, .slice none 0 0, .slice none 0 0, .slice none 0 0, .int .i64 0] 123 (0, 0))] ++ A)) CE (bl [.blk mX (.cells #[.int .i64 q128.Enum.Points, .bool q128.Enum.Monoid, .slice iw iv iA, .slice gV gU gW, .slice gM gL gN, .slice iC iB iD, .slice gY gX g5, .slice g7 g6 g8, .int .i64 q128.Enum.Done, .map (some db), .slice kC kB kD, .slice jG jF jH, .slice jJ jI jK] 156 (0, 0)), .row 31 1 iw iv iA mH, .row 31 1 gV gU gW lX, .row 3 1 gM gL gN lp, .row 3 1 iC iB iD mI, .row 31 1 gY gX g5 lY, .row 185 2 g7 g6 g8 l5, .row 9 1 kC kB kD sr, .row 3 1 jG jF jH qb, .row 3 1 jJ jI jK qc, .any (mapE (fun a : List UInt8 => Value.string (gstr a)) (fun a : Int => Value.int .i64 a) db q128.number), .blk B2 (.cells #[.int .i64 0, .bool false, .slice none 0 0, .slice none 0 0, .slice none 0 0, .slice none 0 0, .slice none 0 0, .slice none 0 0, .int .i64 0] 123 (0, 0))] ++ A) CE := Ch.assoc [.blk mX (.cells #[.int .i64 q128.Enum.Points, .bool q128.Enum.Monoid, .slice iw iv iA, .slice gV gU gW, .slice gM gL gN, .slice iC iB iD, .slice gY gX g5, .slice g7 g6 g8, .int .i64 q128.Enum.Done, .map (some db), .slice kC kB kD, .slice jG jF jH, .slice jJ jI jK] 156 (0, 0)), .row 31 1 iw iv iA mH, .row 31 1 gV gU gW lX, .row 3 1 gM gL gN lp, .row 3 1 iC iB iD mI, .row 31 1 gY gX g5 lY, .row 185 2 g7 g6 g8 l5, .row 9 1 kC kB kD sr, .row 3 1 jG jF jH qb, .row 3 1 jJ jI jK qc, .any (mapE (fun a : List UInt8 => Value.string (gstr a)) (fun a : Int => Value.int .i64 a) db q128.number)] [.blk B2 (.cells #[.int .i64 0, .bool false, .slice none 0 0, .slice none 0 0, .slice none 0 0, .slice none 0 0, .slice none 0 0, .slice none 0 0, .int .i64 0] 123 (0, 0))] A CE
   refine za rfl (zn (zq (zr (zm rfl ?_))))
   by_cases E0 : r127 = (0 : Int)
   ·replace H := ifp E0 H
    refine zo (fun w => opB (J0g rfl rfl w) (ndT E0)) (zn (zf rfl rfl (zk ?_)))
    refine Go1.inBlock ?_
    replace mJ := mJ.ch hca135
    replace l7 := l7.ch hca135
    replace lr := lr.ch hca135
    replace mK := mK.ch hca135
    replace l8 := l8.ch hca135
    replace l9 := l9.ch hca135
    replace ss := ss.ch hca135
    replace qd := qd.ch hca135
    replace qe := qe.ch hca135
    replace hB := (hB.trans gQ.fr).trans mq.fr
    exact hX2 _ H _ _ ⟨iv, iw, iA, mH, gU, gV, gW, lX, gL, gM, gN, lp, iB, iC, iD, mI, gX, gY, g5, lY, g6, g7, g8, l5, kB, kC, kD, sr, jF, jG, jH, qb, jI, jJ, jK, qc, ⟨rfl, rfl, trivial⟩, hO, mJ, l7, lr, mK, l8, l9, ss, qd, qe, hB⟩
   replace H := ifn E0 H
   refine zo (fun w => opB (J0g rfl rfl w) (ndF E0)) (zn (zt rfl rfl (zq (zr (zo (J0s Try.underlying123 ti123 (pl := [(0, 1), (1, 1), (2, 1), (3, 1), (4, 1), (5, 1), (6, 1), (7, 1), (8, 1)]) (vs := []) (cs := #[.int .i64 0, .bool false, .slice none 0 0, .slice none 0 0, .slice none 0 0, .slice none 0 0, .slice none 0 0, .slice none 0 0, .int .i64 0]) (by kernel_rfl) rfl (by kernel_rfl)) ?_)))))
   refine zm rfl ?_
   have zz := J0b (us := [.int .i64 0, .bool false, .slice none 0 0, .slice none 0 0, .slice none 0 0, .slice none 0 0, .slice none 0 0, .slice none 0 0, .int .i64 0]) (o := 0) (cs' := #[.int .i64 0, .bool false, .slice none 0 0, .slice none 0 0, .slice none 0 0, .slice none 0 0, .slice none 0 0, .slice none 0 0, .int .i64 0]) 11 hO rfl rfl (Nat.le_of_ble_eq_true rfl) rfl
   obtain ⟨Yp, su, KV⟩ := zz
   dsimp only [sS, sZ] at su
   refine zg (KV ti123 (by exact rfl) (by exact rfl) rfl) ?_
   replace hO := su.own
   refine za rfl (zn ?_)
   refine Go1.retC2 Try.func101 rfl rfl (J0h (vs := [.int .i64 0, .bool false, .slice none 0 0, .slice none 0 0, .slice none 0 0, .slice none 0 0, .slice none 0 0, .slice none 0 0, .int .i64 0]) 11 hO rfl rfl Try.underlying123 rfl ti123) ?_
   replace hB := ((hB.trans gQ.fr).trans mq.fr).trans su.fr
   exact ⟨(⟨(0 : Int), false, ([] : List (List Int)), ([] : List (List Int)), ([] : List Int), ([] : List Int), ([] : List (List Int)), ([] : List Rule), (0 : Int)⟩ : Enum), r127, none, 0, none, 0, none, 0, none, 0, none, 0, none, 0, rfl, hB.same, (ISl.null _ _ _), (ISl.null _ _ _), (ISl.null _ _ _), (ISl.null _ _ _), (ISl.null _ _ _), (ISl.null _ _ _), H⟩
  replace H := ifn h38 H
  refine zo (fun w => opB (J0g rfl rfl w) (ndF h38)) (zn (zt rfl rfl (zq (zr (zo (J0s Try.underlying123 ti123 (pl := [(0, 1), (1, 1), (2, 1), (3, 1), (4, 1), (5, 1), (6, 1), (7, 1), (8, 1)]) (vs := []) (cs := #[.int .i64 0, .bool false, .slice none 0 0, .slice none 0 0, .slice none 0 0, .slice none 0 0, .slice none 0 0, .slice none 0 0, .int .i64 0]) (by kernel_rfl) rfl (by kernel_rfl)) ?_)))))
  refine zm rfl ?_
  have zz := J0b (us := [.int .i64 0, .bool false, .slice none 0 0, .slice none 0 0, .slice none 0 0, .slice none 0 0, .slice none 0 0, .slice none 0 0, .int .i64 0]) (o := 0) (cs' := #[.int .i64 0, .bool false, .slice none 0 0, .slice none 0 0, .slice none 0 0, .slice none 0 0, .slice none 0 0, .slice none 0 0, .int .i64 0]) 11 hO rfl rfl (Nat.le_of_ble_eq_true rfl) rfl
  obtain ⟨Yq, jt, KW⟩ := zz
  dsimp only [sS, sZ] at jt
  refine zg (KW ti123 (by exact rfl) (by exact rfl) rfl) ?_
  replace hO := jt.own
  refine za rfl (zn ?_)
  refine Go1.retC2 Try.func101 rfl rfl (J0h (vs := [.int .i64 0, .bool false, .slice none 0 0, .slice none 0 0, .slice none 0 0, .slice none 0 0, .slice none 0 0, .slice none 0 0, .int .i64 0]) 11 hO rfl rfl Try.underlying123 rfl ti123) ?_
  replace hB := ((hB.trans c5.fr).trans mU.fr).trans jt.fr
  exact ⟨(⟨(0 : Int), false, ([] : List (List Int)), ([] : List (List Int)), ([] : List Int), ([] : List Int), ([] : List (List Int)), ([] : List Rule), (0 : Int)⟩ : Enum), r8, none, 0, none, 0, none, 0, none, 0, none, 0, none, 0, rfl, hB.same, (ISl.null _ _ _), (ISl.null _ _ _), (ISl.null _ _ _), (ISl.null _ _ _), (ISl.null _ _ _), (ISl.null _ _ _), H⟩
theorem body134 : Body Try.prog 134 := ⟨Try.f134, Try.func134, rfl, by kernel_rfl⟩
theorem walk_slices_Index_int {A : List Nat} {w0 : World} {nM : Option Addr} {sx : Nat} {s_ : List Int} {v : Int} (hA : ∀ b ∈ A, b < w0.heap.size) (iP : ISl (Rp.int .i64) A w0 nM sx s_) {K : Int → Prop} (H : J1e s_ v K) :
    CallsV Try.prog 134 #[.slice nM s_.length sx, .int .i64 v] w0 (fun v w' => ∃ (r0 : Int), v = .int .i64 r0 ∧ Same w0 w' ∧ K r0) := by
 refine CallsV.of (l := [.slice nM s_.length sx, .int .i64 v]) Try.func134 rfl Try.ntmps134 rfl ?_
 have hO := Owns.start hA
 have hB := Fr.refl (bl []) w0
 unfold J1e at H
 refine zq (zr (za rfl (zn (zq (zq ?_)))))
 refine zr (zm rfl (zo (J0d Try.underlying31 rfl) ?_))
 replace iP := iP.ch (Ch.start A w0)
 replace H := H iP.bd
 refine zm rfl (zn (zb ?_))
 refine Go1.loopW (S := Nat) (fun s σ w => agrees σ [(0, .slice nM s_.length sx), (1, .int .i64 v), (7, .int .i64 (s_.length : Int)), (8, .int .i64 (s : Int))] ∧ Owns w0.heap.size w [] A ∧ ISl (Rp.int .i64) (bl [] ++ A) w nM sx s_ ∧ Fr (bl []) w0 (bl []) w) H ⟨⟨rfl, rfl, rfl, rfl, trivial⟩, hO, iP, hB⟩ ?_
 intro X1 k1_2
 intro H hX1 σ w1
 refine andE fun hag => andE fun hO => andE fun iP => fun hB => ?_
 refine Go1.keep [(0, .slice nM s_.length sx), (1, .int .i64 v), (7, .int .i64 (s_.length : Int)), (8, .int .i64 (k1_2 : Int))] hag ?_
 refine zq (zr ?_)
 by_cases h3 : (k1_2 : Int) < (s_.length : Int)
 ·replace H := ifp h3 H
  refine zo (fun w => opB (J08 rfl rfl w) (decide_eq_true h3)) (zn (zq (zt rfl rfl (zk (zq ?_)))))
  refine zb (zq (zr (zm rfl (za rfl (zn ?_)))))
  refine zq (zr (zm rfl (zm rfl (zm rfl ?_))))
  obtain ⟨h4, H⟩ := H
  obtain ⟨h5, H⟩ := H
  refine zo (J02 Try.underlying31 ti3 rfl rfl h4 h5 (iP.some_ h4 h5)) (zs (ldInt iP h4 h5 Try.underlying3 rfl rfl) ?_)
  by_cases h6 : v = (ix s_ (k1_2 : Int))
  ·replace H := ifp h6 H
   refine zo (fun w => opB (J0A rfl rfl w) (decide_eq_true h6)) (zn (zt rfl rfl (zq (zr (zm rfl ?_)))))
   refine za rfl (zn ?_)
   refine Go1.ret1 Try.func134 rfl ?_
   exact ⟨(k1_2 : Int), rfl, hB.same, H⟩
  replace H := ifn h6 H
  refine zo (fun w => opB (J0A rfl rfl w) (decide_eq_false h6)) (zn (zf rfl rfl (zk ?_)))
  refine Go1.inBlock ?_
  refine zr (zo (J0c rfl rfl (wrap_i64 (natbd h3 iP.bd))) (zm rfl (zn ?_)))
  exact hX1 _ H _ _ ⟨⟨rfl, rfl, rfl, rfl, trivial⟩, hO, iP, hB⟩
 replace H := ifn h3 H
 refine zo (fun w => opB (J08 rfl rfl w) (decide_eq_false h3)) (zn (zq (zf rfl rfl ?_)))
 refine Go1.exit rfl ?_
 refine zq (zr (za rfl (zn ?_)))
 refine Go1.ret1 Try.func134 rfl ?_
 exact ⟨(-1 : Int), rfl, hB.same, H⟩
theorem body102 : Body Try.prog 102 := ⟨Try.f102, Try.func102, rfl, by kernel_rfl⟩
theorem walk_slices_Contains_int {A : List Nat} {w0 : World} {nM : Option Addr} {sx : Nat} {s_ : List Int} {v : Int} (hA : ∀ b ∈ A, b < w0.heap.size) (iP : ISl (Rp.int .i64) A w0 nM sx s_) {K : Bool → Prop} (H : J0E s_ v K) :
    CallsV Try.prog 102 #[.slice nM s_.length sx, .int .i64 v] w0 (fun v w' => ∃ (r0 : Bool), v = .bool r0 ∧ Same w0 w' ∧ K r0) := by
 refine CallsV.of (l := [.slice nM s_.length sx, .int .i64 v]) Try.func102 rfl Try.ntmps102 rfl ?_
 have hO := Owns.start hA
 have hB := Fr.refl (bl []) w0
 unfold J0E at H
 refine zq (zr (za rfl (zn (zq (zr ?_)))))
 refine zm rfl (zm rfl ?_)
 replace iP := iP.ch (Ch.start A w0)
 refine GoR.call (J0a body134 rfl (walk_slices_Index_int hO.lt iP H)) rfl rfl ?_
 rintro v5 w2 ⟨r1, rfl, hs3, H⟩
 have xH := Stp.same hO hs3
 replace hO := xH.own
 by_cases h7 : (0 : Int) ≤ r1
 ·replace H := ifp h7 H
  refine zo (fun w => opB (J1n rfl rfl w) (decide_eq_true h7)) (za rfl (zn ?_))
  refine Go1.ret1 Try.func102 rfl ?_
  replace hB := hB.trans xH.fr
  exact ⟨true, rfl, hB.same, H⟩
 replace H := ifn h7 H
 refine zo (fun w => opB (J1n rfl rfl w) (decide_eq_false h7)) (za rfl (zn ?_))
 refine Go1.ret1 Try.func102 rfl ?_
 replace hB := hB.trans xH.fr
 exact ⟨false, rfl, hB.same, H⟩
theorem body103 : Body Try.prog 103 := ⟨Try.f103, Try.func103, rfl, by kernel_rfl⟩
theorem walk_syntactic_part_accept {A : List Nat} {w0 : World} {vH : Option Addr} {vI : Nat} {p_f : Option Addr} {c_f : Nat} {p : part} {f : List Int} (hA : ∀ b ∈ A, b < w0.heap.size) (qB : ISl (Rp.bool) A w0 vH vI p.final) (h_f : ISl (Rp.int .i64) A w0 p_f c_f f) {K : Bool → Prop} (H : J0G p f K) :
    CallsV Try.prog 103 #[.agg #[.int .i64 p.start, .slice vH p.final.length vI, .int .i64 p.shift], .slice p_f f.length c_f] w0 (fun v w' => ∃ (r0 : Bool), v = .bool r0 ∧ Same w0 w' ∧ K r0) := by
 refine CallsV.of (l := [.agg #[.int .i64 p.start, .slice vH p.final.length vI, .int .i64 p.shift], .slice p_f f.length c_f]) Try.func103 rfl Try.ntmps103 rfl ?_
 have hO := Owns.start hA
 have hB := Fr.refl (bl []) w0
 unfold J0G at H
 refine zq (zr ?_)
 have zz := obox (t := 120) (v := .agg #[.int .i64 p.start, .slice vH p.final.length vI, .int .i64 p.shift]) (cs := #[.int .i64 p.start, .slice vH p.final.length vI, .int .i64 p.shift]) hO rfl
 obtain ⟨w1, B2, c5, hs4, iQ⟩ := zz
 refine zg (iQ rfl) ?_
 replace hO := c5.own
 refine za rfl (zn (zq ?_))
 refine Go1.drawS 0 [(0, .pure), (1, .stable), (2, .pure), (3, .pure), (4, .stable), (5, .pure), (6, .stable), (7, .pure), (8, .stable), (9, .pure), (10, .pure), (11, .stable), (12, .pure)] mixed (by kernel_rfl) ?_
 intro w7 hs8
 have f7 := Stp.same hO hs8
 replace hO := f7.own
 refine GoQ.pure rfl (J00 Try.underlying120 rfl ti22 rfl (by decide)) rfl rfl ?_
 refine GoQ.stable rfl (oblk (i := 1) 0 hO rfl rfl Try.underlying22 rfl rfl) rfl rfl ?_
 refine GoQ.pure rfl (J03 rfl) rfl rfl ?_
 refine GoQ.pure rfl (J00 Try.underlying120 rfl ti3 rfl (by decide)) rfl rfl ?_
 refine GoQ.stable rfl (oblk (i := 0) 0 hO rfl rfl Try.underlying3 rfl rfl) rfl rfl ?_
 obtain ⟨h10, H⟩ := H
 obtain ⟨h11, H⟩ := H
 have Z1 := ((Ch.start A w0).trans c5.ch).trans f7.ch
 replace h_f := h_f.ch Z1
 refine GoQ.pure rfl (J02 Try.underlying31 ti3 rfl rfl h10 h11 (h_f.some_ h10 h11)) rfl rfl ?_
 refine GoQ.stable rfl (ldInt h_f h10 h11 Try.underlying3 rfl rfl) rfl rfl ?_
 refine GoQ.pure rfl (J00 Try.underlying120 rfl ti3 rfl (by decide)) rfl rfl ?_
 refine GoQ.stable rfl (oblk (i := 2) 0 hO rfl rfl Try.underlying3 rfl rfl) rfl rfl ?_
 obtain ⟨h12, H⟩ := H
 refine GoQ.pure rfl (op_sub rfl rfl (wrap_i64 h12)) rfl rfl ?_
 obtain ⟨h13, H⟩ := H
 obtain ⟨h14, H⟩ := H
 replace qB := qB.ch Z1
 refine GoQ.pure rfl (J02 Try.underlying22 ti4 rfl rfl h13 h14 (qB.some_ h13 h14)) rfl rfl ?_
 refine GoQ.stable rfl (ldBool qB h13 h14 Try.underlying4 rfl rfl) rfl rfl ?_
 refine GoQ.pure rfl (J0e rfl) rfl rfl ?_
 refine GoQ.nil ?_
 refine Go1.ret1 Try.func103 rfl ?_
 replace hB := (hB.trans c5.fr).trans f7.fr
 exact ⟨ix p.final ((ix f p.start) - p.shift), rfl, hB.same, H⟩
end Sg
