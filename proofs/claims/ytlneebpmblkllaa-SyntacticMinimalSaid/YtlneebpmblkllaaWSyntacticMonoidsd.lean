/- -/
import Derived.Test.YtlneebpmblkllaaTi
import Derived.Test.YtlneebpmblkllaaWSyntacticMonoidsb
import Derived.Test.YtlneebpmblkllaaWSyntacticMonoidsc
import Derived.Test.YtlneebpmblkllaaAl
namespace Sg
open Go Go.RowKit Go.Proofs
set_option linter.unusedVariables false
set_option linter.unusedSimpArgs false
set_option maxRecDepth 100000
set_option maxHeartbeats 4000000
theorem body159 : Body Try.prog 159 := ⟨Try.f159, Try.func159, rfl, by kernel_rfl⟩
theorem body160 : Body Try.prog 160 := ⟨Try.f160, Try.func160, rfl, by kernel_rfl⟩
theorem body133 : Body Try.prog 133 := ⟨Try.f133, Try.func133, rfl, by kernel_rfl⟩
theorem walk_enumerate_run_process {A : List Nat} {n0 : Nat} {w0 : World} {dQ : Nat} {aD : Nat} {aE : Option Addr} {aF : Nat} {cw : List Value} {cJ : Nat} {cK : Option Addr} {cL : Nat} {dS : List Value} {cy : Nat} {cz : Option Addr} {cA : Nat} {dN : List Value} {c6 : Nat} {c7 : Option Addr} {c8 : Nat} {d5 : List Value} {aL : Nat} {aQ : Option Addr} {aR : Nat} {ck : List Value} {cM : Nat} {cN : Option Addr} {cO : Nat} {dT : List Value} {aS : Nat} {dH : Nat} {dI : Option Addr} {dJ : Nat} {fT : List Value} {dB : Nat} {dC : Option Addr} {dD : Nat} {fy : List Value} {a9 : Nat} {ba : Option Addr} {bc : Nat} {dk : List Value} {a0 : run} (hO : Owns n0 w0 [.blk dQ (.cells #[.int .i64 a0.Enum.Points, .bool a0.Enum.Monoid, .slice aE aD aF, .slice cK cJ cL, .slice cz cy cA, .slice c7 c6 c8, .slice aQ aL aR, .slice cN cM cO, .int .i64 a0.Enum.Done, .map (some aS), .slice dI dH dJ, .slice dC dB dD, .slice ba a9 bc] 156 (0, 0)), .row 31 1 aE aD aF cw, .row 31 1 cK cJ cL dS, .row 3 1 cz cy cA dN, .row 3 1 c7 c6 c8 d5, .row 31 1 aQ aL aR ck, .row 185 2 cN cM cO dT, .row 9 1 dI dH dJ fT, .row 3 1 dC dB dD fy, .row 3 1 ba a9 bc dk, .any (mapE (fun a : List UInt8 => Value.string (gstr a)) (fun a : Int => Value.int .i64 a) aS a0.number)] A) (ad : Els (Rp.sl (Rp.int .i64)) (bl [.blk dQ (.cells #[.int .i64 a0.Enum.Points, .bool a0.Enum.Monoid, .slice aE aD aF, .slice cK cJ cL, .slice cz cy cA, .slice c7 c6 c8, .slice aQ aL aR, .slice cN cM cO, .int .i64 a0.Enum.Done, .map (some aS), .slice dI dH dJ, .slice dC dB dD, .slice ba a9 bc] 156 (0, 0)), .row 31 1 aE aD aF cw, .row 31 1 cK cJ cL dS, .row 3 1 cz cy cA dN, .row 3 1 c7 c6 c8 d5, .row 31 1 aQ aL aR ck, .row 185 2 cN cM cO dT, .row 9 1 dI dH dJ fT, .row 3 1 dC dB dD fy, .row 3 1 ba a9 bc dk, .any (mapE (fun a : List UInt8 => Value.string (gstr a)) (fun a : Int => Value.int .i64 a) aS a0.number)] ++ A) w0 cw a0.Enum.Gens) (tf : Els (Rp.sl (Rp.int .i64)) (bl [.blk dQ (.cells #[.int .i64 a0.Enum.Points, .bool a0.Enum.Monoid, .slice aE aD aF, .slice cK cJ cL, .slice cz cy cA, .slice c7 c6 c8, .slice aQ aL aR, .slice cN cM cO, .int .i64 a0.Enum.Done, .map (some aS), .slice dI dH dJ, .slice dC dB dD, .slice ba a9 bc] 156 (0, 0)), .row 31 1 aE aD aF cw, .row 31 1 cK cJ cL dS, .row 3 1 cz cy cA dN, .row 3 1 c7 c6 c8 d5, .row 31 1 aQ aL aR ck, .row 185 2 cN cM cO dT, .row 9 1 dI dH dJ fT, .row 3 1 dC dB dD fy, .row 3 1 ba a9 bc dk, .any (mapE (fun a : List UInt8 => Value.string (gstr a)) (fun a : Int => Value.int .i64 a) aS a0.number)] ++ A) w0 dS a0.Enum.Elems) (sw : Els (Rp.int .i64) (bl [.blk dQ (.cells #[.int .i64 a0.Enum.Points, .bool a0.Enum.Monoid, .slice aE aD aF, .slice cK cJ cL, .slice cz cy cA, .slice c7 c6 c8, .slice aQ aL aR, .slice cN cM cO, .int .i64 a0.Enum.Done, .map (some aS), .slice dI dH dJ, .slice dC dB dD, .slice ba a9 bc] 156 (0, 0)), .row 31 1 aE aD aF cw, .row 31 1 cK cJ cL dS, .row 3 1 cz cy cA dN, .row 3 1 c7 c6 c8 d5, .row 31 1 aQ aL aR ck, .row 185 2 cN cM cO dT, .row 9 1 dI dH dJ fT, .row 3 1 dC dB dD fy, .row 3 1 ba a9 bc dk, .any (mapE (fun a : List UInt8 => Value.string (gstr a)) (fun a : Int => Value.int .i64 a) aS a0.number)] ++ A) w0 dN a0.Enum.Prefix) (tK : Els (Rp.int .i64) (bl [.blk dQ (.cells #[.int .i64 a0.Enum.Points, .bool a0.Enum.Monoid, .slice aE aD aF, .slice cK cJ cL, .slice cz cy cA, .slice c7 c6 c8, .slice aQ aL aR, .slice cN cM cO, .int .i64 a0.Enum.Done, .map (some aS), .slice dI dH dJ, .slice dC dB dD, .slice ba a9 bc] 156 (0, 0)), .row 31 1 aE aD aF cw, .row 31 1 cK cJ cL dS, .row 3 1 cz cy cA dN, .row 3 1 c7 c6 c8 d5, .row 31 1 aQ aL aR ck, .row 185 2 cN cM cO dT, .row 9 1 dI dH dJ fT, .row 3 1 dC dB dD fy, .row 3 1 ba a9 bc dk, .any (mapE (fun a : List UInt8 => Value.string (gstr a)) (fun a : Int => Value.int .i64 a) aS a0.number)] ++ A) w0 d5 a0.Enum.Last) (ae : Els (Rp.sl (Rp.int .i64)) (bl [.blk dQ (.cells #[.int .i64 a0.Enum.Points, .bool a0.Enum.Monoid, .slice aE aD aF, .slice cK cJ cL, .slice cz cy cA, .slice c7 c6 c8, .slice aQ aL aR, .slice cN cM cO, .int .i64 a0.Enum.Done, .map (some aS), .slice dI dH dJ, .slice dC dB dD, .slice ba a9 bc] 156 (0, 0)), .row 31 1 aE aD aF cw, .row 31 1 cK cJ cL dS, .row 3 1 cz cy cA dN, .row 3 1 c7 c6 c8 d5, .row 31 1 aQ aL aR ck, .row 185 2 cN cM cO dT, .row 9 1 dI dH dJ fT, .row 3 1 dC dB dD fy, .row 3 1 ba a9 bc dk, .any (mapE (fun a : List UInt8 => Value.string (gstr a)) (fun a : Int => Value.int .i64 a) aS a0.number)] ++ A) w0 ck a0.Enum.Right) (tg : Els (rpRule) (bl [.blk dQ (.cells #[.int .i64 a0.Enum.Points, .bool a0.Enum.Monoid, .slice aE aD aF, .slice cK cJ cL, .slice cz cy cA, .slice c7 c6 c8, .slice aQ aL aR, .slice cN cM cO, .int .i64 a0.Enum.Done, .map (some aS), .slice dI dH dJ, .slice dC dB dD, .slice ba a9 bc] 156 (0, 0)), .row 31 1 aE aD aF cw, .row 31 1 cK cJ cL dS, .row 3 1 cz cy cA dN, .row 3 1 c7 c6 c8 d5, .row 31 1 aQ aL aR ck, .row 185 2 cN cM cO dT, .row 9 1 dI dH dJ fT, .row 3 1 dC dB dD fy, .row 3 1 ba a9 bc dk, .any (mapE (fun a : List UInt8 => Value.string (gstr a)) (fun a : Int => Value.int .i64 a) aS a0.number)] ++ A) w0 dT a0.Enum.Rules) (wF : Els (Rp.str) (bl [.blk dQ (.cells #[.int .i64 a0.Enum.Points, .bool a0.Enum.Monoid, .slice aE aD aF, .slice cK cJ cL, .slice cz cy cA, .slice c7 c6 c8, .slice aQ aL aR, .slice cN cM cO, .int .i64 a0.Enum.Done, .map (some aS), .slice dI dH dJ, .slice dC dB dD, .slice ba a9 bc] 156 (0, 0)), .row 31 1 aE aD aF cw, .row 31 1 cK cJ cL dS, .row 3 1 cz cy cA dN, .row 3 1 c7 c6 c8 d5, .row 31 1 aQ aL aR ck, .row 185 2 cN cM cO dT, .row 9 1 dI dH dJ fT, .row 3 1 dC dB dD fy, .row 3 1 ba a9 bc dk, .any (mapE (fun a : List UInt8 => Value.string (gstr a)) (fun a : Int => Value.int .i64 a) aS a0.number)] ++ A) w0 fT a0.words) (vL : Els (Rp.int .i64) (bl [.blk dQ (.cells #[.int .i64 a0.Enum.Points, .bool a0.Enum.Monoid, .slice aE aD aF, .slice cK cJ cL, .slice cz cy cA, .slice c7 c6 c8, .slice aQ aL aR, .slice cN cM cO, .int .i64 a0.Enum.Done, .map (some aS), .slice dI dH dJ, .slice dC dB dD, .slice ba a9 bc] 156 (0, 0)), .row 31 1 aE aD aF cw, .row 31 1 cK cJ cL dS, .row 3 1 cz cy cA dN, .row 3 1 c7 c6 c8 d5, .row 31 1 aQ aL aR ck, .row 185 2 cN cM cO dT, .row 9 1 dI dH dJ fT, .row 3 1 dC dB dD fy, .row 3 1 ba a9 bc dk, .any (mapE (fun a : List UInt8 => Value.string (gstr a)) (fun a : Int => Value.int .i64 a) aS a0.number)] ++ A) w0 fy a0.behind) (ao : Els (Rp.int .i64) (bl [.blk dQ (.cells #[.int .i64 a0.Enum.Points, .bool a0.Enum.Monoid, .slice aE aD aF, .slice cK cJ cL, .slice cz cy cA, .slice c7 c6 c8, .slice aQ aL aR, .slice cN cM cO, .int .i64 a0.Enum.Done, .map (some aS), .slice dI dH dJ, .slice dC dB dD, .slice ba a9 bc] 156 (0, 0)), .row 31 1 aE aD aF cw, .row 31 1 cK cJ cL dS, .row 3 1 cz cy cA dN, .row 3 1 c7 c6 c8 d5, .row 31 1 aQ aL aR ck, .row 185 2 cN cM cO dT, .row 9 1 dI dH dJ fT, .row 3 1 dC dB dD fy, .row 3 1 ba a9 bc dk, .any (mapE (fun a : List UInt8 => Value.string (gstr a)) (fun a : Int => Value.int .i64 a) aS a0.number)] ++ A) w0 dk a0.single) {K : Int → run → Prop} (H : enumerate_run_process a0 K) :
    CallsV Try.prog 133 #[.pointer (some ⟨dQ, 0, none⟩)] w0 (fun v w' => ∃ (r0 : Int), ∃ (q : run), ∃ (bQ : Nat), ∃ (bS : Option Addr), ∃ (bT : Nat), ∃ (dn : List Value), ∃ (bB : Nat), ∃ (bC : Option Addr), ∃ (bD : Nat), ∃ (de : List Value), ∃ (bo : Nat), ∃ (bt : Option Addr), ∃ (bu : Nat), ∃ (cU : List Value), ∃ (bU : Nat), ∃ (bV : Option Addr), ∃ (bW : Nat), ∃ (dp : List Value), ∃ (bE : Nat), ∃ (bF : Option Addr), ∃ (bG : Nat), ∃ (dg : List Value), ∃ (bH : Nat), ∃ (bI : Option Addr), ∃ (bK : Nat), ∃ (dh : List Value), ∃ (cW : Nat), ∃ (cX : Option Addr), ∃ (cY : Nat), ∃ (dY : List Value), ∃ (cB : Nat), ∃ (cC : Option Addr), ∃ (cD : Nat), ∃ (dK : List Value), ∃ (cE : Nat), ∃ (cF : Option Addr), ∃ (cG : Nat), ∃ (dM : List Value), v = .int .i64 r0 ∧ (fun Z0 => Owns n0 w' Z0 A ∧ Els (Rp.sl (Rp.int .i64)) (bl Z0 ++ A) w' dn q.Enum.Gens ∧ Els (Rp.sl (Rp.int .i64)) (bl Z0 ++ A) w' de q.Enum.Elems ∧ Els (Rp.int .i64) (bl Z0 ++ A) w' cU q.Enum.Prefix ∧ Els (Rp.int .i64) (bl Z0 ++ A) w' dp q.Enum.Last ∧ Els (Rp.sl (Rp.int .i64)) (bl Z0 ++ A) w' dg q.Enum.Right ∧ Els (rpRule) (bl Z0 ++ A) w' dh q.Enum.Rules ∧ Els (Rp.str) (bl Z0 ++ A) w' dY q.words ∧ Els (Rp.int .i64) (bl Z0 ++ A) w' dK q.behind ∧ Els (Rp.int .i64) (bl Z0 ++ A) w' dM q.single ∧ Fr (bl [.blk dQ (.cells #[.int .i64 a0.Enum.Points, .bool a0.Enum.Monoid, .slice aE aD aF, .slice cK cJ cL, .slice cz cy cA, .slice c7 c6 c8, .slice aQ aL aR, .slice cN cM cO, .int .i64 a0.Enum.Done, .map (some aS), .slice dI dH dJ, .slice dC dB dD, .slice ba a9 bc] 156 (0, 0)), .row 31 1 aE aD aF cw, .row 31 1 cK cJ cL dS, .row 3 1 cz cy cA dN, .row 3 1 c7 c6 c8 d5, .row 31 1 aQ aL aR ck, .row 185 2 cN cM cO dT, .row 9 1 dI dH dJ fT, .row 3 1 dC dB dD fy, .row 3 1 ba a9 bc dk, .any (mapE (fun a : List UInt8 => Value.string (gstr a)) (fun a : Int => Value.int .i64 a) aS a0.number)]) w0 (bl Z0) w' ∧ K r0 q) [.blk dQ (.cells #[.int .i64 q.Enum.Points, .bool q.Enum.Monoid, .slice bS bQ bT, .slice bC bB bD, .slice bt bo bu, .slice bV bU bW, .slice bF bE bG, .slice bI bH bK, .int .i64 q.Enum.Done, .map (some aS), .slice cX cW cY, .slice cC cB cD, .slice cF cE cG] 156 (0, 0)), .row 31 1 bS bQ bT dn, .row 31 1 bC bB bD de, .row 3 1 bt bo bu cU, .row 3 1 bV bU bW dp, .row 31 1 bF bE bG dg, .row 185 2 bI bH bK dh, .row 9 1 cX cW cY dY, .row 3 1 cC cB cD dK, .row 3 1 cF cE cG dM, .any (mapE (fun a : List UInt8 => Value.string (gstr a)) (fun a : Int => Value.int .i64 a) aS q.number)]) := by
 refine CallsV.of (l := [.pointer (some ⟨dQ, 0, none⟩)]) Try.func133 rfl Try.ntmps133 rfl ?_
 have hB := Fr.refl (bl [.blk dQ (.cells #[.int .i64 a0.Enum.Points, .bool a0.Enum.Monoid, .slice aE aD aF, .slice cK cJ cL, .slice cz cy cA, .slice c7 c6 c8, .slice aQ aL aR, .slice cN cM cO, .int .i64 a0.Enum.Done, .map (some aS), .slice dI dH dJ, .slice dC dB dD, .slice ba a9 bc] 156 (0, 0)), .row 31 1 aE aD aF cw, .row 31 1 cK cJ cL dS, .row 3 1 cz cy cA dN, .row 3 1 c7 c6 c8 d5, .row 31 1 aQ aL aR ck, .row 185 2 cN cM cO dT, .row 9 1 dI dH dJ fT, .row 3 1 dC dB dD fy, .row 3 1 ba a9 bc dk, .any (mapE (fun a : List UInt8 => Value.string (gstr a)) (fun a : Int => Value.int .i64 a) aS a0.number)]) w0
 unfold enumerate_run_process at H
 refine zq (zr (za rfl (zn (zq (zr ?_)))))
 refine zm rfl (zo (op_nilCheck rfl) (zo (op_fieldAddr Try.underlying156 rfl ti123 rfl (by decide)) (zo (op_fieldAddr Try.underlying123 rfl ti3 rfl (by decide)) (zs (oblk (i := 8) 0 hO rfl rfl Try.underlying3 rfl rfl) (za rfl ?_)))))
 refine zn (zq (zr (zm rfl (zo (op_nilCheck rfl) (zo (op_fieldAddr Try.underlying156 rfl ti123 rfl (by decide)) ?_)))))
 refine zo (op_fieldAddr Try.underlying123 rfl ti23 rfl (by decide)) (zs (oblk (i := 2) 0 hO rfl rfl Try.underlying23 rfl rfl) (zo (op_lenN Try.underlying23 rfl (ad.neq hO 1 rfl)) ?_))
 obtain ⟨h8, H⟩ := H
 obtain ⟨h9, H⟩ := H
 have hobt := omake (n := (a0.Enum.Gens.length : Int)) (r := Rp.int .i64) (d := (0 : Int)) Try.underlying31 ti3 (fun _ _ => rfl) rfl hO h8 h9 (by decide)
 obtain ⟨w1, p2, vs3, pv, hE5, hs6, Ck⟩ := hobt
 refine zg (Ck rfl rfl) ?_
 replace hO := pv.own
 refine za rfl (zn (zq (zq (zr (zm rfl ?_)))))
 refine zo (op_nilCheck rfl) (zo (op_fieldAddr Try.underlying156 rfl ti123 rfl (by decide)) (zo (op_fieldAddr Try.underlying123 rfl ti23 rfl (by decide)) (zs (oblk (i := 2) 1 hO rfl rfl Try.underlying23 rfl rfl) ?_)))
 replace ad := ad.ch pv.ch
 refine zo (op_lenN Try.underlying23 rfl (ad.neq hO 2 rfl)) (zm rfl (zn (zb ?_)))
 replace tf := tf.ch pv.ch
 replace sw := sw.ch pv.ch
 replace tK := tK.ch pv.ch
 replace ae := ae.ch pv.ch
 replace tg := tg.ch pv.ch
 replace wF := wF.ch pv.ch
 replace vL := vL.ch pv.ch
 replace ao := ao.ch pv.ch
 replace hB := hB.trans pv.fr
 refine Go1.loopW (S := Nat × List Int × List (List Int) × List Int × List Int × List Rule × List Str × List Int × (List (Str × Int))) (fun s σ w => match s with | (k1_12, d_13, d_16, d_22, d_28, d_34, d_40, d_46, m1_52) => ∃ (n7 : List Value), ∃ (n21 : Nat), ∃ (p19 : Option Addr), ∃ (c20 : Nat), ∃ (ld : List Value), ∃ (n27 : Nat), ∃ (p25 : Option Addr), ∃ (c26 : Nat), ∃ (mf : List Value), ∃ (n33 : Nat), ∃ (p31 : Option Addr), ∃ (c32 : Nat), ∃ (mg : List Value), ∃ (n39 : Nat), ∃ (p37 : Option Addr), ∃ (c38 : Nat), ∃ (mh : List Value), ∃ (n45 : Nat), ∃ (p43 : Option Addr), ∃ (c44 : Nat), ∃ (mj : List Value), ∃ (n51 : Nat), ∃ (p49 : Option Addr), ∃ (c50 : Nat), ∃ (ml : List Value), agrees σ [(0, .pointer (some ⟨dQ, 0, none⟩)), (3, .int .i64 a0.Enum.Done), (4, .slice p2 a0.Enum.Gens.length a0.Enum.Gens.length), (27, .slice aE aD aF), (28, .int .i64 (a0.Enum.Gens.length : Int)), (29, .int .i64 (k1_12 : Int))] ∧ (fun Z0 => Owns n0 w Z0 A ∧ Els (Rp.int .i64) (bl Z0 ++ A) w n7 d_13 ∧ Els (Rp.sl (Rp.int .i64)) (bl Z0 ++ A) w cw a0.Enum.Gens ∧ Els (Rp.sl (Rp.int .i64)) (bl Z0 ++ A) w ld d_16 ∧ Els (Rp.int .i64) (bl Z0 ++ A) w mf d_22 ∧ Els (Rp.int .i64) (bl Z0 ++ A) w mg d_28 ∧ Els (Rp.sl (Rp.int .i64)) (bl Z0 ++ A) w ck a0.Enum.Right ∧ Els (rpRule) (bl Z0 ++ A) w mh d_34 ∧ Els (Rp.str) (bl Z0 ++ A) w mj d_40 ∧ Els (Rp.int .i64) (bl Z0 ++ A) w ml d_46 ∧ Els (Rp.int .i64) (bl Z0 ++ A) w dk a0.single ∧ Fr (bl [.blk dQ (.cells #[.int .i64 a0.Enum.Points, .bool a0.Enum.Monoid, .slice aE aD aF, .slice cK cJ cL, .slice cz cy cA, .slice c7 c6 c8, .slice aQ aL aR, .slice cN cM cO, .int .i64 a0.Enum.Done, .map (some aS), .slice dI dH dJ, .slice dC dB dD, .slice ba a9 bc] 156 (0, 0)), .row 31 1 aE aD aF cw, .row 31 1 cK cJ cL dS, .row 3 1 cz cy cA dN, .row 3 1 c7 c6 c8 d5, .row 31 1 aQ aL aR ck, .row 185 2 cN cM cO dT, .row 9 1 dI dH dJ fT, .row 3 1 dC dB dD fy, .row 3 1 ba a9 bc dk, .any (mapE (fun a : List UInt8 => Value.string (gstr a)) (fun a : Int => Value.int .i64 a) aS a0.number)]) w0 (bl Z0) w) [.row 3 1 p2 a0.Enum.Gens.length a0.Enum.Gens.length n7, .blk dQ (.cells #[.int .i64 a0.Enum.Points, .bool a0.Enum.Monoid, .slice aE aD aF, .slice p19 n21 c20, .slice p25 n27 c26, .slice p31 n33 c32, .slice aQ aL aR, .slice p37 n39 c38, .int .i64 a0.Enum.Done, .map (some aS), .slice p43 n45 c44, .slice p49 n51 c50, .slice ba a9 bc] 156 (0, 0)), .row 31 1 aE aD aF cw, .row 31 1 p19 n21 c20 ld, .row 3 1 p25 n27 c26 mf, .row 3 1 p31 n33 c32 mg, .row 31 1 aQ aL aR ck, .row 185 2 p37 n39 c38 mh, .row 9 1 p43 n45 c44 mj, .row 3 1 p49 n51 c50 ml, .row 3 1 ba a9 bc dk, .any (mapE (fun a : List UInt8 => Value.string (gstr a)) (fun a : Int => Value.int .i64 a) aS m1_52)]) H ⟨vs3, cJ, cK, cL, dS, cy, cz, cA, dN, c6, c7, c8, d5, cM, cN, cO, dT, dH, dI, dJ, fT, dB, dC, dD, fy, ⟨rfl, rfl, rfl, rfl, rfl, rfl, trivial⟩, hO, hE5, ad, tf, sw, tK, ae, tg, wF, vL, ao, hB⟩ ?_
 intro X1
 refine prE fun k1_12 => prE fun d_13 => prE fun d_16 => prE fun d_22 => prE fun d_28 => prE fun d_34 => prE fun d_40 => prE fun d_46 => fun m1_52 => ?_
 intro H hX1 σ w11
 refine exE fun n7 => exE fun n21 => exE fun p19 => exE fun c20 => exE fun ld => exE fun n27 => exE fun p25 => exE fun c26 => exE fun mf => exE fun n33 => exE fun p31 => exE fun c32 => exE fun mg => exE fun n39 => exE fun p37 => exE fun c38 => exE fun mh => exE fun n45 => exE fun p43 => exE fun c44 => exE fun mj => exE fun n51 => exE fun p49 => exE fun c50 => exE fun ml => andE fun hag => andE fun hO => andE fun bM => andE fun ad => andE fun c9 => andE fun cj => andE fun cd => andE fun ae => andE fun bN => andE fun bz => andE fun bA => andE fun ao => fun hB => ?_
 dsimp only at H
 refine Go1.keep [(0, .pointer (some ⟨dQ, 0, none⟩)), (3, .int .i64 a0.Enum.Done), (4, .slice p2 a0.Enum.Gens.length a0.Enum.Gens.length), (27, .slice aE aD aF), (28, .int .i64 (a0.Enum.Gens.length : Int)), (29, .int .i64 (k1_12 : Int))] hag ?_
 refine zq (zr ?_)
 by_cases h53 : (k1_12 : Int) < (a0.Enum.Gens.length : Int)
 ·replace H := ifp h53 H
  refine zo (fun w => opB (op_lss rfl rfl w) (decide_eq_true h53)) (zn (zq (zt rfl rfl (zk (zq ?_)))))
  refine zb (zq (zr (zm rfl ?_)))
  obtain ⟨h54, H⟩ := H
  obtain ⟨h55, H⟩ := H
  refine zo (op_index Try.underlying23 ti31 rfl rfl h54 (ltn (ad.neq hO 2 rfl) h55) (ad.psome hO 2 rfl h54 h55)) ?_
  have hobt := oldSl 2 hO rfl ad h54 h55
  obtain ⟨p56, c57, bX, Rx⟩ := hobt
  refine zs (Rx Try.underlying31 rfl rfl) (za rfl (za rfl (zn (zq (zr ?_)))))
  refine zm rfl (zo (op_nilCheck rfl) (zo (op_fieldAddr Try.underlying156 rfl ti123 rfl (by decide)) (zo (op_fieldAddr Try.underlying123 rfl ti23 rfl (by decide)) (zs (oblk (i := 3) 1 hO rfl rfl Try.underlying23 rfl rfl) (zm rfl ?_)))))
  obtain ⟨h60, H⟩ := H
  obtain ⟨h61, H⟩ := H
  refine zo (op_index Try.underlying23 ti31 rfl rfl h60 (ltn (c9.neq hO 3 rfl) h61) (c9.psome hO 3 rfl h60 h61)) ?_
  have hobt := oldSl 3 hO rfl c9 h60 h61
  obtain ⟨p62, c63, bY, Ry⟩ := hobt
  refine zs (Ry Try.underlying31 rfl rfl) (zm rfl ?_)
  refine GoR.call (op_call body158 rfl (walk_trans_Compose hO.lt bY bX H)) rfl rfl ?_
  rintro v70 w67 ⟨r66, sj, sk, rfl, Rz, bh, H⟩
  have iG := Stp.same hO Rz
  replace hO := iG.own
  refine za rfl (zn (zq ?_))
  refine Go1.drawS 0 [(0, .pure), (1, .pure), (2, .pure), (3, .stable), (4, .pure), (5, .loud), (6, .stable), (7, .pure), (8, .pure), (9, .pure), (10, .pure), (11, .pure)] mixed (by kernel_rfl) ?_
  intro w72 Ir
  have pU := Stp.same hO Ir
  replace hO := pU.own
  refine GoQ.pure rfl (op_move rfl) rfl rfl ?_
  refine GoQ.pure rfl (op_nilCheck rfl) rfl rfl ?_
  refine GoQ.pure rfl (op_fieldAddr Try.underlying156 rfl ti154 rfl (by decide)) rfl rfl ?_
  refine GoQ.stable rfl (oblk (i := 9) 1 hO rfl rfl Try.underlying154 rfl rfl) rfl rfl ?_
  refine GoQ.pure rfl (op_move rfl) rfl rfl ?_
  replace bh := bh.ch pU.ch
  refine GoQ.call rfl (op_call body157 rfl (walk_enumerate_text hO.lt bh H)) (fun v w hr => by obtain ⟨_, _, hs, _, _⟩ := hr; assumption) rfl rfl ?_
  rintro v79 w76 ⟨r75, rfl, RA, SB, H⟩
  have pV := Stp.same hO RA
  replace hO := pV.own
  by_cases h81 : mhas m1_52 r75 = true
  ·replace H := ifp h81 H
   refine GoQ.stable rfl (olookT (a := r75) (MK.str Try.underlying9) 11 hO rfl Try.underlying154 rfl rfl h81) rfl rfl ?_
   refine GoQ.pure rfl (op_move rfl) rfl rfl ?_
   refine GoQ.pure rfl (op_extract rfl rfl) rfl rfl ?_
   refine GoQ.pure rfl (op_extract rfl rfl) rfl rfl ?_
   refine GoQ.pure rfl (op_assign rfl) rfl rfl ?_
   refine GoQ.pure rfl (op_assign rfl) rfl rfl ?_
   refine GoQ.nil ?_
   refine zq ?_
   refine Go1.cut [(0, .pointer (some ⟨dQ, 0, none⟩)), (3, .int .i64 a0.Enum.Done), (4, .slice p2 a0.Enum.Gens.length a0.Enum.Gens.length), (5, .int .i64 (k1_12 : Int)), (7, .slice sj r66.length sk), (8, .int .i64 (mgt m1_52 r75)), (9, .bool true), (27, .slice aE aD aF), (28, .int .i64 (a0.Enum.Gens.length : Int)), (29, .int .i64 (k1_12 : Int))] ⟨rfl, rfl, rfl, rfl, rfl, rfl, rfl, rfl, rfl, rfl, trivial⟩ ?_
   intro σ _
   refine zr (zm rfl (zo (op_nilCheck rfl) (zo (op_fieldAddr Try.underlying156 rfl ti30 rfl (by decide)) (zs (oblk (i := 10) 1 hO rfl rfl Try.underlying30 rfl rfl) (zm rfl ?_)))))
   obtain ⟨h82, H⟩ := H
   obtain ⟨h83, H⟩ := H
   have Z1 := (iG.ch.trans pU.ch).trans pV.ch
   replace bz := bz.ch Z1
   refine zo (op_index Try.underlying30 ti9 rfl rfl h82 (ltn (bz.neq hO 8 rfl) h83) (bz.psome hO 8 rfl h82 h83)) (zs (oldStr 8 hO rfl bz h82 h83 Try.underlying9 rfl rfl) ?_)
   have hle84 := Els.str_le bz h82 h83
   refine zm rfl ?_
   obtain ⟨h85, H⟩ := H
   refine zo (op_add rfl rfl (wrap_i64 h85)) (zo (op_conv Try.underlying3 Try.underlying21 rfl rfl) ?_)
   obtain ⟨h86, H⟩ := H
   obtain ⟨h87, H⟩ := H
   refine zo (op_convRS Try.underlying21 Try.underlying9 rfl h86 h87) ?_
   obtain ⟨h88, H⟩ := H
   refine zo (op_addS rfl rfl h88) (za rfl (zn (zq (zb (zq ?_)))))
   refine zr (zm rfl (zo (op_not rfl) (zm rfl (zp (zp ?_)))))
   refine zp (zp (zp (zp (zp (zo (op_pickF rfl rfl rfl) ?_)))))
   refine za rfl (zn (zf rfl rfl (zq ?_)))
   refine Go1.cut [(0, .pointer (some ⟨dQ, 0, none⟩)), (3, .int .i64 a0.Enum.Done), (4, .slice p2 a0.Enum.Gens.length a0.Enum.Gens.length), (5, .int .i64 (k1_12 : Int)), (7, .slice sj r66.length sk), (8, .int .i64 (mgt m1_52 r75)), (9, .bool true), (10, .string (gstr ((ix d_40 a0.Enum.Done) ++ (chr (IntKind.i32.wrap ((97 : Int) + (k1_12 : Int))))))), (27, .slice aE aD aF), (28, .int .i64 (a0.Enum.Gens.length : Int)), (29, .int .i64 (k1_12 : Int))] ⟨rfl, rfl, rfl, rfl, rfl, rfl, rfl, rfl, rfl, rfl, rfl, trivial⟩ ?_
   intro σ _
   refine zr (zm rfl (zo (op_not rfl) (za rfl (zn (zf rfl rfl ?_)))))
   refine zq (zr (zm rfl (zo (op_nilCheck rfl) (zo (op_fieldAddr Try.underlying156 rfl ti30 rfl (by decide)) (zs (oblk (i := 10) 1 hO rfl rfl Try.underlying30 rfl rfl) ?_)))))
   refine zm rfl ?_
   obtain ⟨h89, H⟩ := H
   obtain ⟨h90, H⟩ := H
   refine zo (op_index Try.underlying30 ti9 rfl rfl h89 (ltn (bz.neq hO 8 rfl) h90) (bz.psome hO 8 rfl h89 h90)) (zs (oldStr 8 hO rfl bz h89 h90 Try.underlying9 rfl rfl) ?_)
   have hle91 := Els.str_le bz h89 h90
   by_cases h92 : (ix d_40 a0.Enum.Done) = (([] : Str))
   ·replace H := ifp h92 H
    refine zo (fun w => opB (op_neqS rfl rfl w) (ndT h92)) (zm rfl (zp (zp (zp (zp ?_)))))
    refine zp (zp (zp (zp (zp (zp ?_)))))
    refine zo (op_pickF rfl rfl rfl) (za rfl (zn (zf rfl rfl (zk ?_))))
    refine Go1.inBlock ?_
    refine Go1.cut [(0, .pointer (some ⟨dQ, 0, none⟩)), (3, .int .i64 a0.Enum.Done), (4, .slice p2 a0.Enum.Gens.length a0.Enum.Gens.length), (5, .int .i64 (k1_12 : Int)), (8, .int .i64 (mgt m1_52 r75)), (27, .slice aE aD aF), (28, .int .i64 (a0.Enum.Gens.length : Int)), (29, .int .i64 (k1_12 : Int))] ⟨rfl, rfl, rfl, rfl, rfl, rfl, rfl, rfl, trivial⟩ ?_
    intro σ _
    refine zr (zm rfl (zm rfl (zm rfl ?_)))
    obtain ⟨h93, H⟩ := H
    obtain ⟨h94, H⟩ := H
    replace bM := bM.ch Z1
    refine zo (op_index Try.underlying31 ti3 rfl rfl h93 (ltn (bM.neq hO 0 rfl) h94) (bM.psome hO 0 rfl h93 h94)) ?_
    have hobt := ost (r := Rp.int .i64) rfl 0 hO rfl bM h93 h94 (v := .int .i64 (mgt m1_52 r75)) (u := (mgt m1_52 r75)) rfl rfl
    obtain ⟨w95, RB, pW, JH, NY⟩ := hobt
    dsimp only [sS, sZ] at pW JH
    refine zg (NY Try.underlying3 rfl ti3 (by exact rfl) (by exact rfl)) ?_
    replace hO := pW.own
    refine zn ?_
    refine Go1.inBlock ?_
    refine zr ?_
    replace ad := (ad.ch Z1).ch pW.ch
    refine zo (op_add rfl rfl (wrap_i64 (natbd h53 ad.bd))) (zm rfl (zn ?_))
    replace bz := bz.ch pW.ch
    have Z2 := Z1.trans pW.ch
    replace c9 := c9.ch Z2
    replace cj := cj.ch Z2
    replace cd := cd.ch Z2
    replace ae := ae.ch Z2
    replace bN := bN.ch Z2
    replace bA := bA.ch Z2
    replace ao := ao.ch Z2
    replace hB := (((hB.trans iG.fr).trans pU.fr).trans pV.fr).trans pW.fr
    exact hX1 _ H _ _ ⟨RB, n21, p19, c20, ld, n27, p25, c26, mf, n33, p31, c32, mg, n39, p37, c38, mh, n45, p43, c44, mj, n51, p49, c50, ml, ⟨rfl, rfl, rfl, rfl, rfl, rfl, trivial⟩, hO, JH, ad, c9, cj, cd, ae, bN, bz, bA, ao, hB⟩
   replace H := ifn h92 H
   refine zo (fun w => opB (op_neqS rfl rfl w) (ndF h92)) (zm rfl (zm rfl (zm rfl (zo (op_nilCheck rfl) (zo (op_fieldAddr Try.underlying156 rfl ti31 rfl (by decide)) ?_)))))
   refine zs (oblk (i := 11) 1 hO rfl rfl Try.underlying31 rfl rfl) (zm rfl ?_)
   obtain ⟨FQ, H⟩ := H
   obtain ⟨FS, H⟩ := H
   replace bA := bA.ch Z1
   refine zo (op_index Try.underlying31 ti3 rfl rfl FQ (ltn (bA.neq hO 9 rfl) FS) (bA.psome hO 9 rfl FQ FS)) (zs (oldInt 9 hO rfl bA FQ FS Try.underlying3 rfl rfl) (zm rfl ?_))
   refine GoR.inl (vs := [.pointer (some ⟨dQ, 0, none⟩), .int .i64 (ix d_46 a0.Enum.Done), .int .i64 (k1_12 : Int)]) (caps := []) rfl rfl body160 Try.func160 rfl Try.ntmps160 rfl rfl rfl ?_
   intro RhR102 hR102
   refine zq (zr (za rfl (zn (zq ?_))))
   refine Go1.cut [(0, .pointer (some ⟨dQ, 0, none⟩)), (1, .int .i64 (ix d_46 a0.Enum.Done)), (2, .int .i64 (k1_12 : Int))] ⟨rfl, rfl, rfl, trivial⟩ ?_
   intro σ _
   refine zr (zm rfl (zm rfl (zm rfl ?_)))
   refine GoR.inl (vs := [.pointer (some ⟨dQ, 0, none⟩), .int .i64 (ix d_46 a0.Enum.Done), .int .i64 (k1_12 : Int)]) (caps := []) rfl rfl body159 Try.func159 rfl Try.ntmps159 rfl rfl rfl ?_
   intro RhR103 hR103
   refine zq (zr (za rfl (zn (zq (zq ?_)))))
   refine zr (zm rfl ?_)
   by_cases xK : (ix d_46 a0.Enum.Done) = (-1 : Int)
   ·replace H := ifp xK H
    refine zo (fun w => opB (op_eql rfl rfl w) (decide_eq_true xK)) (zn (zt rfl rfl (zq (zr (zm rfl ?_)))))
    refine zo (op_nilCheck rfl) (zo (op_fieldAddr Try.underlying156 rfl ti31 rfl (by decide)) (zs (oblk (i := 12) 1 hO rfl rfl Try.underlying31 rfl rfl) (zm rfl ?_)))
    obtain ⟨yW, H⟩ := H
    obtain ⟨FT, H⟩ := H
    replace ao := ao.ch Z1
    refine zo (op_index Try.underlying31 ti3 rfl rfl yW (ltn (ao.neq hO 10 rfl) FT) (ao.psome hO 10 rfl yW FT)) (zs (oldInt 10 hO rfl ao yW FT Try.underlying3 rfl rfl) (za rfl (zn ?_)))
    refine Go1.ret1V Try.func159 rfl (show _ = .int .i64 (ix a0.single (k1_12 : Int)) from rfl) ?_
    refine hR103 _ _ ?_
    refine za rfl (zn (zq (zr (zm rfl (zo (op_nilCheck rfl) ?_)))))
    refine zo (op_fieldAddr Try.underlying156 rfl ti123 rfl (by decide)) (zo (op_fieldAddr Try.underlying123 rfl ti31 rfl (by decide)) (zs (oblk (i := 4) 1 hO rfl rfl Try.underlying31 rfl rfl) (zm rfl ?_)))
    obtain ⟨qU, H⟩ := H
    obtain ⟨tc, H⟩ := H
    replace cj := cj.ch Z1
    refine zo (op_index Try.underlying31 ti3 rfl rfl qU (ltn (cj.neq hO 4 rfl) tc) (cj.psome hO 4 rfl qU tc)) (zs (oldInt 4 hO rfl cj qU tc Try.underlying3 rfl rfl) (zm rfl ?_))
    by_cases uY : (ix d_22 (ix a0.single (k1_12 : Int))) = (ix d_46 a0.Enum.Done)
    ·replace H := ifp uY H
     refine zo (fun w => opB (op_eql rfl rfl w) (decide_eq_true uY)) (zm rfl (zm rfl (zo (op_nilCheck rfl) (zo (op_fieldAddr Try.underlying156 rfl ti123 rfl (by decide)) (zo (op_fieldAddr Try.underlying123 rfl ti31 rfl (by decide)) ?_)))))
     refine zs (oblk (i := 5) 1 hO rfl rfl Try.underlying31 rfl rfl) (zm rfl ?_)
     obtain ⟨Ca, H⟩ := H
     obtain ⟨yV, H⟩ := H
     replace cd := cd.ch Z1
     refine zo (op_index Try.underlying31 ti3 rfl rfl Ca (ltn (cd.neq hO 5 rfl) yV) (cd.psome hO 5 rfl Ca yV)) (zs (oldInt 5 hO rfl cd Ca yV Try.underlying3 rfl rfl) (zm rfl ?_))
     by_cases xI : (ix d_28 (ix a0.single (k1_12 : Int))) = (k1_12 : Int)
     ·replace H := ifp xI H
      refine zo (fun w => opB (op_eql rfl rfl w) (decide_eq_true xI)) (zo (op_pickT rfl rfl rfl) (za rfl (zn ?_)))
      refine Go1.ret1V Try.func160 rfl (show _ = .bool true from rfl) ?_
      refine hR102 _ _ ?_
      refine zo (op_pickT rfl rfl rfl) (za rfl (zn (zt rfl rfl ?_)))
      refine Go1.cut [(0, .pointer (some ⟨dQ, 0, none⟩)), (3, .int .i64 a0.Enum.Done), (4, .slice p2 a0.Enum.Gens.length a0.Enum.Gens.length), (5, .int .i64 (k1_12 : Int)), (8, .int .i64 (mgt m1_52 r75)), (10, .string (gstr ((ix d_40 a0.Enum.Done) ++ (chr (IntKind.i32.wrap ((97 : Int) + (k1_12 : Int))))))), (27, .slice aE aD aF), (28, .int .i64 (a0.Enum.Gens.length : Int)), (29, .int .i64 (k1_12 : Int))] ⟨rfl, rfl, rfl, rfl, rfl, rfl, rfl, rfl, rfl, trivial⟩ ?_
      intro σ _
      refine Go1.drawS 5 [(0, .pure), (1, .pure), (2, .pure), (3, .pure), (4, .pure), (5, .stable), (6, .pure), (7, .pure), (8, .pure), (9, .pure), (10, .stable), (11, .pure), (12, .pure), (13, .stable), (14, .pure), (15, .loud), (16, .last), (17, .pure), (18, .pure), (19, .pure), (20, .last)] mixed (by kernel_rfl) ?_
      intro V6 N1
      have mm := Stp.same hO N1
      replace hO := mm.own
      refine GoQ.pure rfl (op_move rfl) rfl rfl ?_
      refine GoQ.pure rfl (op_move rfl) rfl rfl ?_
      refine GoQ.pure rfl (op_nilCheck rfl) rfl rfl ?_
      refine GoQ.pure rfl (op_fieldAddr Try.underlying156 rfl ti123 rfl (by decide)) rfl rfl ?_
      refine GoQ.pure rfl (op_fieldAddr Try.underlying123 rfl ti121 rfl (by decide)) rfl rfl ?_
      refine GoQ.stable rfl (oblk (i := 7) 1 hO rfl rfl Try.underlying121 rfl rfl) rfl rfl ?_
      refine GoQ.pure rfl (op_move rfl) rfl rfl ?_
      refine GoQ.pure rfl (op_move rfl) rfl rfl ?_
      refine GoQ.pure rfl (op_nilCheck rfl) rfl rfl ?_
      refine GoQ.pure rfl (op_fieldAddr Try.underlying156 rfl ti30 rfl (by decide)) rfl rfl ?_
      refine GoQ.stable rfl (oblk (i := 10) 1 hO rfl rfl Try.underlying30 rfl rfl) rfl rfl ?_
      refine GoQ.pure rfl (op_move rfl) rfl rfl ?_
      obtain ⟨AC, H⟩ := H
      obtain ⟨Ay, H⟩ := H
      replace bz := bz.ch mm.ch
      refine GoQ.pure rfl (op_index Try.underlying30 ti9 rfl rfl AC (ltn (bz.neq hO 8 rfl) Ay) (bz.psome hO 8 rfl AC Ay)) rfl rfl ?_
      refine GoQ.stable rfl (oldStr 8 hO rfl bz AC Ay Try.underlying9 rfl rfl) rfl rfl ?_
      have hle118 := Els.str_le bz AC Ay
      refine GoQ.pure rfl (op_build Try.underlying185 ti185 (pl := [(0, 1), (1, 1)]) (vs := [(0, .string (gstr ((ix d_40 a0.Enum.Done) ++ (chr (IntKind.i32.wrap ((97 : Int) + (k1_12 : Int))))))), (1, .string (gstr (ix d_40 (mgt m1_52 r75))))]) (cs := #[.string (gstr ((ix d_40 a0.Enum.Done) ++ (chr (IntKind.i32.wrap ((97 : Int) + (k1_12 : Int)))))), .string (gstr (ix d_40 (mgt m1_52 r75)))]) (by kernel_rfl) rfl (by kernel_rfl)) rfl rfl ?_
      have hobt := obuildN (r := rpRule) (n := 1) (parts := [(0, .agg #[.string (gstr ((ix d_40 a0.Enum.Done) ++ (chr (IntKind.i32.wrap ((97 : Int) + (k1_12 : Int)))))), .string (gstr (ix d_40 (mgt m1_52 r75)))])]) (vs := [.string (gstr ((ix d_40 a0.Enum.Done) ++ (chr (IntKind.i32.wrap ((97 : Int) + (k1_12 : Int)))))), .string (gstr (ix d_40 (mgt m1_52 r75)))]) (xs := [(⟨((ix d_40 a0.Enum.Done) ++ (chr (IntKind.i32.wrap ((97 : Int) + (k1_12 : Int))))), ix d_40 (mgt m1_52 r75)⟩ : Rule)]) Try.underlying121 ti185 hO (by decide) (by decide) (by kernel_rfl) (Els.flat1 (⟨((ix d_40 a0.Enum.Done) ++ (chr (IntKind.i32.wrap ((97 : Int) + (k1_12 : Int))))), ix d_40 (mgt m1_52 r75)⟩ : Rule) ⟨(lenApp h88), hle118⟩) rfl
      obtain ⟨V7, iE, en, oc, N2, JI⟩ := hobt
      refine GoQ.loud rfl (JI rfl) N2 rfl rfl ?_
      replace hO := en.own
      have hobt := freeze 0 hO rfl oc
      obtain ⟨hO1, rE, wh, N3⟩ := hobt
      dsimp only [eS, eZ] at hO1 rE wh
      replace hB := (((((hB.trans iG.fr).trans pU.fr).trans pV.fr).trans mm.fr).trans en.fr).trans (Owns.dropFr _ _ 0)
      dsimp only [eS, eZ] at hB
      replace hO := hO1; clear hO1
      obtain ⟨RD, H⟩ := H
      have Z3 := ((Z1.trans mm.ch).trans en.ch).trans rE
      replace bN := bN.ch Z3
      have hobt := oapp Try.underlying121 ti185 rfl 7 hO rfl bN wh N3 RD (by decide)
      obtain ⟨V8, FU, FV, N4, lv, yn, Cd⟩ := hobt
      dsimp only [sS, sZ] at lv yn
      refine GoQ.last rfl (Cd (by exact rfl) (by exact rfl)) rfl rfl ?_
      replace hO := lv.own
      refine GoQ.pure rfl (op_nilCheck rfl) rfl rfl ?_
      refine GoQ.pure rfl (op_fieldAddr Try.underlying156 rfl ti123 rfl (by decide)) rfl rfl ?_
      refine GoQ.pure rfl (op_fieldAddr Try.underlying123 rfl ti121 rfl (by decide)) rfl rfl ?_
      have hobt := oblkSt2 (v := .slice FU (n39 + 1) FV) (i := 7) (cs' := #[.int .i64 a0.Enum.Points, .bool a0.Enum.Monoid, .slice aE aD aF, .slice p19 n21 c20, .slice p25 n27 c26, .slice p31 n33 c32, .slice aQ aL aR, .slice FU (n39 + 1) FV, .int .i64 a0.Enum.Done, .map (some aS), .slice p43 n45 c44, .slice p49 n51 c50, .slice ba a9 bc]) 1 hO rfl rfl rfl rfl
      obtain ⟨V9, kD, JJ⟩ := hobt
      dsimp only [sS, sZ] at kD
      refine GoQ.last rfl (JJ Try.underlying121 rfl ti121 (by exact rfl) (by exact rfl)) rfl rfl ?_
      replace hO := kD.own
      refine GoQ.nil ?_
      refine Go1.inBlock ?_
      refine Go1.cut [(0, .pointer (some ⟨dQ, 0, none⟩)), (3, .int .i64 a0.Enum.Done), (4, .slice p2 a0.Enum.Gens.length a0.Enum.Gens.length), (5, .int .i64 (k1_12 : Int)), (8, .int .i64 (mgt m1_52 r75)), (27, .slice aE aD aF), (28, .int .i64 (a0.Enum.Gens.length : Int)), (29, .int .i64 (k1_12 : Int))] ⟨rfl, rfl, rfl, rfl, rfl, rfl, rfl, rfl, trivial⟩ ?_
      intro σ _
      refine zr (zm rfl (zm rfl (zm rfl ?_)))
      obtain ⟨xd, H⟩ := H
      obtain ⟨FW, H⟩ := H
      replace bM := ((bM.ch Z3).ch lv.ch).ch kD.ch
      refine zo (op_index Try.underlying31 ti3 rfl rfl xd (ltn (bM.neq hO 0 rfl) FW) (bM.psome hO 0 rfl xd FW)) ?_
      have hobt := ost (r := Rp.int .i64) rfl 0 hO rfl bM xd FW (v := .int .i64 (mgt m1_52 r75)) (u := (mgt m1_52 r75)) rfl rfl
      obtain ⟨RE, N5, lA, Hz, JK⟩ := hobt
      dsimp only [sS, sZ] at lA Hz
      refine zg (JK Try.underlying3 rfl ti3 (by exact rfl) (by exact rfl)) ?_
      replace hO := lA.own
      refine zn ?_
      refine Go1.inBlock ?_
      refine zr ?_
      have Z4 := ((Z3.trans lv.ch).trans kD.ch).trans lA.ch
      replace ad := ad.ch Z4
      refine zo (op_add rfl rfl (wrap_i64 (natbd h53 ad.bd))) (zm rfl (zn ?_))
      replace yn := (yn.ch kD.ch).ch lA.ch
      replace hB := ((hB.trans lv.fr).trans kD.fr).trans lA.fr
      have Z5 := (((en.ch.trans rE).trans lv.ch).trans kD.ch).trans lA.ch
      replace bz := bz.ch Z5
      have Z6 := ((((mm.ch.trans en.ch).trans rE).trans lv.ch).trans kD.ch).trans lA.ch
      replace cj := cj.ch Z6
      replace cd := cd.ch Z6
      replace bA := bA.ch Z6
      replace ao := ao.ch Z6
      replace c9 := c9.ch Z4
      replace ae := ae.ch Z4
      exact hX1 _ H _ _ ⟨N5, n21, p19, c20, ld, n27, p25, c26, mf, n33, p31, c32, mg, n39 + 1, FU, FV, N4, n45, p43, c44, mj, n51, p49, c50, ml, ⟨rfl, rfl, rfl, rfl, rfl, rfl, trivial⟩, hO, Hz, ad, c9, cj, cd, ae, yn, bz, bA, ao, hB⟩
     replace H := ifn xI H
     refine zo (fun w => opB (op_eql rfl rfl w) (decide_eq_false xI)) (zo (op_pickT rfl rfl rfl) (za rfl (zn ?_)))
     refine Go1.ret1V Try.func160 rfl (show _ = .bool false from rfl) ?_
     refine hR102 _ _ ?_
     refine zo (op_pickT rfl rfl rfl) (za rfl (zn (zf rfl rfl (zk ?_))))
     refine Go1.inBlock ?_
     refine zr (zm rfl (zm rfl (zm rfl ?_)))
     obtain ⟨FX, H⟩ := H
     obtain ⟨FY, H⟩ := H
     replace bM := bM.ch Z1
     refine zo (op_index Try.underlying31 ti3 rfl rfl FX (ltn (bM.neq hO 0 rfl) FY) (bM.psome hO 0 rfl FX FY)) ?_
     have hobt := ost (r := Rp.int .i64) rfl 0 hO rfl bM FX FY (v := .int .i64 (mgt m1_52 r75)) (u := (mgt m1_52 r75)) rfl rfl
     obtain ⟨QF, N6, mo, HA, BO⟩ := hobt
     dsimp only [sS, sZ] at mo HA
     refine zg (BO Try.underlying3 rfl ti3 (by exact rfl) (by exact rfl)) ?_
     replace hO := mo.own
     refine zn ?_
     refine Go1.inBlock ?_
     refine zr ?_
     replace ad := (ad.ch Z1).ch mo.ch
     refine zo (op_add rfl rfl (wrap_i64 (natbd h53 ad.bd))) (zm rfl (zn ?_))
     replace cj := cj.ch mo.ch
     replace cd := cd.ch mo.ch
     replace bz := bz.ch mo.ch
     replace bA := bA.ch mo.ch
     replace ao := ao.ch mo.ch
     have Z7 := Z1.trans mo.ch
     replace c9 := c9.ch Z7
     replace ae := ae.ch Z7
     replace bN := bN.ch Z7
     replace hB := (((hB.trans iG.fr).trans pU.fr).trans pV.fr).trans mo.fr
     exact hX1 _ H _ _ ⟨N6, n21, p19, c20, ld, n27, p25, c26, mf, n33, p31, c32, mg, n39, p37, c38, mh, n45, p43, c44, mj, n51, p49, c50, ml, ⟨rfl, rfl, rfl, rfl, rfl, rfl, trivial⟩, hO, HA, ad, c9, cj, cd, ae, bN, bz, bA, ao, hB⟩
    replace H := ifn uY H
    refine zo (fun w => opB (op_eql rfl rfl w) (decide_eq_false uY)) (zm rfl (zp (zp (zp (zp ?_)))))
    refine zp (zp (zp (zp (zp (zp ?_)))))
    refine zo (op_pickF rfl rfl rfl) (za rfl (zn ?_))
    refine Go1.ret1V Try.func160 rfl (show _ = .bool false from rfl) ?_
    refine hR102 _ _ ?_
    refine zo (op_pickT rfl rfl rfl) (za rfl (zn (zf rfl rfl (zk ?_))))
    refine Go1.inBlock ?_
    refine Go1.cut [(0, .pointer (some ⟨dQ, 0, none⟩)), (3, .int .i64 a0.Enum.Done), (4, .slice p2 a0.Enum.Gens.length a0.Enum.Gens.length), (5, .int .i64 (k1_12 : Int)), (8, .int .i64 (mgt m1_52 r75)), (27, .slice aE aD aF), (28, .int .i64 (a0.Enum.Gens.length : Int)), (29, .int .i64 (k1_12 : Int))] ⟨rfl, rfl, rfl, rfl, rfl, rfl, rfl, rfl, trivial⟩ ?_
    intro σ _
    refine zr (zm rfl (zm rfl (zm rfl ?_)))
    obtain ⟨xr, H⟩ := H
    obtain ⟨y3, H⟩ := H
    replace bM := bM.ch Z1
    refine zo (op_index Try.underlying31 ti3 rfl rfl xr (ltn (bM.neq hO 0 rfl) y3) (bM.psome hO 0 rfl xr y3)) ?_
    have hobt := ost (r := Rp.int .i64) rfl 0 hO rfl bM xr y3 (v := .int .i64 (mgt m1_52 r75)) (u := (mgt m1_52 r75)) rfl rfl
    obtain ⟨Wa, N7, mp, HB, JL⟩ := hobt
    dsimp only [sS, sZ] at mp HB
    refine zg (JL Try.underlying3 rfl ti3 (by exact rfl) (by exact rfl)) ?_
    replace hO := mp.own
    refine zn ?_
    refine Go1.inBlock ?_
    refine zr ?_
    replace ad := (ad.ch Z1).ch mp.ch
    refine zo (op_add rfl rfl (wrap_i64 (natbd h53 ad.bd))) (zm rfl (zn ?_))
    replace cj := cj.ch mp.ch
    replace bz := bz.ch mp.ch
    replace bA := bA.ch mp.ch
    replace ao := ao.ch mp.ch
    have Z8 := Z1.trans mp.ch
    replace c9 := c9.ch Z8
    replace cd := cd.ch Z8
    replace ae := ae.ch Z8
    replace bN := bN.ch Z8
    replace hB := (((hB.trans iG.fr).trans pU.fr).trans pV.fr).trans mp.fr
    exact hX1 _ H _ _ ⟨N7, n21, p19, c20, ld, n27, p25, c26, mf, n33, p31, c32, mg, n39, p37, c38, mh, n45, p43, c44, mj, n51, p49, c50, ml, ⟨rfl, rfl, rfl, rfl, rfl, rfl, trivial⟩, hO, HB, ad, c9, cj, cd, ae, bN, bz, bA, ao, hB⟩
   replace H := ifn xK H
   refine zo (fun w => opB (op_eql rfl rfl w) (decide_eq_false xK)) (zn (zf rfl rfl (zk (zq (zr ?_)))))
   refine zm rfl (zo (op_nilCheck rfl) (zo (op_fieldAddr Try.underlying156 rfl ti123 rfl (by decide)) (zo (op_fieldAddr Try.underlying123 rfl ti23 rfl (by decide)) (zs (oblk (i := 6) 1 hO rfl rfl Try.underlying23 rfl rfl) (zm rfl ?_)))))
   obtain ⟨Cm, H⟩ := H
   obtain ⟨Cn, H⟩ := H
   replace ae := ae.ch Z1
   refine zo (op_index Try.underlying23 ti31 rfl rfl Cm (ltn (ae.neq hO 6 rfl) Cn) (ae.psome hO 6 rfl Cm Cn)) ?_
   have hobt := oldSl 6 hO rfl ae Cm Cn
   obtain ⟨Wb, Wc, mF, N8⟩ := hobt
   refine zs (N8 Try.underlying31 rfl rfl) (zm rfl ?_)
   obtain ⟨F0, H⟩ := H
   obtain ⟨F1, H⟩ := H
   refine zo (op_index Try.underlying31 ti3 rfl rfl F0 F1 (mF.some_ F0 F1)) (zs (ldInt mF F0 F1 Try.underlying3 rfl rfl) (za rfl (zn ?_)))
   refine Go1.ret1V Try.func159 rfl (show _ = .int .i64 (ix (ix a0.Enum.Right (ix d_46 a0.Enum.Done)) (k1_12 : Int)) from rfl) ?_
   refine hR103 _ _ ?_
   refine za rfl (zn (zq ?_))
   refine Go1.cut [(0, .pointer (some ⟨dQ, 0, none⟩)), (1, .int .i64 (ix d_46 a0.Enum.Done)), (2, .int .i64 (k1_12 : Int)), (7, .int .i64 (ix (ix a0.Enum.Right (ix d_46 a0.Enum.Done)) (k1_12 : Int)))] ⟨rfl, rfl, rfl, rfl, trivial⟩ ?_
   intro σ _
   refine zr (zm rfl (zo (op_nilCheck rfl) (zo (op_fieldAddr Try.underlying156 rfl ti123 rfl (by decide)) (zo (op_fieldAddr Try.underlying123 rfl ti31 rfl (by decide)) (zs (oblk (i := 4) 1 hO rfl rfl Try.underlying31 rfl rfl) ?_)))))
   refine zm rfl ?_
   obtain ⟨F2, H⟩ := H
   obtain ⟨Cz, H⟩ := H
   replace cj := cj.ch Z1
   refine zo (op_index Try.underlying31 ti3 rfl rfl F2 (ltn (cj.neq hO 4 rfl) Cz) (cj.psome hO 4 rfl F2 Cz)) (zs (oldInt 4 hO rfl cj F2 Cz Try.underlying3 rfl rfl) (zm rfl ?_))
   by_cases Eh : (ix d_22 (ix (ix a0.Enum.Right (ix d_46 a0.Enum.Done)) (k1_12 : Int))) = (ix d_46 a0.Enum.Done)
   ·replace H := ifp Eh H
    refine zo (fun w => opB (op_eql rfl rfl w) (decide_eq_true Eh)) (zm rfl (zm rfl (zo (op_nilCheck rfl) (zo (op_fieldAddr Try.underlying156 rfl ti123 rfl (by decide)) (zo (op_fieldAddr Try.underlying123 rfl ti31 rfl (by decide)) ?_)))))
    refine zs (oblk (i := 5) 1 hO rfl rfl Try.underlying31 rfl rfl) (zm rfl ?_)
    obtain ⟨xO, H⟩ := H
    obtain ⟨F3, H⟩ := H
    replace cd := cd.ch Z1
    refine zo (op_index Try.underlying31 ti3 rfl rfl xO (ltn (cd.neq hO 5 rfl) F3) (cd.psome hO 5 rfl xO F3)) (zs (oldInt 5 hO rfl cd xO F3 Try.underlying3 rfl rfl) (zm rfl ?_))
    by_cases AJ : (ix d_28 (ix (ix a0.Enum.Right (ix d_46 a0.Enum.Done)) (k1_12 : Int))) = (k1_12 : Int)
    ·replace H := ifp AJ H
     refine zo (fun w => opB (op_eql rfl rfl w) (decide_eq_true AJ)) (zo (op_pickT rfl rfl rfl) (za rfl (zn ?_)))
     refine Go1.ret1V Try.func160 rfl (show _ = .bool true from rfl) ?_
     refine hR102 _ _ ?_
     refine zo (op_pickT rfl rfl rfl) (za rfl (zn (zt rfl rfl ?_)))
     refine Go1.cut [(0, .pointer (some ⟨dQ, 0, none⟩)), (3, .int .i64 a0.Enum.Done), (4, .slice p2 a0.Enum.Gens.length a0.Enum.Gens.length), (5, .int .i64 (k1_12 : Int)), (8, .int .i64 (mgt m1_52 r75)), (10, .string (gstr ((ix d_40 a0.Enum.Done) ++ (chr (IntKind.i32.wrap ((97 : Int) + (k1_12 : Int))))))), (27, .slice aE aD aF), (28, .int .i64 (a0.Enum.Gens.length : Int)), (29, .int .i64 (k1_12 : Int))] ⟨rfl, rfl, rfl, rfl, rfl, rfl, rfl, rfl, rfl, trivial⟩ ?_
     intro σ _
     refine Go1.drawS 5 [(0, .pure), (1, .pure), (2, .pure), (3, .pure), (4, .pure), (5, .stable), (6, .pure), (7, .pure), (8, .pure), (9, .pure), (10, .stable), (11, .pure), (12, .pure), (13, .stable), (14, .pure), (15, .loud), (16, .last), (17, .pure), (18, .pure), (19, .pure), (20, .last)] mixed (by kernel_rfl) ?_
     intro JM N9
     have eC := Stp.same hO N9
     replace hO := eC.own
     refine GoQ.pure rfl (op_move rfl) rfl rfl ?_
     refine GoQ.pure rfl (op_move rfl) rfl rfl ?_
     refine GoQ.pure rfl (op_nilCheck rfl) rfl rfl ?_
     refine GoQ.pure rfl (op_fieldAddr Try.underlying156 rfl ti123 rfl (by decide)) rfl rfl ?_
     refine GoQ.pure rfl (op_fieldAddr Try.underlying123 rfl ti121 rfl (by decide)) rfl rfl ?_
     refine GoQ.stable rfl (oblk (i := 7) 1 hO rfl rfl Try.underlying121 rfl rfl) rfl rfl ?_
     refine GoQ.pure rfl (op_move rfl) rfl rfl ?_
     refine GoQ.pure rfl (op_move rfl) rfl rfl ?_
     refine GoQ.pure rfl (op_nilCheck rfl) rfl rfl ?_
     refine GoQ.pure rfl (op_fieldAddr Try.underlying156 rfl ti30 rfl (by decide)) rfl rfl ?_
     refine GoQ.stable rfl (oblk (i := 10) 1 hO rfl rfl Try.underlying30 rfl rfl) rfl rfl ?_
     refine GoQ.pure rfl (op_move rfl) rfl rfl ?_
     obtain ⟨Ei, H⟩ := H
     obtain ⟨Ej, H⟩ := H
     replace bz := bz.ch eC.ch
     refine GoQ.pure rfl (op_index Try.underlying30 ti9 rfl rfl Ei (ltn (bz.neq hO 8 rfl) Ej) (bz.psome hO 8 rfl Ei Ej)) rfl rfl ?_
     refine GoQ.stable rfl (oldStr 8 hO rfl bz Ei Ej Try.underlying9 rfl rfl) rfl rfl ?_
     have hle181 := Els.str_le bz Ei Ej
     refine GoQ.pure rfl (op_build Try.underlying185 ti185 (pl := [(0, 1), (1, 1)]) (vs := [(0, .string (gstr ((ix d_40 a0.Enum.Done) ++ (chr (IntKind.i32.wrap ((97 : Int) + (k1_12 : Int))))))), (1, .string (gstr (ix d_40 (mgt m1_52 r75))))]) (cs := #[.string (gstr ((ix d_40 a0.Enum.Done) ++ (chr (IntKind.i32.wrap ((97 : Int) + (k1_12 : Int)))))), .string (gstr (ix d_40 (mgt m1_52 r75)))]) (by kernel_rfl) rfl (by kernel_rfl)) rfl rfl ?_
     have hobt := obuildN (r := rpRule) (n := 1) (parts := [(0, .agg #[.string (gstr ((ix d_40 a0.Enum.Done) ++ (chr (IntKind.i32.wrap ((97 : Int) + (k1_12 : Int)))))), .string (gstr (ix d_40 (mgt m1_52 r75)))])]) (vs := [.string (gstr ((ix d_40 a0.Enum.Done) ++ (chr (IntKind.i32.wrap ((97 : Int) + (k1_12 : Int)))))), .string (gstr (ix d_40 (mgt m1_52 r75)))]) (xs := [(⟨((ix d_40 a0.Enum.Done) ++ (chr (IntKind.i32.wrap ((97 : Int) + (k1_12 : Int))))), ix d_40 (mgt m1_52 r75)⟩ : Rule)]) Try.underlying121 ti185 hO (by decide) (by decide) (by kernel_rfl) (Els.flat1 (⟨((ix d_40 a0.Enum.Done) ++ (chr (IntKind.i32.wrap ((97 : Int) + (k1_12 : Int))))), ix d_40 (mgt m1_52 r75)⟩ : Rule) ⟨(lenApp h88), hle181⟩) rfl
     obtain ⟨Wd, We, lB, Oa, Ob, JN⟩ := hobt
     refine GoQ.loud rfl (JN rfl) Ob rfl rfl ?_
     replace hO := lB.own
     have hobt := freeze 0 hO rfl Oa
     obtain ⟨hO1, pX, wi, Oc⟩ := hobt
     dsimp only [eS, eZ] at hO1 pX wi
     replace hB := (((((hB.trans iG.fr).trans pU.fr).trans pV.fr).trans eC.fr).trans lB.fr).trans (Owns.dropFr _ _ 0)
     dsimp only [eS, eZ] at hB
     replace hO := hO1; clear hO1
     obtain ⟨Cg, H⟩ := H
     have Z9 := ((Z1.trans eC.ch).trans lB.ch).trans pX
     replace bN := bN.ch Z9
     have hobt := oapp Try.underlying121 ti185 rfl 7 hO rfl bN wi Oc Cg (by decide)
     obtain ⟨Wf, F4, F5, DO, gG, tD, Ci⟩ := hobt
     dsimp only [sS, sZ] at gG tD
     refine GoQ.last rfl (Ci (by exact rfl) (by exact rfl)) rfl rfl ?_
     replace hO := gG.own
     refine GoQ.pure rfl (op_nilCheck rfl) rfl rfl ?_
     refine GoQ.pure rfl (op_fieldAddr Try.underlying156 rfl ti123 rfl (by decide)) rfl rfl ?_
     refine GoQ.pure rfl (op_fieldAddr Try.underlying123 rfl ti121 rfl (by decide)) rfl rfl ?_
     have hobt := oblkSt2 (v := .slice F4 (n39 + 1) F5) (i := 7) (cs' := #[.int .i64 a0.Enum.Points, .bool a0.Enum.Monoid, .slice aE aD aF, .slice p19 n21 c20, .slice p25 n27 c26, .slice p31 n33 c32, .slice aQ aL aR, .slice F4 (n39 + 1) F5, .int .i64 a0.Enum.Done, .map (some aS), .slice p43 n45 c44, .slice p49 n51 c50, .slice ba a9 bc]) 1 hO rfl rfl rfl rfl
     obtain ⟨Wg, j5, JO⟩ := hobt
     dsimp only [sS, sZ] at j5
     refine GoQ.last rfl (JO Try.underlying121 rfl ti121 (by exact rfl) (by exact rfl)) rfl rfl ?_
     replace hO := j5.own
     refine GoQ.nil ?_
     refine Go1.inBlock ?_
     refine Go1.cut [(0, .pointer (some ⟨dQ, 0, none⟩)), (3, .int .i64 a0.Enum.Done), (4, .slice p2 a0.Enum.Gens.length a0.Enum.Gens.length), (5, .int .i64 (k1_12 : Int)), (8, .int .i64 (mgt m1_52 r75)), (27, .slice aE aD aF), (28, .int .i64 (a0.Enum.Gens.length : Int)), (29, .int .i64 (k1_12 : Int))] ⟨rfl, rfl, rfl, rfl, rfl, rfl, rfl, rfl, trivial⟩ ?_
     intro σ _
     refine zr (zm rfl (zm rfl (zm rfl ?_)))
     obtain ⟨yX, H⟩ := H
     obtain ⟨xe, H⟩ := H
     replace bM := ((bM.ch Z9).ch gG.ch).ch j5.ch
     refine zo (op_index Try.underlying31 ti3 rfl rfl yX (ltn (bM.neq hO 0 rfl) xe) (bM.psome hO 0 rfl yX xe)) ?_
     have hobt := ost (r := Rp.int .i64) rfl 0 hO rfl bM yX xe (v := .int .i64 (mgt m1_52 r75)) (u := (mgt m1_52 r75)) rfl rfl
     obtain ⟨RF, Od, gP, HC, CA⟩ := hobt
     dsimp only [sS, sZ] at gP HC
     refine zg (CA Try.underlying3 rfl ti3 (by exact rfl) (by exact rfl)) ?_
     replace hO := gP.own
     refine zn ?_
     refine Go1.inBlock ?_
     refine zr ?_
     have Z10 := ((Z9.trans gG.ch).trans j5.ch).trans gP.ch
     replace ad := ad.ch Z10
     refine zo (op_add rfl rfl (wrap_i64 (natbd h53 ad.bd))) (zm rfl (zn ?_))
     replace tD := (tD.ch j5.ch).ch gP.ch
     replace hB := ((hB.trans gG.fr).trans j5.fr).trans gP.fr
     have Z11 := (((lB.ch.trans pX).trans gG.ch).trans j5.ch).trans gP.ch
     replace bz := bz.ch Z11
     have Z12 := ((((eC.ch.trans lB.ch).trans pX).trans gG.ch).trans j5.ch).trans gP.ch
     replace cj := cj.ch Z12
     replace cd := cd.ch Z12
     replace ae := ae.ch Z12
     replace bA := bA.ch Z12
     replace c9 := c9.ch Z10
     replace ao := ao.ch Z10
     exact hX1 _ H _ _ ⟨Od, n21, p19, c20, ld, n27, p25, c26, mf, n33, p31, c32, mg, n39 + 1, F4, F5, DO, n45, p43, c44, mj, n51, p49, c50, ml, ⟨rfl, rfl, rfl, rfl, rfl, rfl, trivial⟩, hO, HC, ad, c9, cj, cd, ae, tD, bz, bA, ao, hB⟩
    replace H := ifn AJ H
    refine zo (fun w => opB (op_eql rfl rfl w) (decide_eq_false AJ)) (zo (op_pickT rfl rfl rfl) (za rfl (zn ?_)))
    refine Go1.ret1V Try.func160 rfl (show _ = .bool false from rfl) ?_
    refine hR102 _ _ ?_
    refine zo (op_pickT rfl rfl rfl) (za rfl (zn (zf rfl rfl (zk ?_))))
    refine Go1.inBlock ?_
    refine zr (zm rfl (zm rfl (zm rfl ?_)))
    obtain ⟨F6, H⟩ := H
    obtain ⟨Co, H⟩ := H
    replace bM := bM.ch Z1
    refine zo (op_index Try.underlying31 ti3 rfl rfl F6 (ltn (bM.neq hO 0 rfl) Co) (bM.psome hO 0 rfl F6 Co)) ?_
    have hobt := ost (r := Rp.int .i64) rfl 0 hO rfl bM F6 Co (v := .int .i64 (mgt m1_52 r75)) (u := (mgt m1_52 r75)) rfl rfl
    obtain ⟨QX, Oe, lC, HD, JP⟩ := hobt
    dsimp only [sS, sZ] at lC HD
    refine zg (JP Try.underlying3 rfl ti3 (by exact rfl) (by exact rfl)) ?_
    replace hO := lC.own
    refine zn ?_
    refine Go1.inBlock ?_
    refine zr ?_
    replace ad := (ad.ch Z1).ch lC.ch
    refine zo (op_add rfl rfl (wrap_i64 (natbd h53 ad.bd))) (zm rfl (zn ?_))
    replace cj := cj.ch lC.ch
    replace cd := cd.ch lC.ch
    replace ae := ae.ch lC.ch
    replace bz := bz.ch lC.ch
    replace bA := bA.ch lC.ch
    have Z13 := Z1.trans lC.ch
    replace c9 := c9.ch Z13
    replace bN := bN.ch Z13
    replace ao := ao.ch Z13
    replace hB := (((hB.trans iG.fr).trans pU.fr).trans pV.fr).trans lC.fr
    exact hX1 _ H _ _ ⟨Oe, n21, p19, c20, ld, n27, p25, c26, mf, n33, p31, c32, mg, n39, p37, c38, mh, n45, p43, c44, mj, n51, p49, c50, ml, ⟨rfl, rfl, rfl, rfl, rfl, rfl, trivial⟩, hO, HD, ad, c9, cj, cd, ae, bN, bz, bA, ao, hB⟩
   replace H := ifn Eh H
   refine zo (fun w => opB (op_eql rfl rfl w) (decide_eq_false Eh)) (zm rfl (zp (zp (zp (zp ?_)))))
   refine zp (zp (zp (zp (zp (zp ?_)))))
   refine zo (op_pickF rfl rfl rfl) (za rfl (zn ?_))
   refine Go1.ret1V Try.func160 rfl (show _ = .bool false from rfl) ?_
   refine hR102 _ _ ?_
   refine zo (op_pickT rfl rfl rfl) (za rfl (zn (zf rfl rfl (zk ?_))))
   refine Go1.inBlock ?_
   refine Go1.cut [(0, .pointer (some ⟨dQ, 0, none⟩)), (3, .int .i64 a0.Enum.Done), (4, .slice p2 a0.Enum.Gens.length a0.Enum.Gens.length), (5, .int .i64 (k1_12 : Int)), (8, .int .i64 (mgt m1_52 r75)), (27, .slice aE aD aF), (28, .int .i64 (a0.Enum.Gens.length : Int)), (29, .int .i64 (k1_12 : Int))] ⟨rfl, rfl, rfl, rfl, rfl, rfl, rfl, rfl, trivial⟩ ?_
   intro σ _
   refine zr (zm rfl (zm rfl (zm rfl ?_)))
   obtain ⟨F7, H⟩ := H
   obtain ⟨F8, H⟩ := H
   replace bM := bM.ch Z1
   refine zo (op_index Try.underlying31 ti3 rfl rfl F7 (ltn (bM.neq hO 0 rfl) F8) (bM.psome hO 0 rfl F7 F8)) ?_
   have hobt := ost (r := Rp.int .i64) rfl 0 hO rfl bM F7 F8 (v := .int .i64 (mgt m1_52 r75)) (u := (mgt m1_52 r75)) rfl rfl
   obtain ⟨Wh, Og, fw, HE, JQ⟩ := hobt
   dsimp only [sS, sZ] at fw HE
   refine zg (JQ Try.underlying3 rfl ti3 (by exact rfl) (by exact rfl)) ?_
   replace hO := fw.own
   refine zn ?_
   refine Go1.inBlock ?_
   refine zr ?_
   replace ad := (ad.ch Z1).ch fw.ch
   refine zo (op_add rfl rfl (wrap_i64 (natbd h53 ad.bd))) (zm rfl (zn ?_))
   replace cj := cj.ch fw.ch
   replace ae := ae.ch fw.ch
   replace bz := bz.ch fw.ch
   replace bA := bA.ch fw.ch
   have Z14 := Z1.trans fw.ch
   replace c9 := c9.ch Z14
   replace cd := cd.ch Z14
   replace bN := bN.ch Z14
   replace ao := ao.ch Z14
   replace hB := (((hB.trans iG.fr).trans pU.fr).trans pV.fr).trans fw.fr
   exact hX1 _ H _ _ ⟨Og, n21, p19, c20, ld, n27, p25, c26, mf, n33, p31, c32, mg, n39, p37, c38, mh, n45, p43, c44, mj, n51, p49, c50, ml, ⟨rfl, rfl, rfl, rfl, rfl, rfl, trivial⟩, hO, HE, ad, c9, cj, cd, ae, bN, bz, bA, ao, hB⟩
  replace H := ifn h81 H
  refine GoQ.stable rfl (olookF (a := r75) (MK.str Try.underlying9) 11 hO rfl Try.underlying154 ti3 rfl rfl h81) rfl rfl ?_
  refine GoQ.pure rfl (op_move rfl) rfl rfl ?_
  refine GoQ.pure rfl (op_extract rfl rfl) rfl rfl ?_
  refine GoQ.pure rfl (op_extract rfl rfl) rfl rfl ?_
  refine GoQ.pure rfl (op_assign rfl) rfl rfl ?_
  refine GoQ.pure rfl (op_assign rfl) rfl rfl ?_
  refine GoQ.nil ?_
  refine zq (zr (zm rfl (zo (op_nilCheck rfl) (zo (op_fieldAddr Try.underlying156 rfl ti30 rfl (by decide)) (zs (oblk (i := 10) 1 hO rfl rfl Try.underlying30 rfl rfl) ?_)))))
  refine zm rfl ?_
  obtain ⟨Az, H⟩ := H
  obtain ⟨xF, H⟩ := H
  have Z15 := (iG.ch.trans pU.ch).trans pV.ch
  replace bz := bz.ch Z15
  refine zo (op_index Try.underlying30 ti9 rfl rfl Az (ltn (bz.neq hO 8 rfl) xF) (bz.psome hO 8 rfl Az xF)) (zs (oldStr 8 hO rfl bz Az xF Try.underlying9 rfl rfl) ?_)
  have hle227 := Els.str_le bz Az xF
  refine zm rfl ?_
  obtain ⟨RG, H⟩ := H
  refine zo (op_add rfl rfl (wrap_i64 RG)) (zo (op_conv Try.underlying3 Try.underlying21 rfl rfl) ?_)
  obtain ⟨RH, H⟩ := H
  obtain ⟨RJ, H⟩ := H
  refine zo (op_convRS Try.underlying21 Try.underlying9 rfl RH RJ) ?_
  obtain ⟨xv, H⟩ := H
  refine zo (op_addS rfl rfl xv) (za rfl (zn (zq (zb (zq ?_)))))
  refine Go1.cut [(0, .pointer (some ⟨dQ, 0, none⟩)), (3, .int .i64 a0.Enum.Done), (4, .slice p2 a0.Enum.Gens.length a0.Enum.Gens.length), (5, .int .i64 (k1_12 : Int)), (7, .slice sj r66.length sk), (8, .int .i64 (0 : Int)), (9, .bool false), (10, .string (gstr ((ix d_40 a0.Enum.Done) ++ (chr (IntKind.i32.wrap ((97 : Int) + (k1_12 : Int))))))), (27, .slice aE aD aF), (28, .int .i64 (a0.Enum.Gens.length : Int)), (29, .int .i64 (k1_12 : Int))] ⟨rfl, rfl, rfl, rfl, rfl, rfl, rfl, rfl, rfl, rfl, rfl, trivial⟩ ?_
  intro σ _
  refine zr (zm rfl (zo (op_not rfl) (zm rfl (zm rfl (zo (op_nilCheck rfl) ?_)))))
  refine zo (op_fieldAddr Try.underlying156 rfl ti123 rfl (by decide)) (zo (op_fieldAddr Try.underlying123 rfl ti23 rfl (by decide)) (zs (oblk (i := 3) 1 hO rfl rfl Try.underlying23 rfl rfl) ?_))
  replace c9 := c9.ch Z15
  refine zo (op_lenN Try.underlying23 rfl (c9.neq hO 3 rfl)) ?_
  by_cases xw : (d_16.length : Int) = (2000 : Int)
  ·replace H := ifp xw H
   refine zo (fun w => opB (op_eql rfl rfl w) (decide_eq_true xw)) (zo (op_pickT rfl rfl rfl) (za rfl (zn (zt rfl rfl (zq ?_)))))
   refine zr (za rfl (zn ?_))
   replace hO := hO.drop 0
   replace c9 := c9.ch (Owns.dropCh _ _ 0)
   replace bz := bz.ch (Owns.dropCh _ _ 0)
   replace bh := (bh.ch pV.ch).ch (Owns.dropCh _ _ 0)
   have Z16 := Z15.trans (Owns.dropCh _ _ 0)
   replace ad := ad.ch Z16
   replace cj := cj.ch Z16
   replace cd := cd.ch Z16
   replace ae := ae.ch Z16
   replace bN := bN.ch Z16
   replace bA := bA.ch Z16
   replace ao := ao.ch Z16
   replace bX := bX.ch Z16
   replace bY := bY.ch Z16
   replace hB := (((hB.trans iG.fr).trans pU.fr).trans pV.fr).trans (Owns.dropFr _ _ 0)
   dsimp only [eS, eZ] at hB hO bX bY bh ad c9 cj cd ae bN bz bA ao
   refine Go1.ret1 Try.func133 rfl ?_
   exact ⟨((3 : Int)), (⟨(⟨a0.Enum.Points, a0.Enum.Monoid, a0.Enum.Gens, d_16, d_22, d_28, a0.Enum.Right, d_34, a0.Enum.Done⟩ : Enum), m1_52, d_40, d_46, a0.single⟩ : run), aD, aE, aF, cw, n21, p19, c20, ld, n27, p25, c26, mf, n33, p31, c32, mg, aL, aQ, aR, ck, n39, p37, c38, mh, n45, p43, c44, mj, n51, p49, c50, ml, a9, ba, bc, dk, rfl, hO, ad, c9, cj, cd, ae, bN, bz, bA, ao, hB, H⟩
  replace H := ifn xw H
  refine zo (fun w => opB (op_eql rfl rfl w) (decide_eq_false xw)) (zo (op_pickT rfl rfl rfl) (za rfl (zn (zf rfl rfl (zq ?_)))))
  refine zr (zm rfl (zo (op_not rfl) (za rfl (zn (zt rfl rfl ?_)))))
  refine zr (zm rfl (zm rfl (zm rfl (zm rfl (zm rfl ?_)))))
  refine zm rfl (zm rfl (zo (op_nilCheck rfl) (zo (op_fieldAddr Try.underlying156 rfl ti31 rfl (by decide)) (zs (oblk (i := 11) 1 hO rfl rfl Try.underlying31 rfl rfl) (zm rfl ?_)))))
  obtain ⟨F9, H⟩ := H
  obtain ⟨Ga, H⟩ := H
  replace bA := bA.ch Z15
  refine zo (op_index Try.underlying31 ti3 rfl rfl F9 (ltn (bA.neq hO 9 rfl) Ga) (bA.psome hO 9 rfl F9 Ga)) (zs (oldInt 9 hO rfl bA F9 Ga Try.underlying3 rfl rfl) (zm rfl ?_))
  refine GoR.inl (vs := [.pointer (some ⟨dQ, 0, none⟩), .int .i64 (ix d_46 a0.Enum.Done), .int .i64 (k1_12 : Int)]) (caps := []) rfl rfl body159 Try.func159 rfl Try.ntmps159 rfl rfl rfl ?_
  intro RhR235 hR235
  refine zq ?_
  refine Go1.cut [(0, .pointer (some ⟨dQ, 0, none⟩)), (1, .int .i64 (ix d_46 a0.Enum.Done)), (2, .int .i64 (k1_12 : Int))] ⟨rfl, rfl, rfl, trivial⟩ ?_
  intro σ _
  refine zr (za rfl (zn (zq (zq (zr ?_)))))
  refine zm rfl ?_
  by_cases Ek : (ix d_46 a0.Enum.Done) = (-1 : Int)
  ·replace H := ifp Ek H
   refine zo (fun w => opB (op_eql rfl rfl w) (decide_eq_true Ek)) (zn (zt rfl rfl (zq (zr (zm rfl ?_)))))
   refine zo (op_nilCheck rfl) (zo (op_fieldAddr Try.underlying156 rfl ti31 rfl (by decide)) (zs (oblk (i := 12) 1 hO rfl rfl Try.underlying31 rfl rfl) (zm rfl ?_)))
   obtain ⟨Gb, H⟩ := H
   obtain ⟨Gc, H⟩ := H
   replace ao := ao.ch Z15
   refine zo (op_index Try.underlying31 ti3 rfl rfl Gb (ltn (ao.neq hO 10 rfl) Gc) (ao.psome hO 10 rfl Gb Gc)) (zs (oldInt 10 hO rfl ao Gb Gc Try.underlying3 rfl rfl) (za rfl (zn ?_)))
   refine Go1.ret1V Try.func159 rfl (show _ = .int .i64 (ix a0.single (k1_12 : Int)) from rfl) ?_
   refine hR235 _ _ ?_
   refine GoR.inl (vs := [.pointer (some ⟨dQ, 0, none⟩), .slice sj r66.length sk, .int .i64 a0.Enum.Done, .int .i64 (k1_12 : Int), .string (gstr ((ix d_40 a0.Enum.Done) ++ (chr (IntKind.i32.wrap ((97 : Int) + (k1_12 : Int)))))), .int .i64 (ix a0.single (k1_12 : Int))]) (caps := []) rfl rfl body155 Try.func155 rfl Try.ntmps155 rfl rfl rfl ?_
   intro RhR239 hR239
   refine zq (zr (za rfl (zn (zq (zr ?_)))))
   refine zm rfl (zo (op_nilCheck rfl) (zo (op_fieldAddr Try.underlying156 rfl ti123 rfl (by decide)) (zo (op_fieldAddr Try.underlying123 rfl ti23 rfl (by decide)) (zs (oblk (i := 3) 1 hO rfl rfl Try.underlying23 rfl rfl) (zo (op_lenN Try.underlying23 rfl (c9.neq hO 3 rfl)) ?_)))))
   refine za rfl (zn (zq ?_))
   refine Go1.cut [(0, .pointer (some ⟨dQ, 0, none⟩)), (1, .slice sj r66.length sk), (2, .int .i64 a0.Enum.Done), (3, .int .i64 (k1_12 : Int)), (4, .string (gstr ((ix d_40 a0.Enum.Done) ++ (chr (IntKind.i32.wrap ((97 : Int) + (k1_12 : Int))))))), (5, .int .i64 (ix a0.single (k1_12 : Int))), (13, .int .i64 (d_16.length : Int))] ⟨rfl, rfl, rfl, rfl, rfl, rfl, rfl, trivial⟩ ?_
   intro σ _
   refine Go1.drawS 1 [(0, .pure), (1, .pure), (2, .pure), (3, .stable), (4, .pure), (6, .pure), (5, .loud), (7, .last)] mixed (by kernel_rfl) ?_
   intro Q0 D2
   have mq := Stp.same hO D2
   replace hO := mq.own
   refine GoQ.pure rfl (op_move rfl) rfl rfl ?_
   refine GoQ.pure rfl (op_nilCheck rfl) rfl rfl ?_
   refine GoQ.pure rfl (op_fieldAddr Try.underlying156 rfl ti154 rfl (by decide)) rfl rfl ?_
   refine GoQ.stable rfl (oblk (i := 9) 1 hO rfl rfl Try.underlying154 rfl rfl) rfl rfl ?_
   refine GoQ.pure rfl (op_move rfl) rfl rfl ?_
   refine GoQ.pure rfl (op_move rfl) rfl rfl ?_
   replace bh := (bh.ch pV.ch).ch mq.ch
   refine GoQ.call rfl (op_call body157 rfl (walk_enumerate_text hO.lt bh H)) (fun v w hr => by obtain ⟨_, _, hs, _, _⟩ := hr; assumption) rfl rfl ?_
   rintro Wi Wj ⟨r243, rfl, Oh, Sy, H⟩
   have mr := Stp.same hO Oh
   replace hO := mr.own
   have hobt := omapUpd (MK.str Try.underlying9) 11 hO rfl Try.underlying154 r243 (d_16.length : Int)
   obtain ⟨Wk, lD, JR⟩ := hobt
   dsimp only [sS, sZ] at lD
   refine GoQ.last rfl (JR (by exact rfl) (by exact rfl) (by exact rfl)) rfl rfl ?_
   replace hO := lD.own
   refine GoQ.nil ?_
   refine zq (zr (zm rfl (zm rfl (zo (op_nilCheck rfl) (zo (op_fieldAddr Try.underlying156 rfl ti123 rfl (by decide)) ?_)))))
   refine zo (op_fieldAddr Try.underlying123 rfl ti23 rfl (by decide)) (zs (oblk (i := 3) 1 hO rfl rfl Try.underlying23 rfl rfl) (zm rfl ?_))
   replace bh := (bh.ch mr.ch).ch lD.ch
   have hobt := obuild (r := Rp.sl (Rp.int .i64)) (n := 1) (parts := [(0, .slice sj r66.length sk)]) (vs := [.slice sj r66.length sk]) (xs := [r66]) rfl Try.underlying23 ti31 hO (by decide) (by kernel_rfl) (Els.cons rfl ⟨sj, sk, rfl, bh⟩ (Els.nil _ _ _) (by simp [mx])) rfl
   obtain ⟨Wl, Wm, ms, Oi, Td, BU⟩ := hobt
   refine zg (BU rfl) ?_
   replace hO := ms.own
   have hobt := freeze 0 hO rfl Oi
   obtain ⟨hO1, rF, eV, Oj⟩ := hobt
   dsimp only [eS, eZ] at hO1 rF eV
   replace hB := (((((((hB.trans iG.fr).trans pU.fr).trans pV.fr).trans mq.fr).trans mr.fr).trans lD.fr).trans ms.fr).trans (Owns.dropFr _ _ 0)
   dsimp only [eS, eZ] at hB
   replace hO := hO1; clear hO1
   obtain ⟨RK, H⟩ := H
   have Z17 := (((mq.ch.trans mr.ch).trans lD.ch).trans ms.ch).trans rF
   replace c9 := c9.ch Z17
   have hobt := oapp Try.underlying23 ti31 rfl 3 hO rfl c9 eV Oj RK (by decide)
   obtain ⟨Wn, zh, zi, Ok, lE, fq, JS⟩ := hobt
   dsimp only [sS, sZ] at lE fq
   refine zg (JS (by exact rfl) (by exact rfl)) ?_
   replace hO := lE.own
   refine zo (op_nilCheck rfl) (zo (op_fieldAddr Try.underlying156 rfl ti123 rfl (by decide)) (zo (op_fieldAddr Try.underlying123 rfl ti23 rfl (by decide)) ?_))
   have hobt := oblkSt2 (v := .slice zh (n21 + 1) zi) (i := 3) (cs' := #[.int .i64 a0.Enum.Points, .bool a0.Enum.Monoid, .slice aE aD aF, .slice zh (n21 + 1) zi, .slice p25 n27 c26, .slice p31 n33 c32, .slice aQ aL aR, .slice p37 n39 c38, .int .i64 a0.Enum.Done, .map (some aS), .slice p43 n45 c44, .slice p49 n51 c50, .slice ba a9 bc]) 1 hO rfl rfl rfl rfl
   obtain ⟨JT, kE, JU⟩ := hobt
   dsimp only [sS, sZ] at kE
   refine zg (JU Try.underlying23 rfl ti23 (by exact rfl) (by exact rfl)) ?_
   replace hO := kE.own
   refine zn (zq ?_)
   refine Go1.cut [(0, .pointer (some ⟨dQ, 0, none⟩)), (2, .int .i64 a0.Enum.Done), (3, .int .i64 (k1_12 : Int)), (4, .string (gstr ((ix d_40 a0.Enum.Done) ++ (chr (IntKind.i32.wrap ((97 : Int) + (k1_12 : Int))))))), (5, .int .i64 (ix a0.single (k1_12 : Int))), (13, .int .i64 (d_16.length : Int))] ⟨rfl, rfl, rfl, rfl, rfl, rfl, trivial⟩ ?_
   intro σ _
   refine zr (zm rfl (zm rfl (zo (op_nilCheck rfl) (zo (op_fieldAddr Try.underlying156 rfl ti123 rfl (by decide)) (zo (op_fieldAddr Try.underlying123 rfl ti31 rfl (by decide)) ?_)))))
   refine zs (oblk (i := 4) 1 hO rfl rfl Try.underlying31 rfl rfl) (zm rfl ?_)
   have hobt := obuild (r := Rp.int .i64) (n := 1) (parts := [(0, .int .i64 a0.Enum.Done)]) (vs := [.int .i64 a0.Enum.Done]) (xs := [a0.Enum.Done]) rfl Try.underlying31 ti3 hO (by decide) (by kernel_rfl) (Els.cons rfl rfl (Els.nil _ _ _) (by simp [mx])) rfl
   obtain ⟨Wo, Wp, lF, Ol, Te, JV⟩ := hobt
   refine zg (JV rfl) ?_
   replace hO := lF.own
   have hobt := freeze 0 hO rfl Ol
   obtain ⟨hO1, pY, gn, Om⟩ := hobt
   dsimp only [eS, eZ] at hO1 pY gn
   replace hB := (((hB.trans lE.fr).trans kE.fr).trans lF.fr).trans (Owns.dropFr _ _ 0)
   dsimp only [eS, eZ] at hB
   replace hO := hO1; clear hO1
   obtain ⟨RL, H⟩ := H
   have Z18 := ((((((((Z15.trans mq.ch).trans mr.ch).trans lD.ch).trans ms.ch).trans rF).trans lE.ch).trans kE.ch).trans lF.ch).trans pY
   replace cj := cj.ch Z18
   have hobt := oapp Try.underlying31 ti3 rfl 4 hO rfl cj gn Om RL (by decide)
   obtain ⟨Qg, AK, AM, Oo, kF, gL, JW⟩ := hobt
   dsimp only [sS, sZ] at kF gL
   refine zg (JW (by exact rfl) (by exact rfl)) ?_
   replace hO := kF.own
   refine zo (op_nilCheck rfl) (zo (op_fieldAddr Try.underlying156 rfl ti123 rfl (by decide)) (zo (op_fieldAddr Try.underlying123 rfl ti31 rfl (by decide)) ?_))
   have hobt := oblkSt2 (v := .slice AK (n27 + 1) AM) (i := 4) (cs' := #[.int .i64 a0.Enum.Points, .bool a0.Enum.Monoid, .slice aE aD aF, .slice zh (n21 + 1) zi, .slice AK (n27 + 1) AM, .slice p31 n33 c32, .slice aQ aL aR, .slice p37 n39 c38, .int .i64 a0.Enum.Done, .map (some aS), .slice p43 n45 c44, .slice p49 n51 c50, .slice ba a9 bc]) 1 hO rfl rfl rfl rfl
   obtain ⟨Wq, j6, JX⟩ := hobt
   dsimp only [sS, sZ] at j6
   refine zg (JX Try.underlying31 rfl ti31 (by exact rfl) (by exact rfl)) ?_
   replace hO := j6.own
   refine zn (zq (zr (zm rfl (zm rfl (zo (op_nilCheck rfl) ?_)))))
   refine zo (op_fieldAddr Try.underlying156 rfl ti123 rfl (by decide)) (zo (op_fieldAddr Try.underlying123 rfl ti31 rfl (by decide)) (zs (oblk (i := 5) 1 hO rfl rfl Try.underlying31 rfl rfl) (zm rfl ?_)))
   have hobt := obuild (r := Rp.int .i64) (n := 1) (parts := [(0, .int .i64 (k1_12 : Int))]) (vs := [.int .i64 (k1_12 : Int)]) (xs := [(k1_12 : Int)]) rfl Try.underlying31 ti3 hO (by decide) (by kernel_rfl) (Els.cons rfl rfl (Els.nil _ _ _) (by simp [mx])) rfl
   obtain ⟨Wr, Ws, kG, Oq, Tf, JY⟩ := hobt
   refine zg (JY rfl) ?_
   replace hO := kG.own
   have hobt := freeze 0 hO rfl Oq
   obtain ⟨hO1, og, i8, Os⟩ := hobt
   dsimp only [eS, eZ] at hO1 og i8
   replace hB := (((hB.trans kF.fr).trans j6.fr).trans kG.fr).trans (Owns.dropFr _ _ 0)
   dsimp only [eS, eZ] at hB
   replace hO := hO1; clear hO1
   obtain ⟨RM, H⟩ := H
   have Z19 := (((Z18.trans kF.ch).trans j6.ch).trans kG.ch).trans og
   replace cd := cd.ch Z19
   have hobt := oapp Try.underlying31 ti3 rfl 5 hO rfl cd i8 Os RM (by decide)
   obtain ⟨Wt, CB, CC, Ot, j7, eP, J0⟩ := hobt
   dsimp only [sS, sZ] at j7 eP
   refine zg (J0 (by exact rfl) (by exact rfl)) ?_
   replace hO := j7.own
   refine zo (op_nilCheck rfl) (zo (op_fieldAddr Try.underlying156 rfl ti123 rfl (by decide)) (zo (op_fieldAddr Try.underlying123 rfl ti31 rfl (by decide)) ?_))
   have hobt := oblkSt2 (v := .slice CB (n33 + 1) CC) (i := 5) (cs' := #[.int .i64 a0.Enum.Points, .bool a0.Enum.Monoid, .slice aE aD aF, .slice zh (n21 + 1) zi, .slice AK (n27 + 1) AM, .slice CB (n33 + 1) CC, .slice aQ aL aR, .slice p37 n39 c38, .int .i64 a0.Enum.Done, .map (some aS), .slice p43 n45 c44, .slice p49 n51 c50, .slice ba a9 bc]) 1 hO rfl rfl rfl rfl
   obtain ⟨Wu, jC, J1⟩ := hobt
   dsimp only [sS, sZ] at jC
   refine zg (J1 Try.underlying31 rfl ti31 (by exact rfl) (by exact rfl)) ?_
   replace hO := jC.own
   refine zn (zq ?_)
   refine Go1.cut [(0, .pointer (some ⟨dQ, 0, none⟩)), (4, .string (gstr ((ix d_40 a0.Enum.Done) ++ (chr (IntKind.i32.wrap ((97 : Int) + (k1_12 : Int))))))), (5, .int .i64 (ix a0.single (k1_12 : Int))), (13, .int .i64 (d_16.length : Int))] ⟨rfl, rfl, rfl, rfl, trivial⟩ ?_
   intro σ _
   refine zr (zm rfl (zm rfl (zo (op_nilCheck rfl) (zo (op_fieldAddr Try.underlying156 rfl ti30 rfl (by decide)) (zs (oblk (i := 10) 1 hO rfl rfl Try.underlying30 rfl rfl) ?_)))))
   refine zm rfl ?_
   have hobt := obuild (r := Rp.str) (n := 1) (parts := [(0, .string (gstr ((ix d_40 a0.Enum.Done) ++ (chr (IntKind.i32.wrap ((97 : Int) + (k1_12 : Int)))))))]) (vs := [.string (gstr ((ix d_40 a0.Enum.Done) ++ (chr (IntKind.i32.wrap ((97 : Int) + (k1_12 : Int))))))]) (xs := [(ix d_40 a0.Enum.Done) ++ (chr (IntKind.i32.wrap ((97 : Int) + (k1_12 : Int))))]) rfl Try.underlying30 ti9 hO (by decide) (by kernel_rfl) (Els.cons rfl ⟨rfl, (lenApp xv)⟩ (Els.nil _ _ _) (by simp [mx])) rfl
   obtain ⟨J2, Wv, j8, Ou, Tg, J3⟩ := hobt
   refine zg (J3 rfl) ?_
   replace hO := j8.own
   have hobt := freeze 0 hO rfl Ou
   obtain ⟨hO1, fY, oh, Ov⟩ := hobt
   dsimp only [eS, eZ] at hO1 fY oh
   replace hB := (((hB.trans j7.fr).trans jC.fr).trans j8.fr).trans (Owns.dropFr _ _ 0)
   dsimp only [eS, eZ] at hB
   replace hO := hO1; clear hO1
   obtain ⟨RN, H⟩ := H
   have Z20 := (((((((((((Z17.trans lE.ch).trans kE.ch).trans lF.ch).trans pY).trans kF.ch).trans j6.ch).trans kG.ch).trans og).trans j7.ch).trans jC.ch).trans j8.ch).trans fY
   replace bz := bz.ch Z20
   have hobt := oapp Try.underlying30 ti9 rfl 8 hO rfl bz oh Ov RN (by decide)
   obtain ⟨Ww, El, Em, Ow, jD, rG, J4⟩ := hobt
   dsimp only [sS, sZ] at jD rG
   refine zg (J4 (by exact rfl) (by exact rfl)) ?_
   replace hO := jD.own
   refine zo (op_nilCheck rfl) (zo (op_fieldAddr Try.underlying156 rfl ti30 rfl (by decide)) ?_)
   have hobt := oblkSt2 (v := .slice El (n45 + 1) Em) (i := 10) (cs' := #[.int .i64 a0.Enum.Points, .bool a0.Enum.Monoid, .slice aE aD aF, .slice zh (n21 + 1) zi, .slice AK (n27 + 1) AM, .slice CB (n33 + 1) CC, .slice aQ aL aR, .slice p37 n39 c38, .int .i64 a0.Enum.Done, .map (some aS), .slice El (n45 + 1) Em, .slice p49 n51 c50, .slice ba a9 bc]) 1 hO rfl rfl rfl rfl
   obtain ⟨Wx, iX, J5⟩ := hobt
   dsimp only [sS, sZ] at iX
   refine zg (J5 Try.underlying30 rfl ti30 (by exact rfl) (by exact rfl)) ?_
   replace hO := iX.own
   refine zn (zq (zr (zm rfl (zm rfl (zo (op_nilCheck rfl) ?_)))))
   refine zo (op_fieldAddr Try.underlying156 rfl ti31 rfl (by decide)) (zs (oblk (i := 11) 1 hO rfl rfl Try.underlying31 rfl rfl) (zm rfl ?_))
   have hobt := obuild (r := Rp.int .i64) (n := 1) (parts := [(0, .int .i64 (ix a0.single (k1_12 : Int)))]) (vs := [.int .i64 (ix a0.single (k1_12 : Int))]) (xs := [(ix a0.single (k1_12 : Int))]) rfl Try.underlying31 ti3 hO (by decide) (by kernel_rfl) (Els.cons rfl rfl (Els.nil _ _ _) (by simp [mx])) rfl
   obtain ⟨Wy, Wz, jE, Ox, Th, BX⟩ := hobt
   refine zg (BX rfl) ?_
   replace hO := jE.own
   have hobt := freeze 0 hO rfl Ox
   obtain ⟨hO1, mG, wj, Oy⟩ := hobt
   dsimp only [eS, eZ] at hO1 mG wj
   replace hB := (((hB.trans jD.fr).trans iX.fr).trans jE.fr).trans (Owns.dropFr _ _ 0)
   dsimp only [eS, eZ] at hB
   replace hO := hO1; clear hO1
   obtain ⟨CD, H⟩ := H
   have Z21 := (((Z20.trans jD.ch).trans iX.ch).trans jE.ch).trans mG
   replace bA := bA.ch Z21
   have hobt := oapp Try.underlying31 ti3 rfl 9 hO rfl bA wj Oy CD (by decide)
   obtain ⟨WA, Gd, Ge, Oz, iY, yo, BY⟩ := hobt
   dsimp only [sS, sZ] at iY yo
   refine zg (BY (by exact rfl) (by exact rfl)) ?_
   replace hO := iY.own
   refine zo (op_nilCheck rfl) (zo (op_fieldAddr Try.underlying156 rfl ti31 rfl (by decide)) ?_)
   have hobt := oblkSt2 (v := .slice Gd (n51 + 1) Ge) (i := 11) (cs' := #[.int .i64 a0.Enum.Points, .bool a0.Enum.Monoid, .slice aE aD aF, .slice zh (n21 + 1) zi, .slice AK (n27 + 1) AM, .slice CB (n33 + 1) CC, .slice aQ aL aR, .slice p37 n39 c38, .int .i64 a0.Enum.Done, .map (some aS), .slice El (n45 + 1) Em, .slice Gd (n51 + 1) Ge, .slice ba a9 bc]) 1 hO rfl rfl rfl rfl
   obtain ⟨WB, dP, J6⟩ := hobt
   dsimp only [sS, sZ] at dP
   refine zg (J6 Try.underlying31 rfl ti31 (by exact rfl) (by exact rfl)) ?_
   replace hO := dP.own
   refine zn (zq ?_)
   refine Go1.cut [(13, .int .i64 (d_16.length : Int))] ⟨rfl, trivial⟩ ?_
   intro σ _
   refine zr (zm rfl (za rfl (zn ?_)))
   refine Go1.ret1V Try.func155 rfl (show _ = .int .i64 (d_16.length : Int) from rfl) ?_
   refine hR239 _ _ ?_
   refine za rfl (zn ?_)
   refine Go1.inBlock ?_
   refine zr (zm rfl (zm rfl (zm rfl ?_)))
   obtain ⟨Gf, H⟩ := H
   obtain ⟨Gg, H⟩ := H
   have Z22 := (((((((((Z19.trans j7.ch).trans jC.ch).trans j8.ch).trans fY).trans jD.ch).trans iX.ch).trans jE.ch).trans mG).trans iY.ch).trans dP.ch
   replace bM := bM.ch Z22
   refine zo (op_index Try.underlying31 ti3 rfl rfl Gf (ltn (bM.neq hO 0 rfl) Gg) (bM.psome hO 0 rfl Gf Gg)) ?_
   have hobt := ost (r := Rp.int .i64) rfl 0 hO rfl bM Gf Gg (v := .int .i64 (d_16.length : Int)) (u := (d_16.length : Int)) rfl rfl
   obtain ⟨Qn, OA, i4, HF, J7⟩ := hobt
   dsimp only [sS, sZ] at i4 HF
   refine zg (J7 Try.underlying3 rfl ti3 (by exact rfl) (by exact rfl)) ?_
   replace hO := i4.own
   refine zn ?_
   refine Go1.inBlock ?_
   refine zr ?_
   replace ad := (ad.ch Z22).ch i4.ch
   refine zo (op_add rfl rfl (wrap_i64 (natbd h53 ad.bd))) (zm rfl (zn ?_))
   replace yo := (yo.ch dP.ch).ch i4.ch
   replace hB := ((hB.trans iY.fr).trans dP.fr).trans i4.fr
   have Z23 := ((((iX.ch.trans jE.ch).trans mG).trans iY.ch).trans dP.ch).trans i4.ch
   replace rG := rG.ch Z23
   have Z24 := ((((((((jC.ch.trans j8.ch).trans fY).trans jD.ch).trans iX.ch).trans jE.ch).trans mG).trans iY.ch).trans dP.ch).trans i4.ch
   replace eP := eP.ch Z24
   have Z25 := ((((((((((((j6.ch.trans kG.ch).trans og).trans j7.ch).trans jC.ch).trans j8.ch).trans fY).trans jD.ch).trans iX.ch).trans jE.ch).trans mG).trans iY.ch).trans dP.ch).trans i4.ch
   replace gL := gL.ch Z25
   have Z26 := ((((((((((((((((kE.ch.trans lF.ch).trans pY).trans kF.ch).trans j6.ch).trans kG.ch).trans og).trans j7.ch).trans jC.ch).trans j8.ch).trans fY).trans jD.ch).trans iX.ch).trans jE.ch).trans mG).trans iY.ch).trans dP.ch).trans i4.ch
   replace fq := fq.ch Z26
   have Z27 := ((Z21.trans iY.ch).trans dP.ch).trans i4.ch
   replace ao := ao.ch Z27
   have Z28 := Z22.trans i4.ch
   replace ae := ae.ch Z28
   replace bN := bN.ch Z28
   exact hX1 _ H _ _ ⟨OA, n21 + 1, zh, zi, Ok, n27 + 1, AK, AM, Oo, n33 + 1, CB, CC, Ot, n39, p37, c38, mh, n45 + 1, El, Em, Ow, n51 + 1, Gd, Ge, Oz, ⟨rfl, rfl, rfl, rfl, rfl, rfl, trivial⟩, hO, HF, ad, fq, gL, eP, ae, bN, rG, yo, ao, hB⟩
  replace H := ifn Ek H
  refine zo (fun w => opB (op_eql rfl rfl w) (decide_eq_false Ek)) (zn (zf rfl rfl (zk (zq (zr ?_)))))
  refine zm rfl (zo (op_nilCheck rfl) (zo (op_fieldAddr Try.underlying156 rfl ti123 rfl (by decide)) (zo (op_fieldAddr Try.underlying123 rfl ti23 rfl (by decide)) (zs (oblk (i := 6) 1 hO rfl rfl Try.underlying23 rfl rfl) (zm rfl ?_)))))
  obtain ⟨Gh, H⟩ := H
  obtain ⟨Gi, H⟩ := H
  replace ae := ae.ch Z15
  refine zo (op_index Try.underlying23 ti31 rfl rfl Gh (ltn (ae.neq hO 6 rfl) Gi) (ae.psome hO 6 rfl Gh Gi)) ?_
  have hobt := oldSl 6 hO rfl ae Gh Gi
  obtain ⟨WC, WD, dW, OB⟩ := hobt
  refine zs (OB Try.underlying31 rfl rfl) (zm rfl ?_)
  obtain ⟨xh, H⟩ := H
  obtain ⟨Gj, H⟩ := H
  refine zo (op_index Try.underlying31 ti3 rfl rfl xh Gj (dW.some_ xh Gj)) (zs (ldInt dW xh Gj Try.underlying3 rfl rfl) (za rfl (zn ?_)))
  refine Go1.ret1V Try.func159 rfl (show _ = .int .i64 (ix (ix a0.Enum.Right (ix d_46 a0.Enum.Done)) (k1_12 : Int)) from rfl) ?_
  refine hR235 _ _ ?_
  refine GoR.inl (vs := [.pointer (some ⟨dQ, 0, none⟩), .slice sj r66.length sk, .int .i64 a0.Enum.Done, .int .i64 (k1_12 : Int), .string (gstr ((ix d_40 a0.Enum.Done) ++ (chr (IntKind.i32.wrap ((97 : Int) + (k1_12 : Int)))))), .int .i64 (ix (ix a0.Enum.Right (ix d_46 a0.Enum.Done)) (k1_12 : Int))]) (caps := []) rfl rfl body155 Try.func155 rfl Try.ntmps155 rfl rfl rfl ?_
  intro RhR377 hR377
  refine zq ?_
  refine Go1.cut [(0, .pointer (some ⟨dQ, 0, none⟩)), (1, .slice sj r66.length sk), (2, .int .i64 a0.Enum.Done), (3, .int .i64 (k1_12 : Int)), (4, .string (gstr ((ix d_40 a0.Enum.Done) ++ (chr (IntKind.i32.wrap ((97 : Int) + (k1_12 : Int))))))), (5, .int .i64 (ix (ix a0.Enum.Right (ix d_46 a0.Enum.Done)) (k1_12 : Int)))] ⟨rfl, rfl, rfl, rfl, rfl, rfl, trivial⟩ ?_
  intro σ _
  refine zr (za rfl (zn (zq (zr (zm rfl ?_)))))
  refine zo (op_nilCheck rfl) (zo (op_fieldAddr Try.underlying156 rfl ti123 rfl (by decide)) (zo (op_fieldAddr Try.underlying123 rfl ti23 rfl (by decide)) (zs (oblk (i := 3) 1 hO rfl rfl Try.underlying23 rfl rfl) (zo (op_lenN Try.underlying23 rfl (c9.neq hO 3 rfl)) (za rfl ?_)))))
  refine zn (zq ?_)
  refine Go1.drawS 1 [(0, .pure), (1, .pure), (2, .pure), (3, .stable), (4, .pure), (6, .pure), (5, .loud), (7, .last)] mixed (by kernel_rfl) ?_
  intro WE OC
  have lG := Stp.same hO OC
  replace hO := lG.own
  refine GoQ.pure rfl (op_move rfl) rfl rfl ?_
  refine GoQ.pure rfl (op_nilCheck rfl) rfl rfl ?_
  refine GoQ.pure rfl (op_fieldAddr Try.underlying156 rfl ti154 rfl (by decide)) rfl rfl ?_
  refine GoQ.stable rfl (oblk (i := 9) 1 hO rfl rfl Try.underlying154 rfl rfl) rfl rfl ?_
  refine GoQ.pure rfl (op_move rfl) rfl rfl ?_
  refine GoQ.pure rfl (op_move rfl) rfl rfl ?_
  replace bh := (bh.ch pV.ch).ch lG.ch
  refine GoQ.call rfl (op_call body157 rfl (walk_enumerate_text hO.lt bh H)) (fun v w hr => by obtain ⟨_, _, hs, _, _⟩ := hr; assumption) rfl rfl ?_
  rintro WF WG ⟨r381, rfl, OD, Sz, H⟩
  have fJ := Stp.same hO OD
  replace hO := fJ.own
  have hobt := omapUpd (MK.str Try.underlying9) 11 hO rfl Try.underlying154 r381 (d_16.length : Int)
  obtain ⟨WH, fF, B6⟩ := hobt
  dsimp only [sS, sZ] at fF
  refine GoQ.last rfl (B6 (by exact rfl) (by exact rfl) (by exact rfl)) rfl rfl ?_
  replace hO := fF.own
  refine GoQ.nil ?_
  refine zq (zr (zm rfl (zm rfl (zo (op_nilCheck rfl) (zo (op_fieldAddr Try.underlying156 rfl ti123 rfl (by decide)) ?_)))))
  refine zo (op_fieldAddr Try.underlying123 rfl ti23 rfl (by decide)) (zs (oblk (i := 3) 1 hO rfl rfl Try.underlying23 rfl rfl) (zm rfl ?_))
  replace bh := (bh.ch fJ.ch).ch fF.ch
  have hobt := obuild (r := Rp.sl (Rp.int .i64)) (n := 1) (parts := [(0, .slice sj r66.length sk)]) (vs := [.slice sj r66.length sk]) (xs := [r66]) rfl Try.underlying23 ti31 hO (by decide) (by kernel_rfl) (Els.cons rfl ⟨sj, sk, rfl, bh⟩ (Els.nil _ _ _) (by simp [mx])) rfl
  obtain ⟨WI, RO, fK, OE, Tj, J8⟩ := hobt
  refine zg (J8 rfl) ?_
  replace hO := fK.own
  have hobt := freeze 0 hO rfl OE
  obtain ⟨hO1, p6, eX, OF⟩ := hobt
  dsimp only [eS, eZ] at hO1 p6 eX
  replace hB := (((((((hB.trans iG.fr).trans pU.fr).trans pV.fr).trans lG.fr).trans fJ.fr).trans fF.fr).trans fK.fr).trans (Owns.dropFr _ _ 0)
  dsimp only [eS, eZ] at hB
  replace hO := hO1; clear hO1
  obtain ⟨h400, H⟩ := H
  have Z29 := (((lG.ch.trans fJ.ch).trans fF.ch).trans fK.ch).trans p6
  replace c9 := c9.ch Z29
  have hobt := oapp Try.underlying23 ti31 rfl 3 hO rfl c9 eX OF h400 (by decide)
  obtain ⟨Qo, zj, zl, m5, fe, cT, CE⟩ := hobt
  dsimp only [sS, sZ] at fe cT
  refine zg (CE (by exact rfl) (by exact rfl)) ?_
  replace hO := fe.own
  refine zo (op_nilCheck rfl) (zo (op_fieldAddr Try.underlying156 rfl ti123 rfl (by decide)) (zo (op_fieldAddr Try.underlying123 rfl ti23 rfl (by decide)) ?_))
  have hobt := oblkSt2 (v := .slice zj (n21 + 1) zl) (i := 3) (cs' := #[.int .i64 a0.Enum.Points, .bool a0.Enum.Monoid, .slice aE aD aF, .slice zj (n21 + 1) zl, .slice p25 n27 c26, .slice p31 n33 c32, .slice aQ aL aR, .slice p37 n39 c38, .int .i64 a0.Enum.Done, .map (some aS), .slice p43 n45 c44, .slice p49 n51 c50, .slice ba a9 bc]) 1 hO rfl rfl rfl rfl
  obtain ⟨WJ, fd, J9⟩ := hobt
  dsimp only [sS, sZ] at fd
  refine zg (J9 Try.underlying23 rfl ti23 (by exact rfl) (by exact rfl)) ?_
  replace hO := fd.own
  refine zn (zq ?_)
  refine Go1.cut [(0, .pointer (some ⟨dQ, 0, none⟩)), (2, .int .i64 a0.Enum.Done), (3, .int .i64 (k1_12 : Int)), (4, .string (gstr ((ix d_40 a0.Enum.Done) ++ (chr (IntKind.i32.wrap ((97 : Int) + (k1_12 : Int))))))), (5, .int .i64 (ix (ix a0.Enum.Right (ix d_46 a0.Enum.Done)) (k1_12 : Int))), (13, .int .i64 (d_16.length : Int))] ⟨rfl, rfl, rfl, rfl, rfl, rfl, trivial⟩ ?_
  intro σ _
  refine zr (zm rfl (zm rfl (zo (op_nilCheck rfl) (zo (op_fieldAddr Try.underlying156 rfl ti123 rfl (by decide)) (zo (op_fieldAddr Try.underlying123 rfl ti31 rfl (by decide)) ?_)))))
  refine zs (oblk (i := 4) 1 hO rfl rfl Try.underlying31 rfl rfl) (zm rfl ?_)
  have hobt := obuild (r := Rp.int .i64) (n := 1) (parts := [(0, .int .i64 a0.Enum.Done)]) (vs := [.int .i64 a0.Enum.Done]) (xs := [a0.Enum.Done]) rfl Try.underlying31 ti3 hO (by decide) (by kernel_rfl) (Els.cons rfl rfl (Els.nil _ _ _) (by simp [mx])) rfl
  obtain ⟨WK, WL, eg, xx, HG, CF⟩ := hobt
  refine zg (CF rfl) ?_
  replace hO := eg.own
  have hobt := freeze 0 hO rfl xx
  obtain ⟨hO1, ol, gp, OG⟩ := hobt
  dsimp only [eS, eZ] at hO1 ol gp
  replace hB := (((hB.trans fe.fr).trans fd.fr).trans eg.fr).trans (Owns.dropFr _ _ 0)
  dsimp only [eS, eZ] at hB
  replace hO := hO1; clear hO1
  obtain ⟨CG, H⟩ := H
  have Z30 := ((((((((Z15.trans lG.ch).trans fJ.ch).trans fF.ch).trans fK.ch).trans p6).trans fe.ch).trans fd.ch).trans eg.ch).trans ol
  replace cj := cj.ch Z30
  have hobt := oapp Try.underlying31 ti3 rfl 4 hO rfl cj gp OG CG (by decide)
  obtain ⟨WM, AO, AP, OH, gH, gk, Ka⟩ := hobt
  dsimp only [sS, sZ] at gH gk
  refine zg (Ka (by exact rfl) (by exact rfl)) ?_
  replace hO := gH.own
  refine zo (op_nilCheck rfl) (zo (op_fieldAddr Try.underlying156 rfl ti123 rfl (by decide)) (zo (op_fieldAddr Try.underlying123 rfl ti31 rfl (by decide)) ?_))
  have hobt := oblkSt2 (v := .slice AO (n27 + 1) AP) (i := 4) (cs' := #[.int .i64 a0.Enum.Points, .bool a0.Enum.Monoid, .slice aE aD aF, .slice zj (n21 + 1) zl, .slice AO (n27 + 1) AP, .slice p31 n33 c32, .slice aQ aL aR, .slice p37 n39 c38, .int .i64 a0.Enum.Done, .map (some aS), .slice p43 n45 c44, .slice p49 n51 c50, .slice ba a9 bc]) 1 hO rfl rfl rfl rfl
  obtain ⟨WN, jF, Kb⟩ := hobt
  dsimp only [sS, sZ] at jF
  refine zg (Kb Try.underlying31 rfl ti31 (by exact rfl) (by exact rfl)) ?_
  replace hO := jF.own
  refine zn (zq (zr (zm rfl (zm rfl (zo (op_nilCheck rfl) ?_)))))
  refine zo (op_fieldAddr Try.underlying156 rfl ti123 rfl (by decide)) (zo (op_fieldAddr Try.underlying123 rfl ti31 rfl (by decide)) (zs (oblk (i := 5) 1 hO rfl rfl Try.underlying31 rfl rfl) (zm rfl ?_)))
  have hobt := obuild (r := Rp.int .i64) (n := 1) (parts := [(0, .int .i64 (k1_12 : Int))]) (vs := [.int .i64 (k1_12 : Int)]) (xs := [(k1_12 : Int)]) rfl Try.underlying31 ti3 hO (by decide) (by kernel_rfl) (Els.cons rfl rfl (Els.nil _ _ _) (by simp [mx])) rfl
  obtain ⟨WO, WP, j9, OI, Tk, Kc⟩ := hobt
  refine zg (Kc rfl) ?_
  replace hO := j9.own
  have hobt := freeze 0 hO rfl OI
  obtain ⟨hO1, m6, i9, OJ⟩ := hobt
  dsimp only [eS, eZ] at hO1 m6 i9
  replace hB := (((hB.trans gH.fr).trans jF.fr).trans j9.fr).trans (Owns.dropFr _ _ 0)
  dsimp only [eS, eZ] at hB
  replace hO := hO1; clear hO1
  obtain ⟨zu, H⟩ := H
  have Z31 := (((Z30.trans gH.ch).trans jF.ch).trans j9.ch).trans m6
  replace cd := cd.ch Z31
  have hobt := oapp Try.underlying31 ti3 rfl 5 hO rfl cd i9 OJ zu (by decide)
  obtain ⟨WQ, CH, CJ, OK, jG, jV, Kd⟩ := hobt
  dsimp only [sS, sZ] at jG jV
  refine zg (Kd (by exact rfl) (by exact rfl)) ?_
  replace hO := jG.own
  refine zo (op_nilCheck rfl) (zo (op_fieldAddr Try.underlying156 rfl ti123 rfl (by decide)) (zo (op_fieldAddr Try.underlying123 rfl ti31 rfl (by decide)) ?_))
  have hobt := oblkSt2 (v := .slice CH (n33 + 1) CJ) (i := 5) (cs' := #[.int .i64 a0.Enum.Points, .bool a0.Enum.Monoid, .slice aE aD aF, .slice zj (n21 + 1) zl, .slice AO (n27 + 1) AP, .slice CH (n33 + 1) CJ, .slice aQ aL aR, .slice p37 n39 c38, .int .i64 a0.Enum.Done, .map (some aS), .slice p43 n45 c44, .slice p49 n51 c50, .slice ba a9 bc]) 1 hO rfl rfl rfl rfl
  obtain ⟨WR, i5, Ke⟩ := hobt
  dsimp only [sS, sZ] at i5
  refine zg (Ke Try.underlying31 rfl ti31 (by exact rfl) (by exact rfl)) ?_
  replace hO := i5.own
  refine zn (zq ?_)
  refine Go1.cut [(0, .pointer (some ⟨dQ, 0, none⟩)), (4, .string (gstr ((ix d_40 a0.Enum.Done) ++ (chr (IntKind.i32.wrap ((97 : Int) + (k1_12 : Int))))))), (5, .int .i64 (ix (ix a0.Enum.Right (ix d_46 a0.Enum.Done)) (k1_12 : Int))), (13, .int .i64 (d_16.length : Int))] ⟨rfl, rfl, rfl, rfl, trivial⟩ ?_
  intro σ _
  refine zr (zm rfl (zm rfl (zo (op_nilCheck rfl) (zo (op_fieldAddr Try.underlying156 rfl ti30 rfl (by decide)) (zs (oblk (i := 10) 1 hO rfl rfl Try.underlying30 rfl rfl) ?_)))))
  refine zm rfl ?_
  have hobt := obuild (r := Rp.str) (n := 1) (parts := [(0, .string (gstr ((ix d_40 a0.Enum.Done) ++ (chr (IntKind.i32.wrap ((97 : Int) + (k1_12 : Int)))))))]) (vs := [.string (gstr ((ix d_40 a0.Enum.Done) ++ (chr (IntKind.i32.wrap ((97 : Int) + (k1_12 : Int))))))]) (xs := [(ix d_40 a0.Enum.Done) ++ (chr (IntKind.i32.wrap ((97 : Int) + (k1_12 : Int))))]) rfl Try.underlying30 ti9 hO (by decide) (by kernel_rfl) (Els.cons rfl ⟨rfl, (lenApp xv)⟩ (Els.nil _ _ _) (by simp [mx])) rfl
  obtain ⟨WS, WT, jH, OL, Tl, Cs⟩ := hobt
  refine zg (Cs rfl) ?_
  replace hO := jH.own
  have hobt := freeze 0 hO rfl OL
  obtain ⟨hO1, mH, om, OM⟩ := hobt
  dsimp only [eS, eZ] at hO1 mH om
  replace hB := (((hB.trans jG.fr).trans i5.fr).trans jH.fr).trans (Owns.dropFr _ _ 0)
  dsimp only [eS, eZ] at hB
  replace hO := hO1; clear hO1
  obtain ⟨RQ, H⟩ := H
  have Z32 := (((((((((((Z29.trans fe.ch).trans fd.ch).trans eg.ch).trans ol).trans gH.ch).trans jF.ch).trans j9.ch).trans m6).trans jG.ch).trans i5.ch).trans jH.ch).trans mH
  replace bz := bz.ch Z32
  have hobt := oapp Try.underlying30 ti9 rfl 8 hO rfl bz om OM RQ (by decide)
  obtain ⟨WU, En, Eo, ON, eF, rH, Kf⟩ := hobt
  dsimp only [sS, sZ] at eF rH
  refine zg (Kf (by exact rfl) (by exact rfl)) ?_
  replace hO := eF.own
  refine zo (op_nilCheck rfl) (zo (op_fieldAddr Try.underlying156 rfl ti30 rfl (by decide)) ?_)
  have hobt := oblkSt2 (v := .slice En (n45 + 1) Eo) (i := 10) (cs' := #[.int .i64 a0.Enum.Points, .bool a0.Enum.Monoid, .slice aE aD aF, .slice zj (n21 + 1) zl, .slice AO (n27 + 1) AP, .slice CH (n33 + 1) CJ, .slice aQ aL aR, .slice p37 n39 c38, .int .i64 a0.Enum.Done, .map (some aS), .slice En (n45 + 1) Eo, .slice p49 n51 c50, .slice ba a9 bc]) 1 hO rfl rfl rfl rfl
  obtain ⟨WW, iF, Kg⟩ := hobt
  dsimp only [sS, sZ] at iF
  refine zg (Kg Try.underlying30 rfl ti30 (by exact rfl) (by exact rfl)) ?_
  replace hO := iF.own
  refine zn (zq (zr (zm rfl (zm rfl (zo (op_nilCheck rfl) ?_)))))
  refine zo (op_fieldAddr Try.underlying156 rfl ti31 rfl (by decide)) (zs (oblk (i := 11) 1 hO rfl rfl Try.underlying31 rfl rfl) (zm rfl ?_))
  have hobt := obuild (r := Rp.int .i64) (n := 1) (parts := [(0, .int .i64 (ix (ix a0.Enum.Right (ix d_46 a0.Enum.Done)) (k1_12 : Int)))]) (vs := [.int .i64 (ix (ix a0.Enum.Right (ix d_46 a0.Enum.Done)) (k1_12 : Int))]) (xs := [(ix (ix a0.Enum.Right (ix d_46 a0.Enum.Done)) (k1_12 : Int))]) rfl Try.underlying31 ti3 hO (by decide) (by kernel_rfl) (Els.cons rfl rfl (Els.nil _ _ _) (by simp [mx])) rfl
  obtain ⟨WX, WY, eG, OO, Tm, Kh⟩ := hobt
  refine zg (Kh rfl) ?_
  replace hO := eG.own
  have hobt := freeze 0 hO rfl OO
  obtain ⟨hO1, lU, wk, OP⟩ := hobt
  dsimp only [eS, eZ] at hO1 lU wk
  replace hB := (((hB.trans eF.fr).trans iF.fr).trans eG.fr).trans (Owns.dropFr _ _ 0)
  dsimp only [eS, eZ] at hB
  replace hO := hO1; clear hO1
  obtain ⟨RR, H⟩ := H
  have Z33 := (((Z32.trans eF.ch).trans iF.ch).trans eG.ch).trans lU
  replace bA := bA.ch Z33
  have hobt := oapp Try.underlying31 ti3 rfl 9 hO rfl bA wk OP RR (by decide)
  obtain ⟨W0, Gk, Gl, OQ, e9, we, Ki⟩ := hobt
  dsimp only [sS, sZ] at e9 we
  refine zg (Ki (by exact rfl) (by exact rfl)) ?_
  replace hO := e9.own
  refine zo (op_nilCheck rfl) (zo (op_fieldAddr Try.underlying156 rfl ti31 rfl (by decide)) ?_)
  have hobt := oblkSt2 (v := .slice Gk (n51 + 1) Gl) (i := 11) (cs' := #[.int .i64 a0.Enum.Points, .bool a0.Enum.Monoid, .slice aE aD aF, .slice zj (n21 + 1) zl, .slice AO (n27 + 1) AP, .slice CH (n33 + 1) CJ, .slice aQ aL aR, .slice p37 n39 c38, .int .i64 a0.Enum.Done, .map (some aS), .slice En (n45 + 1) Eo, .slice Gk (n51 + 1) Gl, .slice ba a9 bc]) 1 hO rfl rfl rfl rfl
  obtain ⟨W1, iw, Kj⟩ := hobt
  dsimp only [sS, sZ] at iw
  refine zg (Kj Try.underlying31 rfl ti31 (by exact rfl) (by exact rfl)) ?_
  replace hO := iw.own
  refine zn (zq ?_)
  refine Go1.cut [(13, .int .i64 (d_16.length : Int))] ⟨rfl, trivial⟩ ?_
  intro σ _
  refine zr (zm rfl (za rfl (zn ?_)))
  refine Go1.ret1V Try.func155 rfl (show _ = .int .i64 (d_16.length : Int) from rfl) ?_
  refine hR377 _ _ ?_
  refine za rfl (zn ?_)
  refine Go1.inBlock ?_
  refine zr (zm rfl (zm rfl (zm rfl ?_)))
  obtain ⟨Gm, H⟩ := H
  obtain ⟨zw, H⟩ := H
  have Z34 := (((((((((Z31.trans jG.ch).trans i5.ch).trans jH.ch).trans mH).trans eF.ch).trans iF.ch).trans eG.ch).trans lU).trans e9.ch).trans iw.ch
  replace bM := bM.ch Z34
  refine zo (op_index Try.underlying31 ti3 rfl rfl Gm (ltn (bM.neq hO 0 rfl) zw) (bM.psome hO 0 rfl Gm zw)) ?_
  have hobt := ost (r := Rp.int .i64) rfl 0 hO rfl bM Gm zw (v := .int .i64 (d_16.length : Int)) (u := (d_16.length : Int)) rfl rfl
  obtain ⟨W2, OR, eh, HH, Kk⟩ := hobt
  dsimp only [sS, sZ] at eh HH
  refine zg (Kk Try.underlying3 rfl ti3 (by exact rfl) (by exact rfl)) ?_
  replace hO := eh.own
  refine zn ?_
  refine Go1.inBlock ?_
  refine zr ?_
  replace ad := (ad.ch Z34).ch eh.ch
  refine zo (op_add rfl rfl (wrap_i64 (natbd h53 ad.bd))) (zm rfl (zn ?_))
  replace we := (we.ch iw.ch).ch eh.ch
  replace hB := ((hB.trans e9.fr).trans iw.fr).trans eh.fr
  have Z35 := ((((iF.ch.trans eG.ch).trans lU).trans e9.ch).trans iw.ch).trans eh.ch
  replace rH := rH.ch Z35
  have Z36 := ((((((((i5.ch.trans jH.ch).trans mH).trans eF.ch).trans iF.ch).trans eG.ch).trans lU).trans e9.ch).trans iw.ch).trans eh.ch
  replace jV := jV.ch Z36
  have Z37 := ((((((((((((jF.ch.trans j9.ch).trans m6).trans jG.ch).trans i5.ch).trans jH.ch).trans mH).trans eF.ch).trans iF.ch).trans eG.ch).trans lU).trans e9.ch).trans iw.ch).trans eh.ch
  replace gk := gk.ch Z37
  have Z38 := ((((((((((((((((fd.ch.trans eg.ch).trans ol).trans gH.ch).trans jF.ch).trans j9.ch).trans m6).trans jG.ch).trans i5.ch).trans jH.ch).trans mH).trans eF.ch).trans iF.ch).trans eG.ch).trans lU).trans e9.ch).trans iw.ch).trans eh.ch
  replace cT := cT.ch Z38
  have Z39 := ((Z33.trans e9.ch).trans iw.ch).trans eh.ch
  replace ae := ae.ch Z39
  have Z40 := Z34.trans eh.ch
  replace bN := bN.ch Z40
  replace ao := ao.ch Z40
  exact hX1 _ H _ _ ⟨OR, n21 + 1, zj, zl, m5, n27 + 1, AO, AP, OH, n33 + 1, CH, CJ, OK, n39, p37, c38, mh, n45 + 1, En, Eo, ON, n51 + 1, Gk, Gl, OQ, ⟨rfl, rfl, rfl, rfl, rfl, rfl, trivial⟩, hO, HH, ad, cT, gk, jV, ae, bN, rH, we, ao, hB⟩
 replace H := ifn h53 H
 refine zo (fun w => opB (op_lss rfl rfl w) (decide_eq_false h53)) (zn (zq (zf rfl rfl ?_)))
 refine Go1.exit rfl ?_
 refine zq (zr (zm rfl (zm rfl (zo (op_nilCheck rfl) (zo (op_fieldAddr Try.underlying156 rfl ti123 rfl (by decide)) ?_)))))
 refine zo (op_fieldAddr Try.underlying123 rfl ti23 rfl (by decide)) (zs (oblk (i := 6) 1 hO rfl rfl Try.underlying23 rfl rfl) (zm rfl ?_))
 have hobt := freeze 0 hO rfl bM
 obtain ⟨hO1, um, sW, OS⟩ := hobt
 dsimp only [eS, eZ] at hO1 um sW
 replace hB := hB.trans (Owns.dropFr _ _ 0)
 dsimp only [eS, eZ] at hB
 replace hO := hO1; clear hO1
 have hobt := obuild (r := Rp.sl (Rp.int .i64)) (n := 1) (parts := [(0, .slice p2 a0.Enum.Gens.length a0.Enum.Gens.length)]) (vs := [.slice p2 a0.Enum.Gens.length a0.Enum.Gens.length]) (xs := [d_13]) rfl Try.underlying23 ti31 hO (by decide) (by kernel_rfl) (Els.cons rfl ⟨p2, a0.Enum.Gens.length, congrArg some (congrArg (fun nn => Value.slice p2 nn a0.Enum.Gens.length) OS), sW⟩ (Els.nil _ _ _) (by simp [mx])) rfl
 obtain ⟨W3, W4, qO, OT, Tn, Ct⟩ := hobt
 refine zg (Ct rfl) ?_
 replace hO := qO.own
 have hobt := freeze 0 hO rfl OT
 obtain ⟨hO1, tL, wm, OU⟩ := hobt
 dsimp only [eS, eZ] at hO1 tL wm
 replace hB := (hB.trans qO.fr).trans (Owns.dropFr _ _ 0)
 dsimp only [eS, eZ] at hB
 replace hO := hO1; clear hO1
 obtain ⟨RS, H⟩ := H
 have Z41 := (um.trans qO.ch).trans tL
 replace ae := ae.ch Z41
 have hobt := oapp Try.underlying23 ti31 rfl 5 hO rfl ae wm OU RS (by decide)
 obtain ⟨W5, Ep, Er, OV, oL, yp, Kl⟩ := hobt
 dsimp only [sS, sZ] at oL yp
 refine zg (Kl (by exact rfl) (by exact rfl)) ?_
 replace hO := oL.own
 refine zo (op_nilCheck rfl) (zo (op_fieldAddr Try.underlying156 rfl ti123 rfl (by decide)) (zo (op_fieldAddr Try.underlying123 rfl ti23 rfl (by decide)) ?_))
 have hobt := oblkSt2 (v := .slice Ep (aL + 1) Er) (i := 6) (cs' := #[.int .i64 a0.Enum.Points, .bool a0.Enum.Monoid, .slice aE aD aF, .slice p19 n21 c20, .slice p25 n27 c26, .slice p31 n33 c32, .slice Ep (aL + 1) Er, .slice p37 n39 c38, .int .i64 a0.Enum.Done, .map (some aS), .slice p43 n45 c44, .slice p49 n51 c50, .slice ba a9 bc]) 0 hO rfl rfl rfl rfl
 obtain ⟨W6, m7, Km⟩ := hobt
 dsimp only [sS, sZ] at m7
 refine zg (Km Try.underlying23 rfl ti23 (by exact rfl) (by exact rfl)) ?_
 replace hO := m7.own
 refine zn (zq ?_)
 refine Go1.cut [(0, .pointer (some ⟨dQ, 0, none⟩))] ⟨rfl, trivial⟩ ?_
 intro σ _
 refine zr (zm rfl (zo (op_nilCheck rfl) (zo (op_fieldAddr Try.underlying156 rfl ti123 rfl (by decide)) (zo (op_fieldAddr Try.underlying123 rfl ti3 rfl (by decide)) (zs (oblk (i := 8) 0 hO rfl rfl Try.underlying3 rfl rfl) ?_)))))
 obtain ⟨RT, H⟩ := H
 refine zo (op_add rfl rfl (wrap_i64 RT)) (zo (op_nilCheck rfl) (zo (op_fieldAddr Try.underlying156 rfl ti123 rfl (by decide)) (zo (op_fieldAddr Try.underlying123 rfl ti3 rfl (by decide)) ?_)))
 have hobt := oblkSt2 (v := .int .i64 (a0.Enum.Done + (1 : Int))) (i := 8) (cs' := #[.int .i64 a0.Enum.Points, .bool a0.Enum.Monoid, .slice aE aD aF, .slice p19 n21 c20, .slice p25 n27 c26, .slice p31 n33 c32, .slice Ep (aL + 1) Er, .slice p37 n39 c38, .int .i64 (a0.Enum.Done + (1 : Int)), .map (some aS), .slice p43 n45 c44, .slice p49 n51 c50, .slice ba a9 bc]) 0 hO rfl rfl rfl rfl
 obtain ⟨W7, fG, Kn⟩ := hobt
 dsimp only [sS, sZ] at fG
 refine zg (Kn Try.underlying3 rfl ti3 (by exact rfl) (by exact rfl)) ?_
 replace hO := fG.own
 refine zn (zq (zr (za rfl (zn ?_))))
 refine Go1.ret1 Try.func133 rfl ?_
 replace yp := (yp.ch m7.ch).ch fG.ch
 replace hB := ((hB.trans oL.fr).trans m7.fr).trans fG.fr
 have Z42 := ((Z41.trans oL.ch).trans m7.ch).trans fG.ch
 replace ad := ad.ch Z42
 replace c9 := c9.ch Z42
 replace cj := cj.ch Z42
 replace cd := cd.ch Z42
 replace bN := bN.ch Z42
 replace bz := bz.ch Z42
 replace bA := bA.ch Z42
 replace ao := ao.ch Z42
 exact ⟨((0 : Int)), (⟨(⟨a0.Enum.Points, a0.Enum.Monoid, a0.Enum.Gens, d_16, d_22, d_28, a0.Enum.Right ++ ([d_13]), d_34, (a0.Enum.Done + (1 : Int))⟩ : Enum), m1_52, d_40, d_46, a0.single⟩ : run), aD, aE, aF, cw, n21, p19, c20, ld, n27, p25, c26, mf, n33, p31, c32, mg, (aL + 1), Ep, Er, OV, n39, p37, c38, mh, n45, p43, c44, mj, n51, p49, c50, ml, a9, ba, bc, dk, rfl, hO, ad, c9, cj, cd, yp, bN, bz, bA, ao, hB, H⟩
theorem body132 : Body Try.prog 132 := ⟨Try.f132, Try.func132, rfl, by kernel_rfl⟩
theorem body101 : Body Try.prog 101 := ⟨Try.f101, Try.func101, rfl, by kernel_rfl⟩
theorem walk_enumerate_Build {A : List Nat} {w0 : World} {CK : Option Addr} {CM : Nat} {gens : List (List Int)} {monoid : Bool} (hA : ∀ b ∈ A, b < w0.heap.size) (oM : ISl (Rp.sl (Rp.int .i64)) A w0 CK CM gens) {K : Enum → Int → Prop} (H : enumerate_Build gens monoid K) :
    CallsV Try.prog 101 #[.slice CK gens.length CM, .bool monoid] w0 (fun v w' => ∃ (r0 : Enum), ∃ (r1 : Int), ∃ (A4 : Option Addr), ∃ (A5 : Nat), ∃ (zV : Option Addr), ∃ (zW : Nat), ∃ (yD : Option Addr), ∃ (yE : Nat), ∃ (A6 : Option Addr), ∃ (A7 : Nat), ∃ (zX : Option Addr), ∃ (zY : Nat), ∃ (z3 : Option Addr), ∃ (z4 : Nat), v = .tuple #[.agg #[.int .i64 r0.Points, .bool r0.Monoid, .slice A4 r0.Gens.length A5, .slice zV r0.Elems.length zW, .slice yD r0.Prefix.length yE, .slice A6 r0.Last.length A7, .slice zX r0.Right.length zY, .slice z3 r0.Rules.length z4, .int .i64 r0.Done], .int .i64 r1] ∧ Same w0 w' ∧ ISl (Rp.sl (Rp.int .i64)) A w' A4 A5 r0.Gens ∧ ISl (Rp.sl (Rp.int .i64)) A w' zV zW r0.Elems ∧ ISl (Rp.int .i64) A w' yD yE r0.Prefix ∧ ISl (Rp.int .i64) A w' A6 A7 r0.Last ∧ ISl (Rp.sl (Rp.int .i64)) A w' zX zY r0.Right ∧ ISl (rpRule) A w' z3 z4 r0.Rules ∧ K r0 r1) := by
 refine CallsV.of (l := [.slice CK gens.length CM, .bool monoid]) Try.func101 rfl Try.ntmps101 rfl ?_
 have hO := Owns.start hA
 have hB := Fr.refl (bl []) w0
 unfold enumerate_Build at H
 refine zq (zr ?_)
 have hobt := oalloc (t := 123) (cs := #[.int .i64 (0 : Int), .bool false, .slice none 0 0, .slice none 0 0, .slice none 0 0, .slice none 0 0, .slice none 0 0, .slice none 0 0, .int .i64 (0 : Int)]) ti123 hO rfl
 obtain ⟨w1, B2, dG, hs4, lb⟩ := hobt
 refine GoR.op lb rfl rfl ?_
 replace hO := dG.own
 refine za rfl (zn (zq (zr (zm rfl (zm rfl ?_)))))
 replace oM := (oM.ch (Ch.start A w0)).ch dG.ch
 refine GoR.call (op_call body131 rfl (walk_enumerate_begin hO.lt oM H)) rfl rfl ?_
 intro v9 w10 hcase13
 refine Or.elim hcase13 ?_ ?_
 ·refine exE fun r8 => andE fun hv14 => andE fun Ax => fun H => ?_
  subst hv14
  clear hcase13
  replace H := oElimN H
  have Et := Stp.same hO Ax
  replace hO := Et.own
  refine zm rfl (zo (op_extract rfl rfl) (zo (op_extract rfl rfl) (za rfl (za rfl (zn ?_)))))
  refine zq (zq (zr (zm rfl ?_)))
  by_cases h16 : r8 = (0 : Int)
  ·replace H := ifp h16 H
   refine zo (fun w => opB (op_neq rfl rfl w) (ndT h16)) (zn (zf rfl rfl (zk (zq (zb ?_)))))
   replace hB := (hB.trans dG.fr).trans Et.fr
   refine Go1.loopW (S := Unit) (fun s σ w => agrees σ [(4, .pointer (some ⟨B2, 0, none⟩)), (6, .pointer none)] ∧ Owns w0.heap.size w [.blk B2 (.cells #[.int .i64 (0 : Int), .bool false, .slice none 0 0, .slice none 0 0, .slice none 0 0, .slice none 0 0, .slice none 0 0, .slice none 0 0, .int .i64 (0 : Int)] 123 (0, 0))] A ∧ Fr (bl []) w0 (bl [.blk B2 (.cells #[.int .i64 (0 : Int), .bool false, .slice none 0 0, .slice none 0 0, .slice none 0 0, .slice none 0 0, .slice none 0 0, .slice none 0 0, .int .i64 (0 : Int)] 123 (0, 0))]) w) H ⟨⟨rfl, rfl, trivial⟩, hO, hB⟩ ?_
   intro X1 _
   intro H hX1 σ w17
   refine andE fun hag => andE fun hO => fun hB => ?_
   refine Go1.keep [(4, .pointer (some ⟨B2, 0, none⟩)), (6, .pointer none)] hag ?_
   refine zq (zq (zr (zm rfl ?_)))
   refine GoR.inl (vs := [.pointer none]) (caps := []) rfl rfl body132 Try.func132 rfl Try.ntmps132 rfl rfl rfl ?_
   intro RhR18 hR18
   refine zq (zr (za rfl (zn (zq ?_))))
   refine Go1.drawS 0 [(0, .pure), (1, .pure), (2, .pure), (3, .pure), (4, .stable), (5, .pure), (6, .pure), (7, .pure), (8, .pure), (9, .stable), (10, .pure), (11, .pure), (12, .pure)] mixed (by kernel_rfl) ?_
   intro w19 RU
   have sX := Stp.same hO RU
   replace hO := sX.own
   refine GoQ.pure rfl (op_move rfl) rfl rfl ?_
   exact H.elim
  replace H := ifn h16 H
  refine zo (fun w => opB (op_neq rfl rfl w) (ndF h16)) (zn (zt rfl rfl (zq (zr (zo (op_build Try.underlying123 ti123 (pl := [(0, 1), (1, 1), (2, 1), (3, 1), (4, 1), (5, 1), (6, 1), (7, 1), (8, 1)]) (vs := []) (cs := #[.int .i64 (0 : Int), .bool false, .slice none 0 0, .slice none 0 0, .slice none 0 0, .slice none 0 0, .slice none 0 0, .slice none 0 0, .int .i64 (0 : Int)]) (by kernel_rfl) rfl (by kernel_rfl)) ?_)))))
  refine zm rfl ?_
  have hobt := oblkStAgg (us := [.int .i64 (0 : Int), .bool false, .slice none 0 0, .slice none 0 0, .slice none 0 0, .slice none 0 0, .slice none 0 0, .slice none 0 0, .int .i64 (0 : Int)]) (o := 0) (cs' := #[.int .i64 (0 : Int), .bool false, .slice none 0 0, .slice none 0 0, .slice none 0 0, .slice none 0 0, .slice none 0 0, .slice none 0 0, .int .i64 (0 : Int)]) 0 hO rfl rfl (Nat.le_of_ble_eq_true rfl) rfl
  obtain ⟨w22, kS, zO⟩ := hobt
  refine zg (zO ti123 (by exact rfl) (by exact rfl) rfl) ?_
  replace hO := kS.own
  refine za rfl (zn ?_)
  refine Go1.retC2 Try.func101 rfl rfl (run_loadBlk (vs := [.int .i64 (0 : Int), .bool false, .slice none 0 0, .slice none 0 0, .slice none 0 0, .slice none 0 0, .slice none 0 0, .slice none 0 0, .int .i64 (0 : Int)]) 0 hO rfl rfl Try.underlying123 rfl ti123) ?_
  replace hB := ((hB.trans dG.fr).trans Et.fr).trans kS.fr
  exact ⟨(⟨(0 : Int), false, ([] : List (List Int)), ([] : List (List Int)), ([] : List Int), ([] : List Int), ([] : List (List Int)), ([] : List Rule), (0 : Int)⟩ : Enum), r8, none, 0, none, 0, none, 0, none, 0, none, 0, none, 0, rfl, hB.same, (ISl.null _ _ _), (ISl.null _ _ _), (ISl.null _ _ _), (ISl.null _ _ _), (ISl.null _ _ _), (ISl.null _ _ _), H⟩
 ·refine exE fun r7 => exE fun r8 => exE fun lV => exE fun AQ => exE fun AR => exE fun AT => exE fun z5 => exE fun z6 => exE fun z7 => exE fun z8 => exE fun zx => exE fun zy => exE fun zA => exE fun zB => exE fun yC => exE fun AU => exE fun AV => exE fun AW => exE fun z9 => exE fun Aa => exE fun Ab => exE fun Ac => exE fun zC => exE fun Ad => exE fun Ae => exE fun Af => exE fun zD => exE fun cr => exE fun Eu => exE fun Ew => exE fun Ex => exE fun Dc => exE fun Dd => exE fun De => exE fun Df => exE fun CO => exE fun Dg => exE fun Dh => exE fun Di => exE fun CP => andE fun hv25 => andE fun Ax => andE fun hN12 => andE fun k8 => andE fun ki => andE fun jM => andE fun k9 => andE fun kj => andE fun kl => andE fun qT => andE fun oN => andE fun oO => fun H => ?_
  subst hv25
  clear hcase13
  replace H := oElimS H
  have lR := Stp.more hO Ax hN12
  dsimp only [List.cons_append, List.nil_append] at lR
  replace hO := lR.own
  replace k8 := k8.ch (Ch.assoc _ _ _ _)
  dsimp only [List.cons_append, List.nil_append] at k8
  replace ki := ki.ch (Ch.assoc _ _ _ _)
  dsimp only [List.cons_append, List.nil_append] at ki
  replace jM := jM.ch (Ch.assoc _ _ _ _)
  dsimp only [List.cons_append, List.nil_append] at jM
  replace k9 := k9.ch (Ch.assoc _ _ _ _)
  dsimp only [List.cons_append, List.nil_append] at k9
  replace kj := kj.ch (Ch.assoc _ _ _ _)
  dsimp only [List.cons_append, List.nil_append] at kj
  replace kl := kl.ch (Ch.assoc _ _ _ _)
  dsimp only [List.cons_append, List.nil_append] at kl
  replace qT := qT.ch (Ch.assoc _ _ _ _)
  dsimp only [List.cons_append, List.nil_append] at qT
  replace oN := oN.ch (Ch.assoc _ _ _ _)
  dsimp only [List.cons_append, List.nil_append] at oN
  replace oO := oO.ch (Ch.assoc _ _ _ _)
  dsimp only [List.cons_append, List.nil_append] at oO
  refine zm rfl (zo (op_extract rfl rfl) (zo (op_extract rfl rfl) (za rfl (za rfl (zn ?_)))))
  refine zq (zq (zr (zm rfl ?_)))
  by_cases h38 : r8 = (0 : Int)
  ·replace H := ifp h38 H
   refine zo (fun w => opB (op_neq rfl rfl w) (ndT h38)) (zn (zf rfl rfl (zk (zq (zb ?_)))))
   replace hB := (hB.trans dG.fr).trans lR.fr
   refine Go1.loopW (S := Int × Bool × Int × List (List Int) × List (List Int) × List Int × List Int × List (List Int) × List Rule × List Str × List Int × List Int × (List (Str × Int))) (fun s σ w => match s with | (k2_40, b2_41, k2_42, d_43, d_49, d_55, d_61, d_67, d_73, d_79, d_85, d_91, m2_97) => ∃ (n48 : Nat), ∃ (p46 : Option Addr), ∃ (c47 : Nat), ∃ (qX : List Value), ∃ (n54 : Nat), ∃ (p52 : Option Addr), ∃ (c53 : Nat), ∃ (ou : List Value), ∃ (n60 : Nat), ∃ (p58 : Option Addr), ∃ (c59 : Nat), ∃ (qY : List Value), ∃ (n66 : Nat), ∃ (p64 : Option Addr), ∃ (c65 : Nat), ∃ (q8 : List Value), ∃ (n72 : Nat), ∃ (p70 : Option Addr), ∃ (c71 : Nat), ∃ (q9 : List Value), ∃ (n78 : Nat), ∃ (p76 : Option Addr), ∃ (c77 : Nat), ∃ (rf : List Value), ∃ (n84 : Nat), ∃ (p82 : Option Addr), ∃ (c83 : Nat), ∃ (ow : List Value), ∃ (n90 : Nat), ∃ (p88 : Option Addr), ∃ (c89 : Nat), ∃ (rh : List Value), ∃ (n96 : Nat), ∃ (p94 : Option Addr), ∃ (c95 : Nat), ∃ (rk : List Value), agrees σ [(4, .pointer (some ⟨B2, 0, none⟩)), (6, .pointer (some ⟨lV, 0, none⟩))] ∧ (fun Z0 => Owns w0.heap.size w Z0 A ∧ Els (Rp.sl (Rp.int .i64)) (bl Z0 ++ A) w qX d_43 ∧ Els (Rp.sl (Rp.int .i64)) (bl Z0 ++ A) w ou d_49 ∧ Els (Rp.int .i64) (bl Z0 ++ A) w qY d_55 ∧ Els (Rp.int .i64) (bl Z0 ++ A) w q8 d_61 ∧ Els (Rp.sl (Rp.int .i64)) (bl Z0 ++ A) w q9 d_67 ∧ Els (rpRule) (bl Z0 ++ A) w rf d_73 ∧ Els (Rp.str) (bl Z0 ++ A) w ow d_79 ∧ Els (Rp.int .i64) (bl Z0 ++ A) w rh d_85 ∧ Els (Rp.int .i64) (bl Z0 ++ A) w rk d_91 ∧ Fr (bl []) w0 (bl Z0) w) [.blk lV (.cells #[.int .i64 k2_40, .bool b2_41, .slice p46 n48 c47, .slice p52 n54 c53, .slice p58 n60 c59, .slice p64 n66 c65, .slice p70 n72 c71, .slice p76 n78 c77, .int .i64 k2_42, .map (some cr), .slice p82 n84 c83, .slice p88 n90 c89, .slice p94 n96 c95] 156 (0, 0)), .row 31 1 p46 n48 c47 qX, .row 31 1 p52 n54 c53 ou, .row 3 1 p58 n60 c59 qY, .row 3 1 p64 n66 c65 q8, .row 31 1 p70 n72 c71 q9, .row 185 2 p76 n78 c77 rf, .row 9 1 p82 n84 c83 ow, .row 3 1 p88 n90 c89 rh, .row 3 1 p94 n96 c95 rk, .any (mapE (fun a : List UInt8 => Value.string (gstr a)) (fun a : Int => Value.int .i64 a) cr m2_97), .blk B2 (.cells #[.int .i64 (0 : Int), .bool false, .slice none 0 0, .slice none 0 0, .slice none 0 0, .slice none 0 0, .slice none 0 0, .slice none 0 0, .int .i64 (0 : Int)] 123 (0, 0))]) H ⟨AQ, AR, AT, z5, z6, z7, z8, zx, zy, zA, zB, yC, AU, AV, AW, z9, Aa, Ab, Ac, zC, Ad, Ae, Af, zD, Eu, Ew, Ex, Dc, Dd, De, Df, CO, Dg, Dh, Di, CP, ⟨rfl, rfl, trivial⟩, hO, k8, ki, jM, k9, kj, kl, qT, oN, oO, hB⟩ ?_
   intro X2
   refine prE fun k2_40 => prE fun b2_41 => prE fun k2_42 => prE fun d_43 => prE fun d_49 => prE fun d_55 => prE fun d_61 => prE fun d_67 => prE fun d_73 => prE fun d_79 => prE fun d_85 => prE fun d_91 => fun m2_97 => ?_
   intro H hX2 σ w39
   refine exE fun n48 => exE fun p46 => exE fun c47 => exE fun qX => exE fun n54 => exE fun p52 => exE fun c53 => exE fun ou => exE fun n60 => exE fun p58 => exE fun c59 => exE fun qY => exE fun n66 => exE fun p64 => exE fun c65 => exE fun q8 => exE fun n72 => exE fun p70 => exE fun c71 => exE fun q9 => exE fun n78 => exE fun p76 => exE fun c77 => exE fun rf => exE fun n84 => exE fun p82 => exE fun c83 => exE fun ow => exE fun n90 => exE fun p88 => exE fun c89 => exE fun rh => exE fun n96 => exE fun p94 => exE fun c95 => exE fun rk => andE fun hag => andE fun hO => andE fun AX => andE fun xz => andE fun wG => andE fun u6 => andE fun ss => andE fun sx => andE fun rU => andE fun rV => andE fun ju => fun hB => ?_
   dsimp only at H
   refine Go1.keep [(4, .pointer (some ⟨B2, 0, none⟩)), (6, .pointer (some ⟨lV, 0, none⟩))] hag ?_
   refine zq (zq (zr (zm rfl ?_)))
   refine GoR.inl (vs := [.pointer (some ⟨lV, 0, none⟩)]) (caps := []) rfl rfl body132 Try.func132 rfl Try.ntmps132 rfl rfl rfl ?_
   intro RhR98 hR98
   refine zq (zr (za rfl (zn (zq ?_))))
   refine Go1.drawS 0 [(0, .pure), (1, .pure), (2, .pure), (3, .pure), (4, .stable), (5, .pure), (6, .pure), (7, .pure), (8, .pure), (9, .stable), (10, .pure), (11, .pure), (12, .pure)] mixed (by kernel_rfl) ?_
   intro w99 OW
   have fV := Stp.same hO OW
   replace hO := fV.own
   refine GoQ.pure rfl (op_move rfl) rfl rfl ?_
   refine GoQ.pure rfl (op_nilCheck rfl) rfl rfl ?_
   refine GoQ.pure rfl (op_fieldAddr Try.underlying156 rfl ti123 rfl (by decide)) rfl rfl ?_
   refine GoQ.pure rfl (op_fieldAddr Try.underlying123 rfl ti3 rfl (by decide)) rfl rfl ?_
   refine GoQ.stable rfl (oblk (i := 8) 0 hO rfl rfl Try.underlying3 rfl rfl) rfl rfl ?_
   refine GoQ.pure rfl (op_move rfl) rfl rfl ?_
   refine GoQ.pure rfl (op_nilCheck rfl) rfl rfl ?_
   refine GoQ.pure rfl (op_fieldAddr Try.underlying156 rfl ti123 rfl (by decide)) rfl rfl ?_
   refine GoQ.pure rfl (op_fieldAddr Try.underlying123 rfl ti23 rfl (by decide)) rfl rfl ?_
   refine GoQ.stable rfl (oblk (i := 3) 0 hO rfl rfl Try.underlying23 rfl rfl) rfl rfl ?_
   replace xz := xz.ch fV.ch
   refine GoQ.pure rfl (op_lenN Try.underlying23 rfl (xz.neq hO 2 rfl)) rfl rfl ?_
   by_cases Ey : k2_42 = (d_49.length : Int)
   ·replace H := ifp Ey H
    refine GoQ.pure rfl (fun w => opB (op_eql rfl rfl w) (decide_eq_true Ey)) rfl rfl ?_
    refine GoQ.pure rfl (op_assign rfl) rfl rfl ?_
    refine GoQ.nil ?_
    refine Go1.ret1V Try.func132 rfl (show _ = .bool true from rfl) ?_
    refine hR98 _ _ ?_
    refine zo (op_not rfl) (zn (zf rfl rfl ?_))
    refine Go1.exit rfl ?_
    refine zq (zr (zm rfl (zo (op_nilCheck rfl) (zo (op_fieldAddr Try.underlying156 rfl ti123 rfl (by decide)) (zs (oblkAgg (vs := [.int .i64 k2_40, .bool b2_41, .slice p46 n48 c47, .slice p52 n54 c53, .slice p58 n60 c59, .slice p64 n66 c65, .slice p70 n72 c71, .slice p76 n78 c77, .int .i64 k2_42]) (i := 0) 0 hO rfl rfl Try.underlying123 rfl ti123 rfl) ?_)))))
    have hobt := oblkStAgg (us := [.int .i64 k2_40, .bool b2_41, .slice p46 n48 c47, .slice p52 n54 c53, .slice p58 n60 c59, .slice p64 n66 c65, .slice p70 n72 c71, .slice p76 n78 c77, .int .i64 k2_42]) (o := 0) (cs' := #[.int .i64 k2_40, .bool b2_41, .slice p46 n48 c47, .slice p52 n54 c53, .slice p58 n60 c59, .slice p64 n66 c65, .slice p70 n72 c71, .slice p76 n78 c77, .int .i64 k2_42]) 11 hO rfl rfl (Nat.le_of_ble_eq_true rfl) rfl
    obtain ⟨W8, iv, CQ⟩ := hobt
    dsimp only [sS, sZ] at iv
    refine zg (CQ ti123 (by exact rfl) (by exact rfl) rfl) ?_
    replace hO := iv.own
    refine za rfl (zn ?_)
    replace AX := (AX.ch fV.ch).ch iv.ch
    have hobt := freeze 1 hO rfl AX
    obtain ⟨hO1, vd, sY, OX⟩ := hobt
    dsimp only [eS, eZ] at hO1 vd sY
    replace hB := ((hB.trans fV.fr).trans iv.fr).trans (Owns.dropFr _ _ 1)
    dsimp only [eS, eZ] at hB
    replace hO := hO1; clear hO1
    replace xz := (xz.ch iv.ch).ch vd
    have hobt := freeze 1 hO rfl xz
    obtain ⟨hO1, ve, uo, OY⟩ := hobt
    dsimp only [eS, eZ] at hO1 ve uo
    replace hB := hB.trans (Owns.dropFr _ _ 1)
    dsimp only [eS, eZ] at hB
    replace hO := hO1; clear hO1
    have Z1 := ((fV.ch.trans iv.ch).trans vd).trans ve
    replace wG := wG.ch Z1
    have hobt := freeze 1 hO rfl wG
    obtain ⟨hO1, vg, wn, O0⟩ := hobt
    dsimp only [eS, eZ] at hO1 vg wn
    replace hB := hB.trans (Owns.dropFr _ _ 1)
    dsimp only [eS, eZ] at hB
    replace hO := hO1; clear hO1
    replace u6 := (u6.ch Z1).ch vg
    have hobt := freeze 1 hO rfl u6
    obtain ⟨hO1, vh, yq, O1⟩ := hobt
    dsimp only [eS, eZ] at hO1 vh yq
    replace hB := hB.trans (Owns.dropFr _ _ 1)
    dsimp only [eS, eZ] at hB
    replace hO := hO1; clear hO1
    replace ss := ((ss.ch Z1).ch vg).ch vh
    have hobt := freeze 1 hO rfl ss
    obtain ⟨hO1, vi, BA, O2⟩ := hobt
    dsimp only [eS, eZ] at hO1 vi BA
    replace hB := hB.trans (Owns.dropFr _ _ 1)
    dsimp only [eS, eZ] at hB
    replace hO := hO1; clear hO1
    have Z2 := ((Z1.trans vg).trans vh).trans vi
    replace sx := sx.ch Z2
    have hobt := freeze 1 hO rfl sx
    obtain ⟨hO1, vj, HI, O3⟩ := hobt
    dsimp only [eS, eZ] at hO1 vj HI
    replace hB := hB.trans (Owns.dropFr _ _ 1)
    dsimp only [eS, eZ] at hB
    replace hO := hO1; clear hO1
    refine Go1.retC2 Try.func101 rfl rfl (run_loadBlk (vs := [.int .i64 k2_40, .bool b2_41, .slice p46 n48 c47, .slice p52 n54 c53, .slice p58 n60 c59, .slice p64 n66 c65, .slice p70 n72 c71, .slice p76 n78 c77, .int .i64 k2_42]) 5 hO rfl rfl Try.underlying123 rfl ti123) ?_
    replace BA := BA.ch vj
    replace yq := (yq.ch vi).ch vj
    have Z3 := (vh.trans vi).trans vj
    replace wn := wn.ch Z3
    have Z4 := ((vg.trans vh).trans vi).trans vj
    replace uo := uo.ch Z4
    have Z5 := (((ve.trans vg).trans vh).trans vi).trans vj
    replace sY := sY.ch Z5
    exact ⟨(⟨k2_40, b2_41, d_43, d_49, d_55, d_61, d_67, d_73, k2_42⟩ : Enum), (0 : Int), p46, c47, p52, c53, p58, c59, p64, c65, p70, c71, p76, c77, (congrArg (fun l => Value.tuple (List.toArray l)) (cons_eq (congrArg (fun l => Value.agg (List.toArray l)) (cons_eq rfl (cons_eq rfl (cons_eq (congrArg (fun nn => Value.slice p46 nn c47) OX) (cons_eq (congrArg (fun nn => Value.slice p52 nn c53) OY) (cons_eq (congrArg (fun nn => Value.slice p58 nn c59) O0) (cons_eq (congrArg (fun nn => Value.slice p64 nn c65) O1) (cons_eq (congrArg (fun nn => Value.slice p70 nn c71) O2) (cons_eq (congrArg (fun nn => Value.slice p76 nn c77) O3) (cons_eq rfl rfl)))))))))) (cons_eq rfl rfl))), hB.same, (sY.ch (Ch.weak _ _ _)), (uo.ch (Ch.weak _ _ _)), (wn.ch (Ch.weak _ _ _)), (yq.ch (Ch.weak _ _ _)), (BA.ch (Ch.weak _ _ _)), (HI.ch (Ch.weak _ _ _)), H⟩
   replace H := ifn Ey H
   refine GoQ.pure rfl (fun w => opB (op_eql rfl rfl w) (decide_eq_false Ey)) rfl rfl ?_
   refine GoQ.pure rfl (op_assign rfl) rfl rfl ?_
   refine GoQ.nil ?_
   refine Go1.ret1V Try.func132 rfl (show _ = .bool false from rfl) ?_
   refine hR98 _ _ ?_
   refine zo (op_not rfl) (zn (zt rfl rfl (zk (zb (zq ?_)))))
   refine Go1.cut [(4, .pointer (some ⟨B2, 0, none⟩)), (6, .pointer (some ⟨lV, 0, none⟩))] ⟨rfl, rfl, trivial⟩ ?_
   intro σ _
   refine zr (zm rfl ?_)
   have HJ : Owns w0.heap.size w99 ([.blk lV (.cells #[.int .i64 k2_40, .bool b2_41, .slice p46 n48 c47, .slice p52 n54 c53, .slice p58 n60 c59, .slice p64 n66 c65, .slice p70 n72 c71, .slice p76 n78 c77, .int .i64 k2_42, .map (some cr), .slice p82 n84 c83, .slice p88 n90 c89, .slice p94 n96 c95] 156 (0, 0)), .row 31 1 p46 n48 c47 qX, .row 31 1 p52 n54 c53 ou, .row 3 1 p58 n60 c59 qY, .row 3 1 p64 n66 c65 q8, .row 31 1 p70 n72 c71 q9, .row 185 2 p76 n78 c77 rf, .row 9 1 p82 n84 c83 ow, .row 3 1 p88 n90 c89 rh, .row 3 1 p94 n96 c95 rk, .any (mapE (fun a : List UInt8 => Value.string (gstr a)) (fun a : Int => Value.int .i64 a) cr m2_97)] ++ [.blk B2 (.cells #[.int .i64 (0 : Int), .bool false, .slice none 0 0, .slice none 0 0, .slice none 0 0, .slice none 0 0, .slice none 0 0, .slice none 0 0, .int .i64 (0 : Int)] 123 (0, 0))]) A := hO
   have O4 := Owns.split HJ
   have hca126 : Ch (bl [.blk lV (.cells #[.int .i64 k2_40, .bool b2_41, .slice p46 n48 c47, .slice p52 n54 c53, .slice p58 n60 c59, .slice p64 n66 c65, .slice p70 n72 c71, .slice p76 n78 c77, .int .i64 k2_42, .map (some cr), .slice p82 n84 c83, .slice p88 n90 c89, .slice p94 n96 c95] 156 (0, 0)), .row 31 1 p46 n48 c47 qX, .row 31 1 p52 n54 c53 ou, .row 3 1 p58 n60 c59 qY, .row 3 1 p64 n66 c65 q8, .row 31 1 p70 n72 c71 q9, .row 185 2 p76 n78 c77 rf, .row 9 1 p82 n84 c83 ow, .row 3 1 p88 n90 c89 rh, .row 3 1 p94 n96 c95 rk, .any (mapE (fun a : List UInt8 => Value.string (gstr a)) (fun a : Int => Value.int .i64 a) cr m2_97), .blk B2 (.cells #[.int .i64 (0 : Int), .bool false, .slice none 0 0, .slice none 0 0, .slice none 0 0, .slice none 0 0, .slice none 0 0, .slice none 0 0, .int .i64 (0 : Int)] 123 (0, 0))] ++ A) w99 (bl [.blk lV (.cells #[.int .i64 k2_40, .bool b2_41, .slice p46 n48 c47, .slice p52 n54 c53, .slice p58 n60 c59, .slice p64 n66 c65, .slice p70 n72 c71, .slice p76 n78 c77, .int .i64 k2_42, .map (some cr), .slice p82 n84 c83, .slice p88 n90 c89, .slice p94 n96 c95] 156 (0, 0)), .row 31 1 p46 n48 c47 qX, .row 31 1 p52 n54 c53 ou, .row 3 1 p58 n60 c59 qY, .row 3 1 p64 n66 c65 q8, .row 31 1 p70 n72 c71 q9, .row 185 2 p76 n78 c77 rf, .row 9 1 p82 n84 c83 ow, .row 3 1 p88 n90 c89 rh, .row 3 1 p94 n96 c95 rk, .any (mapE (fun a : List UInt8 => Value.string (gstr a)) (fun a : Int => Value.int .i64 a) cr m2_97)] ++ (bl [.blk B2 (.cells #[.int .i64 (0 : Int), .bool false, .slice none 0 0, .slice none 0 0, .slice none 0 0, .slice none 0 0, .slice none 0 0, .slice none 0 0, .int .i64 (0 : Int)] 123 (0, 0))] ++ A)) w99 := Ch.assoc' [.blk lV (.cells #[.int .i64 k2_40, .bool b2_41, .slice p46 n48 c47, .slice p52 n54 c53, .slice p58 n60 c59, .slice p64 n66 c65, .slice p70 n72 c71, .slice p76 n78 c77, .int .i64 k2_42, .map (some cr), .slice p82 n84 c83, .slice p88 n90 c89, .slice p94 n96 c95] 156 (0, 0)), .row 31 1 p46 n48 c47 qX, .row 31 1 p52 n54 c53 ou, .row 3 1 p58 n60 c59 qY, .row 3 1 p64 n66 c65 q8, .row 31 1 p70 n72 c71 q9, .row 185 2 p76 n78 c77 rf, .row 9 1 p82 n84 c83 ow, .row 3 1 p88 n90 c89 rh, .row 3 1 p94 n96 c95 rk, .any (mapE (fun a : List UInt8 => Value.string (gstr a)) (fun a : Int => Value.int .i64 a) cr m2_97)] [.blk B2 (.cells #[.int .i64 (0 : Int), .bool false, .slice none 0 0, .slice none 0 0, .slice none 0 0, .slice none 0 0, .slice none 0 0, .slice none 0 0, .int .i64 (0 : Int)] 123 (0, 0))] A w99
   replace AX := AX.ch fV.ch
   replace wG := wG.ch fV.ch
   replace u6 := u6.ch fV.ch
   replace ss := ss.ch fV.ch
   replace sx := sx.ch fV.ch
   replace rU := rU.ch fV.ch
   replace rV := rV.ch fV.ch
   replace ju := ju.ch fV.ch
   refine GoR.call (op_call body133 rfl (walk_enumerate_run_process (a0 := (⟨(⟨k2_40, b2_41, d_43, d_49, d_55, d_61, d_67, d_73, k2_42⟩ : Enum), m2_97, d_79, d_85, d_91⟩ : run)) O4 (AX.ch hca126) (xz.ch hca126) (wG.ch hca126) (u6.ch hca126) (ss.ch hca126) (sx.ch hca126) (rU.ch hca126) (rV.ch hca126) (ju.ch hca126) H)) rfl rfl ?_
   intro W9 Cc
   refine exE fun r127 => exE fun q128 => exE fun gy => exE fun gz => exE fun gA => exE fun lH => exE fun f0 => exE fun f5 => exE fun f6 => exE fun kI => exE fun fL => exE fun fM => exE fun fN => exE fun ka => exE fun gB => exE fun gC => exE fun gD => exE fun lI => exE fun f7 => exE fun f8 => exE fun f9 => exE fun kK => exE fun gc => exE fun gf => exE fun gh => exE fun kM => exE fun jI => exE fun jJ => exE fun jK => exE fun qP => exE fun iH => exE fun iI => exE fun iJ => exE fun oP => exE fun iK => exE fun iL => exE fun iM => exE fun oQ => andE fun hv134 => andE fun hN131 => andE fun lJ => andE fun kN => andE fun kc => andE fun lK => andE fun kO => andE fun kP => andE fun qQ => andE fun oR => andE fun oS => andE fun hF132 => fun H => ?_
   subst hv134
   have lh : Stp w0.heap.size A w99 [.blk lV (.cells #[.int .i64 k2_40, .bool b2_41, .slice p46 n48 c47, .slice p52 n54 c53, .slice p58 n60 c59, .slice p64 n66 c65, .slice p70 n72 c71, .slice p76 n78 c77, .int .i64 k2_42, .map (some cr), .slice p82 n84 c83, .slice p88 n90 c89, .slice p94 n96 c95] 156 (0, 0)), .row 31 1 p46 n48 c47 qX, .row 31 1 p52 n54 c53 ou, .row 3 1 p58 n60 c59 qY, .row 3 1 p64 n66 c65 q8, .row 31 1 p70 n72 c71 q9, .row 185 2 p76 n78 c77 rf, .row 9 1 p82 n84 c83 ow, .row 3 1 p88 n90 c89 rh, .row 3 1 p94 n96 c95 rk, .any (mapE (fun a : List UInt8 => Value.string (gstr a)) (fun a : Int => Value.int .i64 a) cr m2_97), .blk B2 (.cells #[.int .i64 (0 : Int), .bool false, .slice none 0 0, .slice none 0 0, .slice none 0 0, .slice none 0 0, .slice none 0 0, .slice none 0 0, .int .i64 (0 : Int)] 123 (0, 0))] Cc [.blk lV (.cells #[.int .i64 q128.Enum.Points, .bool q128.Enum.Monoid, .slice gz gy gA, .slice f5 f0 f6, .slice fM fL fN, .slice gC gB gD, .slice f8 f7 f9, .slice gf gc gh, .int .i64 q128.Enum.Done, .map (some cr), .slice jJ jI jK, .slice iI iH iJ, .slice iL iK iM] 156 (0, 0)), .row 31 1 gz gy gA lH, .row 31 1 f5 f0 f6 kI, .row 3 1 fM fL fN ka, .row 3 1 gC gB gD lI, .row 31 1 f8 f7 f9 kK, .row 185 2 gf gc gh kM, .row 9 1 jJ jI jK qP, .row 3 1 iI iH iJ oP, .row 3 1 iL iK iM oQ, .any (mapE (fun a : List UInt8 => Value.string (gstr a)) (fun a : Int => Value.int .i64 a) cr q128.number), .blk B2 (.cells #[.int .i64 (0 : Int), .bool false, .slice none 0 0, .slice none 0 0, .slice none 0 0, .slice none 0 0, .slice none 0 0, .slice none 0 0, .int .i64 (0 : Int)] 123 (0, 0))] := Stp.join HJ hN131 hF132
   replace hO := lh.own
   have hca135 : Ch (bl [.blk lV (.cells #[.int .i64 q128.Enum.Points, .bool q128.Enum.Monoid, .slice gz gy gA, .slice f5 f0 f6, .slice fM fL fN, .slice gC gB gD, .slice f8 f7 f9, .slice gf gc gh, .int .i64 q128.Enum.Done, .map (some cr), .slice jJ jI jK, .slice iI iH iJ, .slice iL iK iM] 156 (0, 0)), .row 31 1 gz gy gA lH, .row 31 1 f5 f0 f6 kI, .row 3 1 fM fL fN ka, .row 3 1 gC gB gD lI, .row 31 1 f8 f7 f9 kK, .row 185 2 gf gc gh kM, .row 9 1 jJ jI jK qP, .row 3 1 iI iH iJ oP, .row 3 1 iL iK iM oQ, .any (mapE (fun a : List UInt8 => Value.string (gstr a)) (fun a : Int => Value.int .i64 a) cr q128.number)] ++ (bl [.blk B2 (.cells #[.int .i64 (0 : Int), .bool false, .slice none 0 0, .slice none 0 0, .slice none 0 0, .slice none 0 0, .slice none 0 0, .slice none 0 0, .int .i64 (0 : Int)] 123 (0, 0))] ++ A)) Cc (bl [.blk lV (.cells #[.int .i64 q128.Enum.Points, .bool q128.Enum.Monoid, .slice gz gy gA, .slice f5 f0 f6, .slice fM fL fN, .slice gC gB gD, .slice f8 f7 f9, .slice gf gc gh, .int .i64 q128.Enum.Done, .map (some cr), .slice jJ jI jK, .slice iI iH iJ, .slice iL iK iM] 156 (0, 0)), .row 31 1 gz gy gA lH, .row 31 1 f5 f0 f6 kI, .row 3 1 fM fL fN ka, .row 3 1 gC gB gD lI, .row 31 1 f8 f7 f9 kK, .row 185 2 gf gc gh kM, .row 9 1 jJ jI jK qP, .row 3 1 iI iH iJ oP, .row 3 1 iL iK iM oQ, .any (mapE (fun a : List UInt8 => Value.string (gstr a)) (fun a : Int => Value.int .i64 a) cr q128.number), .blk B2 (.cells #[.int .i64 (0 : Int), .bool false, .slice none 0 0, .slice none 0 0, .slice none 0 0, .slice none 0 0, .slice none 0 0, .slice none 0 0, .int .i64 (0 : Int)] 123 (0, 0))] ++ A) Cc := Ch.assoc [.blk lV (.cells #[.int .i64 q128.Enum.Points, .bool q128.Enum.Monoid, .slice gz gy gA, .slice f5 f0 f6, .slice fM fL fN, .slice gC gB gD, .slice f8 f7 f9, .slice gf gc gh, .int .i64 q128.Enum.Done, .map (some cr), .slice jJ jI jK, .slice iI iH iJ, .slice iL iK iM] 156 (0, 0)), .row 31 1 gz gy gA lH, .row 31 1 f5 f0 f6 kI, .row 3 1 fM fL fN ka, .row 3 1 gC gB gD lI, .row 31 1 f8 f7 f9 kK, .row 185 2 gf gc gh kM, .row 9 1 jJ jI jK qP, .row 3 1 iI iH iJ oP, .row 3 1 iL iK iM oQ, .any (mapE (fun a : List UInt8 => Value.string (gstr a)) (fun a : Int => Value.int .i64 a) cr q128.number)] [.blk B2 (.cells #[.int .i64 (0 : Int), .bool false, .slice none 0 0, .slice none 0 0, .slice none 0 0, .slice none 0 0, .slice none 0 0, .slice none 0 0, .int .i64 (0 : Int)] 123 (0, 0))] A Cc
   refine za rfl (zn (zq (zr (zm rfl ?_))))
   by_cases Ez : r127 = (0 : Int)
   ·replace H := ifp Ez H
    refine zo (fun w => opB (op_neq rfl rfl w) (ndT Ez)) (zn (zf rfl rfl (zk ?_)))
    refine Go1.inBlock ?_
    replace lJ := lJ.ch hca135
    replace kN := kN.ch hca135
    replace kc := kc.ch hca135
    replace lK := lK.ch hca135
    replace kO := kO.ch hca135
    replace kP := kP.ch hca135
    replace qQ := qQ.ch hca135
    replace oR := oR.ch hca135
    replace oS := oS.ch hca135
    replace hB := (hB.trans fV.fr).trans lh.fr
    exact hX2 _ H _ _ ⟨gy, gz, gA, lH, f0, f5, f6, kI, fL, fM, fN, ka, gB, gC, gD, lI, f7, f8, f9, kK, gc, gf, gh, kM, jI, jJ, jK, qP, iH, iI, iJ, oP, iK, iL, iM, oQ, ⟨rfl, rfl, trivial⟩, hO, lJ, kN, kc, lK, kO, kP, qQ, oR, oS, hB⟩
   replace H := ifn Ez H
   refine zo (fun w => opB (op_neq rfl rfl w) (ndF Ez)) (zn (zt rfl rfl (zq (zr (zo (op_build Try.underlying123 ti123 (pl := [(0, 1), (1, 1), (2, 1), (3, 1), (4, 1), (5, 1), (6, 1), (7, 1), (8, 1)]) (vs := []) (cs := #[.int .i64 (0 : Int), .bool false, .slice none 0 0, .slice none 0 0, .slice none 0 0, .slice none 0 0, .slice none 0 0, .slice none 0 0, .int .i64 (0 : Int)]) (by kernel_rfl) rfl (by kernel_rfl)) ?_)))))
   refine zm rfl ?_
   have hobt := oblkStAgg (us := [.int .i64 (0 : Int), .bool false, .slice none 0 0, .slice none 0 0, .slice none 0 0, .slice none 0 0, .slice none 0 0, .slice none 0 0, .int .i64 (0 : Int)]) (o := 0) (cs' := #[.int .i64 (0 : Int), .bool false, .slice none 0 0, .slice none 0 0, .slice none 0 0, .slice none 0 0, .slice none 0 0, .slice none 0 0, .int .i64 (0 : Int)]) 11 hO rfl rfl (Nat.le_of_ble_eq_true rfl) rfl
   obtain ⟨Xa, qR, Ko⟩ := hobt
   dsimp only [sS, sZ] at qR
   refine zg (Ko ti123 (by exact rfl) (by exact rfl) rfl) ?_
   replace hO := qR.own
   refine za rfl (zn ?_)
   refine Go1.retC2 Try.func101 rfl rfl (run_loadBlk (vs := [.int .i64 (0 : Int), .bool false, .slice none 0 0, .slice none 0 0, .slice none 0 0, .slice none 0 0, .slice none 0 0, .slice none 0 0, .int .i64 (0 : Int)]) 11 hO rfl rfl Try.underlying123 rfl ti123) ?_
   replace hB := ((hB.trans fV.fr).trans lh.fr).trans qR.fr
   exact ⟨(⟨(0 : Int), false, ([] : List (List Int)), ([] : List (List Int)), ([] : List Int), ([] : List Int), ([] : List (List Int)), ([] : List Rule), (0 : Int)⟩ : Enum), r127, none, 0, none, 0, none, 0, none, 0, none, 0, none, 0, rfl, hB.same, (ISl.null _ _ _), (ISl.null _ _ _), (ISl.null _ _ _), (ISl.null _ _ _), (ISl.null _ _ _), (ISl.null _ _ _), H⟩
  replace H := ifn h38 H
  refine zo (fun w => opB (op_neq rfl rfl w) (ndF h38)) (zn (zt rfl rfl (zq (zr (zo (op_build Try.underlying123 ti123 (pl := [(0, 1), (1, 1), (2, 1), (3, 1), (4, 1), (5, 1), (6, 1), (7, 1), (8, 1)]) (vs := []) (cs := #[.int .i64 (0 : Int), .bool false, .slice none 0 0, .slice none 0 0, .slice none 0 0, .slice none 0 0, .slice none 0 0, .slice none 0 0, .int .i64 (0 : Int)]) (by kernel_rfl) rfl (by kernel_rfl)) ?_)))))
  refine zm rfl ?_
  have hobt := oblkStAgg (us := [.int .i64 (0 : Int), .bool false, .slice none 0 0, .slice none 0 0, .slice none 0 0, .slice none 0 0, .slice none 0 0, .slice none 0 0, .int .i64 (0 : Int)]) (o := 0) (cs' := #[.int .i64 (0 : Int), .bool false, .slice none 0 0, .slice none 0 0, .slice none 0 0, .slice none 0 0, .slice none 0 0, .slice none 0 0, .int .i64 (0 : Int)]) 11 hO rfl rfl (Nat.le_of_ble_eq_true rfl) rfl
  obtain ⟨Xb, iA, Kq⟩ := hobt
  dsimp only [sS, sZ] at iA
  refine zg (Kq ti123 (by exact rfl) (by exact rfl) rfl) ?_
  replace hO := iA.own
  refine za rfl (zn ?_)
  refine Go1.retC2 Try.func101 rfl rfl (run_loadBlk (vs := [.int .i64 (0 : Int), .bool false, .slice none 0 0, .slice none 0 0, .slice none 0 0, .slice none 0 0, .slice none 0 0, .slice none 0 0, .int .i64 (0 : Int)]) 11 hO rfl rfl Try.underlying123 rfl ti123) ?_
  replace hB := ((hB.trans dG.fr).trans lR.fr).trans iA.fr
  exact ⟨(⟨(0 : Int), false, ([] : List (List Int)), ([] : List (List Int)), ([] : List Int), ([] : List Int), ([] : List (List Int)), ([] : List Rule), (0 : Int)⟩ : Enum), r8, none, 0, none, 0, none, 0, none, 0, none, 0, none, 0, rfl, hB.same, (ISl.null _ _ _), (ISl.null _ _ _), (ISl.null _ _ _), (ISl.null _ _ _), (ISl.null _ _ _), (ISl.null _ _ _), H⟩
theorem body134 : Body Try.prog 134 := ⟨Try.f134, Try.func134, rfl, by kernel_rfl⟩
theorem walk_slices_Index_int {A : List Nat} {w0 : World} {sr : Option Addr} {tE : Nat} {s_ : List Int} {v : Int} (hA : ∀ b ∈ A, b < w0.heap.size) (ku : ISl (Rp.int .i64) A w0 sr tE s_) {K : Int → Prop} (H : slices_Index_int s_ v K) :
    CallsV Try.prog 134 #[.slice sr s_.length tE, .int .i64 v] w0 (fun v w' => ∃ (r0 : Int), v = .int .i64 r0 ∧ Same w0 w' ∧ K r0) := by
 refine CallsV.of (l := [.slice sr s_.length tE, .int .i64 v]) Try.func134 rfl Try.ntmps134 rfl ?_
 have hO := Owns.start hA
 have hB := Fr.refl (bl []) w0
 unfold slices_Index_int at H
 refine zq (zr (za rfl (zn (zq (zq ?_)))))
 refine zr (zm rfl (zo (op_len Try.underlying31 rfl) ?_))
 replace ku := ku.ch (Ch.start A w0)
 replace H := H ku.bd
 refine zm rfl (zn (zb ?_))
 refine Go1.loopW (S := Nat) (fun s σ w => agrees σ [(0, .slice sr s_.length tE), (1, .int .i64 v), (7, .int .i64 (s_.length : Int)), (8, .int .i64 (s : Int))] ∧ Owns w0.heap.size w [] A ∧ ISl (Rp.int .i64) (bl [] ++ A) w sr tE s_ ∧ Fr (bl []) w0 (bl []) w) H ⟨⟨rfl, rfl, rfl, rfl, trivial⟩, hO, ku, hB⟩ ?_
 intro X1 k1_2
 intro H hX1 σ w1
 refine andE fun hag => andE fun hO => andE fun ku => fun hB => ?_
 refine Go1.keep [(0, .slice sr s_.length tE), (1, .int .i64 v), (7, .int .i64 (s_.length : Int)), (8, .int .i64 (k1_2 : Int))] hag ?_
 refine zq (zr ?_)
 by_cases h3 : (k1_2 : Int) < (s_.length : Int)
 ·replace H := ifp h3 H
  refine zo (fun w => opB (op_lss rfl rfl w) (decide_eq_true h3)) (zn (zq (zt rfl rfl (zk (zq ?_)))))
  refine zb (zq (zr (zm rfl (za rfl (zn ?_)))))
  refine zq (zr (zm rfl (zm rfl (zm rfl ?_))))
  obtain ⟨h4, H⟩ := H
  obtain ⟨h5, H⟩ := H
  refine zo (op_index Try.underlying31 ti3 rfl rfl h4 h5 (ku.some_ h4 h5)) (zs (ldInt ku h4 h5 Try.underlying3 rfl rfl) ?_)
  by_cases h6 : v = (ix s_ (k1_2 : Int))
  ·replace H := ifp h6 H
   refine zo (fun w => opB (op_eql rfl rfl w) (decide_eq_true h6)) (zn (zt rfl rfl (zq (zr (zm rfl ?_)))))
   refine za rfl (zn ?_)
   refine Go1.ret1 Try.func134 rfl ?_
   exact ⟨(k1_2 : Int), rfl, hB.same, H⟩
  replace H := ifn h6 H
  refine zo (fun w => opB (op_eql rfl rfl w) (decide_eq_false h6)) (zn (zf rfl rfl (zk ?_)))
  refine Go1.inBlock ?_
  refine zr (zo (op_add rfl rfl (wrap_i64 (natbd h3 ku.bd))) (zm rfl (zn ?_)))
  exact hX1 _ H _ _ ⟨⟨rfl, rfl, rfl, rfl, trivial⟩, hO, ku, hB⟩
 replace H := ifn h3 H
 refine zo (fun w => opB (op_lss rfl rfl w) (decide_eq_false h3)) (zn (zq (zf rfl rfl ?_)))
 refine Go1.exit rfl ?_
 refine zq (zr (za rfl (zn ?_)))
 refine Go1.ret1 Try.func134 rfl ?_
 exact ⟨(-1 : Int), rfl, hB.same, H⟩
theorem body102 : Body Try.prog 102 := ⟨Try.f102, Try.func102, rfl, by kernel_rfl⟩
theorem walk_slices_Contains_int {A : List Nat} {w0 : World} {sr : Option Addr} {tE : Nat} {s_ : List Int} {v : Int} (hA : ∀ b ∈ A, b < w0.heap.size) (ku : ISl (Rp.int .i64) A w0 sr tE s_) {K : Bool → Prop} (H : slices_Contains_int s_ v K) :
    CallsV Try.prog 102 #[.slice sr s_.length tE, .int .i64 v] w0 (fun v w' => ∃ (r0 : Bool), v = .bool r0 ∧ Same w0 w' ∧ K r0) := by
 refine CallsV.of (l := [.slice sr s_.length tE, .int .i64 v]) Try.func102 rfl Try.ntmps102 rfl ?_
 have hO := Owns.start hA
 have hB := Fr.refl (bl []) w0
 unfold slices_Contains_int at H
 refine zq (zr (za rfl (zn (zq (zr ?_)))))
 refine zm rfl (zm rfl ?_)
 replace ku := ku.ch (Ch.start A w0)
 refine GoR.call (op_call body134 rfl (walk_slices_Index_int hO.lt ku H)) rfl rfl ?_
 rintro v5 w2 ⟨r1, rfl, hs3, H⟩
 have xm := Stp.same hO hs3
 replace hO := xm.own
 by_cases h7 : (0 : Int) ≤ r1
 ·replace H := ifp h7 H
  refine zo (fun w => opB (op_geq rfl rfl w) (decide_eq_true h7)) (za rfl (zn ?_))
  refine Go1.ret1 Try.func102 rfl ?_
  replace hB := hB.trans xm.fr
  exact ⟨true, rfl, hB.same, H⟩
 replace H := ifn h7 H
 refine zo (fun w => opB (op_geq rfl rfl w) (decide_eq_false h7)) (za rfl (zn ?_))
 refine Go1.ret1 Try.func102 rfl ?_
 replace hB := hB.trans xm.fr
 exact ⟨false, rfl, hB.same, H⟩
theorem body103 : Body Try.prog 103 := ⟨Try.f103, Try.func103, rfl, by kernel_rfl⟩
theorem walk_syntactic_part_accept {A : List Nat} {w0 : World} {uH : Option Addr} {uI : Nat} {p_f : Option Addr} {c_f : Nat} {p : part} {f : List Int} (hA : ∀ b ∈ A, b < w0.heap.size) (pe : ISl (Rp.bool) A w0 uH uI p.final) (h_f : ISl (Rp.int .i64) A w0 p_f c_f f) {K : Bool → Prop} (H : syntactic_part_accept p f K) :
    CallsV Try.prog 103 #[.agg #[.int .i64 p.start, .slice uH p.final.length uI, .int .i64 p.shift], .slice p_f f.length c_f] w0 (fun v w' => ∃ (r0 : Bool), v = .bool r0 ∧ Same w0 w' ∧ K r0) := by
 refine CallsV.of (l := [.agg #[.int .i64 p.start, .slice uH p.final.length uI, .int .i64 p.shift], .slice p_f f.length c_f]) Try.func103 rfl Try.ntmps103 rfl ?_
 have hO := Owns.start hA
 have hB := Fr.refl (bl []) w0
 unfold syntactic_part_accept at H
 refine zq (zr ?_)
 have hobt := obox (t := 120) (v := .agg #[.int .i64 p.start, .slice uH p.final.length uI, .int .i64 p.shift]) (cs := #[.int .i64 p.start, .slice uH p.final.length uI, .int .i64 p.shift]) hO rfl
 obtain ⟨w1, B2, dG, hs4, lb⟩ := hobt
 refine zg (lb rfl) ?_
 replace hO := dG.own
 refine za rfl (zn (zq ?_))
 refine Go1.drawS 0 [(0, .pure), (1, .stable), (2, .pure), (3, .pure), (4, .stable), (5, .pure), (6, .stable), (7, .pure), (8, .stable), (9, .pure), (10, .pure), (11, .stable), (12, .pure)] mixed (by kernel_rfl) ?_
 intro w7 hs8
 have gr := Stp.same hO hs8
 replace hO := gr.own
 refine GoQ.pure rfl (op_fieldAddr Try.underlying120 rfl ti22 rfl (by decide)) rfl rfl ?_
 refine GoQ.stable rfl (oblk (i := 1) 0 hO rfl rfl Try.underlying22 rfl rfl) rfl rfl ?_
 refine GoQ.pure rfl (op_move rfl) rfl rfl ?_
 refine GoQ.pure rfl (op_fieldAddr Try.underlying120 rfl ti3 rfl (by decide)) rfl rfl ?_
 refine GoQ.stable rfl (oblk (i := 0) 0 hO rfl rfl Try.underlying3 rfl rfl) rfl rfl ?_
 obtain ⟨h10, H⟩ := H
 obtain ⟨h11, H⟩ := H
 have Z1 := ((Ch.start A w0).trans dG.ch).trans gr.ch
 replace h_f := h_f.ch Z1
 refine GoQ.pure rfl (op_index Try.underlying31 ti3 rfl rfl h10 h11 (h_f.some_ h10 h11)) rfl rfl ?_
 refine GoQ.stable rfl (ldInt h_f h10 h11 Try.underlying3 rfl rfl) rfl rfl ?_
 refine GoQ.pure rfl (op_fieldAddr Try.underlying120 rfl ti3 rfl (by decide)) rfl rfl ?_
 refine GoQ.stable rfl (oblk (i := 2) 0 hO rfl rfl Try.underlying3 rfl rfl) rfl rfl ?_
 obtain ⟨h12, H⟩ := H
 refine GoQ.pure rfl (op_sub rfl rfl (wrap_i64 h12)) rfl rfl ?_
 obtain ⟨h13, H⟩ := H
 obtain ⟨h14, H⟩ := H
 replace pe := pe.ch Z1
 refine GoQ.pure rfl (op_index Try.underlying22 ti4 rfl rfl h13 h14 (pe.some_ h13 h14)) rfl rfl ?_
 refine GoQ.stable rfl (ldBool pe h13 h14 Try.underlying4 rfl rfl) rfl rfl ?_
 refine GoQ.pure rfl (op_assign rfl) rfl rfl ?_
 refine GoQ.nil ?_
 refine Go1.ret1 Try.func103 rfl ?_
 replace hB := (hB.trans dG.fr).trans gr.fr
 exact ⟨ix p.final ((ix f p.start) - p.shift), rfl, hB.same, H⟩
end Sg
