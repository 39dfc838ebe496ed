/- -/
import Derived.Test.YtlneebpmblkllaaTi
import Derived.Test.YtlneebpmblkllaaWSyntacticMonoidsb
import Derived.Test.YtlneebpmblkllaaWSyntacticMonoidsc
import Derived.Test.YtlneebpmblkllaaAl
namespace Sg
open Go Go.RowKit Go.Proofs
set_option linter.unusedVariables false
set_option linter.unusedSimpArgs false
set_option maxRecDepth 100000
set_option maxHeartbeats 4000000
theorem body159 : Body Try.prog 159 := ⟨Try.f159, Try.func159, rfl, by kernel_rfl⟩
theorem body160 : Body Try.prog 160 := ⟨Try.f160, Try.func160, rfl, by kernel_rfl⟩
theorem body133 : Body Try.prog 133 := ⟨Try.f133, Try.func133, rfl, by kernel_rfl⟩
theorem walk_enumerate_run_process {A : List Nat} {n0 : Nat} {w0 : World} {dQ : Nat} {aD : Nat} {aE : Option Addr} {aF : Nat} {cw : List Value} {cJ : Nat} {cK : Option Addr} {cL : Nat} {dS : List Value} {cy : Nat} {cz : Option Addr} {cA : Nat} {dN : List Value} {c6 : Nat} {c7 : Option Addr} {c8 : Nat} {d5 : List Value} {aL : Nat} {aQ : Option Addr} {aR : Nat} {ck : List Value} {cM : Nat} {cN : Option Addr} {cO : Nat} {dT : List Value} {aS : Nat} {dH : Nat} {dI : Option Addr} {dJ : Nat} {fT : List Value} {dB : Nat} {dC : Option Addr} {dD : Nat} {fy : List Value} {a9 : Nat} {ba : Option Addr} {bc : Nat} {dk : List Value} {a0 : run} (hO : Owns n0 w0 [.blk dQ (.cells #[.int .i64 a0.Enum.Points, .bool a0.Enum.Monoid, .slice aE aD aF, .slice cK cJ cL, .slice cz cy cA, .slice c7 c6 c8, .slice aQ aL aR, .slice cN cM cO, .int .i64 a0.Enum.Done, .map (some aS), .slice dI dH dJ, .slice dC dB dD, .slice ba a9 bc] 156 (0, 0)), .row 31 1 aE aD aF cw, .row 31 1 cK cJ cL dS, .row 3 1 cz cy cA dN, .row 3 1 c7 c6 c8 d5, .row 31 1 aQ aL aR ck, .row 185 2 cN cM cO dT, .row 9 1 dI dH dJ fT, .row 3 1 dC dB dD fy, .row 3 1 ba a9 bc dk, .any (mapE (fun a : List UInt8 => Value.string (gstr a)) (fun a : Int => Value.int .i64 a) aS a0.number)] A) (ad : Els (Rp.sl (Rp.int .i64)) (bl [.blk dQ (.cells #[.int .i64 a0.Enum.Points, .bool a0.Enum.Monoid, .slice aE aD aF, .slice cK cJ cL, .slice cz cy cA, .slice c7 c6 c8, .slice aQ aL aR, .slice cN cM cO, .int .i64 a0.Enum.Done, .map (some aS), .slice dI dH dJ, .slice dC dB dD, .slice ba a9 bc] 156 (0, 0)), .row 31 1 aE aD aF cw, .row 31 1 cK cJ cL dS, .row 3 1 cz cy cA dN, .row 3 1 c7 c6 c8 d5, .row 31 1 aQ aL aR ck, .row 185 2 cN cM cO dT, .row 9 1 dI dH dJ fT, .row 3 1 dC dB dD fy, .row 3 1 ba a9 bc dk, .any (mapE (fun a : List UInt8 => Value.string (gstr a)) (fun a : Int => Value.int .i64 a) aS a0.number)] ++ A) w0 cw a0.Enum.Gens) (sX : Els (Rp.sl (Rp.int .i64)) (bl [.blk dQ (.cells #[.int .i64 a0.Enum.Points, .bool a0.Enum.Monoid, .slice aE aD aF, .slice cK cJ cL, .slice cz cy cA, .slice c7 c6 c8, .slice aQ aL aR, .slice cN cM cO, .int .i64 a0.Enum.Done, .map (some aS), .slice dI dH dJ, .slice dC dB dD, .slice ba a9 bc] 156 (0, 0)), .row 31 1 aE aD aF cw, .row 31 1 cK cJ cL dS, .row 3 1 cz cy cA dN, .row 3 1 c7 c6 c8 d5, .row 31 1 aQ aL aR ck, .row 185 2 cN cM cO dT, .row 9 1 dI dH dJ fT, .row 3 1 dC dB dD fy, .row 3 1 ba a9 bc dk, .any (mapE (fun a : List UInt8 => Value.string (gstr a)) (fun a : Int => Value.int .i64 a) aS a0.number)] ++ A) w0 dS a0.Enum.Elems) (sq : Els (Rp.int .i64) (bl [.blk dQ (.cells #[.int .i64 a0.Enum.Points, .bool a0.Enum.Monoid, .slice aE aD aF, .slice cK cJ cL, .slice cz cy cA, .slice c7 c6 c8, .slice aQ aL aR, .slice cN cM cO, .int .i64 a0.Enum.Done, .map (some aS), .slice dI dH dJ, .slice dC dB dD, .slice ba a9 bc] 156 (0, 0)), .row 31 1 aE aD aF cw, .row 31 1 cK cJ cL dS, .row 3 1 cz cy cA dN, .row 3 1 c7 c6 c8 d5, .row 31 1 aQ aL aR ck, .row 185 2 cN cM cO dT, .row 9 1 dI dH dJ fT, .row 3 1 dC dB dD fy, .row 3 1 ba a9 bc dk, .any (mapE (fun a : List UInt8 => Value.string (gstr a)) (fun a : Int => Value.int .i64 a) aS a0.number)] ++ A) w0 dN a0.Enum.Prefix) (tF : Els (Rp.int .i64) (bl [.blk dQ (.cells #[.int .i64 a0.Enum.Points, .bool a0.Enum.Monoid, .slice aE aD aF, .slice cK cJ cL, .slice cz cy cA, .slice c7 c6 c8, .slice aQ aL aR, .slice cN cM cO, .int .i64 a0.Enum.Done, .map (some aS), .slice dI dH dJ, .slice dC dB dD, .slice ba a9 bc] 156 (0, 0)), .row 31 1 aE aD aF cw, .row 31 1 cK cJ cL dS, .row 3 1 cz cy cA dN, .row 3 1 c7 c6 c8 d5, .row 31 1 aQ aL aR ck, .row 185 2 cN cM cO dT, .row 9 1 dI dH dJ fT, .row 3 1 dC dB dD fy, .row 3 1 ba a9 bc dk, .any (mapE (fun a : List UInt8 => Value.string (gstr a)) (fun a : Int => Value.int .i64 a) aS a0.number)] ++ A) w0 d5 a0.Enum.Last) (ae : Els (Rp.sl (Rp.int .i64)) (bl [.blk dQ (.cells #[.int .i64 a0.Enum.Points, .bool a0.Enum.Monoid, .slice aE aD aF, .slice cK cJ cL, .slice cz cy cA, .slice c7 c6 c8, .slice aQ aL aR, .slice cN cM cO, .int .i64 a0.Enum.Done, .map (some aS), .slice dI dH dJ, .slice dC dB dD, .slice ba a9 bc] 156 (0, 0)), .row 31 1 aE aD aF cw, .row 31 1 cK cJ cL dS, .row 3 1 cz cy cA dN, .row 3 1 c7 c6 c8 d5, .row 31 1 aQ aL aR ck, .row 185 2 cN cM cO dT, .row 9 1 dI dH dJ fT, .row 3 1 dC dB dD fy, .row 3 1 ba a9 bc dk, .any (mapE (fun a : List UInt8 => Value.string (gstr a)) (fun a : Int => Value.int .i64 a) aS a0.number)] ++ A) w0 ck a0.Enum.Right) (sY : Els (rpRule) (bl [.blk dQ (.cells #[.int .i64 a0.Enum.Points, .bool a0.Enum.Monoid, .slice aE aD aF, .slice cK cJ cL, .slice cz cy cA, .slice c7 c6 c8, .slice aQ aL aR, .slice cN cM cO, .int .i64 a0.Enum.Done, .map (some aS), .slice dI dH dJ, .slice dC dB dD, .slice ba a9 bc] 156 (0, 0)), .row 31 1 aE aD aF cw, .row 31 1 cK cJ cL dS, .row 3 1 cz cy cA dN, .row 3 1 c7 c6 c8 d5, .row 31 1 aQ aL aR ck, .row 185 2 cN cM cO dT, .row 9 1 dI dH dJ fT, .row 3 1 dC dB dD fy, .row 3 1 ba a9 bc dk, .any (mapE (fun a : List UInt8 => Value.string (gstr a)) (fun a : Int => Value.int .i64 a) aS a0.number)] ++ A) w0 dT a0.Enum.Rules) (wA : Els (Rp.str) (bl [.blk dQ (.cells #[.int .i64 a0.Enum.Points, .bool a0.Enum.Monoid, .slice aE aD aF, .slice cK cJ cL, .slice cz cy cA, .slice c7 c6 c8, .slice aQ aL aR, .slice cN cM cO, .int .i64 a0.Enum.Done, .map (some aS), .slice dI dH dJ, .slice dC dB dD, .slice ba a9 bc] 156 (0, 0)), .row 31 1 aE aD aF cw, .row 31 1 cK cJ cL dS, .row 3 1 cz cy cA dN, .row 3 1 c7 c6 c8 d5, .row 31 1 aQ aL aR ck, .row 185 2 cN cM cO dT, .row 9 1 dI dH dJ fT, .row 3 1 dC dB dD fy, .row 3 1 ba a9 bc dk, .any (mapE (fun a : List UInt8 => Value.string (gstr a)) (fun a : Int => Value.int .i64 a) aS a0.number)] ++ A) w0 fT a0.words) (vG : Els (Rp.int .i64) (bl [.blk dQ (.cells #[.int .i64 a0.Enum.Points, .bool a0.Enum.Monoid, .slice aE aD aF, .slice cK cJ cL, .slice cz cy cA, .slice c7 c6 c8, .slice aQ aL aR, .slice cN cM cO, .int .i64 a0.Enum.Done, .map (some aS), .slice dI dH dJ, .slice dC dB dD, .slice ba a9 bc] 156 (0, 0)), .row 31 1 aE aD aF cw, .row 31 1 cK cJ cL dS, .row 3 1 cz cy cA dN, .row 3 1 c7 c6 c8 d5, .row 31 1 aQ aL aR ck, .row 185 2 cN cM cO dT, .row 9 1 dI dH dJ fT, .row 3 1 dC dB dD fy, .row 3 1 ba a9 bc dk, .any (mapE (fun a : List UInt8 => Value.string (gstr a)) (fun a : Int => Value.int .i64 a) aS a0.number)] ++ A) w0 fy a0.behind) (ao : Els (Rp.int .i64) (bl [.blk dQ (.cells #[.int .i64 a0.Enum.Points, .bool a0.Enum.Monoid, .slice aE aD aF, .slice cK cJ cL, .slice cz cy cA, .slice c7 c6 c8, .slice aQ aL aR, .slice cN cM cO, .int .i64 a0.Enum.Done, .map (some aS), .slice dI dH dJ, .slice dC dB dD, .slice ba a9 bc] 156 (0, 0)), .row 31 1 aE aD aF cw, .row 31 1 cK cJ cL dS, .row 3 1 cz cy cA dN, .row 3 1 c7 c6 c8 d5, .row 31 1 aQ aL aR ck, .row 185 2 cN cM cO dT, .row 9 1 dI dH dJ fT, .row 3 1 dC dB dD fy, .row 3 1 ba a9 bc dk, .any (mapE (fun a : List UInt8 => Value.string (gstr a)) (fun a : Int => Value.int .i64 a) aS a0.number)] ++ A) w0 dk a0.single) {K : Int → run → Prop} (H : enumerate_run_process a0 K) :
    CallsV Try.prog 133 #[.pointer (some ⟨dQ, 0, none⟩)] w0 (fun v w' => ∃ (r0 : Int), ∃ (q : run), ∃ (bQ : Nat), ∃ (bS : Option Addr), ∃ (bT : Nat), ∃ (dn : List Value), ∃ (bB : Nat), ∃ (bC : Option Addr), ∃ (bD : Nat), ∃ (de : List Value), ∃ (bo : Nat), ∃ (bt : Option Addr), ∃ (bu : Nat), ∃ (cU : List Value), ∃ (bU : Nat), ∃ (bV : Option Addr), ∃ (bW : Nat), ∃ (dp : List Value), ∃ (bE : Nat), ∃ (bF : Option Addr), ∃ (bG : Nat), ∃ (dg : List Value), ∃ (bH : Nat), ∃ (bI : Option Addr), ∃ (bK : Nat), ∃ (dh : List Value), ∃ (cW : Nat), ∃ (cX : Option Addr), ∃ (cY : Nat), ∃ (dY : List Value), ∃ (cB : Nat), ∃ (cC : Option Addr), ∃ (cD : Nat), ∃ (dK : List Value), ∃ (cE : Nat), ∃ (cF : Option Addr), ∃ (cG : Nat), ∃ (dM : List Value), v = .int .i64 r0 ∧ (fun Z0 => Owns n0 w' Z0 A ∧ Els (Rp.sl (Rp.int .i64)) (bl Z0 ++ A) w' dn q.Enum.Gens ∧ Els (Rp.sl (Rp.int .i64)) (bl Z0 ++ A) w' de q.Enum.Elems ∧ Els (Rp.int .i64) (bl Z0 ++ A) w' cU q.Enum.Prefix ∧ Els (Rp.int .i64) (bl Z0 ++ A) w' dp q.Enum.Last ∧ Els (Rp.sl (Rp.int .i64)) (bl Z0 ++ A) w' dg q.Enum.Right ∧ Els (rpRule) (bl Z0 ++ A) w' dh q.Enum.Rules ∧ Els (Rp.str) (bl Z0 ++ A) w' dY q.words ∧ Els (Rp.int .i64) (bl Z0 ++ A) w' dK q.behind ∧ Els (Rp.int .i64) (bl Z0 ++ A) w' dM q.single ∧ Fr (bl [.blk dQ (.cells #[.int .i64 a0.Enum.Points, .bool a0.Enum.Monoid, .slice aE aD aF, .slice cK cJ cL, .slice cz cy cA, .slice c7 c6 c8, .slice aQ aL aR, .slice cN cM cO, .int .i64 a0.Enum.Done, .map (some aS), .slice dI dH dJ, .slice dC dB dD, .slice ba a9 bc] 156 (0, 0)), .row 31 1 aE aD aF cw, .row 31 1 cK cJ cL dS, .row 3 1 cz cy cA dN, .row 3 1 c7 c6 c8 d5, .row 31 1 aQ aL aR ck, .row 185 2 cN cM cO dT, .row 9 1 dI dH dJ fT, .row 3 1 dC dB dD fy, .row 3 1 ba a9 bc dk, .any (mapE (fun a : List UInt8 => Value.string (gstr a)) (fun a : Int => Value.int .i64 a) aS a0.number)]) w0 (bl Z0) w' ∧ K r0 q) [.blk dQ (.cells #[.int .i64 q.Enum.Points, .bool q.Enum.Monoid, .slice bS bQ bT, .slice bC bB bD, .slice bt bo bu, .slice bV bU bW, .slice bF bE bG, .slice bI bH bK, .int .i64 q.Enum.Done, .map (some aS), .slice cX cW cY, .slice cC cB cD, .slice cF cE cG] 156 (0, 0)), .row 31 1 bS bQ bT dn, .row 31 1 bC bB bD de, .row 3 1 bt bo bu cU, .row 3 1 bV bU bW dp, .row 31 1 bF bE bG dg, .row 185 2 bI bH bK dh, .row 9 1 cX cW cY dY, .row 3 1 cC cB cD dK, .row 3 1 cF cE cG dM, .any (mapE (fun a : List UInt8 => Value.string (gstr a)) (fun a : Int => Value.int .i64 a) aS q.number)]) := by
 refine CallsV.of (l := [.pointer (some ⟨dQ, 0, none⟩)]) Try.func133 rfl Try.ntmps133 rfl ?_
 have hB := Fr.refl (bl [.blk dQ (.cells #[.int .i64 a0.Enum.Points, .bool a0.Enum.Monoid, .slice aE aD aF, .slice cK cJ cL, .slice cz cy cA, .slice c7 c6 c8, .slice aQ aL aR, .slice cN cM cO, .int .i64 a0.Enum.Done, .map (some aS), .slice dI dH dJ, .slice dC dB dD, .slice ba a9 bc] 156 (0, 0)), .row 31 1 aE aD aF cw, .row 31 1 cK cJ cL dS, .row 3 1 cz cy cA dN, .row 3 1 c7 c6 c8 d5, .row 31 1 aQ aL aR ck, .row 185 2 cN cM cO dT, .row 9 1 dI dH dJ fT, .row 3 1 dC dB dD fy, .row 3 1 ba a9 bc dk, .any (mapE (fun a : List UInt8 => Value.string (gstr a)) (fun a : Int => Value.int .i64 a) aS a0.number)]) w0
 unfold enumerate_run_process at H
 refine zq (zr (za rfl (zn (zq (zr ?_)))))
 refine zm rfl (zo (op_nilCheck rfl) (zo (op_fieldAddr Try.underlying156 rfl ti123 rfl (by decide)) (zo (op_fieldAddr Try.underlying123 rfl ti3 rfl (by decide)) (zs (oblk (i := 8) 0 hO rfl rfl Try.underlying3 rfl rfl) (za rfl ?_)))))
 refine zn (zq (zr (zm rfl (zo (op_nilCheck rfl) (zo (op_fieldAddr Try.underlying156 rfl ti123 rfl (by decide)) ?_)))))
 refine zo (op_fieldAddr Try.underlying123 rfl ti23 rfl (by decide)) (zs (oblk (i := 2) 0 hO rfl rfl Try.underlying23 rfl rfl) (zo (op_lenN Try.underlying23 rfl (ad.neq hO 1 rfl)) ?_))
 obtain ⟨h8, H⟩ := H
 obtain ⟨h9, H⟩ := H
 have hobt := omake (n := (a0.Enum.Gens.length : Int)) (r := Rp.int .i64) (d := (0 : Int)) Try.underlying31 ti3 (fun _ _ => rfl) rfl hO h8 h9 (by decide)
 obtain ⟨w1, p2, vs3, pq, hE5, hs6, Ce⟩ := hobt
 refine zg (Ce rfl rfl) ?_
 replace hO := pq.own
 refine za rfl (zn (zq (zq (zr (zm rfl ?_)))))
 refine zo (op_nilCheck rfl) (zo (op_fieldAddr Try.underlying156 rfl ti123 rfl (by decide)) (zo (op_fieldAddr Try.underlying123 rfl ti23 rfl (by decide)) (zs (oblk (i := 2) 1 hO rfl rfl Try.underlying23 rfl rfl) ?_)))
 replace ad := ad.ch pq.ch
 refine zo (op_lenN Try.underlying23 rfl (ad.neq hO 2 rfl)) (zm rfl (zn (zb ?_)))
 replace sX := sX.ch pq.ch
 replace sq := sq.ch pq.ch
 replace tF := tF.ch pq.ch
 replace ae := ae.ch pq.ch
 replace sY := sY.ch pq.ch
 replace wA := wA.ch pq.ch
 replace vG := vG.ch pq.ch
 replace ao := ao.ch pq.ch
 replace hB := hB.trans pq.fr
 refine Go1.loopW (S := Nat × List Int × List (List Int) × List Int × List Int × List Rule × List Str × List Int × (List (Str × Int))) (fun s σ w => match s with | (k1_12, d_13, d_16, d_22, d_28, d_34, d_40, d_46, m1_52) => ∃ (nW : List Value), ∃ (n21 : Nat), ∃ (p19 : Option Addr), ∃ (c20 : Nat), ∃ (ld : List Value), ∃ (n27 : Nat), ∃ (p25 : Option Addr), ∃ (c26 : Nat), ∃ (mb : List Value), ∃ (n33 : Nat), ∃ (p31 : Option Addr), ∃ (c32 : Nat), ∃ (mc : List Value), ∃ (n39 : Nat), ∃ (p37 : Option Addr), ∃ (c38 : Nat), ∃ (me : List Value), ∃ (n45 : Nat), ∃ (p43 : Option Addr), ∃ (c44 : Nat), ∃ (mf : List Value), ∃ (n51 : Nat), ∃ (p49 : Option Addr), ∃ (c50 : Nat), ∃ (mg : List Value), agrees σ [(0, .pointer (some ⟨dQ, 0, none⟩)), (3, .int .i64 a0.Enum.Done), (4, .slice p2 a0.Enum.Gens.length a0.Enum.Gens.length), (27, .slice aE aD aF), (28, .int .i64 (a0.Enum.Gens.length : Int)), (29, .int .i64 (k1_12 : Int))] ∧ (fun Z0 => Owns n0 w Z0 A ∧ Els (Rp.int .i64) (bl Z0 ++ A) w nW d_13 ∧ Els (Rp.sl (Rp.int .i64)) (bl Z0 ++ A) w cw a0.Enum.Gens ∧ Els (Rp.sl (Rp.int .i64)) (bl Z0 ++ A) w ld d_16 ∧ Els (Rp.int .i64) (bl Z0 ++ A) w mb d_22 ∧ Els (Rp.int .i64) (bl Z0 ++ A) w mc d_28 ∧ Els (Rp.sl (Rp.int .i64)) (bl Z0 ++ A) w ck a0.Enum.Right ∧ Els (rpRule) (bl Z0 ++ A) w me d_34 ∧ Els (Rp.str) (bl Z0 ++ A) w mf d_40 ∧ Els (Rp.int .i64) (bl Z0 ++ A) w mg d_46 ∧ Els (Rp.int .i64) (bl Z0 ++ A) w dk a0.single ∧ Fr (bl [.blk dQ (.cells #[.int .i64 a0.Enum.Points, .bool a0.Enum.Monoid, .slice aE aD aF, .slice cK cJ cL, .slice cz cy cA, .slice c7 c6 c8, .slice aQ aL aR, .slice cN cM cO, .int .i64 a0.Enum.Done, .map (some aS), .slice dI dH dJ, .slice dC dB dD, .slice ba a9 bc] 156 (0, 0)), .row 31 1 aE aD aF cw, .row 31 1 cK cJ cL dS, .row 3 1 cz cy cA dN, .row 3 1 c7 c6 c8 d5, .row 31 1 aQ aL aR ck, .row 185 2 cN cM cO dT, .row 9 1 dI dH dJ fT, .row 3 1 dC dB dD fy, .row 3 1 ba a9 bc dk, .any (mapE (fun a : List UInt8 => Value.string (gstr a)) (fun a : Int => Value.int .i64 a) aS a0.number)]) w0 (bl Z0) w) [.row 3 1 p2 a0.Enum.Gens.length a0.Enum.Gens.length nW, .blk dQ (.cells #[.int .i64 a0.Enum.Points, .bool a0.Enum.Monoid, .slice aE aD aF, .slice p19 n21 c20, .slice p25 n27 c26, .slice p31 n33 c32, .slice aQ aL aR, .slice p37 n39 c38, .int .i64 a0.Enum.Done, .map (some aS), .slice p43 n45 c44, .slice p49 n51 c50, .slice ba a9 bc] 156 (0, 0)), .row 31 1 aE aD aF cw, .row 31 1 p19 n21 c20 ld, .row 3 1 p25 n27 c26 mb, .row 3 1 p31 n33 c32 mc, .row 31 1 aQ aL aR ck, .row 185 2 p37 n39 c38 me, .row 9 1 p43 n45 c44 mf, .row 3 1 p49 n51 c50 mg, .row 3 1 ba a9 bc dk, .any (mapE (fun a : List UInt8 => Value.string (gstr a)) (fun a : Int => Value.int .i64 a) aS m1_52)]) H ⟨vs3, cJ, cK, cL, dS, cy, cz, cA, dN, c6, c7, c8, d5, cM, cN, cO, dT, dH, dI, dJ, fT, dB, dC, dD, fy, ⟨rfl, rfl, rfl, rfl, rfl, rfl, trivial⟩, hO, hE5, ad, sX, sq, tF, ae, sY, wA, vG, ao, hB⟩ ?_
 intro X1
 refine prE fun k1_12 => prE fun d_13 => prE fun d_16 => prE fun d_22 => prE fun d_28 => prE fun d_34 => prE fun d_40 => prE fun d_46 => fun m1_52 => ?_
 intro H hX1 σ w11
 refine exE fun nW => exE fun n21 => exE fun p19 => exE fun c20 => exE fun ld => exE fun n27 => exE fun p25 => exE fun c26 => exE fun mb => exE fun n33 => exE fun p31 => exE fun c32 => exE fun mc => exE fun n39 => exE fun p37 => exE fun c38 => exE fun me => exE fun n45 => exE fun p43 => exE fun c44 => exE fun mf => exE fun n51 => exE fun p49 => exE fun c50 => exE fun mg => andE fun hag => andE fun hO => andE fun bM => andE fun ad => andE fun c9 => andE fun cj => andE fun cd => andE fun ae => andE fun bN => andE fun bz => andE fun bA => andE fun ao => fun hB => ?_
 dsimp only at H
 refine Go1.keep [(0, .pointer (some ⟨dQ, 0, none⟩)), (3, .int .i64 a0.Enum.Done), (4, .slice p2 a0.Enum.Gens.length a0.Enum.Gens.length), (27, .slice aE aD aF), (28, .int .i64 (a0.Enum.Gens.length : Int)), (29, .int .i64 (k1_12 : Int))] hag ?_
 refine zq (zr ?_)
 by_cases h53 : (k1_12 : Int) < (a0.Enum.Gens.length : Int)
 ·replace H := ifp h53 H
  refine zo (fun w => opB (op_lss rfl rfl w) (decide_eq_true h53)) (zn (zq (zt rfl rfl (zk (zq ?_)))))
  refine zb (zq (zr (zm rfl ?_)))
  obtain ⟨h54, H⟩ := H
  obtain ⟨h55, H⟩ := H
  refine zo (op_index Try.underlying23 ti31 rfl rfl h54 (ltn (ad.neq hO 2 rfl) h55) (ad.psome hO 2 rfl h54 h55)) ?_
  have hobt := oldSl 2 hO rfl ad h54 h55
  obtain ⟨p56, c57, bX, Rs⟩ := hobt
  refine zs (Rs Try.underlying31 rfl rfl) (za rfl (za rfl (zn (zq (zr ?_)))))
  refine zm rfl (zo (op_nilCheck rfl) (zo (op_fieldAddr Try.underlying156 rfl ti123 rfl (by decide)) (zo (op_fieldAddr Try.underlying123 rfl ti23 rfl (by decide)) (zs (oblk (i := 3) 1 hO rfl rfl Try.underlying23 rfl rfl) (zm rfl ?_)))))
  obtain ⟨h60, H⟩ := H
  obtain ⟨h61, H⟩ := H
  refine zo (op_index Try.underlying23 ti31 rfl rfl h60 (ltn (c9.neq hO 3 rfl) h61) (c9.psome hO 3 rfl h60 h61)) ?_
  have hobt := oldSl 3 hO rfl c9 h60 h61
  obtain ⟨p62, c63, bY, Rt⟩ := hobt
  refine zs (Rt Try.underlying31 rfl rfl) (zm rfl ?_)
  refine GoR.call (op_call body158 rfl (walk_trans_Compose hO.lt bY bX H)) rfl rfl ?_
  rintro v70 w67 ⟨r66, sb, sc, rfl, Ru, bh, H⟩
  have iG := Stp.same hO Ru
  replace hO := iG.own
  refine za rfl (zn (zq ?_))
  refine Go1.drawS 0 [(0, .pure), (1, .pure), (2, .pure), (3, .stable), (4, .pure), (5, .loud), (6, .stable), (7, .pure), (8, .pure), (9, .pure), (10, .pure), (11, .pure)] mixed (by kernel_rfl) ?_
  intro w72 Il
  have pQ := Stp.same hO Il
  replace hO := pQ.own
  refine GoQ.pure rfl (op_move rfl) rfl rfl ?_
  refine GoQ.pure rfl (op_nilCheck rfl) rfl rfl ?_
  refine GoQ.pure rfl (op_fieldAddr Try.underlying156 rfl ti154 rfl (by decide)) rfl rfl ?_
  refine GoQ.stable rfl (oblk (i := 9) 1 hO rfl rfl Try.underlying154 rfl rfl) rfl rfl ?_
  refine GoQ.pure rfl (op_move rfl) rfl rfl ?_
  replace bh := bh.ch pQ.ch
  refine GoQ.call rfl (op_call body157 rfl (walk_enumerate_text hO.lt bh H)) (fun v w hr => by obtain ⟨_, _, hs, _, _⟩ := hr; assumption) rfl rfl ?_
  rintro v79 w76 ⟨r75, rfl, Rv, Sw, H⟩
  have pS := Stp.same hO Rv
  replace hO := pS.own
  by_cases h81 : mhas m1_52 r75 = true
  ·replace H := ifp h81 H
   refine GoQ.stable rfl (olookT (a := r75) (MK.str Try.underlying9) 11 hO rfl Try.underlying154 rfl rfl h81) rfl rfl ?_
   refine GoQ.pure rfl (op_move rfl) rfl rfl ?_
   refine GoQ.pure rfl (op_extract rfl rfl) rfl rfl ?_
   refine GoQ.pure rfl (op_extract rfl rfl) rfl rfl ?_
   refine GoQ.pure rfl (op_assign rfl) rfl rfl ?_
   refine GoQ.pure rfl (op_assign rfl) rfl rfl ?_
   refine GoQ.nil ?_
   refine zq ?_
   refine Go1.cut [(0, .pointer (some ⟨dQ, 0, none⟩)), (3, .int .i64 a0.Enum.Done), (4, .slice p2 a0.Enum.Gens.length a0.Enum.Gens.length), (5, .int .i64 (k1_12 : Int)), (7, .slice sb r66.length sc), (8, .int .i64 (mgt m1_52 r75)), (9, .bool true), (27, .slice aE aD aF), (28, .int .i64 (a0.Enum.Gens.length : Int)), (29, .int .i64 (k1_12 : Int))] ⟨rfl, rfl, rfl, rfl, rfl, rfl, rfl, rfl, rfl, rfl, trivial⟩ ?_
   intro σ _
   refine zr (zm rfl (zo (op_nilCheck rfl) (zo (op_fieldAddr Try.underlying156 rfl ti30 rfl (by decide)) (zs (oblk (i := 10) 1 hO rfl rfl Try.underlying30 rfl rfl) (zm rfl ?_)))))
   obtain ⟨h82, H⟩ := H
   obtain ⟨h83, H⟩ := H
   have Z1 := (iG.ch.trans pQ.ch).trans pS.ch
   replace bz := bz.ch Z1
   refine zo (op_index Try.underlying30 ti9 rfl rfl h82 (ltn (bz.neq hO 8 rfl) h83) (bz.psome hO 8 rfl h82 h83)) (zs (oldStr 8 hO rfl bz h82 h83 Try.underlying9 rfl rfl) ?_)
   have hle84 := Els.str_le bz h82 h83
   refine zm rfl ?_
   obtain ⟨h85, H⟩ := H
   refine zo (op_add rfl rfl (wrap_i64 h85)) (zo (op_conv Try.underlying3 Try.underlying21 rfl rfl) ?_)
   obtain ⟨h86, H⟩ := H
   obtain ⟨h87, H⟩ := H
   refine zo (op_convRS Try.underlying21 Try.underlying9 rfl h86 h87) ?_
   obtain ⟨h88, H⟩ := H
   refine zo (op_addS rfl rfl h88) (za rfl (zn (zq (zb (zq ?_)))))
   refine zr (zm rfl (zo (op_not rfl) (zm rfl (zp (zp ?_)))))
   refine zp (zp (zp (zp (zp (zo (op_pickF rfl rfl rfl) ?_)))))
   refine za rfl (zn (zf rfl rfl (zq ?_)))
   refine Go1.cut [(0, .pointer (some ⟨dQ, 0, none⟩)), (3, .int .i64 a0.Enum.Done), (4, .slice p2 a0.Enum.Gens.length a0.Enum.Gens.length), (5, .int .i64 (k1_12 : Int)), (7, .slice sb r66.length sc), (8, .int .i64 (mgt m1_52 r75)), (9, .bool true), (10, .string (gstr ((ix d_40 a0.Enum.Done) ++ (chr (IntKind.i32.wrap ((97 : Int) + (k1_12 : Int))))))), (27, .slice aE aD aF), (28, .int .i64 (a0.Enum.Gens.length : Int)), (29, .int .i64 (k1_12 : Int))] ⟨rfl, rfl, rfl, rfl, rfl, rfl, rfl, rfl, rfl, rfl, rfl, trivial⟩ ?_
   intro σ _
   refine zr (zm rfl (zo (op_not rfl) (za rfl (zn (zf rfl rfl ?_)))))
   refine zq (zr (zm rfl (zo (op_nilCheck rfl) (zo (op_fieldAddr Try.underlying156 rfl ti30 rfl (by decide)) (zs (oblk (i := 10) 1 hO rfl rfl Try.underlying30 rfl rfl) ?_)))))
   refine zm rfl ?_
   obtain ⟨h89, H⟩ := H
   obtain ⟨h90, H⟩ := H
   refine zo (op_index Try.underlying30 ti9 rfl rfl h89 (ltn (bz.neq hO 8 rfl) h90) (bz.psome hO 8 rfl h89 h90)) (zs (oldStr 8 hO rfl bz h89 h90 Try.underlying9 rfl rfl) ?_)
   have hle91 := Els.str_le bz h89 h90
   by_cases h92 : (ix d_40 a0.Enum.Done) = (([] : Str))
   ·replace H := ifp h92 H
    refine zo (fun w => opB (op_neqS rfl rfl w) (ndT h92)) (zm rfl (zp (zp (zp (zp ?_)))))
    refine zp (zp (zp (zp (zp (zp ?_)))))
    refine zo (op_pickF rfl rfl rfl) (za rfl (zn (zf rfl rfl (zk ?_))))
    refine Go1.inBlock ?_
    refine Go1.cut [(0, .pointer (some ⟨dQ, 0, none⟩)), (3, .int .i64 a0.Enum.Done), (4, .slice p2 a0.Enum.Gens.length a0.Enum.Gens.length), (5, .int .i64 (k1_12 : Int)), (8, .int .i64 (mgt m1_52 r75)), (27, .slice aE aD aF), (28, .int .i64 (a0.Enum.Gens.length : Int)), (29, .int .i64 (k1_12 : Int))] ⟨rfl, rfl, rfl, rfl, rfl, rfl, rfl, rfl, trivial⟩ ?_
    intro σ _
    refine zr (zm rfl (zm rfl (zm rfl ?_)))
    obtain ⟨h93, H⟩ := H
    obtain ⟨h94, H⟩ := H
    replace bM := bM.ch Z1
    refine zo (op_index Try.underlying31 ti3 rfl rfl h93 (ltn (bM.neq hO 0 rfl) h94) (bM.psome hO 0 rfl h93 h94)) ?_
    have hobt := ost (r := Rp.int .i64) rfl 0 hO rfl bM h93 h94 (v := .int .i64 (mgt m1_52 r75)) (u := (mgt m1_52 r75)) rfl rfl
    obtain ⟨w95, Rw, pT, JC, NT⟩ := hobt
    dsimp only [sS, sZ] at pT JC
    refine zg (NT Try.underlying3 rfl ti3 (by exact rfl) (by exact rfl)) ?_
    replace hO := pT.own
    refine zn ?_
    refine Go1.inBlock ?_
    refine zr ?_
    replace ad := (ad.ch Z1).ch pT.ch
    refine zo (op_add rfl rfl (wrap_i64 (natbd h53 ad.bd))) (zm rfl (zn ?_))
    replace bz := bz.ch pT.ch
    have Z2 := Z1.trans pT.ch
    replace c9 := c9.ch Z2
    replace cj := cj.ch Z2
    replace cd := cd.ch Z2
    replace ae := ae.ch Z2
    replace bN := bN.ch Z2
    replace bA := bA.ch Z2
    replace ao := ao.ch Z2
    replace hB := (((hB.trans iG.fr).trans pQ.fr).trans pS.fr).trans pT.fr
    exact hX1 _ H _ _ ⟨Rw, n21, p19, c20, ld, n27, p25, c26, mb, n33, p31, c32, mc, n39, p37, c38, me, n45, p43, c44, mf, n51, p49, c50, mg, ⟨rfl, rfl, rfl, rfl, rfl, rfl, trivial⟩, hO, JC, ad, c9, cj, cd, ae, bN, bz, bA, ao, hB⟩
   replace H := ifn h92 H
   refine zo (fun w => opB (op_neqS rfl rfl w) (ndF h92)) (zm rfl (zm rfl (zm rfl (zo (op_nilCheck rfl) (zo (op_fieldAddr Try.underlying156 rfl ti31 rfl (by decide)) ?_)))))
   refine zs (oblk (i := 11) 1 hO rfl rfl Try.underlying31 rfl rfl) (zm rfl ?_)
   obtain ⟨FL, H⟩ := H
   obtain ⟨FM, H⟩ := H
   replace bA := bA.ch Z1
   refine zo (op_index Try.underlying31 ti3 rfl rfl FL (ltn (bA.neq hO 9 rfl) FM) (bA.psome hO 9 rfl FL FM)) (zs (oldInt 9 hO rfl bA FL FM Try.underlying3 rfl rfl) (zm rfl ?_))
   refine GoR.inl (vs := [.pointer (some ⟨dQ, 0, none⟩), .int .i64 (ix d_46 a0.Enum.Done), .int .i64 (k1_12 : Int)]) (caps := []) rfl rfl body160 Try.func160 rfl Try.ntmps160 rfl rfl rfl ?_
   intro RhR102 hR102
   refine zq (zr (za rfl (zn (zq ?_))))
   refine Go1.cut [(0, .pointer (some ⟨dQ, 0, none⟩)), (1, .int .i64 (ix d_46 a0.Enum.Done)), (2, .int .i64 (k1_12 : Int))] ⟨rfl, rfl, rfl, trivial⟩ ?_
   intro σ _
   refine zr (zm rfl (zm rfl (zm rfl ?_)))
   refine GoR.inl (vs := [.pointer (some ⟨dQ, 0, none⟩), .int .i64 (ix d_46 a0.Enum.Done), .int .i64 (k1_12 : Int)]) (caps := []) rfl rfl body159 Try.func159 rfl Try.ntmps159 rfl rfl rfl ?_
   intro RhR103 hR103
   refine zq (zr (za rfl (zn (zq (zq ?_)))))
   refine zr (zm rfl ?_)
   by_cases xF : (ix d_46 a0.Enum.Done) = (-1 : Int)
   ·replace H := ifp xF H
    refine zo (fun w => opB (op_eql rfl rfl w) (decide_eq_true xF)) (zn (zt rfl rfl (zq (zr (zm rfl ?_)))))
    refine zo (op_nilCheck rfl) (zo (op_fieldAddr Try.underlying156 rfl ti31 rfl (by decide)) (zs (oblk (i := 12) 1 hO rfl rfl Try.underlying31 rfl rfl) (zm rfl ?_)))
    obtain ⟨yR, H⟩ := H
    obtain ⟨FN, H⟩ := H
    replace ao := ao.ch Z1
    refine zo (op_index Try.underlying31 ti3 rfl rfl yR (ltn (ao.neq hO 10 rfl) FN) (ao.psome hO 10 rfl yR FN)) (zs (oldInt 10 hO rfl ao yR FN Try.underlying3 rfl rfl) (za rfl (zn ?_)))
    refine Go1.ret1V Try.func159 rfl (show _ = .int .i64 (ix a0.single (k1_12 : Int)) from rfl) ?_
    refine hR103 _ _ ?_
    refine za rfl (zn (zq (zr (zm rfl (zo (op_nilCheck rfl) ?_)))))
    refine zo (op_fieldAddr Try.underlying156 rfl ti123 rfl (by decide)) (zo (op_fieldAddr Try.underlying123 rfl ti31 rfl (by decide)) (zs (oblk (i := 4) 1 hO rfl rfl Try.underlying31 rfl rfl) (zm rfl ?_)))
    obtain ⟨qR, H⟩ := H
    obtain ⟨sV, H⟩ := H
    replace cj := cj.ch Z1
    refine zo (op_index Try.underlying31 ti3 rfl rfl qR (ltn (cj.neq hO 4 rfl) sV) (cj.psome hO 4 rfl qR sV)) (zs (oldInt 4 hO rfl cj qR sV Try.underlying3 rfl rfl) (zm rfl ?_))
    by_cases uT : (ix d_22 (ix a0.single (k1_12 : Int))) = (ix d_46 a0.Enum.Done)
    ·replace H := ifp uT H
     refine zo (fun w => opB (op_eql rfl rfl w) (decide_eq_true uT)) (zm rfl (zm rfl (zo (op_nilCheck rfl) (zo (op_fieldAddr Try.underlying156 rfl ti123 rfl (by decide)) (zo (op_fieldAddr Try.underlying123 rfl ti31 rfl (by decide)) ?_)))))
     refine zs (oblk (i := 5) 1 hO rfl rfl Try.underlying31 rfl rfl) (zm rfl ?_)
     obtain ⟨B3, H⟩ := H
     obtain ⟨yQ, H⟩ := H
     replace cd := cd.ch Z1
     refine zo (op_index Try.underlying31 ti3 rfl rfl B3 (ltn (cd.neq hO 5 rfl) yQ) (cd.psome hO 5 rfl B3 yQ)) (zs (oldInt 5 hO rfl cd B3 yQ Try.underlying3 rfl rfl) (zm rfl ?_))
     by_cases xD : (ix d_28 (ix a0.single (k1_12 : Int))) = (k1_12 : Int)
     ·replace H := ifp xD H
      refine zo (fun w => opB (op_eql rfl rfl w) (decide_eq_true xD)) (zo (op_pickT rfl rfl rfl) (za rfl (zn ?_)))
      refine Go1.ret1V Try.func160 rfl (show _ = .bool true from rfl) ?_
      refine hR102 _ _ ?_
      refine zo (op_pickT rfl rfl rfl) (za rfl (zn (zt rfl rfl ?_)))
      refine Go1.cut [(0, .pointer (some ⟨dQ, 0, none⟩)), (3, .int .i64 a0.Enum.Done), (4, .slice p2 a0.Enum.Gens.length a0.Enum.Gens.length), (5, .int .i64 (k1_12 : Int)), (8, .int .i64 (mgt m1_52 r75)), (10, .string (gstr ((ix d_40 a0.Enum.Done) ++ (chr (IntKind.i32.wrap ((97 : Int) + (k1_12 : Int))))))), (27, .slice aE aD aF), (28, .int .i64 (a0.Enum.Gens.length : Int)), (29, .int .i64 (k1_12 : Int))] ⟨rfl, rfl, rfl, rfl, rfl, rfl, rfl, rfl, rfl, trivial⟩ ?_
      intro σ _
      refine Go1.drawS 5 [(0, .pure), (1, .pure), (2, .pure), (3, .pure), (4, .pure), (5, .stable), (6, .pure), (7, .pure), (8, .pure), (9, .pure), (10, .stable), (11, .pure), (12, .pure), (13, .stable), (14, .pure), (15, .loud), (16, .last), (17, .pure), (18, .pure), (19, .pure), (20, .last)] mixed (by kernel_rfl) ?_
      intro V1 NU
      have mh := Stp.same hO NU
      replace hO := mh.own
      refine GoQ.pure rfl (op_move rfl) rfl rfl ?_
      refine GoQ.pure rfl (op_move rfl) rfl rfl ?_
      refine GoQ.pure rfl (op_nilCheck rfl) rfl rfl ?_
      refine GoQ.pure rfl (op_fieldAddr Try.underlying156 rfl ti123 rfl (by decide)) rfl rfl ?_
      refine GoQ.pure rfl (op_fieldAddr Try.underlying123 rfl ti121 rfl (by decide)) rfl rfl ?_
      refine GoQ.stable rfl (oblk (i := 7) 1 hO rfl rfl Try.underlying121 rfl rfl) rfl rfl ?_
      refine GoQ.pure rfl (op_move rfl) rfl rfl ?_
      refine GoQ.pure rfl (op_move rfl) rfl rfl ?_
      refine GoQ.pure rfl (op_nilCheck rfl) rfl rfl ?_
      refine GoQ.pure rfl (op_fieldAddr Try.underlying156 rfl ti30 rfl (by decide)) rfl rfl ?_
      refine GoQ.stable rfl (oblk (i := 10) 1 hO rfl rfl Try.underlying30 rfl rfl) rfl rfl ?_
      refine GoQ.pure rfl (op_move rfl) rfl rfl ?_
      obtain ⟨Ax, H⟩ := H
      obtain ⟨Ar, H⟩ := H
      replace bz := bz.ch mh.ch
      refine GoQ.pure rfl (op_index Try.underlying30 ti9 rfl rfl Ax (ltn (bz.neq hO 8 rfl) Ar) (bz.psome hO 8 rfl Ax Ar)) rfl rfl ?_
      refine GoQ.stable rfl (oldStr 8 hO rfl bz Ax Ar Try.underlying9 rfl rfl) rfl rfl ?_
      have hle118 := Els.str_le bz Ax Ar
      refine GoQ.pure rfl (op_build Try.underlying185 ti185 (pl := [(0, 1), (1, 1)]) (vs := [(0, .string (gstr ((ix d_40 a0.Enum.Done) ++ (chr (IntKind.i32.wrap ((97 : Int) + (k1_12 : Int))))))), (1, .string (gstr (ix d_40 (mgt m1_52 r75))))]) (cs := #[.string (gstr ((ix d_40 a0.Enum.Done) ++ (chr (IntKind.i32.wrap ((97 : Int) + (k1_12 : Int)))))), .string (gstr (ix d_40 (mgt m1_52 r75)))]) (by kernel_rfl) rfl (by kernel_rfl)) rfl rfl ?_
      have hobt := obuildN (r := rpRule) (n := 1) (parts := [(0, .agg #[.string (gstr ((ix d_40 a0.Enum.Done) ++ (chr (IntKind.i32.wrap ((97 : Int) + (k1_12 : Int)))))), .string (gstr (ix d_40 (mgt m1_52 r75)))])]) (vs := [.string (gstr ((ix d_40 a0.Enum.Done) ++ (chr (IntKind.i32.wrap ((97 : Int) + (k1_12 : Int)))))), .string (gstr (ix d_40 (mgt m1_52 r75)))]) (xs := [(⟨((ix d_40 a0.Enum.Done) ++ (chr (IntKind.i32.wrap ((97 : Int) + (k1_12 : Int))))), ix d_40 (mgt m1_52 r75)⟩ : Rule)]) Try.underlying121 ti185 hO (by decide) (by decide) (by kernel_rfl) (Els.flat1 (⟨((ix d_40 a0.Enum.Done) ++ (chr (IntKind.i32.wrap ((97 : Int) + (k1_12 : Int))))), ix d_40 (mgt m1_52 r75)⟩ : Rule) ⟨(lenApp h88), hle118⟩) rfl
      obtain ⟨V2, iE, en, n9, NV, JD⟩ := hobt
      refine GoQ.loud rfl (JD rfl) NV rfl rfl ?_
      replace hO := en.own
      have hobt := freeze 0 hO rfl n9
      obtain ⟨hO1, ry, wa, NW⟩ := hobt
      dsimp only [eS, eZ] at hO1 ry wa
      replace hB := (((((hB.trans iG.fr).trans pQ.fr).trans pS.fr).trans mh.fr).trans en.fr).trans (Owns.dropFr _ _ 0)
      dsimp only [eS, eZ] at hB
      replace hO := hO1; clear hO1
      obtain ⟨Rx, H⟩ := H
      have Z3 := ((Z1.trans mh.ch).trans en.ch).trans ry
      replace bN := bN.ch Z3
      have hobt := oapp Try.underlying121 ti185 rfl 7 hO rfl bN wa NW Rx (by decide)
      obtain ⟨V3, FO, FP, NX, lv, yh, B7⟩ := hobt
      dsimp only [sS, sZ] at lv yh
      refine GoQ.last rfl (B7 (by exact rfl) (by exact rfl)) rfl rfl ?_
      replace hO := lv.own
      refine GoQ.pure rfl (op_nilCheck rfl) rfl rfl ?_
      refine GoQ.pure rfl (op_fieldAddr Try.underlying156 rfl ti123 rfl (by decide)) rfl rfl ?_
      refine GoQ.pure rfl (op_fieldAddr Try.underlying123 rfl ti121 rfl (by decide)) rfl rfl ?_
      have hobt := oblkSt2 (v := .slice FO (n39 + 1) FP) (i := 7) (cs' := #[.int .i64 a0.Enum.Points, .bool a0.Enum.Monoid, .slice aE aD aF, .slice p19 n21 c20, .slice p25 n27 c26, .slice p31 n33 c32, .slice aQ aL aR, .slice FO (n39 + 1) FP, .int .i64 a0.Enum.Done, .map (some aS), .slice p43 n45 c44, .slice p49 n51 c50, .slice ba a9 bc]) 1 hO rfl rfl rfl rfl
      obtain ⟨V4, kD, JE⟩ := hobt
      dsimp only [sS, sZ] at kD
      refine GoQ.last rfl (JE Try.underlying121 rfl ti121 (by exact rfl) (by exact rfl)) rfl rfl ?_
      replace hO := kD.own
      refine GoQ.nil ?_
      refine Go1.inBlock ?_
      refine Go1.cut [(0, .pointer (some ⟨dQ, 0, none⟩)), (3, .int .i64 a0.Enum.Done), (4, .slice p2 a0.Enum.Gens.length a0.Enum.Gens.length), (5, .int .i64 (k1_12 : Int)), (8, .int .i64 (mgt m1_52 r75)), (27, .slice aE aD aF), (28, .int .i64 (a0.Enum.Gens.length : Int)), (29, .int .i64 (k1_12 : Int))] ⟨rfl, rfl, rfl, rfl, rfl, rfl, rfl, rfl, trivial⟩ ?_
      intro σ _
      refine zr (zm rfl (zm rfl (zm rfl ?_)))
      obtain ⟨wY, H⟩ := H
      obtain ⟨FQ, H⟩ := H
      replace bM := ((bM.ch Z3).ch lv.ch).ch kD.ch
      refine zo (op_index Try.underlying31 ti3 rfl rfl wY (ltn (bM.neq hO 0 rfl) FQ) (bM.psome hO 0 rfl wY FQ)) ?_
      have hobt := ost (r := Rp.int .i64) rfl 0 hO rfl bM wY FQ (v := .int .i64 (mgt m1_52 r75)) (u := (mgt m1_52 r75)) rfl rfl
      obtain ⟨Ry, NY, lx, Hu, JF⟩ := hobt
      dsimp only [sS, sZ] at lx Hu
      refine zg (JF Try.underlying3 rfl ti3 (by exact rfl) (by exact rfl)) ?_
      replace hO := lx.own
      refine zn ?_
      refine Go1.inBlock ?_
      refine zr ?_
      have Z4 := ((Z3.trans lv.ch).trans kD.ch).trans lx.ch
      replace ad := ad.ch Z4
      refine zo (op_add rfl rfl (wrap_i64 (natbd h53 ad.bd))) (zm rfl (zn ?_))
      replace yh := (yh.ch kD.ch).ch lx.ch
      replace hB := ((hB.trans lv.fr).trans kD.fr).trans lx.fr
      have Z5 := (((en.ch.trans ry).trans lv.ch).trans kD.ch).trans lx.ch
      replace bz := bz.ch Z5
      have Z6 := ((((mh.ch.trans en.ch).trans ry).trans lv.ch).trans kD.ch).trans lx.ch
      replace cj := cj.ch Z6
      replace cd := cd.ch Z6
      replace bA := bA.ch Z6
      replace ao := ao.ch Z6
      replace c9 := c9.ch Z4
      replace ae := ae.ch Z4
      exact hX1 _ H _ _ ⟨NY, n21, p19, c20, ld, n27, p25, c26, mb, n33, p31, c32, mc, n39 + 1, FO, FP, NX, n45, p43, c44, mf, n51, p49, c50, mg, ⟨rfl, rfl, rfl, rfl, rfl, rfl, trivial⟩, hO, Hu, ad, c9, cj, cd, ae, yh, bz, bA, ao, hB⟩
     replace H := ifn xD H
     refine zo (fun w => opB (op_eql rfl rfl w) (decide_eq_false xD)) (zo (op_pickT rfl rfl rfl) (za rfl (zn ?_)))
     refine Go1.ret1V Try.func160 rfl (show _ = .bool false from rfl) ?_
     refine hR102 _ _ ?_
     refine zo (op_pickT rfl rfl rfl) (za rfl (zn (zf rfl rfl (zk ?_))))
     refine Go1.inBlock ?_
     refine zr (zm rfl (zm rfl (zm rfl ?_)))
     obtain ⟨FS, H⟩ := H
     obtain ⟨FT, H⟩ := H
     replace bM := bM.ch Z1
     refine zo (op_index Try.underlying31 ti3 rfl rfl FS (ltn (bM.neq hO 0 rfl) FT) (bM.psome hO 0 rfl FS FT)) ?_
     have hobt := ost (r := Rp.int .i64) rfl 0 hO rfl bM FS FT (v := .int .i64 (mgt m1_52 r75)) (u := (mgt m1_52 r75)) rfl rfl
     obtain ⟨QA, N1, mj, Hv, BJ⟩ := hobt
     dsimp only [sS, sZ] at mj Hv
     refine zg (BJ Try.underlying3 rfl ti3 (by exact rfl) (by exact rfl)) ?_
     replace hO := mj.own
     refine zn ?_
     refine Go1.inBlock ?_
     refine zr ?_
     replace ad := (ad.ch Z1).ch mj.ch
     refine zo (op_add rfl rfl (wrap_i64 (natbd h53 ad.bd))) (zm rfl (zn ?_))
     replace cj := cj.ch mj.ch
     replace cd := cd.ch mj.ch
     replace bz := bz.ch mj.ch
     replace bA := bA.ch mj.ch
     replace ao := ao.ch mj.ch
     have Z7 := Z1.trans mj.ch
     replace c9 := c9.ch Z7
     replace ae := ae.ch Z7
     replace bN := bN.ch Z7
     replace hB := (((hB.trans iG.fr).trans pQ.fr).trans pS.fr).trans mj.fr
     exact hX1 _ H _ _ ⟨N1, n21, p19, c20, ld, n27, p25, c26, mb, n33, p31, c32, mc, n39, p37, c38, me, n45, p43, c44, mf, n51, p49, c50, mg, ⟨rfl, rfl, rfl, rfl, rfl, rfl, trivial⟩, hO, Hv, ad, c9, cj, cd, ae, bN, bz, bA, ao, hB⟩
    replace H := ifn uT H
    refine zo (fun w => opB (op_eql rfl rfl w) (decide_eq_false uT)) (zm rfl (zp (zp (zp (zp ?_)))))
    refine zp (zp (zp (zp (zp (zp ?_)))))
    refine zo (op_pickF rfl rfl rfl) (za rfl (zn ?_))
    refine Go1.ret1V Try.func160 rfl (show _ = .bool false from rfl) ?_
    refine hR102 _ _ ?_
    refine zo (op_pickT rfl rfl rfl) (za rfl (zn (zf rfl rfl (zk ?_))))
    refine Go1.inBlock ?_
    refine Go1.cut [(0, .pointer (some ⟨dQ, 0, none⟩)), (3, .int .i64 a0.Enum.Done), (4, .slice p2 a0.Enum.Gens.length a0.Enum.Gens.length), (5, .int .i64 (k1_12 : Int)), (8, .int .i64 (mgt m1_52 r75)), (27, .slice aE aD aF), (28, .int .i64 (a0.Enum.Gens.length : Int)), (29, .int .i64 (k1_12 : Int))] ⟨rfl, rfl, rfl, rfl, rfl, rfl, rfl, rfl, trivial⟩ ?_
    intro σ _
    refine zr (zm rfl (zm rfl (zm rfl ?_)))
    obtain ⟨xm, H⟩ := H
    obtain ⟨yU, H⟩ := H
    replace bM := bM.ch Z1
    refine zo (op_index Try.underlying31 ti3 rfl rfl xm (ltn (bM.neq hO 0 rfl) yU) (bM.psome hO 0 rfl xm yU)) ?_
    have hobt := ost (r := Rp.int .i64) rfl 0 hO rfl bM xm yU (v := .int .i64 (mgt m1_52 r75)) (u := (mgt m1_52 r75)) rfl rfl
    obtain ⟨V5, N2, ml, Hw, JG⟩ := hobt
    dsimp only [sS, sZ] at ml Hw
    refine zg (JG Try.underlying3 rfl ti3 (by exact rfl) (by exact rfl)) ?_
    replace hO := ml.own
    refine zn ?_
    refine Go1.inBlock ?_
    refine zr ?_
    replace ad := (ad.ch Z1).ch ml.ch
    refine zo (op_add rfl rfl (wrap_i64 (natbd h53 ad.bd))) (zm rfl (zn ?_))
    replace cj := cj.ch ml.ch
    replace bz := bz.ch ml.ch
    replace bA := bA.ch ml.ch
    replace ao := ao.ch ml.ch
    have Z8 := Z1.trans ml.ch
    replace c9 := c9.ch Z8
    replace cd := cd.ch Z8
    replace ae := ae.ch Z8
    replace bN := bN.ch Z8
    replace hB := (((hB.trans iG.fr).trans pQ.fr).trans pS.fr).trans ml.fr
    exact hX1 _ H _ _ ⟨N2, n21, p19, c20, ld, n27, p25, c26, mb, n33, p31, c32, mc, n39, p37, c38, me, n45, p43, c44, mf, n51, p49, c50, mg, ⟨rfl, rfl, rfl, rfl, rfl, rfl, trivial⟩, hO, Hw, ad, c9, cj, cd, ae, bN, bz, bA, ao, hB⟩
   replace H := ifn xF H
   refine zo (fun w => opB (op_eql rfl rfl w) (decide_eq_false xF)) (zn (zf rfl rfl (zk (zq (zr ?_)))))
   refine zm rfl (zo (op_nilCheck rfl) (zo (op_fieldAddr Try.underlying156 rfl ti123 rfl (by decide)) (zo (op_fieldAddr Try.underlying123 rfl ti23 rfl (by decide)) (zs (oblk (i := 6) 1 hO rfl rfl Try.underlying23 rfl rfl) (zm rfl ?_)))))
   obtain ⟨Cg, H⟩ := H
   obtain ⟨Ci, H⟩ := H
   replace ae := ae.ch Z1
   refine zo (op_index Try.underlying23 ti31 rfl rfl Cg (ltn (ae.neq hO 6 rfl) Ci) (ae.psome hO 6 rfl Cg Ci)) ?_
   have hobt := oldSl 6 hO rfl ae Cg Ci
   obtain ⟨V6, V7, mC, N3⟩ := hobt
   refine zs (N3 Try.underlying31 rfl rfl) (zm rfl ?_)
   obtain ⟨FU, H⟩ := H
   obtain ⟨FV, H⟩ := H
   refine zo (op_index Try.underlying31 ti3 rfl rfl FU FV (mC.some_ FU FV)) (zs (ldInt mC FU FV Try.underlying3 rfl rfl) (za rfl (zn ?_)))
   refine Go1.ret1V Try.func159 rfl (show _ = .int .i64 (ix (ix a0.Enum.Right (ix d_46 a0.Enum.Done)) (k1_12 : Int)) from rfl) ?_
   refine hR103 _ _ ?_
   refine za rfl (zn (zq ?_))
   refine Go1.cut [(0, .pointer (some ⟨dQ, 0, none⟩)), (1, .int .i64 (ix d_46 a0.Enum.Done)), (2, .int .i64 (k1_12 : Int)), (7, .int .i64 (ix (ix a0.Enum.Right (ix d_46 a0.Enum.Done)) (k1_12 : Int)))] ⟨rfl, rfl, rfl, rfl, trivial⟩ ?_
   intro σ _
   refine zr (zm rfl (zo (op_nilCheck rfl) (zo (op_fieldAddr Try.underlying156 rfl ti123 rfl (by decide)) (zo (op_fieldAddr Try.underlying123 rfl ti31 rfl (by decide)) (zs (oblk (i := 4) 1 hO rfl rfl Try.underlying31 rfl rfl) ?_)))))
   refine zm rfl ?_
   obtain ⟨FW, H⟩ := H
   obtain ⟨Cu, H⟩ := H
   replace cj := cj.ch Z1
   refine zo (op_index Try.underlying31 ti3 rfl rfl FW (ltn (cj.neq hO 4 rfl) Cu) (cj.psome hO 4 rfl FW Cu)) (zs (oldInt 4 hO rfl cj FW Cu Try.underlying3 rfl rfl) (zm rfl ?_))
   by_cases Ec : (ix d_22 (ix (ix a0.Enum.Right (ix d_46 a0.Enum.Done)) (k1_12 : Int))) = (ix d_46 a0.Enum.Done)
   ·replace H := ifp Ec H
    refine zo (fun w => opB (op_eql rfl rfl w) (decide_eq_true Ec)) (zm rfl (zm rfl (zo (op_nilCheck rfl) (zo (op_fieldAddr Try.underlying156 rfl ti123 rfl (by decide)) (zo (op_fieldAddr Try.underlying123 rfl ti31 rfl (by decide)) ?_)))))
    refine zs (oblk (i := 5) 1 hO rfl rfl Try.underlying31 rfl rfl) (zm rfl ?_)
    obtain ⟨xJ, H⟩ := H
    obtain ⟨FX, H⟩ := H
    replace cd := cd.ch Z1
    refine zo (op_index Try.underlying31 ti3 rfl rfl xJ (ltn (cd.neq hO 5 rfl) FX) (cd.psome hO 5 rfl xJ FX)) (zs (oldInt 5 hO rfl cd xJ FX Try.underlying3 rfl rfl) (zm rfl ?_))
    by_cases AE : (ix d_28 (ix (ix a0.Enum.Right (ix d_46 a0.Enum.Done)) (k1_12 : Int))) = (k1_12 : Int)
    ·replace H := ifp AE H
     refine zo (fun w => opB (op_eql rfl rfl w) (decide_eq_true AE)) (zo (op_pickT rfl rfl rfl) (za rfl (zn ?_)))
     refine Go1.ret1V Try.func160 rfl (show _ = .bool true from rfl) ?_
     refine hR102 _ _ ?_
     refine zo (op_pickT rfl rfl rfl) (za rfl (zn (zt rfl rfl ?_)))
     refine Go1.cut [(0, .pointer (some ⟨dQ, 0, none⟩)), (3, .int .i64 a0.Enum.Done), (4, .slice p2 a0.Enum.Gens.length a0.Enum.Gens.length), (5, .int .i64 (k1_12 : Int)), (8, .int .i64 (mgt m1_52 r75)), (10, .string (gstr ((ix d_40 a0.Enum.Done) ++ (chr (IntKind.i32.wrap ((97 : Int) + (k1_12 : Int))))))), (27, .slice aE aD aF), (28, .int .i64 (a0.Enum.Gens.length : Int)), (29, .int .i64 (k1_12 : Int))] ⟨rfl, rfl, rfl, rfl, rfl, rfl, rfl, rfl, rfl, trivial⟩ ?_
     intro σ _
     refine Go1.drawS 5 [(0, .pure), (1, .pure), (2, .pure), (3, .pure), (4, .pure), (5, .stable), (6, .pure), (7, .pure), (8, .pure), (9, .pure), (10, .stable), (11, .pure), (12, .pure), (13, .stable), (14, .pure), (15, .loud), (16, .last), (17, .pure), (18, .pure), (19, .pure), (20, .last)] mixed (by kernel_rfl) ?_
     intro JH N4
     have eC := Stp.same hO N4
     replace hO := eC.own
     refine GoQ.pure rfl (op_move rfl) rfl rfl ?_
     refine GoQ.pure rfl (op_move rfl) rfl rfl ?_
     refine GoQ.pure rfl (op_nilCheck rfl) rfl rfl ?_
     refine GoQ.pure rfl (op_fieldAddr Try.underlying156 rfl ti123 rfl (by decide)) rfl rfl ?_
     refine GoQ.pure rfl (op_fieldAddr Try.underlying123 rfl ti121 rfl (by decide)) rfl rfl ?_
     refine GoQ.stable rfl (oblk (i := 7) 1 hO rfl rfl Try.underlying121 rfl rfl) rfl rfl ?_
     refine GoQ.pure rfl (op_move rfl) rfl rfl ?_
     refine GoQ.pure rfl (op_move rfl) rfl rfl ?_
     refine GoQ.pure rfl (op_nilCheck rfl) rfl rfl ?_
     refine GoQ.pure rfl (op_fieldAddr Try.underlying156 rfl ti30 rfl (by decide)) rfl rfl ?_
     refine GoQ.stable rfl (oblk (i := 10) 1 hO rfl rfl Try.underlying30 rfl rfl) rfl rfl ?_
     refine GoQ.pure rfl (op_move rfl) rfl rfl ?_
     obtain ⟨Ed, H⟩ := H
     obtain ⟨Ee, H⟩ := H
     replace bz := bz.ch eC.ch
     refine GoQ.pure rfl (op_index Try.underlying30 ti9 rfl rfl Ed (ltn (bz.neq hO 8 rfl) Ee) (bz.psome hO 8 rfl Ed Ee)) rfl rfl ?_
     refine GoQ.stable rfl (oldStr 8 hO rfl bz Ed Ee Try.underlying9 rfl rfl) rfl rfl ?_
     have hle181 := Els.str_le bz Ed Ee
     refine GoQ.pure rfl (op_build Try.underlying185 ti185 (pl := [(0, 1), (1, 1)]) (vs := [(0, .string (gstr ((ix d_40 a0.Enum.Done) ++ (chr (IntKind.i32.wrap ((97 : Int) + (k1_12 : Int))))))), (1, .string (gstr (ix d_40 (mgt m1_52 r75))))]) (cs := #[.string (gstr ((ix d_40 a0.Enum.Done) ++ (chr (IntKind.i32.wrap ((97 : Int) + (k1_12 : Int)))))), .string (gstr (ix d_40 (mgt m1_52 r75)))]) (by kernel_rfl) rfl (by kernel_rfl)) rfl rfl ?_
     have hobt := obuildN (r := rpRule) (n := 1) (parts := [(0, .agg #[.string (gstr ((ix d_40 a0.Enum.Done) ++ (chr (IntKind.i32.wrap ((97 : Int) + (k1_12 : Int)))))), .string (gstr (ix d_40 (mgt m1_52 r75)))])]) (vs := [.string (gstr ((ix d_40 a0.Enum.Done) ++ (chr (IntKind.i32.wrap ((97 : Int) + (k1_12 : Int)))))), .string (gstr (ix d_40 (mgt m1_52 r75)))]) (xs := [(⟨((ix d_40 a0.Enum.Done) ++ (chr (IntKind.i32.wrap ((97 : Int) + (k1_12 : Int))))), ix d_40 (mgt m1_52 r75)⟩ : Rule)]) Try.underlying121 ti185 hO (by decide) (by decide) (by kernel_rfl) (Els.flat1 (⟨((ix d_40 a0.Enum.Done) ++ (chr (IntKind.i32.wrap ((97 : Int) + (k1_12 : Int))))), ix d_40 (mgt m1_52 r75)⟩ : Rule) ⟨(lenApp h88), hle181⟩) rfl
     obtain ⟨V8, V9, ly, N5, N6, JI⟩ := hobt
     refine GoQ.loud rfl (JI rfl) N6 rfl rfl ?_
     replace hO := ly.own
     have hobt := freeze 0 hO rfl N5
     obtain ⟨hO1, pU, wb, N7⟩ := hobt
     dsimp only [eS, eZ] at hO1 pU wb
     replace hB := (((((hB.trans iG.fr).trans pQ.fr).trans pS.fr).trans eC.fr).trans ly.fr).trans (Owns.dropFr _ _ 0)
     dsimp only [eS, eZ] at hB
     replace hO := hO1; clear hO1
     obtain ⟨Cb, H⟩ := H
     have Z9 := ((Z1.trans eC.ch).trans ly.ch).trans pU
     replace bN := bN.ch Z9
     have hobt := oapp Try.underlying121 ti185 rfl 7 hO rfl bN wb N7 Cb (by decide)
     obtain ⟨Wa, FY, F0, DH, gG, tx, Cc⟩ := hobt
     dsimp only [sS, sZ] at gG tx
     refine GoQ.last rfl (Cc (by exact rfl) (by exact rfl)) rfl rfl ?_
     replace hO := gG.own
     refine GoQ.pure rfl (op_nilCheck rfl) rfl rfl ?_
     refine GoQ.pure rfl (op_fieldAddr Try.underlying156 rfl ti123 rfl (by decide)) rfl rfl ?_
     refine GoQ.pure rfl (op_fieldAddr Try.underlying123 rfl ti121 rfl (by decide)) rfl rfl ?_
     have hobt := oblkSt2 (v := .slice FY (n39 + 1) F0) (i := 7) (cs' := #[.int .i64 a0.Enum.Points, .bool a0.Enum.Monoid, .slice aE aD aF, .slice p19 n21 c20, .slice p25 n27 c26, .slice p31 n33 c32, .slice aQ aL aR, .slice FY (n39 + 1) F0, .int .i64 a0.Enum.Done, .map (some aS), .slice p43 n45 c44, .slice p49 n51 c50, .slice ba a9 bc]) 1 hO rfl rfl rfl rfl
     obtain ⟨Wb, j5, JJ⟩ := hobt
     dsimp only [sS, sZ] at j5
     refine GoQ.last rfl (JJ Try.underlying121 rfl ti121 (by exact rfl) (by exact rfl)) rfl rfl ?_
     replace hO := j5.own
     refine GoQ.nil ?_
     refine Go1.inBlock ?_
     refine Go1.cut [(0, .pointer (some ⟨dQ, 0, none⟩)), (3, .int .i64 a0.Enum.Done), (4, .slice p2 a0.Enum.Gens.length a0.Enum.Gens.length), (5, .int .i64 (k1_12 : Int)), (8, .int .i64 (mgt m1_52 r75)), (27, .slice aE aD aF), (28, .int .i64 (a0.Enum.Gens.length : Int)), (29, .int .i64 (k1_12 : Int))] ⟨rfl, rfl, rfl, rfl, rfl, rfl, rfl, rfl, trivial⟩ ?_
     intro σ _
     refine zr (zm rfl (zm rfl (zm rfl ?_)))
     obtain ⟨yS, H⟩ := H
     obtain ⟨w4, H⟩ := H
     replace bM := ((bM.ch Z9).ch gG.ch).ch j5.ch
     refine zo (op_index Try.underlying31 ti3 rfl rfl yS (ltn (bM.neq hO 0 rfl) w4) (bM.psome hO 0 rfl yS w4)) ?_
     have hobt := ost (r := Rp.int .i64) rfl 0 hO rfl bM yS w4 (v := .int .i64 (mgt m1_52 r75)) (u := (mgt m1_52 r75)) rfl rfl
     obtain ⟨Rz, N8, gP, Hx, Cv⟩ := hobt
     dsimp only [sS, sZ] at gP Hx
     refine zg (Cv Try.underlying3 rfl ti3 (by exact rfl) (by exact rfl)) ?_
     replace hO := gP.own
     refine zn ?_
     refine Go1.inBlock ?_
     refine zr ?_
     have Z10 := ((Z9.trans gG.ch).trans j5.ch).trans gP.ch
     replace ad := ad.ch Z10
     refine zo (op_add rfl rfl (wrap_i64 (natbd h53 ad.bd))) (zm rfl (zn ?_))
     replace tx := (tx.ch j5.ch).ch gP.ch
     replace hB := ((hB.trans gG.fr).trans j5.fr).trans gP.fr
     have Z11 := (((ly.ch.trans pU).trans gG.ch).trans j5.ch).trans gP.ch
     replace bz := bz.ch Z11
     have Z12 := ((((eC.ch.trans ly.ch).trans pU).trans gG.ch).trans j5.ch).trans gP.ch
     replace cj := cj.ch Z12
     replace cd := cd.ch Z12
     replace ae := ae.ch Z12
     replace bA := bA.ch Z12
     replace c9 := c9.ch Z10
     replace ao := ao.ch Z10
     exact hX1 _ H _ _ ⟨N8, n21, p19, c20, ld, n27, p25, c26, mb, n33, p31, c32, mc, n39 + 1, FY, F0, DH, n45, p43, c44, mf, n51, p49, c50, mg, ⟨rfl, rfl, rfl, rfl, rfl, rfl, trivial⟩, hO, Hx, ad, c9, cj, cd, ae, tx, bz, bA, ao, hB⟩
    replace H := ifn AE H
    refine zo (fun w => opB (op_eql rfl rfl w) (decide_eq_false AE)) (zo (op_pickT rfl rfl rfl) (za rfl (zn ?_)))
    refine Go1.ret1V Try.func160 rfl (show _ = .bool false from rfl) ?_
    refine hR102 _ _ ?_
    refine zo (op_pickT rfl rfl rfl) (za rfl (zn (zf rfl rfl (zk ?_))))
    refine Go1.inBlock ?_
    refine zr (zm rfl (zm rfl (zm rfl ?_)))
    obtain ⟨F1, H⟩ := H
    obtain ⟨Cj, H⟩ := H
    replace bM := bM.ch Z1
    refine zo (op_index Try.underlying31 ti3 rfl rfl F1 (ltn (bM.neq hO 0 rfl) Cj) (bM.psome hO 0 rfl F1 Cj)) ?_
    have hobt := ost (r := Rp.int .i64) rfl 0 hO rfl bM F1 Cj (v := .int .i64 (mgt m1_52 r75)) (u := (mgt m1_52 r75)) rfl rfl
    obtain ⟨QS, N9, lz, Hy, JK⟩ := hobt
    dsimp only [sS, sZ] at lz Hy
    refine zg (JK Try.underlying3 rfl ti3 (by exact rfl) (by exact rfl)) ?_
    replace hO := lz.own
    refine zn ?_
    refine Go1.inBlock ?_
    refine zr ?_
    replace ad := (ad.ch Z1).ch lz.ch
    refine zo (op_add rfl rfl (wrap_i64 (natbd h53 ad.bd))) (zm rfl (zn ?_))
    replace cj := cj.ch lz.ch
    replace cd := cd.ch lz.ch
    replace ae := ae.ch lz.ch
    replace bz := bz.ch lz.ch
    replace bA := bA.ch lz.ch
    have Z13 := Z1.trans lz.ch
    replace c9 := c9.ch Z13
    replace bN := bN.ch Z13
    replace ao := ao.ch Z13
    replace hB := (((hB.trans iG.fr).trans pQ.fr).trans pS.fr).trans lz.fr
    exact hX1 _ H _ _ ⟨N9, n21, p19, c20, ld, n27, p25, c26, mb, n33, p31, c32, mc, n39, p37, c38, me, n45, p43, c44, mf, n51, p49, c50, mg, ⟨rfl, rfl, rfl, rfl, rfl, rfl, trivial⟩, hO, Hy, ad, c9, cj, cd, ae, bN, bz, bA, ao, hB⟩
   replace H := ifn Ec H
   refine zo (fun w => opB (op_eql rfl rfl w) (decide_eq_false Ec)) (zm rfl (zp (zp (zp (zp ?_)))))
   refine zp (zp (zp (zp (zp (zp ?_)))))
   refine zo (op_pickF rfl rfl rfl) (za rfl (zn ?_))
   refine Go1.ret1V Try.func160 rfl (show _ = .bool false from rfl) ?_
   refine hR102 _ _ ?_
   refine zo (op_pickT rfl rfl rfl) (za rfl (zn (zf rfl rfl (zk ?_))))
   refine Go1.inBlock ?_
   refine Go1.cut [(0, .pointer (some ⟨dQ, 0, none⟩)), (3, .int .i64 a0.Enum.Done), (4, .slice p2 a0.Enum.Gens.length a0.Enum.Gens.length), (5, .int .i64 (k1_12 : Int)), (8, .int .i64 (mgt m1_52 r75)), (27, .slice aE aD aF), (28, .int .i64 (a0.Enum.Gens.length : Int)), (29, .int .i64 (k1_12 : Int))] ⟨rfl, rfl, rfl, rfl, rfl, rfl, rfl, rfl, trivial⟩ ?_
   intro σ _
   refine zr (zm rfl (zm rfl (zm rfl ?_)))
   obtain ⟨F2, H⟩ := H
   obtain ⟨F3, H⟩ := H
   replace bM := bM.ch Z1
   refine zo (op_index Try.underlying31 ti3 rfl rfl F2 (ltn (bM.neq hO 0 rfl) F3) (bM.psome hO 0 rfl F2 F3)) ?_
   have hobt := ost (r := Rp.int .i64) rfl 0 hO rfl bM F2 F3 (v := .int .i64 (mgt m1_52 r75)) (u := (mgt m1_52 r75)) rfl rfl
   obtain ⟨Wc, Oa, fw, Hz, JL⟩ := hobt
   dsimp only [sS, sZ] at fw Hz
   refine zg (JL Try.underlying3 rfl ti3 (by exact rfl) (by exact rfl)) ?_
   replace hO := fw.own
   refine zn ?_
   refine Go1.inBlock ?_
   refine zr ?_
   replace ad := (ad.ch Z1).ch fw.ch
   refine zo (op_add rfl rfl (wrap_i64 (natbd h53 ad.bd))) (zm rfl (zn ?_))
   replace cj := cj.ch fw.ch
   replace ae := ae.ch fw.ch
   replace bz := bz.ch fw.ch
   replace bA := bA.ch fw.ch
   have Z14 := Z1.trans fw.ch
   replace c9 := c9.ch Z14
   replace cd := cd.ch Z14
   replace bN := bN.ch Z14
   replace ao := ao.ch Z14
   replace hB := (((hB.trans iG.fr).trans pQ.fr).trans pS.fr).trans fw.fr
   exact hX1 _ H _ _ ⟨Oa, n21, p19, c20, ld, n27, p25, c26, mb, n33, p31, c32, mc, n39, p37, c38, me, n45, p43, c44, mf, n51, p49, c50, mg, ⟨rfl, rfl, rfl, rfl, rfl, rfl, trivial⟩, hO, Hz, ad, c9, cj, cd, ae, bN, bz, bA, ao, hB⟩
  replace H := ifn h81 H
  refine GoQ.stable rfl (olookF (a := r75) (MK.str Try.underlying9) 11 hO rfl Try.underlying154 ti3 rfl rfl h81) rfl rfl ?_
  refine GoQ.pure rfl (op_move rfl) rfl rfl ?_
  refine GoQ.pure rfl (op_extract rfl rfl) rfl rfl ?_
  refine GoQ.pure rfl (op_extract rfl rfl) rfl rfl ?_
  refine GoQ.pure rfl (op_assign rfl) rfl rfl ?_
  refine GoQ.pure rfl (op_assign rfl) rfl rfl ?_
  refine GoQ.nil ?_
  refine zq (zr (zm rfl (zo (op_nilCheck rfl) (zo (op_fieldAddr Try.underlying156 rfl ti30 rfl (by decide)) (zs (oblk (i := 10) 1 hO rfl rfl Try.underlying30 rfl rfl) ?_)))))
  refine zm rfl ?_
  obtain ⟨At, H⟩ := H
  obtain ⟨xA, H⟩ := H
  have Z15 := (iG.ch.trans pQ.ch).trans pS.ch
  replace bz := bz.ch Z15
  refine zo (op_index Try.underlying30 ti9 rfl rfl At (ltn (bz.neq hO 8 rfl) xA) (bz.psome hO 8 rfl At xA)) (zs (oldStr 8 hO rfl bz At xA Try.underlying9 rfl rfl) ?_)
  have hle227 := Els.str_le bz At xA
  refine zm rfl ?_
  obtain ⟨RA, H⟩ := H
  refine zo (op_add rfl rfl (wrap_i64 RA)) (zo (op_conv Try.underlying3 Try.underlying21 rfl rfl) ?_)
  obtain ⟨RB, H⟩ := H
  obtain ⟨RD, H⟩ := H
  refine zo (op_convRS Try.underlying21 Try.underlying9 rfl RB RD) ?_
  obtain ⟨xo, H⟩ := H
  refine zo (op_addS rfl rfl xo) (za rfl (zn (zq (zb (zq ?_)))))
  refine Go1.cut [(0, .pointer (some ⟨dQ, 0, none⟩)), (3, .int .i64 a0.Enum.Done), (4, .slice p2 a0.Enum.Gens.length a0.Enum.Gens.length), (5, .int .i64 (k1_12 : Int)), (7, .slice sb r66.length sc), (8, .int .i64 (0 : Int)), (9, .bool false), (10, .string (gstr ((ix d_40 a0.Enum.Done) ++ (chr (IntKind.i32.wrap ((97 : Int) + (k1_12 : Int))))))), (27, .slice aE aD aF), (28, .int .i64 (a0.Enum.Gens.length : Int)), (29, .int .i64 (k1_12 : Int))] ⟨rfl, rfl, rfl, rfl, rfl, rfl, rfl, rfl, rfl, rfl, rfl, trivial⟩ ?_
  intro σ _
  refine zr (zm rfl (zo (op_not rfl) (zm rfl (zm rfl (zo (op_nilCheck rfl) ?_)))))
  refine zo (op_fieldAddr Try.underlying156 rfl ti123 rfl (by decide)) (zo (op_fieldAddr Try.underlying123 rfl ti23 rfl (by decide)) (zs (oblk (i := 3) 1 hO rfl rfl Try.underlying23 rfl rfl) ?_))
  replace c9 := c9.ch Z15
  refine zo (op_lenN Try.underlying23 rfl (c9.neq hO 3 rfl)) ?_
  by_cases xp : (d_16.length : Int) = (2000 : Int)
  ·replace H := ifp xp H
   refine zo (fun w => opB (op_eql rfl rfl w) (decide_eq_true xp)) (zo (op_pickT rfl rfl rfl) (za rfl (zn (zt rfl rfl (zq ?_)))))
   refine zr (za rfl (zn ?_))
   replace hO := hO.drop 0
   replace c9 := c9.ch (Owns.dropCh _ _ 0)
   replace bz := bz.ch (Owns.dropCh _ _ 0)
   replace bh := (bh.ch pS.ch).ch (Owns.dropCh _ _ 0)
   have Z16 := Z15.trans (Owns.dropCh _ _ 0)
   replace ad := ad.ch Z16
   replace cj := cj.ch Z16
   replace cd := cd.ch Z16
   replace ae := ae.ch Z16
   replace bN := bN.ch Z16
   replace bA := bA.ch Z16
   replace ao := ao.ch Z16
   replace bX := bX.ch Z16
   replace bY := bY.ch Z16
   replace hB := (((hB.trans iG.fr).trans pQ.fr).trans pS.fr).trans (Owns.dropFr _ _ 0)
   dsimp only [eS, eZ] at hB hO bX bY bh ad c9 cj cd ae bN bz bA ao
   refine Go1.ret1 Try.func133 rfl ?_
   exact ⟨((3 : Int)), (⟨(⟨a0.Enum.Points, a0.Enum.Monoid, a0.Enum.Gens, d_16, d_22, d_28, a0.Enum.Right, d_34, a0.Enum.Done⟩ : Enum), m1_52, d_40, d_46, a0.single⟩ : run), aD, aE, aF, cw, n21, p19, c20, ld, n27, p25, c26, mb, n33, p31, c32, mc, aL, aQ, aR, ck, n39, p37, c38, me, n45, p43, c44, mf, n51, p49, c50, mg, a9, ba, bc, dk, rfl, hO, ad, c9, cj, cd, ae, bN, bz, bA, ao, hB, H⟩
  replace H := ifn xp H
  refine zo (fun w => opB (op_eql rfl rfl w) (decide_eq_false xp)) (zo (op_pickT rfl rfl rfl) (za rfl (zn (zf rfl rfl (zq ?_)))))
  refine zr (zm rfl (zo (op_not rfl) (za rfl (zn (zt rfl rfl ?_)))))
  refine zr (zm rfl (zm rfl (zm rfl (zm rfl (zm rfl ?_)))))
  refine zm rfl (zm rfl (zo (op_nilCheck rfl) (zo (op_fieldAddr Try.underlying156 rfl ti31 rfl (by decide)) (zs (oblk (i := 11) 1 hO rfl rfl Try.underlying31 rfl rfl) (zm rfl ?_)))))
  obtain ⟨F4, H⟩ := H
  obtain ⟨F5, H⟩ := H
  replace bA := bA.ch Z15
  refine zo (op_index Try.underlying31 ti3 rfl rfl F4 (ltn (bA.neq hO 9 rfl) F5) (bA.psome hO 9 rfl F4 F5)) (zs (oldInt 9 hO rfl bA F4 F5 Try.underlying3 rfl rfl) (zm rfl ?_))
  refine GoR.inl (vs := [.pointer (some ⟨dQ, 0, none⟩), .int .i64 (ix d_46 a0.Enum.Done), .int .i64 (k1_12 : Int)]) (caps := []) rfl rfl body159 Try.func159 rfl Try.ntmps159 rfl rfl rfl ?_
  intro RhR235 hR235
  refine zq ?_
  refine Go1.cut [(0, .pointer (some ⟨dQ, 0, none⟩)), (1, .int .i64 (ix d_46 a0.Enum.Done)), (2, .int .i64 (k1_12 : Int))] ⟨rfl, rfl, rfl, trivial⟩ ?_
  intro σ _
  refine zr (za rfl (zn (zq (zq (zr ?_)))))
  refine zm rfl ?_
  by_cases Ef : (ix d_46 a0.Enum.Done) = (-1 : Int)
  ·replace H := ifp Ef H
   refine zo (fun w => opB (op_eql rfl rfl w) (decide_eq_true Ef)) (zn (zt rfl rfl (zq (zr (zm rfl ?_)))))
   refine zo (op_nilCheck rfl) (zo (op_fieldAddr Try.underlying156 rfl ti31 rfl (by decide)) (zs (oblk (i := 12) 1 hO rfl rfl Try.underlying31 rfl rfl) (zm rfl ?_)))
   obtain ⟨F6, H⟩ := H
   obtain ⟨F7, H⟩ := H
   replace ao := ao.ch Z15
   refine zo (op_index Try.underlying31 ti3 rfl rfl F6 (ltn (ao.neq hO 10 rfl) F7) (ao.psome hO 10 rfl F6 F7)) (zs (oldInt 10 hO rfl ao F6 F7 Try.underlying3 rfl rfl) (za rfl (zn ?_)))
   refine Go1.ret1V Try.func159 rfl (show _ = .int .i64 (ix a0.single (k1_12 : Int)) from rfl) ?_
   refine hR235 _ _ ?_
   refine GoR.inl (vs := [.pointer (some ⟨dQ, 0, none⟩), .slice sb r66.length sc, .int .i64 a0.Enum.Done, .int .i64 (k1_12 : Int), .string (gstr ((ix d_40 a0.Enum.Done) ++ (chr (IntKind.i32.wrap ((97 : Int) + (k1_12 : Int)))))), .int .i64 (ix a0.single (k1_12 : Int))]) (caps := []) rfl rfl body155 Try.func155 rfl Try.ntmps155 rfl rfl rfl ?_
   intro RhR239 hR239
   refine zq (zr (za rfl (zn (zq (zr ?_)))))
   refine zm rfl (zo (op_nilCheck rfl) (zo (op_fieldAddr Try.underlying156 rfl ti123 rfl (by decide)) (zo (op_fieldAddr Try.underlying123 rfl ti23 rfl (by decide)) (zs (oblk (i := 3) 1 hO rfl rfl Try.underlying23 rfl rfl) (zo (op_lenN Try.underlying23 rfl (c9.neq hO 3 rfl)) ?_)))))
   refine za rfl (zn (zq ?_))
   refine Go1.cut [(0, .pointer (some ⟨dQ, 0, none⟩)), (1, .slice sb r66.length sc), (2, .int .i64 a0.Enum.Done), (3, .int .i64 (k1_12 : Int)), (4, .string (gstr ((ix d_40 a0.Enum.Done) ++ (chr (IntKind.i32.wrap ((97 : Int) + (k1_12 : Int))))))), (5, .int .i64 (ix a0.single (k1_12 : Int))), (13, .int .i64 (d_16.length : Int))] ⟨rfl, rfl, rfl, rfl, rfl, rfl, rfl, trivial⟩ ?_
   intro σ _
   refine Go1.drawS 1 [(0, .pure), (1, .pure), (2, .pure), (3, .stable), (4, .pure), (6, .pure), (5, .loud), (7, .last)] mixed (by kernel_rfl) ?_
   intro QU DW
   have mm := Stp.same hO DW
   replace hO := mm.own
   refine GoQ.pure rfl (op_move rfl) rfl rfl ?_
   refine GoQ.pure rfl (op_nilCheck rfl) rfl rfl ?_
   refine GoQ.pure rfl (op_fieldAddr Try.underlying156 rfl ti154 rfl (by decide)) rfl rfl ?_
   refine GoQ.stable rfl (oblk (i := 9) 1 hO rfl rfl Try.underlying154 rfl rfl) rfl rfl ?_
   refine GoQ.pure rfl (op_move rfl) rfl rfl ?_
   refine GoQ.pure rfl (op_move rfl) rfl rfl ?_
   replace bh := (bh.ch pS.ch).ch mm.ch
   refine GoQ.call rfl (op_call body157 rfl (walk_enumerate_text hO.lt bh H)) (fun v w hr => by obtain ⟨_, _, hs, _, _⟩ := hr; assumption) rfl rfl ?_
   rintro Wd We ⟨r243, rfl, Ob, St, H⟩
   have mo := Stp.same hO Ob
   replace hO := mo.own
   have hobt := omapUpd (MK.str Try.underlying9) 11 hO rfl Try.underlying154 r243 (d_16.length : Int)
   obtain ⟨Wf, lA, JM⟩ := hobt
   dsimp only [sS, sZ] at lA
   refine GoQ.last rfl (JM (by exact rfl) (by exact rfl) (by exact rfl)) rfl rfl ?_
   replace hO := lA.own
   refine GoQ.nil ?_
   refine zq (zr (zm rfl (zm rfl (zo (op_nilCheck rfl) (zo (op_fieldAddr Try.underlying156 rfl ti123 rfl (by decide)) ?_)))))
   refine zo (op_fieldAddr Try.underlying123 rfl ti23 rfl (by decide)) (zs (oblk (i := 3) 1 hO rfl rfl Try.underlying23 rfl rfl) (zm rfl ?_))
   replace bh := (bh.ch mo.ch).ch lA.ch
   have hobt := obuild (r := Rp.sl (Rp.int .i64)) (n := 1) (parts := [(0, .slice sb r66.length sc)]) (vs := [.slice sb r66.length sc]) (xs := [r66]) rfl Try.underlying23 ti31 hO (by decide) (by kernel_rfl) (Els.cons rfl ⟨sb, sc, rfl, bh⟩ (Els.nil _ _ _) (by simp [mx])) rfl
   obtain ⟨Wg, Wh, mp, Oc, S7, BP⟩ := hobt
   refine zg (BP rfl) ?_
   replace hO := mp.own
   have hobt := freeze 0 hO rfl Oc
   obtain ⟨hO1, rz, eV, Od⟩ := hobt
   dsimp only [eS, eZ] at hO1 rz eV
   replace hB := (((((((hB.trans iG.fr).trans pQ.fr).trans pS.fr).trans mm.fr).trans mo.fr).trans lA.fr).trans mp.fr).trans (Owns.dropFr _ _ 0)
   dsimp only [eS, eZ] at hB
   replace hO := hO1; clear hO1
   obtain ⟨RE, H⟩ := H
   have Z17 := (((mm.ch.trans mo.ch).trans lA.ch).trans mp.ch).trans rz
   replace c9 := c9.ch Z17
   have hobt := oapp Try.underlying23 ti31 rfl 3 hO rfl c9 eV Od RE (by decide)
   obtain ⟨Wi, y7, y8, Oe, lB, fq, JN⟩ := hobt
   dsimp only [sS, sZ] at lB fq
   refine zg (JN (by exact rfl) (by exact rfl)) ?_
   replace hO := lB.own
   refine zo (op_nilCheck rfl) (zo (op_fieldAddr Try.underlying156 rfl ti123 rfl (by decide)) (zo (op_fieldAddr Try.underlying123 rfl ti23 rfl (by decide)) ?_))
   have hobt := oblkSt2 (v := .slice y7 (n21 + 1) y8) (i := 3) (cs' := #[.int .i64 a0.Enum.Points, .bool a0.Enum.Monoid, .slice aE aD aF, .slice y7 (n21 + 1) y8, .slice p25 n27 c26, .slice p31 n33 c32, .slice aQ aL aR, .slice p37 n39 c38, .int .i64 a0.Enum.Done, .map (some aS), .slice p43 n45 c44, .slice p49 n51 c50, .slice ba a9 bc]) 1 hO rfl rfl rfl rfl
   obtain ⟨JO, kE, JP⟩ := hobt
   dsimp only [sS, sZ] at kE
   refine zg (JP Try.underlying23 rfl ti23 (by exact rfl) (by exact rfl)) ?_
   replace hO := kE.own
   refine zn (zq ?_)
   refine Go1.cut [(0, .pointer (some ⟨dQ, 0, none⟩)), (2, .int .i64 a0.Enum.Done), (3, .int .i64 (k1_12 : Int)), (4, .string (gstr ((ix d_40 a0.Enum.Done) ++ (chr (IntKind.i32.wrap ((97 : Int) + (k1_12 : Int))))))), (5, .int .i64 (ix a0.single (k1_12 : Int))), (13, .int .i64 (d_16.length : Int))] ⟨rfl, rfl, rfl, rfl, rfl, rfl, trivial⟩ ?_
   intro σ _
   refine zr (zm rfl (zm rfl (zo (op_nilCheck rfl) (zo (op_fieldAddr Try.underlying156 rfl ti123 rfl (by decide)) (zo (op_fieldAddr Try.underlying123 rfl ti31 rfl (by decide)) ?_)))))
   refine zs (oblk (i := 4) 1 hO rfl rfl Try.underlying31 rfl rfl) (zm rfl ?_)
   have hobt := obuild (r := Rp.int .i64) (n := 1) (parts := [(0, .int .i64 a0.Enum.Done)]) (vs := [.int .i64 a0.Enum.Done]) (xs := [a0.Enum.Done]) rfl Try.underlying31 ti3 hO (by decide) (by kernel_rfl) (Els.cons rfl rfl (Els.nil _ _ _) (by simp [mx])) rfl
   obtain ⟨Wj, Wk, lC, Og, S8, JQ⟩ := hobt
   refine zg (JQ rfl) ?_
   replace hO := lC.own
   have hobt := freeze 0 hO rfl Og
   obtain ⟨hO1, pV, gn, Oh⟩ := hobt
   dsimp only [eS, eZ] at hO1 pV gn
   replace hB := (((hB.trans lB.fr).trans kE.fr).trans lC.fr).trans (Owns.dropFr _ _ 0)
   dsimp only [eS, eZ] at hB
   replace hO := hO1; clear hO1
   obtain ⟨RF, H⟩ := H
   have Z18 := ((((((((Z15.trans mm.ch).trans mo.ch).trans lA.ch).trans mp.ch).trans rz).trans lB.ch).trans kE.ch).trans lC.ch).trans pV
   replace cj := cj.ch Z18
   have hobt := oapp Try.underlying31 ti3 rfl 4 hO rfl cj gn Oh RF (by decide)
   obtain ⟨Qb, AF, AG, Oi, kF, gL, JR⟩ := hobt
   dsimp only [sS, sZ] at kF gL
   refine zg (JR (by exact rfl) (by exact rfl)) ?_
   replace hO := kF.own
   refine zo (op_nilCheck rfl) (zo (op_fieldAddr Try.underlying156 rfl ti123 rfl (by decide)) (zo (op_fieldAddr Try.underlying123 rfl ti31 rfl (by decide)) ?_))
   have hobt := oblkSt2 (v := .slice AF (n27 + 1) AG) (i := 4) (cs' := #[.int .i64 a0.Enum.Points, .bool a0.Enum.Monoid, .slice aE aD aF, .slice y7 (n21 + 1) y8, .slice AF (n27 + 1) AG, .slice p31 n33 c32, .slice aQ aL aR, .slice p37 n39 c38, .int .i64 a0.Enum.Done, .map (some aS), .slice p43 n45 c44, .slice p49 n51 c50, .slice ba a9 bc]) 1 hO rfl rfl rfl rfl
   obtain ⟨Wl, j6, JS⟩ := hobt
   dsimp only [sS, sZ] at j6
   refine zg (JS Try.underlying31 rfl ti31 (by exact rfl) (by exact rfl)) ?_
   replace hO := j6.own
   refine zn (zq (zr (zm rfl (zm rfl (zo (op_nilCheck rfl) ?_)))))
   refine zo (op_fieldAddr Try.underlying156 rfl ti123 rfl (by decide)) (zo (op_fieldAddr Try.underlying123 rfl ti31 rfl (by decide)) (zs (oblk (i := 5) 1 hO rfl rfl Try.underlying31 rfl rfl) (zm rfl ?_)))
   have hobt := obuild (r := Rp.int .i64) (n := 1) (parts := [(0, .int .i64 (k1_12 : Int))]) (vs := [.int .i64 (k1_12 : Int)]) (xs := [(k1_12 : Int)]) rfl Try.underlying31 ti3 hO (by decide) (by kernel_rfl) (Els.cons rfl rfl (Els.nil _ _ _) (by simp [mx])) rfl
   obtain ⟨Wm, Wn, kG, Oj, S9, JT⟩ := hobt
   refine zg (JT rfl) ?_
   replace hO := kG.own
   have hobt := freeze 0 hO rfl Oj
   obtain ⟨hO1, oc, i8, Ok⟩ := hobt
   dsimp only [eS, eZ] at hO1 oc i8
   replace hB := (((hB.trans kF.fr).trans j6.fr).trans kG.fr).trans (Owns.dropFr _ _ 0)
   dsimp only [eS, eZ] at hB
   replace hO := hO1; clear hO1
   obtain ⟨RG, H⟩ := H
   have Z19 := (((Z18.trans kF.ch).trans j6.ch).trans kG.ch).trans oc
   replace cd := cd.ch Z19
   have hobt := oapp Try.underlying31 ti3 rfl 5 hO rfl cd i8 Ok RG (by decide)
   obtain ⟨Wo, Cw, Cx, Ol, j7, eP, JU⟩ := hobt
   dsimp only [sS, sZ] at j7 eP
   refine zg (JU (by exact rfl) (by exact rfl)) ?_
   replace hO := j7.own
   refine zo (op_nilCheck rfl) (zo (op_fieldAddr Try.underlying156 rfl ti123 rfl (by decide)) (zo (op_fieldAddr Try.underlying123 rfl ti31 rfl (by decide)) ?_))
   have hobt := oblkSt2 (v := .slice Cw (n33 + 1) Cx) (i := 5) (cs' := #[.int .i64 a0.Enum.Points, .bool a0.Enum.Monoid, .slice aE aD aF, .slice y7 (n21 + 1) y8, .slice AF (n27 + 1) AG, .slice Cw (n33 + 1) Cx, .slice aQ aL aR, .slice p37 n39 c38, .int .i64 a0.Enum.Done, .map (some aS), .slice p43 n45 c44, .slice p49 n51 c50, .slice ba a9 bc]) 1 hO rfl rfl rfl rfl
   obtain ⟨Wp, jC, JV⟩ := hobt
   dsimp only [sS, sZ] at jC
   refine zg (JV Try.underlying31 rfl ti31 (by exact rfl) (by exact rfl)) ?_
   replace hO := jC.own
   refine zn (zq ?_)
   refine Go1.cut [(0, .pointer (some ⟨dQ, 0, none⟩)), (4, .string (gstr ((ix d_40 a0.Enum.Done) ++ (chr (IntKind.i32.wrap ((97 : Int) + (k1_12 : Int))))))), (5, .int .i64 (ix a0.single (k1_12 : Int))), (13, .int .i64 (d_16.length : Int))] ⟨rfl, rfl, rfl, rfl, trivial⟩ ?_
   intro σ _
   refine zr (zm rfl (zm rfl (zo (op_nilCheck rfl) (zo (op_fieldAddr Try.underlying156 rfl ti30 rfl (by decide)) (zs (oblk (i := 10) 1 hO rfl rfl Try.underlying30 rfl rfl) ?_)))))
   refine zm rfl ?_
   have hobt := obuild (r := Rp.str) (n := 1) (parts := [(0, .string (gstr ((ix d_40 a0.Enum.Done) ++ (chr (IntKind.i32.wrap ((97 : Int) + (k1_12 : Int)))))))]) (vs := [.string (gstr ((ix d_40 a0.Enum.Done) ++ (chr (IntKind.i32.wrap ((97 : Int) + (k1_12 : Int))))))]) (xs := [(ix d_40 a0.Enum.Done) ++ (chr (IntKind.i32.wrap ((97 : Int) + (k1_12 : Int))))]) rfl Try.underlying30 ti9 hO (by decide) (by kernel_rfl) (Els.cons rfl ⟨rfl, (lenApp xo)⟩ (Els.nil _ _ _) (by simp [mx])) rfl
   obtain ⟨JW, Wq, j8, Om, Ta, JX⟩ := hobt
   refine zg (JX rfl) ?_
   replace hO := j8.own
   have hobt := freeze 0 hO rfl Om
   obtain ⟨hO1, fY, od, Oo⟩ := hobt
   dsimp only [eS, eZ] at hO1 fY od
   replace hB := (((hB.trans j7.fr).trans jC.fr).trans j8.fr).trans (Owns.dropFr _ _ 0)
   dsimp only [eS, eZ] at hB
   replace hO := hO1; clear hO1
   obtain ⟨RH, H⟩ := H
   have Z20 := (((((((((((Z17.trans lB.ch).trans kE.ch).trans lC.ch).trans pV).trans kF.ch).trans j6.ch).trans kG.ch).trans oc).trans j7.ch).trans jC.ch).trans j8.ch).trans fY
   replace bz := bz.ch Z20
   have hobt := oapp Try.underlying30 ti9 rfl 8 hO rfl bz od Oo RH (by decide)
   obtain ⟨Wr, Eg, Eh, Oq, jD, rB, JY⟩ := hobt
   dsimp only [sS, sZ] at jD rB
   refine zg (JY (by exact rfl) (by exact rfl)) ?_
   replace hO := jD.own
   refine zo (op_nilCheck rfl) (zo (op_fieldAddr Try.underlying156 rfl ti30 rfl (by decide)) ?_)
   have hobt := oblkSt2 (v := .slice Eg (n45 + 1) Eh) (i := 10) (cs' := #[.int .i64 a0.Enum.Points, .bool a0.Enum.Monoid, .slice aE aD aF, .slice y7 (n21 + 1) y8, .slice AF (n27 + 1) AG, .slice Cw (n33 + 1) Cx, .slice aQ aL aR, .slice p37 n39 c38, .int .i64 a0.Enum.Done, .map (some aS), .slice Eg (n45 + 1) Eh, .slice p49 n51 c50, .slice ba a9 bc]) 1 hO rfl rfl rfl rfl
   obtain ⟨Ws, iX, J0⟩ := hobt
   dsimp only [sS, sZ] at iX
   refine zg (J0 Try.underlying30 rfl ti30 (by exact rfl) (by exact rfl)) ?_
   replace hO := iX.own
   refine zn (zq (zr (zm rfl (zm rfl (zo (op_nilCheck rfl) ?_)))))
   refine zo (op_fieldAddr Try.underlying156 rfl ti31 rfl (by decide)) (zs (oblk (i := 11) 1 hO rfl rfl Try.underlying31 rfl rfl) (zm rfl ?_))
   have hobt := obuild (r := Rp.int .i64) (n := 1) (parts := [(0, .int .i64 (ix a0.single (k1_12 : Int)))]) (vs := [.int .i64 (ix a0.single (k1_12 : Int))]) (xs := [(ix a0.single (k1_12 : Int))]) rfl Try.underlying31 ti3 hO (by decide) (by kernel_rfl) (Els.cons rfl rfl (Els.nil _ _ _) (by simp [mx])) rfl
   obtain ⟨Wt, Wu, jE, Os, Tc, BS⟩ := hobt
   refine zg (BS rfl) ?_
   replace hO := jE.own
   have hobt := freeze 0 hO rfl Os
   obtain ⟨hO1, mD, wc, Ot⟩ := hobt
   dsimp only [eS, eZ] at hO1 mD wc
   replace hB := (((hB.trans jD.fr).trans iX.fr).trans jE.fr).trans (Owns.dropFr _ _ 0)
   dsimp only [eS, eZ] at hB
   replace hO := hO1; clear hO1
   obtain ⟨Cy, H⟩ := H
   have Z21 := (((Z20.trans jD.ch).trans iX.ch).trans jE.ch).trans mD
   replace bA := bA.ch Z21
   have hobt := oapp Try.underlying31 ti3 rfl 9 hO rfl bA wc Ot Cy (by decide)
   obtain ⟨Wv, F8, F9, Ou, iY, yj, BT⟩ := hobt
   dsimp only [sS, sZ] at iY yj
   refine zg (BT (by exact rfl) (by exact rfl)) ?_
   replace hO := iY.own
   refine zo (op_nilCheck rfl) (zo (op_fieldAddr Try.underlying156 rfl ti31 rfl (by decide)) ?_)
   have hobt := oblkSt2 (v := .slice F8 (n51 + 1) F9) (i := 11) (cs' := #[.int .i64 a0.Enum.Points, .bool a0.Enum.Monoid, .slice aE aD aF, .slice y7 (n21 + 1) y8, .slice AF (n27 + 1) AG, .slice Cw (n33 + 1) Cx, .slice aQ aL aR, .slice p37 n39 c38, .int .i64 a0.Enum.Done, .map (some aS), .slice Eg (n45 + 1) Eh, .slice F8 (n51 + 1) F9, .slice ba a9 bc]) 1 hO rfl rfl rfl rfl
   obtain ⟨Ww, dP, J1⟩ := hobt
   dsimp only [sS, sZ] at dP
   refine zg (J1 Try.underlying31 rfl ti31 (by exact rfl) (by exact rfl)) ?_
   replace hO := dP.own
   refine zn (zq ?_)
   refine Go1.cut [(13, .int .i64 (d_16.length : Int))] ⟨rfl, trivial⟩ ?_
   intro σ _
   refine zr (zm rfl (za rfl (zn ?_)))
   refine Go1.ret1V Try.func155 rfl (show _ = .int .i64 (d_16.length : Int) from rfl) ?_
   refine hR239 _ _ ?_
   refine za rfl (zn ?_)
   refine Go1.inBlock ?_
   refine zr (zm rfl (zm rfl (zm rfl ?_)))
   obtain ⟨Ga, H⟩ := H
   obtain ⟨Gb, H⟩ := H
   have Z22 := (((((((((Z19.trans j7.ch).trans jC.ch).trans j8.ch).trans fY).trans jD.ch).trans iX.ch).trans jE.ch).trans mD).trans iY.ch).trans dP.ch
   replace bM := bM.ch Z22
   refine zo (op_index Try.underlying31 ti3 rfl rfl Ga (ltn (bM.neq hO 0 rfl) Gb) (bM.psome hO 0 rfl Ga Gb)) ?_
   have hobt := ost (r := Rp.int .i64) rfl 0 hO rfl bM Ga Gb (v := .int .i64 (d_16.length : Int)) (u := (d_16.length : Int)) rfl rfl
   obtain ⟨Qi, Ov, i4, HA, J2⟩ := hobt
   dsimp only [sS, sZ] at i4 HA
   refine zg (J2 Try.underlying3 rfl ti3 (by exact rfl) (by exact rfl)) ?_
   replace hO := i4.own
   refine zn ?_
   refine Go1.inBlock ?_
   refine zr ?_
   replace ad := (ad.ch Z22).ch i4.ch
   refine zo (op_add rfl rfl (wrap_i64 (natbd h53 ad.bd))) (zm rfl (zn ?_))
   replace yj := (yj.ch dP.ch).ch i4.ch
   replace hB := ((hB.trans iY.fr).trans dP.fr).trans i4.fr
   have Z23 := ((((iX.ch.trans jE.ch).trans mD).trans iY.ch).trans dP.ch).trans i4.ch
   replace rB := rB.ch Z23
   have Z24 := ((((((((jC.ch.trans j8.ch).trans fY).trans jD.ch).trans iX.ch).trans jE.ch).trans mD).trans iY.ch).trans dP.ch).trans i4.ch
   replace eP := eP.ch Z24
   have Z25 := ((((((((((((j6.ch.trans kG.ch).trans oc).trans j7.ch).trans jC.ch).trans j8.ch).trans fY).trans jD.ch).trans iX.ch).trans jE.ch).trans mD).trans iY.ch).trans dP.ch).trans i4.ch
   replace gL := gL.ch Z25
   have Z26 := ((((((((((((((((kE.ch.trans lC.ch).trans pV).trans kF.ch).trans j6.ch).trans kG.ch).trans oc).trans j7.ch).trans jC.ch).trans j8.ch).trans fY).trans jD.ch).trans iX.ch).trans jE.ch).trans mD).trans iY.ch).trans dP.ch).trans i4.ch
   replace fq := fq.ch Z26
   have Z27 := ((Z21.trans iY.ch).trans dP.ch).trans i4.ch
   replace ao := ao.ch Z27
   have Z28 := Z22.trans i4.ch
   replace ae := ae.ch Z28
   replace bN := bN.ch Z28
   exact hX1 _ H _ _ ⟨Ov, n21 + 1, y7, y8, Oe, n27 + 1, AF, AG, Oi, n33 + 1, Cw, Cx, Ol, n39, p37, c38, me, n45 + 1, Eg, Eh, Oq, n51 + 1, F8, F9, Ou, ⟨rfl, rfl, rfl, rfl, rfl, rfl, trivial⟩, hO, HA, ad, fq, gL, eP, ae, bN, rB, yj, ao, hB⟩
  replace H := ifn Ef H
  refine zo (fun w => opB (op_eql rfl rfl w) (decide_eq_false Ef)) (zn (zf rfl rfl (zk (zq (zr ?_)))))
  refine zm rfl (zo (op_nilCheck rfl) (zo (op_fieldAddr Try.underlying156 rfl ti123 rfl (by decide)) (zo (op_fieldAddr Try.underlying123 rfl ti23 rfl (by decide)) (zs (oblk (i := 6) 1 hO rfl rfl Try.underlying23 rfl rfl) (zm rfl ?_)))))
  obtain ⟨Gc, H⟩ := H
  obtain ⟨Gd, H⟩ := H
  replace ae := ae.ch Z15
  refine zo (op_index Try.underlying23 ti31 rfl rfl Gc (ltn (ae.neq hO 6 rfl) Gd) (ae.psome hO 6 rfl Gc Gd)) ?_
  have hobt := oldSl 6 hO rfl ae Gc Gd
  obtain ⟨Wx, Wy, dW, Ow⟩ := hobt
  refine zs (Ow Try.underlying31 rfl rfl) (zm rfl ?_)
  obtain ⟨xb, H⟩ := H
  obtain ⟨Ge, H⟩ := H
  refine zo (op_index Try.underlying31 ti3 rfl rfl xb Ge (dW.some_ xb Ge)) (zs (ldInt dW xb Ge Try.underlying3 rfl rfl) (za rfl (zn ?_)))
  refine Go1.ret1V Try.func159 rfl (show _ = .int .i64 (ix (ix a0.Enum.Right (ix d_46 a0.Enum.Done)) (k1_12 : Int)) from rfl) ?_
  refine hR235 _ _ ?_
  refine GoR.inl (vs := [.pointer (some ⟨dQ, 0, none⟩), .slice sb r66.length sc, .int .i64 a0.Enum.Done, .int .i64 (k1_12 : Int), .string (gstr ((ix d_40 a0.Enum.Done) ++ (chr (IntKind.i32.wrap ((97 : Int) + (k1_12 : Int)))))), .int .i64 (ix (ix a0.Enum.Right (ix d_46 a0.Enum.Done)) (k1_12 : Int))]) (caps := []) rfl rfl body155 Try.func155 rfl Try.ntmps155 rfl rfl rfl ?_
  intro RhR377 hR377
  refine zq ?_
  refine Go1.cut [(0, .pointer (some ⟨dQ, 0, none⟩)), (1, .slice sb r66.length sc), (2, .int .i64 a0.Enum.Done), (3, .int .i64 (k1_12 : Int)), (4, .string (gstr ((ix d_40 a0.Enum.Done) ++ (chr (IntKind.i32.wrap ((97 : Int) + (k1_12 : Int))))))), (5, .int .i64 (ix (ix a0.Enum.Right (ix d_46 a0.Enum.Done)) (k1_12 : Int)))] ⟨rfl, rfl, rfl, rfl, rfl, rfl, trivial⟩ ?_
  intro σ _
  refine zr (za rfl (zn (zq (zr (zm rfl ?_)))))
  refine zo (op_nilCheck rfl) (zo (op_fieldAddr Try.underlying156 rfl ti123 rfl (by decide)) (zo (op_fieldAddr Try.underlying123 rfl ti23 rfl (by decide)) (zs (oblk (i := 3) 1 hO rfl rfl Try.underlying23 rfl rfl) (zo (op_lenN Try.underlying23 rfl (c9.neq hO 3 rfl)) (za rfl ?_)))))
  refine zn (zq ?_)
  refine Go1.drawS 1 [(0, .pure), (1, .pure), (2, .pure), (3, .stable), (4, .pure), (6, .pure), (5, .loud), (7, .last)] mixed (by kernel_rfl) ?_
  intro Wz Ox
  have lD := Stp.same hO Ox
  replace hO := lD.own
  refine GoQ.pure rfl (op_move rfl) rfl rfl ?_
  refine GoQ.pure rfl (op_nilCheck rfl) rfl rfl ?_
  refine GoQ.pure rfl (op_fieldAddr Try.underlying156 rfl ti154 rfl (by decide)) rfl rfl ?_
  refine GoQ.stable rfl (oblk (i := 9) 1 hO rfl rfl Try.underlying154 rfl rfl) rfl rfl ?_
  refine GoQ.pure rfl (op_move rfl) rfl rfl ?_
  refine GoQ.pure rfl (op_move rfl) rfl rfl ?_
  replace bh := (bh.ch pS.ch).ch lD.ch
  refine GoQ.call rfl (op_call body157 rfl (walk_enumerate_text hO.lt bh H)) (fun v w hr => by obtain ⟨_, _, hs, _, _⟩ := hr; assumption) rfl rfl ?_
  rintro WA WB ⟨r381, rfl, Oy, Su, H⟩
  have fJ := Stp.same hO Oy
  replace hO := fJ.own
  have hobt := omapUpd (MK.str Try.underlying9) 11 hO rfl Try.underlying154 r381 (d_16.length : Int)
  obtain ⟨WC, fF, BX⟩ := hobt
  dsimp only [sS, sZ] at fF
  refine GoQ.last rfl (BX (by exact rfl) (by exact rfl) (by exact rfl)) rfl rfl ?_
  replace hO := fF.own
  refine GoQ.nil ?_
  refine zq (zr (zm rfl (zm rfl (zo (op_nilCheck rfl) (zo (op_fieldAddr Try.underlying156 rfl ti123 rfl (by decide)) ?_)))))
  refine zo (op_fieldAddr Try.underlying123 rfl ti23 rfl (by decide)) (zs (oblk (i := 3) 1 hO rfl rfl Try.underlying23 rfl rfl) (zm rfl ?_))
  replace bh := (bh.ch fJ.ch).ch fF.ch
  have hobt := obuild (r := Rp.sl (Rp.int .i64)) (n := 1) (parts := [(0, .slice sb r66.length sc)]) (vs := [.slice sb r66.length sc]) (xs := [r66]) rfl Try.underlying23 ti31 hO (by decide) (by kernel_rfl) (Els.cons rfl ⟨sb, sc, rfl, bh⟩ (Els.nil _ _ _) (by simp [mx])) rfl
  obtain ⟨WD, RJ, fK, Oz, Td, J3⟩ := hobt
  refine zg (J3 rfl) ?_
  replace hO := fK.own
  have hobt := freeze 0 hO rfl Oz
  obtain ⟨hO1, pW, eX, OA⟩ := hobt
  dsimp only [eS, eZ] at hO1 pW eX
  replace hB := (((((((hB.trans iG.fr).trans pQ.fr).trans pS.fr).trans lD.fr).trans fJ.fr).trans fF.fr).trans fK.fr).trans (Owns.dropFr _ _ 0)
  dsimp only [eS, eZ] at hB
  replace hO := hO1; clear hO1
  obtain ⟨h400, H⟩ := H
  have Z29 := (((lD.ch.trans fJ.ch).trans fF.ch).trans fK.ch).trans pW
  replace c9 := c9.ch Z29
  have hobt := oapp Try.underlying23 ti31 rfl 3 hO rfl c9 eX OA h400 (by decide)
  obtain ⟨Qj, y9, zc, mX, fe, cT, Cz⟩ := hobt
  dsimp only [sS, sZ] at fe cT
  refine zg (Cz (by exact rfl) (by exact rfl)) ?_
  replace hO := fe.own
  refine zo (op_nilCheck rfl) (zo (op_fieldAddr Try.underlying156 rfl ti123 rfl (by decide)) (zo (op_fieldAddr Try.underlying123 rfl ti23 rfl (by decide)) ?_))
  have hobt := oblkSt2 (v := .slice y9 (n21 + 1) zc) (i := 3) (cs' := #[.int .i64 a0.Enum.Points, .bool a0.Enum.Monoid, .slice aE aD aF, .slice y9 (n21 + 1) zc, .slice p25 n27 c26, .slice p31 n33 c32, .slice aQ aL aR, .slice p37 n39 c38, .int .i64 a0.Enum.Done, .map (some aS), .slice p43 n45 c44, .slice p49 n51 c50, .slice ba a9 bc]) 1 hO rfl rfl rfl rfl
  obtain ⟨WE, fd, J4⟩ := hobt
  dsimp only [sS, sZ] at fd
  refine zg (J4 Try.underlying23 rfl ti23 (by exact rfl) (by exact rfl)) ?_
  replace hO := fd.own
  refine zn (zq ?_)
  refine Go1.cut [(0, .pointer (some ⟨dQ, 0, none⟩)), (2, .int .i64 a0.Enum.Done), (3, .int .i64 (k1_12 : Int)), (4, .string (gstr ((ix d_40 a0.Enum.Done) ++ (chr (IntKind.i32.wrap ((97 : Int) + (k1_12 : Int))))))), (5, .int .i64 (ix (ix a0.Enum.Right (ix d_46 a0.Enum.Done)) (k1_12 : Int))), (13, .int .i64 (d_16.length : Int))] ⟨rfl, rfl, rfl, rfl, rfl, rfl, trivial⟩ ?_
  intro σ _
  refine zr (zm rfl (zm rfl (zo (op_nilCheck rfl) (zo (op_fieldAddr Try.underlying156 rfl ti123 rfl (by decide)) (zo (op_fieldAddr Try.underlying123 rfl ti31 rfl (by decide)) ?_)))))
  refine zs (oblk (i := 4) 1 hO rfl rfl Try.underlying31 rfl rfl) (zm rfl ?_)
  have hobt := obuild (r := Rp.int .i64) (n := 1) (parts := [(0, .int .i64 a0.Enum.Done)]) (vs := [.int .i64 a0.Enum.Done]) (xs := [a0.Enum.Done]) rfl Try.underlying31 ti3 hO (by decide) (by kernel_rfl) (Els.cons rfl rfl (Els.nil _ _ _) (by simp [mx])) rfl
  obtain ⟨WF, WG, eg, xq, HB, CA⟩ := hobt
  refine zg (CA rfl) ?_
  replace hO := eg.own
  have hobt := freeze 0 hO rfl xq
  obtain ⟨hO1, oe, gp, OB⟩ := hobt
  dsimp only [eS, eZ] at hO1 oe gp
  replace hB := (((hB.trans fe.fr).trans fd.fr).trans eg.fr).trans (Owns.dropFr _ _ 0)
  dsimp only [eS, eZ] at hB
  replace hO := hO1; clear hO1
  obtain ⟨CB, H⟩ := H
  have Z30 := ((((((((Z15.trans lD.ch).trans fJ.ch).trans fF.ch).trans fK.ch).trans pW).trans fe.ch).trans fd.ch).trans eg.ch).trans oe
  replace cj := cj.ch Z30
  have hobt := oapp Try.underlying31 ti3 rfl 4 hO rfl cj gp OB CB (by decide)
  obtain ⟨WH, AH, AI, OC, gH, gk, J5⟩ := hobt
  dsimp only [sS, sZ] at gH gk
  refine zg (J5 (by exact rfl) (by exact rfl)) ?_
  replace hO := gH.own
  refine zo (op_nilCheck rfl) (zo (op_fieldAddr Try.underlying156 rfl ti123 rfl (by decide)) (zo (op_fieldAddr Try.underlying123 rfl ti31 rfl (by decide)) ?_))
  have hobt := oblkSt2 (v := .slice AH (n27 + 1) AI) (i := 4) (cs' := #[.int .i64 a0.Enum.Points, .bool a0.Enum.Monoid, .slice aE aD aF, .slice y9 (n21 + 1) zc, .slice AH (n27 + 1) AI, .slice p31 n33 c32, .slice aQ aL aR, .slice p37 n39 c38, .int .i64 a0.Enum.Done, .map (some aS), .slice p43 n45 c44, .slice p49 n51 c50, .slice ba a9 bc]) 1 hO rfl rfl rfl rfl
  obtain ⟨WI, jF, J6⟩ := hobt
  dsimp only [sS, sZ] at jF
  refine zg (J6 Try.underlying31 rfl ti31 (by exact rfl) (by exact rfl)) ?_
  replace hO := jF.own
  refine zn (zq (zr (zm rfl (zm rfl (zo (op_nilCheck rfl) ?_)))))
  refine zo (op_fieldAddr Try.underlying156 rfl ti123 rfl (by decide)) (zo (op_fieldAddr Try.underlying123 rfl ti31 rfl (by decide)) (zs (oblk (i := 5) 1 hO rfl rfl Try.underlying31 rfl rfl) (zm rfl ?_)))
  have hobt := obuild (r := Rp.int .i64) (n := 1) (parts := [(0, .int .i64 (k1_12 : Int))]) (vs := [.int .i64 (k1_12 : Int)]) (xs := [(k1_12 : Int)]) rfl Try.underlying31 ti3 hO (by decide) (by kernel_rfl) (Els.cons rfl rfl (Els.nil _ _ _) (by simp [mx])) rfl
  obtain ⟨WJ, WK, j9, OD, Te, J7⟩ := hobt
  refine zg (J7 rfl) ?_
  replace hO := j9.own
  have hobt := freeze 0 hO rfl OD
  obtain ⟨hO1, mY, i9, OE⟩ := hobt
  dsimp only [eS, eZ] at hO1 mY i9
  replace hB := (((hB.trans gH.fr).trans jF.fr).trans j9.fr).trans (Owns.dropFr _ _ 0)
  dsimp only [eS, eZ] at hB
  replace hO := hO1; clear hO1
  obtain ⟨zd, H⟩ := H
  have Z31 := (((Z30.trans gH.ch).trans jF.ch).trans j9.ch).trans mY
  replace cd := cd.ch Z31
  have hobt := oapp Try.underlying31 ti3 rfl 5 hO rfl cd i9 OE zd (by decide)
  obtain ⟨WL, CC, CD, OF, jG, jV, J8⟩ := hobt
  dsimp only [sS, sZ] at jG jV
  refine zg (J8 (by exact rfl) (by exact rfl)) ?_
  replace hO := jG.own
  refine zo (op_nilCheck rfl) (zo (op_fieldAddr Try.underlying156 rfl ti123 rfl (by decide)) (zo (op_fieldAddr Try.underlying123 rfl ti31 rfl (by decide)) ?_))
  have hobt := oblkSt2 (v := .slice CC (n33 + 1) CD) (i := 5) (cs' := #[.int .i64 a0.Enum.Points, .bool a0.Enum.Monoid, .slice aE aD aF, .slice y9 (n21 + 1) zc, .slice AH (n27 + 1) AI, .slice CC (n33 + 1) CD, .slice aQ aL aR, .slice p37 n39 c38, .int .i64 a0.Enum.Done, .map (some aS), .slice p43 n45 c44, .slice p49 n51 c50, .slice ba a9 bc]) 1 hO rfl rfl rfl rfl
  obtain ⟨WM, i5, J9⟩ := hobt
  dsimp only [sS, sZ] at i5
  refine zg (J9 Try.underlying31 rfl ti31 (by exact rfl) (by exact rfl)) ?_
  replace hO := i5.own
  refine zn (zq ?_)
  refine Go1.cut [(0, .pointer (some ⟨dQ, 0, none⟩)), (4, .string (gstr ((ix d_40 a0.Enum.Done) ++ (chr (IntKind.i32.wrap ((97 : Int) + (k1_12 : Int))))))), (5, .int .i64 (ix (ix a0.Enum.Right (ix d_46 a0.Enum.Done)) (k1_12 : Int))), (13, .int .i64 (d_16.length : Int))] ⟨rfl, rfl, rfl, rfl, trivial⟩ ?_
  intro σ _
  refine zr (zm rfl (zm rfl (zo (op_nilCheck rfl) (zo (op_fieldAddr Try.underlying156 rfl ti30 rfl (by decide)) (zs (oblk (i := 10) 1 hO rfl rfl Try.underlying30 rfl rfl) ?_)))))
  refine zm rfl ?_
  have hobt := obuild (r := Rp.str) (n := 1) (parts := [(0, .string (gstr ((ix d_40 a0.Enum.Done) ++ (chr (IntKind.i32.wrap ((97 : Int) + (k1_12 : Int)))))))]) (vs := [.string (gstr ((ix d_40 a0.Enum.Done) ++ (chr (IntKind.i32.wrap ((97 : Int) + (k1_12 : Int))))))]) (xs := [(ix d_40 a0.Enum.Done) ++ (chr (IntKind.i32.wrap ((97 : Int) + (k1_12 : Int))))]) rfl Try.underlying30 ti9 hO (by decide) (by kernel_rfl) (Els.cons rfl ⟨rfl, (lenApp xo)⟩ (Els.nil _ _ _) (by simp [mx])) rfl
  obtain ⟨WN, WO, jH, OG, Tf, Cn⟩ := hobt
  refine zg (Cn rfl) ?_
  replace hO := jH.own
  have hobt := freeze 0 hO rfl OG
  obtain ⟨hO1, mE, og, OH⟩ := hobt
  dsimp only [eS, eZ] at hO1 mE og
  replace hB := (((hB.trans jG.fr).trans i5.fr).trans jH.fr).trans (Owns.dropFr _ _ 0)
  dsimp only [eS, eZ] at hB
  replace hO := hO1; clear hO1
  obtain ⟨RK, H⟩ := H
  have Z32 := (((((((((((Z29.trans fe.ch).trans fd.ch).trans eg.ch).trans oe).trans gH.ch).trans jF.ch).trans j9.ch).trans mY).trans jG.ch).trans i5.ch).trans jH.ch).trans mE
  replace bz := bz.ch Z32
  have hobt := oapp Try.underlying30 ti9 rfl 8 hO rfl bz og OH RK (by decide)
  obtain ⟨WP, Ei, Ej, OI, eF, rC, Ka⟩ := hobt
  dsimp only [sS, sZ] at eF rC
  refine zg (Ka (by exact rfl) (by exact rfl)) ?_
  replace hO := eF.own
  refine zo (op_nilCheck rfl) (zo (op_fieldAddr Try.underlying156 rfl ti30 rfl (by decide)) ?_)
  have hobt := oblkSt2 (v := .slice Ei (n45 + 1) Ej) (i := 10) (cs' := #[.int .i64 a0.Enum.Points, .bool a0.Enum.Monoid, .slice aE aD aF, .slice y9 (n21 + 1) zc, .slice AH (n27 + 1) AI, .slice CC (n33 + 1) CD, .slice aQ aL aR, .slice p37 n39 c38, .int .i64 a0.Enum.Done, .map (some aS), .slice Ei (n45 + 1) Ej, .slice p49 n51 c50, .slice ba a9 bc]) 1 hO rfl rfl rfl rfl
  obtain ⟨WQ, iF, Kb⟩ := hobt
  dsimp only [sS, sZ] at iF
  refine zg (Kb Try.underlying30 rfl ti30 (by exact rfl) (by exact rfl)) ?_
  replace hO := iF.own
  refine zn (zq (zr (zm rfl (zm rfl (zo (op_nilCheck rfl) ?_)))))
  refine zo (op_fieldAddr Try.underlying156 rfl ti31 rfl (by decide)) (zs (oblk (i := 11) 1 hO rfl rfl Try.underlying31 rfl rfl) (zm rfl ?_))
  have hobt := obuild (r := Rp.int .i64) (n := 1) (parts := [(0, .int .i64 (ix (ix a0.Enum.Right (ix d_46 a0.Enum.Done)) (k1_12 : Int)))]) (vs := [.int .i64 (ix (ix a0.Enum.Right (ix d_46 a0.Enum.Done)) (k1_12 : Int))]) (xs := [(ix (ix a0.Enum.Right (ix d_46 a0.Enum.Done)) (k1_12 : Int))]) rfl Try.underlying31 ti3 hO (by decide) (by kernel_rfl) (Els.cons rfl rfl (Els.nil _ _ _) (by simp [mx])) rfl
  obtain ⟨WR, WS, eG, OJ, Tg, Kc⟩ := hobt
  refine zg (Kc rfl) ?_
  replace hO := eG.own
  have hobt := freeze 0 hO rfl OJ
  obtain ⟨hO1, lQ, we, OK⟩ := hobt
  dsimp only [eS, eZ] at hO1 lQ we
  replace hB := (((hB.trans eF.fr).trans iF.fr).trans eG.fr).trans (Owns.dropFr _ _ 0)
  dsimp only [eS, eZ] at hB
  replace hO := hO1; clear hO1
  obtain ⟨RL, H⟩ := H
  have Z33 := (((Z32.trans eF.ch).trans iF.ch).trans eG.ch).trans lQ
  replace bA := bA.ch Z33
  have hobt := oapp Try.underlying31 ti3 rfl 9 hO rfl bA we OK RL (by decide)
  obtain ⟨WT, Gf, Gg, OL, e9, v7, Kd⟩ := hobt
  dsimp only [sS, sZ] at e9 v7
  refine zg (Kd (by exact rfl) (by exact rfl)) ?_
  replace hO := e9.own
  refine zo (op_nilCheck rfl) (zo (op_fieldAddr Try.underlying156 rfl ti31 rfl (by decide)) ?_)
  have hobt := oblkSt2 (v := .slice Gf (n51 + 1) Gg) (i := 11) (cs' := #[.int .i64 a0.Enum.Points, .bool a0.Enum.Monoid, .slice aE aD aF, .slice y9 (n21 + 1) zc, .slice AH (n27 + 1) AI, .slice CC (n33 + 1) CD, .slice aQ aL aR, .slice p37 n39 c38, .int .i64 a0.Enum.Done, .map (some aS), .slice Ei (n45 + 1) Ej, .slice Gf (n51 + 1) Gg, .slice ba a9 bc]) 1 hO rfl rfl rfl rfl
  obtain ⟨WU, iw, Ke⟩ := hobt
  dsimp only [sS, sZ] at iw
  refine zg (Ke Try.underlying31 rfl ti31 (by exact rfl) (by exact rfl)) ?_
  replace hO := iw.own
  refine zn (zq ?_)
  refine Go1.cut [(13, .int .i64 (d_16.length : Int))] ⟨rfl, trivial⟩ ?_
  intro σ _
  refine zr (zm rfl (za rfl (zn ?_)))
  refine Go1.ret1V Try.func155 rfl (show _ = .int .i64 (d_16.length : Int) from rfl) ?_
  refine hR377 _ _ ?_
  refine za rfl (zn ?_)
  refine Go1.inBlock ?_
  refine zr (zm rfl (zm rfl (zm rfl ?_)))
  obtain ⟨Gh, H⟩ := H
  obtain ⟨zh, H⟩ := H
  have Z34 := (((((((((Z31.trans jG.ch).trans i5.ch).trans jH.ch).trans mE).trans eF.ch).trans iF.ch).trans eG.ch).trans lQ).trans e9.ch).trans iw.ch
  replace bM := bM.ch Z34
  refine zo (op_index Try.underlying31 ti3 rfl rfl Gh (ltn (bM.neq hO 0 rfl) zh) (bM.psome hO 0 rfl Gh zh)) ?_
  have hobt := ost (r := Rp.int .i64) rfl 0 hO rfl bM Gh zh (v := .int .i64 (d_16.length : Int)) (u := (d_16.length : Int)) rfl rfl
  obtain ⟨WW, OM, eh, HC, Kf⟩ := hobt
  dsimp only [sS, sZ] at eh HC
  refine zg (Kf Try.underlying3 rfl ti3 (by exact rfl) (by exact rfl)) ?_
  replace hO := eh.own
  refine zn ?_
  refine Go1.inBlock ?_
  refine zr ?_
  replace ad := (ad.ch Z34).ch eh.ch
  refine zo (op_add rfl rfl (wrap_i64 (natbd h53 ad.bd))) (zm rfl (zn ?_))
  replace v7 := (v7.ch iw.ch).ch eh.ch
  replace hB := ((hB.trans e9.fr).trans iw.fr).trans eh.fr
  have Z35 := ((((iF.ch.trans eG.ch).trans lQ).trans e9.ch).trans iw.ch).trans eh.ch
  replace rC := rC.ch Z35
  have Z36 := ((((((((i5.ch.trans jH.ch).trans mE).trans eF.ch).trans iF.ch).trans eG.ch).trans lQ).trans e9.ch).trans iw.ch).trans eh.ch
  replace jV := jV.ch Z36
  have Z37 := ((((((((((((jF.ch.trans j9.ch).trans mY).trans jG.ch).trans i5.ch).trans jH.ch).trans mE).trans eF.ch).trans iF.ch).trans eG.ch).trans lQ).trans e9.ch).trans iw.ch).trans eh.ch
  replace gk := gk.ch Z37
  have Z38 := ((((((((((((((((fd.ch.trans eg.ch).trans oe).trans gH.ch).trans jF.ch).trans j9.ch).trans mY).trans jG.ch).trans i5.ch).trans jH.ch).trans mE).trans eF.ch).trans iF.ch).trans eG.ch).trans lQ).trans e9.ch).trans iw.ch).trans eh.ch
  replace cT := cT.ch Z38
  have Z39 := ((Z33.trans e9.ch).trans iw.ch).trans eh.ch
  replace ae := ae.ch Z39
  have Z40 := Z34.trans eh.ch
  replace bN := bN.ch Z40
  replace ao := ao.ch Z40
  exact hX1 _ H _ _ ⟨OM, n21 + 1, y9, zc, mX, n27 + 1, AH, AI, OC, n33 + 1, CC, CD, OF, n39, p37, c38, me, n45 + 1, Ei, Ej, OI, n51 + 1, Gf, Gg, OL, ⟨rfl, rfl, rfl, rfl, rfl, rfl, trivial⟩, hO, HC, ad, cT, gk, jV, ae, bN, rC, v7, ao, hB⟩
 replace H := ifn h53 H
 refine zo (fun w => opB (op_lss rfl rfl w) (decide_eq_false h53)) (zn (zq (zf rfl rfl ?_)))
 refine Go1.exit rfl ?_
 refine zq (zr (zm rfl (zm rfl (zo (op_nilCheck rfl) (zo (op_fieldAddr Try.underlying156 rfl ti123 rfl (by decide)) ?_)))))
 refine zo (op_fieldAddr Try.underlying123 rfl ti23 rfl (by decide)) (zs (oblk (i := 6) 1 hO rfl rfl Try.underlying23 rfl rfl) (zm rfl ?_))
 have hobt := freeze 0 hO rfl bM
 obtain ⟨hO1, uh, sQ, ON⟩ := hobt
 dsimp only [eS, eZ] at hO1 uh sQ
 replace hB := hB.trans (Owns.dropFr _ _ 0)
 dsimp only [eS, eZ] at hB
 replace hO := hO1; clear hO1
 have hobt := obuild (r := Rp.sl (Rp.int .i64)) (n := 1) (parts := [(0, .slice p2 a0.Enum.Gens.length a0.Enum.Gens.length)]) (vs := [.slice p2 a0.Enum.Gens.length a0.Enum.Gens.length]) (xs := [d_13]) rfl Try.underlying23 ti31 hO (by decide) (by kernel_rfl) (Els.cons rfl ⟨p2, a0.Enum.Gens.length, congrArg some (congrArg (fun nn => Value.slice p2 nn a0.Enum.Gens.length) ON), sQ⟩ (Els.nil _ _ _) (by simp [mx])) rfl
 obtain ⟨WX, WY, qL, OO, Th, Co⟩ := hobt
 refine zg (Co rfl) ?_
 replace hO := qL.own
 have hobt := freeze 0 hO rfl OO
 obtain ⟨hO1, tG, wg, OP⟩ := hobt
 dsimp only [eS, eZ] at hO1 tG wg
 replace hB := (hB.trans qL.fr).trans (Owns.dropFr _ _ 0)
 dsimp only [eS, eZ] at hB
 replace hO := hO1; clear hO1
 obtain ⟨RM, H⟩ := H
 have Z41 := (uh.trans qL.ch).trans tG
 replace ae := ae.ch Z41
 have hobt := oapp Try.underlying23 ti31 rfl 5 hO rfl ae wg OP RM (by decide)
 obtain ⟨W0, Ek, El, OQ, oI, yk, Kg⟩ := hobt
 dsimp only [sS, sZ] at oI yk
 refine zg (Kg (by exact rfl) (by exact rfl)) ?_
 replace hO := oI.own
 refine zo (op_nilCheck rfl) (zo (op_fieldAddr Try.underlying156 rfl ti123 rfl (by decide)) (zo (op_fieldAddr Try.underlying123 rfl ti23 rfl (by decide)) ?_))
 have hobt := oblkSt2 (v := .slice Ek (aL + 1) El) (i := 6) (cs' := #[.int .i64 a0.Enum.Points, .bool a0.Enum.Monoid, .slice aE aD aF, .slice p19 n21 c20, .slice p25 n27 c26, .slice p31 n33 c32, .slice Ek (aL + 1) El, .slice p37 n39 c38, .int .i64 a0.Enum.Done, .map (some aS), .slice p43 n45 c44, .slice p49 n51 c50, .slice ba a9 bc]) 0 hO rfl rfl rfl rfl
 obtain ⟨W1, m3, Kh⟩ := hobt
 dsimp only [sS, sZ] at m3
 refine zg (Kh Try.underlying23 rfl ti23 (by exact rfl) (by exact rfl)) ?_
 replace hO := m3.own
 refine zn (zq ?_)
 refine Go1.cut [(0, .pointer (some ⟨dQ, 0, none⟩))] ⟨rfl, trivial⟩ ?_
 intro σ _
 refine zr (zm rfl (zo (op_nilCheck rfl) (zo (op_fieldAddr Try.underlying156 rfl ti123 rfl (by decide)) (zo (op_fieldAddr Try.underlying123 rfl ti3 rfl (by decide)) (zs (oblk (i := 8) 0 hO rfl rfl Try.underlying3 rfl rfl) ?_)))))
 obtain ⟨RN, H⟩ := H
 refine zo (op_add rfl rfl (wrap_i64 RN)) (zo (op_nilCheck rfl) (zo (op_fieldAddr Try.underlying156 rfl ti123 rfl (by decide)) (zo (op_fieldAddr Try.underlying123 rfl ti3 rfl (by decide)) ?_)))
 have hobt := oblkSt2 (v := .int .i64 (a0.Enum.Done + (1 : Int))) (i := 8) (cs' := #[.int .i64 a0.Enum.Points, .bool a0.Enum.Monoid, .slice aE aD aF, .slice p19 n21 c20, .slice p25 n27 c26, .slice p31 n33 c32, .slice Ek (aL + 1) El, .slice p37 n39 c38, .int .i64 (a0.Enum.Done + (1 : Int)), .map (some aS), .slice p43 n45 c44, .slice p49 n51 c50, .slice ba a9 bc]) 0 hO rfl rfl rfl rfl
 obtain ⟨W2, fG, Ki⟩ := hobt
 dsimp only [sS, sZ] at fG
 refine zg (Ki Try.underlying3 rfl ti3 (by exact rfl) (by exact rfl)) ?_
 replace hO := fG.own
 refine zn (zq (zr (za rfl (zn ?_))))
 refine Go1.ret1 Try.func133 rfl ?_
 replace yk := (yk.ch m3.ch).ch fG.ch
 replace hB := ((hB.trans oI.fr).trans m3.fr).trans fG.fr
 have Z42 := ((Z41.trans oI.ch).trans m3.ch).trans fG.ch
 replace ad := ad.ch Z42
 replace c9 := c9.ch Z42
 replace cj := cj.ch Z42
 replace cd := cd.ch Z42
 replace bN := bN.ch Z42
 replace bz := bz.ch Z42
 replace bA := bA.ch Z42
 replace ao := ao.ch Z42
 exact ⟨((0 : Int)), (⟨(⟨a0.Enum.Points, a0.Enum.Monoid, a0.Enum.Gens, d_16, d_22, d_28, a0.Enum.Right ++ ([d_13]), d_34, (a0.Enum.Done + (1 : Int))⟩ : Enum), m1_52, d_40, d_46, a0.single⟩ : run), aD, aE, aF, cw, n21, p19, c20, ld, n27, p25, c26, mb, n33, p31, c32, mc, (aL + 1), Ek, El, OQ, n39, p37, c38, me, n45, p43, c44, mf, n51, p49, c50, mg, a9, ba, bc, dk, rfl, hO, ad, c9, cj, cd, yk, bN, bz, bA, ao, hB, H⟩
theorem body132 : Body Try.prog 132 := ⟨Try.f132, Try.func132, rfl, by kernel_rfl⟩
theorem body101 : Body Try.prog 101 := ⟨Try.f101, Try.func101, rfl, by kernel_rfl⟩
theorem walk_enumerate_Build {A : List Nat} {w0 : World} {CE : Option Addr} {CF : Nat} {gens : List (List Int)} {monoid : Bool} (hA : ∀ b ∈ A, b < w0.heap.size) (oJ : ISl (Rp.sl (Rp.int .i64)) A w0 CE CF gens) {K : Enum → Int → Prop} (H : enumerate_Build gens monoid K) :
    CallsV Try.prog 101 #[.slice CE gens.length CF, .bool monoid] w0 (fun v w' => ∃ (r0 : Enum), ∃ (r1 : Int), ∃ (AU : Option Addr), ∃ (AV : Nat), ∃ (zQ : Option Addr), ∃ (zR : Nat), ∃ (yy : Option Addr), ∃ (yz : Nat), ∃ (AW : Option Addr), ∃ (AX : Nat), ∃ (zS : Option Addr), ∃ (zT : Nat), ∃ (zU : Option Addr), ∃ (zV : Nat), v = .tuple #[.agg #[.int .i64 r0.Points, .bool r0.Monoid, .slice AU r0.Gens.length AV, .slice zQ r0.Elems.length zR, .slice yy r0.Prefix.length yz, .slice AW r0.Last.length AX, .slice zS r0.Right.length zT, .slice zU r0.Rules.length zV, .int .i64 r0.Done], .int .i64 r1] ∧ Same w0 w' ∧ ISl (Rp.sl (Rp.int .i64)) A w' AU AV r0.Gens ∧ ISl (Rp.sl (Rp.int .i64)) A w' zQ zR r0.Elems ∧ ISl (Rp.int .i64) A w' yy yz r0.Prefix ∧ ISl (Rp.int .i64) A w' AW AX r0.Last ∧ ISl (Rp.sl (Rp.int .i64)) A w' zS zT r0.Right ∧ ISl (rpRule) A w' zU zV r0.Rules ∧ K r0 r1) := by
 refine CallsV.of (l := [.slice CE gens.length CF, .bool monoid]) Try.func101 rfl Try.ntmps101 rfl ?_
 have hO := Owns.start hA
 have hB := Fr.refl (bl []) w0
 unfold enumerate_Build at H
 refine zq (zr ?_)
 have hobt := oalloc (t := 123) (cs := #[.int .i64 (0 : Int), .bool false, .slice none 0 0, .slice none 0 0, .slice none 0 0, .slice none 0 0, .slice none 0 0, .slice none 0 0, .int .i64 (0 : Int)]) ti123 hO rfl
 obtain ⟨w1, B2, dG, hs4, lb⟩ := hobt
 refine GoR.op lb rfl rfl ?_
 replace hO := dG.own
 refine za rfl (zn (zq (zr (zm rfl (zm rfl ?_)))))
 replace oJ := (oJ.ch (Ch.start A w0)).ch dG.ch
 refine GoR.call (op_call body131 rfl (walk_enumerate_begin hO.lt oJ H)) rfl rfl ?_
 intro v9 w10 hcase13
 refine Or.elim hcase13 ?_ ?_
 ·refine exE fun r8 => andE fun hv14 => andE fun Aq => fun H => ?_
  subst hv14
  clear hcase13
  replace H := oElimN H
  have Em := Stp.same hO Aq
  replace hO := Em.own
  refine zm rfl (zo (op_extract rfl rfl) (zo (op_extract rfl rfl) (za rfl (za rfl (zn ?_)))))
  refine zq (zq (zr (zm rfl ?_)))
  by_cases h16 : r8 = (0 : Int)
  ·replace H := ifp h16 H
   refine zo (fun w => opB (op_neq rfl rfl w) (ndT h16)) (zn (zf rfl rfl (zk (zq (zb ?_)))))
   replace hB := (hB.trans dG.fr).trans Em.fr
   refine Go1.loopW (S := Unit) (fun s σ w => agrees σ [(4, .pointer (some ⟨B2, 0, none⟩)), (6, .pointer none)] ∧ Owns w0.heap.size w [.blk B2 (.cells #[.int .i64 (0 : Int), .bool false, .slice none 0 0, .slice none 0 0, .slice none 0 0, .slice none 0 0, .slice none 0 0, .slice none 0 0, .int .i64 (0 : Int)] 123 (0, 0))] A ∧ Fr (bl []) w0 (bl [.blk B2 (.cells #[.int .i64 (0 : Int), .bool false, .slice none 0 0, .slice none 0 0, .slice none 0 0, .slice none 0 0, .slice none 0 0, .slice none 0 0, .int .i64 (0 : Int)] 123 (0, 0))]) w) H ⟨⟨rfl, rfl, trivial⟩, hO, hB⟩ ?_
   intro X1 _
   intro H hX1 σ w17
   refine andE fun hag => andE fun hO => fun hB => ?_
   refine Go1.keep [(4, .pointer (some ⟨B2, 0, none⟩)), (6, .pointer none)] hag ?_
   refine zq (zq (zr (zm rfl ?_)))
   refine GoR.inl (vs := [.pointer none]) (caps := []) rfl rfl body132 Try.func132 rfl Try.ntmps132 rfl rfl rfl ?_
   intro RhR18 hR18
   refine zq (zr (za rfl (zn (zq ?_))))
   refine Go1.drawS 0 [(0, .pure), (1, .pure), (2, .pure), (3, .pure), (4, .stable), (5, .pure), (6, .pure), (7, .pure), (8, .pure), (9, .stable), (10, .pure), (11, .pure), (12, .pure)] mixed (by kernel_rfl) ?_
   intro w19 RO
   have sR := Stp.same hO RO
   replace hO := sR.own
   refine GoQ.pure rfl (op_move rfl) rfl rfl ?_
   exact H.elim
  replace H := ifn h16 H
  refine zo (fun w => opB (op_neq rfl rfl w) (ndF h16)) (zn (zt rfl rfl (zq (zr (zo (op_build Try.underlying123 ti123 (pl := [(0, 1), (1, 1), (2, 1), (3, 1), (4, 1), (5, 1), (6, 1), (7, 1), (8, 1)]) (vs := []) (cs := #[.int .i64 (0 : Int), .bool false, .slice none 0 0, .slice none 0 0, .slice none 0 0, .slice none 0 0, .slice none 0 0, .slice none 0 0, .int .i64 (0 : Int)]) (by kernel_rfl) rfl (by kernel_rfl)) ?_)))))
  refine zm rfl ?_
  have hobt := oblkStAgg (us := [.int .i64 (0 : Int), .bool false, .slice none 0 0, .slice none 0 0, .slice none 0 0, .slice none 0 0, .slice none 0 0, .slice none 0 0, .int .i64 (0 : Int)]) (o := 0) (cs' := #[.int .i64 (0 : Int), .bool false, .slice none 0 0, .slice none 0 0, .slice none 0 0, .slice none 0 0, .slice none 0 0, .slice none 0 0, .int .i64 (0 : Int)]) 0 hO rfl rfl (Nat.le_of_ble_eq_true rfl) rfl
  obtain ⟨w22, kS, zJ⟩ := hobt
  refine zg (zJ ti123 (by exact rfl) (by exact rfl) rfl) ?_
  replace hO := kS.own
  refine za rfl (zn ?_)
  refine Go1.retC2 Try.func101 rfl rfl (run_loadBlk (vs := [.int .i64 (0 : Int), .bool false, .slice none 0 0, .slice none 0 0, .slice none 0 0, .slice none 0 0, .slice none 0 0, .slice none 0 0, .int .i64 (0 : Int)]) 0 hO rfl rfl Try.underlying123 rfl ti123) ?_
  replace hB := ((hB.trans dG.fr).trans Em.fr).trans kS.fr
  exact ⟨(⟨(0 : Int), false, ([] : List (List Int)), ([] : List (List Int)), ([] : List Int), ([] : List Int), ([] : List (List Int)), ([] : List Rule), (0 : Int)⟩ : Enum), r8, none, 0, none, 0, none, 0, none, 0, none, 0, none, 0, rfl, hB.same, (ISl.null _ _ _), (ISl.null _ _ _), (ISl.null _ _ _), (ISl.null _ _ _), (ISl.null _ _ _), (ISl.null _ _ _), H⟩
 ·refine exE fun r7 => exE fun r8 => exE fun lR => exE fun AJ => exE fun AK => exE fun AM => exE fun zW => exE fun zX => exE fun zY => exE fun z3 => exE fun zi => exE fun zj => exE fun zl => exE fun zu => exE fun yw => exE fun AO => exE fun AP => exE fun AQ => exE fun z4 => exE fun z5 => exE fun z6 => exE fun z7 => exE fun zw => exE fun z8 => exE fun z9 => exE fun Aa => exE fun zx => exE fun cr => exE fun En => exE fun Eo => exE fun Ep => exE fun C6 => exE fun C7 => exE fun C8 => exE fun C9 => exE fun CG => exE fun Db => exE fun Dc => exE fun Dd => exE fun CH => andE fun hv25 => andE fun Aq => andE fun hN12 => andE fun k8 => andE fun ki => andE fun jM => andE fun k9 => andE fun kj => andE fun kl => andE fun qQ => andE fun oK => andE fun oL => fun H => ?_
  subst hv25
  clear hcase13
  replace H := oElimS H
  have lO := Stp.more hO Aq hN12
  dsimp only [List.cons_append, List.nil_append] at lO
  replace hO := lO.own
  replace k8 := k8.ch (Ch.assoc _ _ _ _)
  dsimp only [List.cons_append, List.nil_append] at k8
  replace ki := ki.ch (Ch.assoc _ _ _ _)
  dsimp only [List.cons_append, List.nil_append] at ki
  replace jM := jM.ch (Ch.assoc _ _ _ _)
  dsimp only [List.cons_append, List.nil_append] at jM
  replace k9 := k9.ch (Ch.assoc _ _ _ _)
  dsimp only [List.cons_append, List.nil_append] at k9
  replace kj := kj.ch (Ch.assoc _ _ _ _)
  dsimp only [List.cons_append, List.nil_append] at kj
  replace kl := kl.ch (Ch.assoc _ _ _ _)
  dsimp only [List.cons_append, List.nil_append] at kl
  replace qQ := qQ.ch (Ch.assoc _ _ _ _)
  dsimp only [List.cons_append, List.nil_append] at qQ
  replace oK := oK.ch (Ch.assoc _ _ _ _)
  dsimp only [List.cons_append, List.nil_append] at oK
  replace oL := oL.ch (Ch.assoc _ _ _ _)
  dsimp only [List.cons_append, List.nil_append] at oL
  refine zm rfl (zo (op_extract rfl rfl) (zo (op_extract rfl rfl) (za rfl (za rfl (zn ?_)))))
  refine zq (zq (zr (zm rfl ?_)))
  by_cases h38 : r8 = (0 : Int)
  ·replace H := ifp h38 H
   refine zo (fun w => opB (op_neq rfl rfl w) (ndT h38)) (zn (zf rfl rfl (zk (zq (zb ?_)))))
   replace hB := (hB.trans dG.fr).trans lO.fr
   refine Go1.loopW (S := Int × Bool × Int × List (List Int) × List (List Int) × List Int × List Int × List (List Int) × List Rule × List Str × List Int × List Int × (List (Str × Int))) (fun s σ w => match s with | (k2_40, b2_41, k2_42, d_43, d_49, d_55, d_61, d_67, d_73, d_79, d_85, d_91, m2_97) => ∃ (n48 : Nat), ∃ (p46 : Option Addr), ∃ (c47 : Nat), ∃ (qU : List Value), ∃ (n54 : Nat), ∃ (p52 : Option Addr), ∃ (c53 : Nat), ∃ (oo : List Value), ∃ (n60 : Nat), ∃ (p58 : Option Addr), ∃ (c59 : Nat), ∃ (qV : List Value), ∃ (n66 : Nat), ∃ (p64 : Option Addr), ∃ (c65 : Nat), ∃ (qW : List Value), ∃ (n72 : Nat), ∃ (p70 : Option Addr), ∃ (c71 : Nat), ∃ (qX : List Value), ∃ (n78 : Nat), ∃ (p76 : Option Addr), ∃ (c77 : Nat), ∃ (qY : List Value), ∃ (n84 : Nat), ∃ (p82 : Option Addr), ∃ (c83 : Nat), ∃ (ot : List Value), ∃ (n90 : Nat), ∃ (p88 : Option Addr), ∃ (c89 : Nat), ∃ (q8 : List Value), ∃ (n96 : Nat), ∃ (p94 : Option Addr), ∃ (c95 : Nat), ∃ (q9 : List Value), agrees σ [(4, .pointer (some ⟨B2, 0, none⟩)), (6, .pointer (some ⟨lR, 0, none⟩))] ∧ (fun Z0 => Owns w0.heap.size w Z0 A ∧ Els (Rp.sl (Rp.int .i64)) (bl Z0 ++ A) w qU d_43 ∧ Els (Rp.sl (Rp.int .i64)) (bl Z0 ++ A) w oo d_49 ∧ Els (Rp.int .i64) (bl Z0 ++ A) w qV d_55 ∧ Els (Rp.int .i64) (bl Z0 ++ A) w qW d_61 ∧ Els (Rp.sl (Rp.int .i64)) (bl Z0 ++ A) w qX d_67 ∧ Els (rpRule) (bl Z0 ++ A) w qY d_73 ∧ Els (Rp.str) (bl Z0 ++ A) w ot d_79 ∧ Els (Rp.int .i64) (bl Z0 ++ A) w q8 d_85 ∧ Els (Rp.int .i64) (bl Z0 ++ A) w q9 d_91 ∧ Fr (bl []) w0 (bl Z0) w) [.blk lR (.cells #[.int .i64 k2_40, .bool b2_41, .slice p46 n48 c47, .slice p52 n54 c53, .slice p58 n60 c59, .slice p64 n66 c65, .slice p70 n72 c71, .slice p76 n78 c77, .int .i64 k2_42, .map (some cr), .slice p82 n84 c83, .slice p88 n90 c89, .slice p94 n96 c95] 156 (0, 0)), .row 31 1 p46 n48 c47 qU, .row 31 1 p52 n54 c53 oo, .row 3 1 p58 n60 c59 qV, .row 3 1 p64 n66 c65 qW, .row 31 1 p70 n72 c71 qX, .row 185 2 p76 n78 c77 qY, .row 9 1 p82 n84 c83 ot, .row 3 1 p88 n90 c89 q8, .row 3 1 p94 n96 c95 q9, .any (mapE (fun a : List UInt8 => Value.string (gstr a)) (fun a : Int => Value.int .i64 a) cr m2_97), .blk B2 (.cells #[.int .i64 (0 : Int), .bool false, .slice none 0 0, .slice none 0 0, .slice none 0 0, .slice none 0 0, .slice none 0 0, .slice none 0 0, .int .i64 (0 : Int)] 123 (0, 0))]) H ⟨AJ, AK, AM, zW, zX, zY, z3, zi, zj, zl, zu, yw, AO, AP, AQ, z4, z5, z6, z7, zw, z8, z9, Aa, zx, En, Eo, Ep, C6, C7, C8, C9, CG, Db, Dc, Dd, CH, ⟨rfl, rfl, trivial⟩, hO, k8, ki, jM, k9, kj, kl, qQ, oK, oL, hB⟩ ?_
   intro X2
   refine prE fun k2_40 => prE fun b2_41 => prE fun k2_42 => prE fun d_43 => prE fun d_49 => prE fun d_55 => prE fun d_61 => prE fun d_67 => prE fun d_73 => prE fun d_79 => prE fun d_85 => prE fun d_91 => fun m2_97 => ?_
   intro H hX2 σ w39
   refine exE fun n48 => exE fun p46 => exE fun c47 => exE fun qU => exE fun n54 => exE fun p52 => exE fun c53 => exE fun oo => exE fun n60 => exE fun p58 => exE fun c59 => exE fun qV => exE fun n66 => exE fun p64 => exE fun c65 => exE fun qW => exE fun n72 => exE fun p70 => exE fun c71 => exE fun qX => exE fun n78 => exE fun p76 => exE fun c77 => exE fun qY => exE fun n84 => exE fun p82 => exE fun c83 => exE fun ot => exE fun n90 => exE fun p88 => exE fun c89 => exE fun q8 => exE fun n96 => exE fun p94 => exE fun c95 => exE fun q9 => andE fun hag => andE fun hO => andE fun AR => andE fun xr => andE fun wB => andE fun uX => andE fun sk => andE fun sr => andE fun rP => andE fun rQ => andE fun ju => fun hB => ?_
   dsimp only at H
   refine Go1.keep [(4, .pointer (some ⟨B2, 0, none⟩)), (6, .pointer (some ⟨lR, 0, none⟩))] hag ?_
   refine zq (zq (zr (zm rfl ?_)))
   refine GoR.inl (vs := [.pointer (some ⟨lR, 0, none⟩)]) (caps := []) rfl rfl body132 Try.func132 rfl Try.ntmps132 rfl rfl rfl ?_
   intro RhR98 hR98
   refine zq (zr (za rfl (zn (zq ?_))))
   refine Go1.drawS 0 [(0, .pure), (1, .pure), (2, .pure), (3, .pure), (4, .stable), (5, .pure), (6, .pure), (7, .pure), (8, .pure), (9, .stable), (10, .pure), (11, .pure), (12, .pure)] mixed (by kernel_rfl) ?_
   intro w99 OR
   have fV := Stp.same hO OR
   replace hO := fV.own
   refine GoQ.pure rfl (op_move rfl) rfl rfl ?_
   refine GoQ.pure rfl (op_nilCheck rfl) rfl rfl ?_
   refine GoQ.pure rfl (op_fieldAddr Try.underlying156 rfl ti123 rfl (by decide)) rfl rfl ?_
   refine GoQ.pure rfl (op_fieldAddr Try.underlying123 rfl ti3 rfl (by decide)) rfl rfl ?_
   refine GoQ.stable rfl (oblk (i := 8) 0 hO rfl rfl Try.underlying3 rfl rfl) rfl rfl ?_
   refine GoQ.pure rfl (op_move rfl) rfl rfl ?_
   refine GoQ.pure rfl (op_nilCheck rfl) rfl rfl ?_
   refine GoQ.pure rfl (op_fieldAddr Try.underlying156 rfl ti123 rfl (by decide)) rfl rfl ?_
   refine GoQ.pure rfl (op_fieldAddr Try.underlying123 rfl ti23 rfl (by decide)) rfl rfl ?_
   refine GoQ.stable rfl (oblk (i := 3) 0 hO rfl rfl Try.underlying23 rfl rfl) rfl rfl ?_
   replace xr := xr.ch fV.ch
   refine GoQ.pure rfl (op_lenN Try.underlying23 rfl (xr.neq hO 2 rfl)) rfl rfl ?_
   by_cases Er : k2_42 = (d_49.length : Int)
   ·replace H := ifp Er H
    refine GoQ.pure rfl (fun w => opB (op_eql rfl rfl w) (decide_eq_true Er)) rfl rfl ?_
    refine GoQ.pure rfl (op_assign rfl) rfl rfl ?_
    refine GoQ.nil ?_
    refine Go1.ret1V Try.func132 rfl (show _ = .bool true from rfl) ?_
    refine hR98 _ _ ?_
    refine zo (op_not rfl) (zn (zf rfl rfl ?_))
    refine Go1.exit rfl ?_
    refine zq (zr (zm rfl (zo (op_nilCheck rfl) (zo (op_fieldAddr Try.underlying156 rfl ti123 rfl (by decide)) (zs (oblkAgg (vs := [.int .i64 k2_40, .bool b2_41, .slice p46 n48 c47, .slice p52 n54 c53, .slice p58 n60 c59, .slice p64 n66 c65, .slice p70 n72 c71, .slice p76 n78 c77, .int .i64 k2_42]) (i := 0) 0 hO rfl rfl Try.underlying123 rfl ti123 rfl) ?_)))))
    have hobt := oblkStAgg (us := [.int .i64 k2_40, .bool b2_41, .slice p46 n48 c47, .slice p52 n54 c53, .slice p58 n60 c59, .slice p64 n66 c65, .slice p70 n72 c71, .slice p76 n78 c77, .int .i64 k2_42]) (o := 0) (cs' := #[.int .i64 k2_40, .bool b2_41, .slice p46 n48 c47, .slice p52 n54 c53, .slice p58 n60 c59, .slice p64 n66 c65, .slice p70 n72 c71, .slice p76 n78 c77, .int .i64 k2_42]) 11 hO rfl rfl (Nat.le_of_ble_eq_true rfl) rfl
    obtain ⟨W3, iv, CJ⟩ := hobt
    dsimp only [sS, sZ] at iv
    refine zg (CJ ti123 (by exact rfl) (by exact rfl) rfl) ?_
    replace hO := iv.own
    refine za rfl (zn ?_)
    replace AR := (AR.ch fV.ch).ch iv.ch
    have hobt := freeze 1 hO rfl AR
    obtain ⟨hO1, u7, sT, OS⟩ := hobt
    dsimp only [eS, eZ] at hO1 u7 sT
    replace hB := ((hB.trans fV.fr).trans iv.fr).trans (Owns.dropFr _ _ 1)
    dsimp only [eS, eZ] at hB
    replace hO := hO1; clear hO1
    replace xr := (xr.ch iv.ch).ch u7
    have hobt := freeze 1 hO rfl xr
    obtain ⟨hO1, u9, ui, OT⟩ := hobt
    dsimp only [eS, eZ] at hO1 u9 ui
    replace hB := hB.trans (Owns.dropFr _ _ 1)
    dsimp only [eS, eZ] at hB
    replace hO := hO1; clear hO1
    have Z1 := ((fV.ch.trans iv.ch).trans u7).trans u9
    replace wB := wB.ch Z1
    have hobt := freeze 1 hO rfl wB
    obtain ⟨hO1, va, wh, OU⟩ := hobt
    dsimp only [eS, eZ] at hO1 va wh
    replace hB := hB.trans (Owns.dropFr _ _ 1)
    dsimp only [eS, eZ] at hB
    replace hO := hO1; clear hO1
    replace uX := (uX.ch Z1).ch va
    have hobt := freeze 1 hO rfl uX
    obtain ⟨hO1, vb, yl, OV⟩ := hobt
    dsimp only [eS, eZ] at hO1 vb yl
    replace hB := hB.trans (Owns.dropFr _ _ 1)
    dsimp only [eS, eZ] at hB
    replace hO := hO1; clear hO1
    replace sk := ((sk.ch Z1).ch va).ch vb
    have hobt := freeze 1 hO rfl sk
    obtain ⟨hO1, vc, Bv, OW⟩ := hobt
    dsimp only [eS, eZ] at hO1 vc Bv
    replace hB := hB.trans (Owns.dropFr _ _ 1)
    dsimp only [eS, eZ] at hB
    replace hO := hO1; clear hO1
    have Z2 := ((Z1.trans va).trans vb).trans vc
    replace sr := sr.ch Z2
    have hobt := freeze 1 hO rfl sr
    obtain ⟨hO1, vd, HD, OX⟩ := hobt
    dsimp only [eS, eZ] at hO1 vd HD
    replace hB := hB.trans (Owns.dropFr _ _ 1)
    dsimp only [eS, eZ] at hB
    replace hO := hO1; clear hO1
    refine Go1.retC2 Try.func101 rfl rfl (run_loadBlk (vs := [.int .i64 k2_40, .bool b2_41, .slice p46 n48 c47, .slice p52 n54 c53, .slice p58 n60 c59, .slice p64 n66 c65, .slice p70 n72 c71, .slice p76 n78 c77, .int .i64 k2_42]) 5 hO rfl rfl Try.underlying123 rfl ti123) ?_
    replace Bv := Bv.ch vd
    replace yl := (yl.ch vc).ch vd
    have Z3 := (vb.trans vc).trans vd
    replace wh := wh.ch Z3
    have Z4 := ((va.trans vb).trans vc).trans vd
    replace ui := ui.ch Z4
    have Z5 := (((u9.trans va).trans vb).trans vc).trans vd
    replace sT := sT.ch Z5
    exact ⟨(⟨k2_40, b2_41, d_43, d_49, d_55, d_61, d_67, d_73, k2_42⟩ : Enum), (0 : Int), p46, c47, p52, c53, p58, c59, p64, c65, p70, c71, p76, c77, (congrArg (fun l => Value.tuple (List.toArray l)) (cons_eq (congrArg (fun l => Value.agg (List.toArray l)) (cons_eq rfl (cons_eq rfl (cons_eq (congrArg (fun nn => Value.slice p46 nn c47) OS) (cons_eq (congrArg (fun nn => Value.slice p52 nn c53) OT) (cons_eq (congrArg (fun nn => Value.slice p58 nn c59) OU) (cons_eq (congrArg (fun nn => Value.slice p64 nn c65) OV) (cons_eq (congrArg (fun nn => Value.slice p70 nn c71) OW) (cons_eq (congrArg (fun nn => Value.slice p76 nn c77) OX) (cons_eq rfl rfl)))))))))) (cons_eq rfl rfl))), hB.same, (sT.ch (Ch.weak _ _ _)), (ui.ch (Ch.weak _ _ _)), (wh.ch (Ch.weak _ _ _)), (yl.ch (Ch.weak _ _ _)), (Bv.ch (Ch.weak _ _ _)), (HD.ch (Ch.weak _ _ _)), H⟩
   replace H := ifn Er H
   refine GoQ.pure rfl (fun w => opB (op_eql rfl rfl w) (decide_eq_false Er)) rfl rfl ?_
   refine GoQ.pure rfl (op_assign rfl) rfl rfl ?_
   refine GoQ.nil ?_
   refine Go1.ret1V Try.func132 rfl (show _ = .bool false from rfl) ?_
   refine hR98 _ _ ?_
   refine zo (op_not rfl) (zn (zt rfl rfl (zk (zb (zq ?_)))))
   refine Go1.cut [(4, .pointer (some ⟨B2, 0, none⟩)), (6, .pointer (some ⟨lR, 0, none⟩))] ⟨rfl, rfl, trivial⟩ ?_
   intro σ _
   refine zr (zm rfl ?_)
   have HE : Owns w0.heap.size w99 ([.blk lR (.cells #[.int .i64 k2_40, .bool b2_41, .slice p46 n48 c47, .slice p52 n54 c53, .slice p58 n60 c59, .slice p64 n66 c65, .slice p70 n72 c71, .slice p76 n78 c77, .int .i64 k2_42, .map (some cr), .slice p82 n84 c83, .slice p88 n90 c89, .slice p94 n96 c95] 156 (0, 0)), .row 31 1 p46 n48 c47 qU, .row 31 1 p52 n54 c53 oo, .row 3 1 p58 n60 c59 qV, .row 3 1 p64 n66 c65 qW, .row 31 1 p70 n72 c71 qX, .row 185 2 p76 n78 c77 qY, .row 9 1 p82 n84 c83 ot, .row 3 1 p88 n90 c89 q8, .row 3 1 p94 n96 c95 q9, .any (mapE (fun a : List UInt8 => Value.string (gstr a)) (fun a : Int => Value.int .i64 a) cr m2_97)] ++ [.blk B2 (.cells #[.int .i64 (0 : Int), .bool false, .slice none 0 0, .slice none 0 0, .slice none 0 0, .slice none 0 0, .slice none 0 0, .slice none 0 0, .int .i64 (0 : Int)] 123 (0, 0))]) A := hO
   have OY := Owns.split HE
   have hca126 : Ch (bl [.blk lR (.cells #[.int .i64 k2_40, .bool b2_41, .slice p46 n48 c47, .slice p52 n54 c53, .slice p58 n60 c59, .slice p64 n66 c65, .slice p70 n72 c71, .slice p76 n78 c77, .int .i64 k2_42, .map (some cr), .slice p82 n84 c83, .slice p88 n90 c89, .slice p94 n96 c95] 156 (0, 0)), .row 31 1 p46 n48 c47 qU, .row 31 1 p52 n54 c53 oo, .row 3 1 p58 n60 c59 qV, .row 3 1 p64 n66 c65 qW, .row 31 1 p70 n72 c71 qX, .row 185 2 p76 n78 c77 qY, .row 9 1 p82 n84 c83 ot, .row 3 1 p88 n90 c89 q8, .row 3 1 p94 n96 c95 q9, .any (mapE (fun a : List UInt8 => Value.string (gstr a)) (fun a : Int => Value.int .i64 a) cr m2_97), .blk B2 (.cells #[.int .i64 (0 : Int), .bool false, .slice none 0 0, .slice none 0 0, .slice none 0 0, .slice none 0 0, .slice none 0 0, .slice none 0 0, .int .i64 (0 : Int)] 123 (0, 0))] ++ A) w99 (bl [.blk lR (.cells #[.int .i64 k2_40, .bool b2_41, .slice p46 n48 c47, .slice p52 n54 c53, .slice p58 n60 c59, .slice p64 n66 c65, .slice p70 n72 c71, .slice p76 n78 c77, .int .i64 k2_42, .map (some cr), .slice p82 n84 c83, .slice p88 n90 c89, .slice p94 n96 c95] 156 (0, 0)), .row 31 1 p46 n48 c47 qU, .row 31 1 p52 n54 c53 oo, .row 3 1 p58 n60 c59 qV, .row 3 1 p64 n66 c65 qW, .row 31 1 p70 n72 c71 qX, .row 185 2 p76 n78 c77 qY, .row 9 1 p82 n84 c83 ot, .row 3 1 p88 n90 c89 q8, .row 3 1 p94 n96 c95 q9, .any (mapE (fun a : List UInt8 => Value.string (gstr a)) (fun a : Int => Value.int .i64 a) cr m2_97)] ++ (bl [.blk B2 (.cells #[.int .i64 (0 : Int), .bool false, .slice none 0 0, .slice none 0 0, .slice none 0 0, .slice none 0 0, .slice none 0 0, .slice none 0 0, .int .i64 (0 : Int)] 123 (0, 0))] ++ A)) w99 := Ch.assoc' [.blk lR (.cells #[.int .i64 k2_40, .bool b2_41, .slice p46 n48 c47, .slice p52 n54 c53, .slice p58 n60 c59, .slice p64 n66 c65, .slice p70 n72 c71, .slice p76 n78 c77, .int .i64 k2_42, .map (some cr), .slice p82 n84 c83, .slice p88 n90 c89, .slice p94 n96 c95] 156 (0, 0)), .row 31 1 p46 n48 c47 qU, .row 31 1 p52 n54 c53 oo, .row 3 1 p58 n60 c59 qV, .row 3 1 p64 n66 c65 qW, .row 31 1 p70 n72 c71 qX, .row 185 2 p76 n78 c77 qY, .row 9 1 p82 n84 c83 ot, .row 3 1 p88 n90 c89 q8, .row 3 1 p94 n96 c95 q9, .any (mapE (fun a : List UInt8 => Value.string (gstr a)) (fun a : Int => Value.int .i64 a) cr m2_97)] [.blk B2 (.cells #[.int .i64 (0 : Int), .bool false, .slice none 0 0, .slice none 0 0, .slice none 0 0, .slice none 0 0, .slice none 0 0, .slice none 0 0, .int .i64 (0 : Int)] 123 (0, 0))] A w99
   replace AR := AR.ch fV.ch
   replace wB := wB.ch fV.ch
   replace uX := uX.ch fV.ch
   replace sk := sk.ch fV.ch
   replace sr := sr.ch fV.ch
   replace rP := rP.ch fV.ch
   replace rQ := rQ.ch fV.ch
   replace ju := ju.ch fV.ch
   refine GoR.call (op_call body133 rfl (walk_enumerate_run_process (a0 := (⟨(⟨k2_40, b2_41, d_43, d_49, d_55, d_61, d_67, d_73, k2_42⟩ : Enum), m2_97, d_79, d_85, d_91⟩ : run)) OY (AR.ch hca126) (xr.ch hca126) (wB.ch hca126) (uX.ch hca126) (sk.ch hca126) (sr.ch hca126) (rP.ch hca126) (rQ.ch hca126) (ju.ch hca126) H)) rfl rfl ?_
   intro W4 B6
   refine exE fun r127 => exE fun q128 => exE fun gy => exE fun gz => exE fun gA => exE fun lE => exE fun f0 => exE fun f5 => exE fun f6 => exE fun kI => exE fun fL => exE fun fM => exE fun fN => exE fun ka => exE fun gB => exE fun gC => exE fun gD => exE fun lF => exE fun f7 => exE fun f8 => exE fun f9 => exE fun kK => exE fun gc => exE fun gf => exE fun gh => exE fun kM => exE fun jI => exE fun jJ => exE fun jK => exE fun qM => exE fun iH => exE fun iI => exE fun iJ => exE fun oM => exE fun iK => exE fun iL => exE fun iM => exE fun oN => andE fun hv134 => andE fun hN131 => andE fun lG => andE fun kN => andE fun kc => andE fun lH => andE fun kO => andE fun kP => andE fun qN => andE fun oO => andE fun oP => andE fun hF132 => fun H => ?_
   subst hv134
   have lh : Stp w0.heap.size A w99 [.blk lR (.cells #[.int .i64 k2_40, .bool b2_41, .slice p46 n48 c47, .slice p52 n54 c53, .slice p58 n60 c59, .slice p64 n66 c65, .slice p70 n72 c71, .slice p76 n78 c77, .int .i64 k2_42, .map (some cr), .slice p82 n84 c83, .slice p88 n90 c89, .slice p94 n96 c95] 156 (0, 0)), .row 31 1 p46 n48 c47 qU, .row 31 1 p52 n54 c53 oo, .row 3 1 p58 n60 c59 qV, .row 3 1 p64 n66 c65 qW, .row 31 1 p70 n72 c71 qX, .row 185 2 p76 n78 c77 qY, .row 9 1 p82 n84 c83 ot, .row 3 1 p88 n90 c89 q8, .row 3 1 p94 n96 c95 q9, .any (mapE (fun a : List UInt8 => Value.string (gstr a)) (fun a : Int => Value.int .i64 a) cr m2_97), .blk B2 (.cells #[.int .i64 (0 : Int), .bool false, .slice none 0 0, .slice none 0 0, .slice none 0 0, .slice none 0 0, .slice none 0 0, .slice none 0 0, .int .i64 (0 : Int)] 123 (0, 0))] B6 [.blk lR (.cells #[.int .i64 q128.Enum.Points, .bool q128.Enum.Monoid, .slice gz gy gA, .slice f5 f0 f6, .slice fM fL fN, .slice gC gB gD, .slice f8 f7 f9, .slice gf gc gh, .int .i64 q128.Enum.Done, .map (some cr), .slice jJ jI jK, .slice iI iH iJ, .slice iL iK iM] 156 (0, 0)), .row 31 1 gz gy gA lE, .row 31 1 f5 f0 f6 kI, .row 3 1 fM fL fN ka, .row 3 1 gC gB gD lF, .row 31 1 f8 f7 f9 kK, .row 185 2 gf gc gh kM, .row 9 1 jJ jI jK qM, .row 3 1 iI iH iJ oM, .row 3 1 iL iK iM oN, .any (mapE (fun a : List UInt8 => Value.string (gstr a)) (fun a : Int => Value.int .i64 a) cr q128.number), .blk B2 (.cells #[.int .i64 (0 : Int), .bool false, .slice none 0 0, .slice none 0 0, .slice none 0 0, .slice none 0 0, .slice none 0 0, .slice none 0 0, .int .i64 (0 : Int)] 123 (0, 0))] := Stp.join HE hN131 hF132
   replace hO := lh.own
   have hca135 : Ch (bl [.blk lR (.cells #[.int .i64 q128.Enum.Points, .bool q128.Enum.Monoid, .slice gz gy gA, .slice f5 f0 f6, .slice fM fL fN, .slice gC gB gD, .slice f8 f7 f9, .slice gf gc gh, .int .i64 q128.Enum.Done, .map (some cr), .slice jJ jI jK, .slice iI iH iJ, .slice iL iK iM] 156 (0, 0)), .row 31 1 gz gy gA lE, .row 31 1 f5 f0 f6 kI, .row 3 1 fM fL fN ka, .row 3 1 gC gB gD lF, .row 31 1 f8 f7 f9 kK, .row 185 2 gf gc gh kM, .row 9 1 jJ jI jK qM, .row 3 1 iI iH iJ oM, .row 3 1 iL iK iM oN, .any (mapE (fun a : List UInt8 => Value.string (gstr a)) (fun a : Int => Value.int .i64 a) cr q128.number)] ++ (bl [.blk B2 (.cells #[.int .i64 (0 : Int), .bool false, .slice none 0 0, .slice none 0 0, .slice none 0 0, .slice none 0 0, .slice none 0 0, .slice none 0 0, .int .i64 (0 : Int)] 123 (0, 0))] ++ A)) B6 (bl [.blk lR (.cells #[.int .i64 q128.Enum.Points, .bool q128.Enum.Monoid, .slice gz gy gA, .slice f5 f0 f6, .slice fM fL fN, .slice gC gB gD, .slice f8 f7 f9, .slice gf gc gh, .int .i64 q128.Enum.Done, .map (some cr), .slice jJ jI jK, .slice iI iH iJ, .slice iL iK iM] 156 (0, 0)), .row 31 1 gz gy gA lE, .row 31 1 f5 f0 f6 kI, .row 3 1 fM fL fN ka, .row 3 1 gC gB gD lF, .row 31 1 f8 f7 f9 kK, .row 185 2 gf gc gh kM, .row 9 1 jJ jI jK qM, .row 3 1 iI iH iJ oM, .row 3 1 iL iK iM oN, .any (mapE (fun a : List UInt8 => Value.string (gstr a)) (fun a : Int => Value.int .i64 a) cr q128.number), .blk B2 (.cells #[.int .i64 (0 : Int), .bool false, .slice none 0 0, .slice none 0 0, .slice none 0 0, .slice none 0 0, .slice none 0 0, .slice none 0 0, .int .i64 (0 : Int)] 123 (0, 0))] ++ A) B6 := Ch.assoc [.blk lR (.cells #[.int .i64 q128.Enum.Points, .bool q128.Enum.Monoid, .slice gz gy gA, .slice f5 f0 f6, .slice fM fL fN, .slice gC gB gD, .slice f8 f7 f9, .slice gf gc gh, .int .i64 q128.Enum.Done, .map (some cr), .slice jJ jI jK, .slice iI iH iJ, .slice iL iK iM] 156 (0, 0)), .row 31 1 gz gy gA lE, .row 31 1 f5 f0 f6 kI, .row 3 1 fM fL fN ka, .row 3 1 gC gB gD lF, .row 31 1 f8 f7 f9 kK, .row 185 2 gf gc gh kM, .row 9 1 jJ jI jK qM, .row 3 1 iI iH iJ oM, .row 3 1 iL iK iM oN, .any (mapE (fun a : List UInt8 => Value.string (gstr a)) (fun a : Int => Value.int .i64 a) cr q128.number)] [.blk B2 (.cells #[.int .i64 (0 : Int), .bool false, .slice none 0 0, .slice none 0 0, .slice none 0 0, .slice none 0 0, .slice none 0 0, .slice none 0 0, .int .i64 (0 : Int)] 123 (0, 0))] A B6
   refine za rfl (zn (zq (zr (zm rfl ?_))))
   by_cases Et : r127 = (0 : Int)
   ·replace H := ifp Et H
    refine zo (fun w => opB (op_neq rfl rfl w) (ndT Et)) (zn (zf rfl rfl (zk ?_)))
    refine Go1.inBlock ?_
    replace lG := lG.ch hca135
    replace kN := kN.ch hca135
    replace kc := kc.ch hca135
    replace lH := lH.ch hca135
    replace kO := kO.ch hca135
    replace kP := kP.ch hca135
    replace qN := qN.ch hca135
    replace oO := oO.ch hca135
    replace oP := oP.ch hca135
    replace hB := (hB.trans fV.fr).trans lh.fr
    exact hX2 _ H _ _ ⟨gy, gz, gA, lE, f0, f5, f6, kI, fL, fM, fN, ka, gB, gC, gD, lF, f7, f8, f9, kK, gc, gf, gh, kM, jI, jJ, jK, qM, iH, iI, iJ, oM, iK, iL, iM, oN, ⟨rfl, rfl, trivial⟩, hO, lG, kN, kc, lH, kO, kP, qN, oO, oP, hB⟩
   replace H := ifn Et H
   refine zo (fun w => opB (op_neq rfl rfl w) (ndF Et)) (zn (zt rfl rfl (zq (zr (zo (op_build Try.underlying123 ti123 (pl := [(0, 1), (1, 1), (2, 1), (3, 1), (4, 1), (5, 1), (6, 1), (7, 1), (8, 1)]) (vs := []) (cs := #[.int .i64 (0 : Int), .bool false, .slice none 0 0, .slice none 0 0, .slice none 0 0, .slice none 0 0, .slice none 0 0, .slice none 0 0, .int .i64 (0 : Int)]) (by kernel_rfl) rfl (by kernel_rfl)) ?_)))))
   refine zm rfl ?_
   have hobt := oblkStAgg (us := [.int .i64 (0 : Int), .bool false, .slice none 0 0, .slice none 0 0, .slice none 0 0, .slice none 0 0, .slice none 0 0, .slice none 0 0, .int .i64 (0 : Int)]) (o := 0) (cs' := #[.int .i64 (0 : Int), .bool false, .slice none 0 0, .slice none 0 0, .slice none 0 0, .slice none 0 0, .slice none 0 0, .slice none 0 0, .int .i64 (0 : Int)]) 11 hO rfl rfl (Nat.le_of_ble_eq_true rfl) rfl
   obtain ⟨W5, qO, Kj⟩ := hobt
   dsimp only [sS, sZ] at qO
   refine zg (Kj ti123 (by exact rfl) (by exact rfl) rfl) ?_
   replace hO := qO.own
   refine za rfl (zn ?_)
   refine Go1.retC2 Try.func101 rfl rfl (run_loadBlk (vs := [.int .i64 (0 : Int), .bool false, .slice none 0 0, .slice none 0 0, .slice none 0 0, .slice none 0 0, .slice none 0 0, .slice none 0 0, .int .i64 (0 : Int)]) 11 hO rfl rfl Try.underlying123 rfl ti123) ?_
   replace hB := ((hB.trans fV.fr).trans lh.fr).trans qO.fr
   exact ⟨(⟨(0 : Int), false, ([] : List (List Int)), ([] : List (List Int)), ([] : List Int), ([] : List Int), ([] : List (List Int)), ([] : List Rule), (0 : Int)⟩ : Enum), r127, none, 0, none, 0, none, 0, none, 0, none, 0, none, 0, rfl, hB.same, (ISl.null _ _ _), (ISl.null _ _ _), (ISl.null _ _ _), (ISl.null _ _ _), (ISl.null _ _ _), (ISl.null _ _ _), H⟩
  replace H := ifn h38 H
  refine zo (fun w => opB (op_neq rfl rfl w) (ndF h38)) (zn (zt rfl rfl (zq (zr (zo (op_build Try.underlying123 ti123 (pl := [(0, 1), (1, 1), (2, 1), (3, 1), (4, 1), (5, 1), (6, 1), (7, 1), (8, 1)]) (vs := []) (cs := #[.int .i64 (0 : Int), .bool false, .slice none 0 0, .slice none 0 0, .slice none 0 0, .slice none 0 0, .slice none 0 0, .slice none 0 0, .int .i64 (0 : Int)]) (by kernel_rfl) rfl (by kernel_rfl)) ?_)))))
  refine zm rfl ?_
  have hobt := oblkStAgg (us := [.int .i64 (0 : Int), .bool false, .slice none 0 0, .slice none 0 0, .slice none 0 0, .slice none 0 0, .slice none 0 0, .slice none 0 0, .int .i64 (0 : Int)]) (o := 0) (cs' := #[.int .i64 (0 : Int), .bool false, .slice none 0 0, .slice none 0 0, .slice none 0 0, .slice none 0 0, .slice none 0 0, .slice none 0 0, .int .i64 (0 : Int)]) 11 hO rfl rfl (Nat.le_of_ble_eq_true rfl) rfl
  obtain ⟨W6, iA, Kk⟩ := hobt
  dsimp only [sS, sZ] at iA
  refine zg (Kk ti123 (by exact rfl) (by exact rfl) rfl) ?_
  replace hO := iA.own
  refine za rfl (zn ?_)
  refine Go1.retC2 Try.func101 rfl rfl (run_loadBlk (vs := [.int .i64 (0 : Int), .bool false, .slice none 0 0, .slice none 0 0, .slice none 0 0, .slice none 0 0, .slice none 0 0, .slice none 0 0, .int .i64 (0 : Int)]) 11 hO rfl rfl Try.underlying123 rfl ti123) ?_
  replace hB := ((hB.trans dG.fr).trans lO.fr).trans iA.fr
  exact ⟨(⟨(0 : Int), false, ([] : List (List Int)), ([] : List (List Int)), ([] : List Int), ([] : List Int), ([] : List (List Int)), ([] : List Rule), (0 : Int)⟩ : Enum), r8, none, 0, none, 0, none, 0, none, 0, none, 0, none, 0, rfl, hB.same, (ISl.null _ _ _), (ISl.null _ _ _), (ISl.null _ _ _), (ISl.null _ _ _), (ISl.null _ _ _), (ISl.null _ _ _), H⟩
theorem body134 : Body Try.prog 134 := ⟨Try.f134, Try.func134, rfl, by kernel_rfl⟩
theorem walk_slices_Index_int {A : List Nat} {w0 : World} {sj : Option Addr} {tz : Nat} {s_ : List Int} {v : Int} (hA : ∀ b ∈ A, b < w0.heap.size) (ku : ISl (Rp.int .i64) A w0 sj tz s_) {K : Int → Prop} (H : slices_Index_int s_ v K) :
    CallsV Try.prog 134 #[.slice sj s_.length tz, .int .i64 v] w0 (fun v w' => ∃ (r0 : Int), v = .int .i64 r0 ∧ Same w0 w' ∧ K r0) := by
 refine CallsV.of (l := [.slice sj s_.length tz, .int .i64 v]) Try.func134 rfl Try.ntmps134 rfl ?_
 have hO := Owns.start hA
 have hB := Fr.refl (bl []) w0
 unfold slices_Index_int at H
 refine zq (zr (za rfl (zn (zq (zq ?_)))))
 refine zr (zm rfl (zo (op_len Try.underlying31 rfl) ?_))
 replace ku := ku.ch (Ch.start A w0)
 replace H := H ku.bd
 refine zm rfl (zn (zb ?_))
 refine Go1.loopW (S := Nat) (fun s σ w => agrees σ [(0, .slice sj s_.length tz), (1, .int .i64 v), (7, .int .i64 (s_.length : Int)), (8, .int .i64 (s : Int))] ∧ Owns w0.heap.size w [] A ∧ ISl (Rp.int .i64) (bl [] ++ A) w sj tz s_ ∧ Fr (bl []) w0 (bl []) w) H ⟨⟨rfl, rfl, rfl, rfl, trivial⟩, hO, ku, hB⟩ ?_
 intro X1 k1_2
 intro H hX1 σ w1
 refine andE fun hag => andE fun hO => andE fun ku => fun hB => ?_
 refine Go1.keep [(0, .slice sj s_.length tz), (1, .int .i64 v), (7, .int .i64 (s_.length : Int)), (8, .int .i64 (k1_2 : Int))] hag ?_
 refine zq (zr ?_)
 by_cases h3 : (k1_2 : Int) < (s_.length : Int)
 ·replace H := ifp h3 H
  refine zo (fun w => opB (op_lss rfl rfl w) (decide_eq_true h3)) (zn (zq (zt rfl rfl (zk (zq ?_)))))
  refine zb (zq (zr (zm rfl (za rfl (zn ?_)))))
  refine zq (zr (zm rfl (zm rfl (zm rfl ?_))))
  obtain ⟨h4, H⟩ := H
  obtain ⟨h5, H⟩ := H
  refine zo (op_index Try.underlying31 ti3 rfl rfl h4 h5 (ku.some_ h4 h5)) (zs (ldInt ku h4 h5 Try.underlying3 rfl rfl) ?_)
  by_cases h6 : v = (ix s_ (k1_2 : Int))
  ·replace H := ifp h6 H
   refine zo (fun w => opB (op_eql rfl rfl w) (decide_eq_true h6)) (zn (zt rfl rfl (zq (zr (zm rfl ?_)))))
   refine za rfl (zn ?_)
   refine Go1.ret1 Try.func134 rfl ?_
   exact ⟨(k1_2 : Int), rfl, hB.same, H⟩
  replace H := ifn h6 H
  refine zo (fun w => opB (op_eql rfl rfl w) (decide_eq_false h6)) (zn (zf rfl rfl (zk ?_)))
  refine Go1.inBlock ?_
  refine zr (zo (op_add rfl rfl (wrap_i64 (natbd h3 ku.bd))) (zm rfl (zn ?_)))
  exact hX1 _ H _ _ ⟨⟨rfl, rfl, rfl, rfl, trivial⟩, hO, ku, hB⟩
 replace H := ifn h3 H
 refine zo (fun w => opB (op_lss rfl rfl w) (decide_eq_false h3)) (zn (zq (zf rfl rfl ?_)))
 refine Go1.exit rfl ?_
 refine zq (zr (za rfl (zn ?_)))
 refine Go1.ret1 Try.func134 rfl ?_
 exact ⟨(-1 : Int), rfl, hB.same, H⟩
theorem body102 : Body Try.prog 102 := ⟨Try.f102, Try.func102, rfl, by kernel_rfl⟩
theorem walk_slices_Contains_int {A : List Nat} {w0 : World} {sj : Option Addr} {tz : Nat} {s_ : List Int} {v : Int} (hA : ∀ b ∈ A, b < w0.heap.size) (ku : ISl (Rp.int .i64) A w0 sj tz s_) {K : Bool → Prop} (H : slices_Contains_int s_ v K) :
    CallsV Try.prog 102 #[.slice sj s_.length tz, .int .i64 v] w0 (fun v w' => ∃ (r0 : Bool), v = .bool r0 ∧ Same w0 w' ∧ K r0) := by
 refine CallsV.of (l := [.slice sj s_.length tz, .int .i64 v]) Try.func102 rfl Try.ntmps102 rfl ?_
 have hO := Owns.start hA
 have hB := Fr.refl (bl []) w0
 unfold slices_Contains_int at H
 refine zq (zr (za rfl (zn (zq (zr ?_)))))
 refine zm rfl (zm rfl ?_)
 replace ku := ku.ch (Ch.start A w0)
 refine GoR.call (op_call body134 rfl (walk_slices_Index_int hO.lt ku H)) rfl rfl ?_
 rintro v5 w2 ⟨r1, rfl, hs3, H⟩
 have xh := Stp.same hO hs3
 replace hO := xh.own
 by_cases h7 : (0 : Int) ≤ r1
 ·replace H := ifp h7 H
  refine zo (fun w => opB (op_geq rfl rfl w) (decide_eq_true h7)) (za rfl (zn ?_))
  refine Go1.ret1 Try.func102 rfl ?_
  replace hB := hB.trans xh.fr
  exact ⟨true, rfl, hB.same, H⟩
 replace H := ifn h7 H
 refine zo (fun w => opB (op_geq rfl rfl w) (decide_eq_false h7)) (za rfl (zn ?_))
 refine Go1.ret1 Try.func102 rfl ?_
 replace hB := hB.trans xh.fr
 exact ⟨false, rfl, hB.same, H⟩
theorem body103 : Body Try.prog 103 := ⟨Try.f103, Try.func103, rfl, by kernel_rfl⟩
theorem walk_syntactic_part_accept {A : List Nat} {w0 : World} {uC : Option Addr} {uD : Nat} {p_f : Option Addr} {c_f : Nat} {p : part} {f : List Int} (hA : ∀ b ∈ A, b < w0.heap.size) (o8 : ISl (Rp.bool) A w0 uC uD p.final) (h_f : ISl (Rp.int .i64) A w0 p_f c_f f) {K : Bool → Prop} (H : syntactic_part_accept p f K) :
    CallsV Try.prog 103 #[.agg #[.int .i64 p.start, .slice uC p.final.length uD, .int .i64 p.shift], .slice p_f f.length c_f] w0 (fun v w' => ∃ (r0 : Bool), v = .bool r0 ∧ Same w0 w' ∧ K r0) := by
 refine CallsV.of (l := [.agg #[.int .i64 p.start, .slice uC p.final.length uD, .int .i64 p.shift], .slice p_f f.length c_f]) Try.func103 rfl Try.ntmps103 rfl ?_
 have hO := Owns.start hA
 have hB := Fr.refl (bl []) w0
 unfold syntactic_part_accept at H
 refine zq (zr ?_)
 have hobt := obox (t := 120) (v := .agg #[.int .i64 p.start, .slice uC p.final.length uD, .int .i64 p.shift]) (cs := #[.int .i64 p.start, .slice uC p.final.length uD, .int .i64 p.shift]) hO rfl
 obtain ⟨w1, B2, dG, hs4, lb⟩ := hobt
 refine zg (lb rfl) ?_
 replace hO := dG.own
 refine za rfl (zn (zq ?_))
 refine Go1.drawS 0 [(0, .pure), (1, .stable), (2, .pure), (3, .pure), (4, .stable), (5, .pure), (6, .stable), (7, .pure), (8, .stable), (9, .pure), (10, .pure), (11, .stable), (12, .pure)] mixed (by kernel_rfl) ?_
 intro w7 hs8
 have gr := Stp.same hO hs8
 replace hO := gr.own
 refine GoQ.pure rfl (op_fieldAddr Try.underlying120 rfl ti22 rfl (by decide)) rfl rfl ?_
 refine GoQ.stable rfl (oblk (i := 1) 0 hO rfl rfl Try.underlying22 rfl rfl) rfl rfl ?_
 refine GoQ.pure rfl (op_move rfl) rfl rfl ?_
 refine GoQ.pure rfl (op_fieldAddr Try.underlying120 rfl ti3 rfl (by decide)) rfl rfl ?_
 refine GoQ.stable rfl (oblk (i := 0) 0 hO rfl rfl Try.underlying3 rfl rfl) rfl rfl ?_
 obtain ⟨h10, H⟩ := H
 obtain ⟨h11, H⟩ := H
 have Z1 := ((Ch.start A w0).trans dG.ch).trans gr.ch
 replace h_f := h_f.ch Z1
 refine GoQ.pure rfl (op_index Try.underlying31 ti3 rfl rfl h10 h11 (h_f.some_ h10 h11)) rfl rfl ?_
 refine GoQ.stable rfl (ldInt h_f h10 h11 Try.underlying3 rfl rfl) rfl rfl ?_
 refine GoQ.pure rfl (op_fieldAddr Try.underlying120 rfl ti3 rfl (by decide)) rfl rfl ?_
 refine GoQ.stable rfl (oblk (i := 2) 0 hO rfl rfl Try.underlying3 rfl rfl) rfl rfl ?_
 obtain ⟨h12, H⟩ := H
 refine GoQ.pure rfl (op_sub rfl rfl (wrap_i64 h12)) rfl rfl ?_
 obtain ⟨h13, H⟩ := H
 obtain ⟨h14, H⟩ := H
 replace o8 := o8.ch Z1
 refine GoQ.pure rfl (op_index Try.underlying22 ti4 rfl rfl h13 h14 (o8.some_ h13 h14)) rfl rfl ?_
 refine GoQ.stable rfl (ldBool o8 h13 h14 Try.underlying4 rfl rfl) rfl rfl ?_
 refine GoQ.pure rfl (op_assign rfl) rfl rfl ?_
 refine GoQ.nil ?_
 refine Go1.ret1 Try.func103 rfl ?_
 replace hB := (hB.trans dG.fr).trans gr.fr
 exact ⟨ix p.final ((ix f p.start) - p.shift), rfl, hB.same, H⟩
end Sg
