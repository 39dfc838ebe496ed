/- -/
import Derived.Test.YtlneebpmblkllaaTi
import Derived.Test.YtlneebpmblkllaaWSyntacticMonoidsb
import Derived.Test.YtlneebpmblkllaaWSyntacticMonoidsc
import Derived.Test.YtlneebpmblkllaaAl
namespace Sg
open Go Go.RowKit Go.Proofs
set_option linter.unusedVariables false
set_option linter.unusedSimpArgs false
set_option maxRecDepth 100000
set_option maxHeartbeats 4000000
theorem body159 : Body Try.prog 159 := ⟨Try.f159, Try.func159, rfl, by kernel_rfl⟩
theorem body160 : Body Try.prog 160 := ⟨Try.f160, Try.func160, rfl, by kernel_rfl⟩
theorem body133 : Body Try.prog 133 := ⟨Try.f133, Try.func133, rfl, by kernel_rfl⟩
theorem J2a {A : List Nat} {n0 : Nat} {w0 : World} {fo : Nat} {aH : Nat} {aI : Option Addr} {aJ : Nat} {cV : List Value} {di : Nat} {dj : Option Addr} {dk : Nat} {ft : List Value} {cX : Nat} {cY : Option Addr} {c5 : Nat} {fe : List Value} {dJ : Nat} {dK : Option Addr} {dM : Nat} {fG : List Value} {aQ : Nat} {aV : Option Addr} {aW : Nat} {cP : List Value} {dm : Nat} {dn : Option Addr} {dp : Nat} {fu : List Value} {aX : Nat} {eX : Nat} {eY : Option Addr} {e8 : Nat} {gV : List Value} {eN : Nat} {eO : Option Addr} {eP : Nat} {gB : List Value} {bt : Nat} {bu : Option Addr} {bv : Nat} {dW : List Value} {a0 : run} (hO : Owns n0 w0 [.blk fo (.cells #[.int .i64 a0.Enum.Points, .bool a0.Enum.Monoid, .slice aI aH aJ, .slice dj di dk, .slice cY cX c5, .slice dK dJ dM, .slice aV aQ aW, .slice dn dm dp, .int .i64 a0.Enum.Done, .map (some aX), .slice eY eX e8, .slice eO eN eP, .slice bu bt bv] 156 (0, 0)), .row 31 1 aI aH aJ cV, .row 31 1 dj di dk ft, .row 3 1 cY cX c5 fe, .row 3 1 dK dJ dM fG, .row 31 1 aV aQ aW cP, .row 185 2 dn dm dp fu, .row 9 1 eY eX e8 gV, .row 3 1 eO eN eP gB, .row 3 1 bu bt bv dW, .any (mapE (fun a : List UInt8 => Value.string (gstr a)) (fun a : Int => Value.int .i64 a) aX a0.number)] A) (ad : Els (Rp.sl (Rp.int .i64)) (bl [.blk fo (.cells #[.int .i64 a0.Enum.Points, .bool a0.Enum.Monoid, .slice aI aH aJ, .slice dj di dk, .slice cY cX c5, .slice dK dJ dM, .slice aV aQ aW, .slice dn dm dp, .int .i64 a0.Enum.Done, .map (some aX), .slice eY eX e8, .slice eO eN eP, .slice bu bt bv] 156 (0, 0)), .row 31 1 aI aH aJ cV, .row 31 1 dj di dk ft, .row 3 1 cY cX c5 fe, .row 3 1 dK dJ dM fG, .row 31 1 aV aQ aW cP, .row 185 2 dn dm dp fu, .row 9 1 eY eX e8 gV, .row 3 1 eO eN eP gB, .row 3 1 bu bt bv dW, .any (mapE (fun a : List UInt8 => Value.string (gstr a)) (fun a : Int => Value.int .i64 a) aX a0.number)] ++ A) w0 cV a0.Enum.Gens) (uH : Els (Rp.sl (Rp.int .i64)) (bl [.blk fo (.cells #[.int .i64 a0.Enum.Points, .bool a0.Enum.Monoid, .slice aI aH aJ, .slice dj di dk, .slice cY cX c5, .slice dK dJ dM, .slice aV aQ aW, .slice dn dm dp, .int .i64 a0.Enum.Done, .map (some aX), .slice eY eX e8, .slice eO eN eP, .slice bu bt bv] 156 (0, 0)), .row 31 1 aI aH aJ cV, .row 31 1 dj di dk ft, .row 3 1 cY cX c5 fe, .row 3 1 dK dJ dM fG, .row 31 1 aV aQ aW cP, .row 185 2 dn dm dp fu, .row 9 1 eY eX e8 gV, .row 3 1 eO eN eP gB, .row 3 1 bu bt bv dW, .any (mapE (fun a : List UInt8 => Value.string (gstr a)) (fun a : Int => Value.int .i64 a) aX a0.number)] ++ A) w0 ft a0.Enum.Elems) (t5 : Els (Rp.int .i64) (bl [.blk fo (.cells #[.int .i64 a0.Enum.Points, .bool a0.Enum.Monoid, .slice aI aH aJ, .slice dj di dk, .slice cY cX c5, .slice dK dJ dM, .slice aV aQ aW, .slice dn dm dp, .int .i64 a0.Enum.Done, .map (some aX), .slice eY eX e8, .slice eO eN eP, .slice bu bt bv] 156 (0, 0)), .row 31 1 aI aH aJ cV, .row 31 1 dj di dk ft, .row 3 1 cY cX c5 fe, .row 3 1 dK dJ dM fG, .row 31 1 aV aQ aW cP, .row 185 2 dn dm dp fu, .row 9 1 eY eX e8 gV, .row 3 1 eO eN eP gB, .row 3 1 bu bt bv dW, .any (mapE (fun a : List UInt8 => Value.string (gstr a)) (fun a : Int => Value.int .i64 a) aX a0.number)] ++ A) w0 fe a0.Enum.Prefix) (u4 : Els (Rp.int .i64) (bl [.blk fo (.cells #[.int .i64 a0.Enum.Points, .bool a0.Enum.Monoid, .slice aI aH aJ, .slice dj di dk, .slice cY cX c5, .slice dK dJ dM, .slice aV aQ aW, .slice dn dm dp, .int .i64 a0.Enum.Done, .map (some aX), .slice eY eX e8, .slice eO eN eP, .slice bu bt bv] 156 (0, 0)), .row 31 1 aI aH aJ cV, .row 31 1 dj di dk ft, .row 3 1 cY cX c5 fe, .row 3 1 dK dJ dM fG, .row 31 1 aV aQ aW cP, .row 185 2 dn dm dp fu, .row 9 1 eY eX e8 gV, .row 3 1 eO eN eP gB, .row 3 1 bu bt bv dW, .any (mapE (fun a : List UInt8 => Value.string (gstr a)) (fun a : Int => Value.int .i64 a) aX a0.number)] ++ A) w0 fG a0.Enum.Last) (ae : Els (Rp.sl (Rp.int .i64)) (bl [.blk fo (.cells #[.int .i64 a0.Enum.Points, .bool a0.Enum.Monoid, .slice aI aH aJ, .slice dj di dk, .slice cY cX c5, .slice dK dJ dM, .slice aV aQ aW, .slice dn dm dp, .int .i64 a0.Enum.Done, .map (some aX), .slice eY eX e8, .slice eO eN eP, .slice bu bt bv] 156 (0, 0)), .row 31 1 aI aH aJ cV, .row 31 1 dj di dk ft, .row 3 1 cY cX c5 fe, .row 3 1 dK dJ dM fG, .row 31 1 aV aQ aW cP, .row 185 2 dn dm dp fu, .row 9 1 eY eX e8 gV, .row 3 1 eO eN eP gB, .row 3 1 bu bt bv dW, .any (mapE (fun a : List UInt8 => Value.string (gstr a)) (fun a : Int => Value.int .i64 a) aX a0.number)] ++ A) w0 cP a0.Enum.Right) (uI : Els (rpRule) (bl [.blk fo (.cells #[.int .i64 a0.Enum.Points, .bool a0.Enum.Monoid, .slice aI aH aJ, .slice dj di dk, .slice cY cX c5, .slice dK dJ dM, .slice aV aQ aW, .slice dn dm dp, .int .i64 a0.Enum.Done, .map (some aX), .slice eY eX e8, .slice eO eN eP, .slice bu bt bv] 156 (0, 0)), .row 31 1 aI aH aJ cV, .row 31 1 dj di dk ft, .row 3 1 cY cX c5 fe, .row 3 1 dK dJ dM fG, .row 31 1 aV aQ aW cP, .row 185 2 dn dm dp fu, .row 9 1 eY eX e8 gV, .row 3 1 eO eN eP gB, .row 3 1 bu bt bv dW, .any (mapE (fun a : List UInt8 => Value.string (gstr a)) (fun a : Int => Value.int .i64 a) aX a0.number)] ++ A) w0 fu a0.Enum.Rules) (xM : Els (Rp.str) (bl [.blk fo (.cells #[.int .i64 a0.Enum.Points, .bool a0.Enum.Monoid, .slice aI aH aJ, .slice dj di dk, .slice cY cX c5, .slice dK dJ dM, .slice aV aQ aW, .slice dn dm dp, .int .i64 a0.Enum.Done, .map (some aX), .slice eY eX e8, .slice eO eN eP, .slice bu bt bv] 156 (0, 0)), .row 31 1 aI aH aJ cV, .row 31 1 dj di dk ft, .row 3 1 cY cX c5 fe, .row 3 1 dK dJ dM fG, .row 31 1 aV aQ aW cP, .row 185 2 dn dm dp fu, .row 9 1 eY eX e8 gV, .row 3 1 eO eN eP gB, .row 3 1 bu bt bv dW, .any (mapE (fun a : List UInt8 => Value.string (gstr a)) (fun a : Int => Value.int .i64 a) aX a0.number)] ++ A) w0 gV a0.words) (wU : Els (Rp.int .i64) (bl [.blk fo (.cells #[.int .i64 a0.Enum.Points, .bool a0.Enum.Monoid, .slice aI aH aJ, .slice dj di dk, .slice cY cX c5, .slice dK dJ dM, .slice aV aQ aW, .slice dn dm dp, .int .i64 a0.Enum.Done, .map (some aX), .slice eY eX e8, .slice eO eN eP, .slice bu bt bv] 156 (0, 0)), .row 31 1 aI aH aJ cV, .row 31 1 dj di dk ft, .row 3 1 cY cX c5 fe, .row 3 1 dK dJ dM fG, .row 31 1 aV aQ aW cP, .row 185 2 dn dm dp fu, .row 9 1 eY eX e8 gV, .row 3 1 eO eN eP gB, .row 3 1 bu bt bv dW, .any (mapE (fun a : List UInt8 => Value.string (gstr a)) (fun a : Int => Value.int .i64 a) aX a0.number)] ++ A) w0 gB a0.behind) (ao : Els (Rp.int .i64) (bl [.blk fo (.cells #[.int .i64 a0.Enum.Points, .bool a0.Enum.Monoid, .slice aI aH aJ, .slice dj di dk, .slice cY cX c5, .slice dK dJ dM, .slice aV aQ aW, .slice dn dm dp, .int .i64 a0.Enum.Done, .map (some aX), .slice eY eX e8, .slice eO eN eP, .slice bu bt bv] 156 (0, 0)), .row 31 1 aI aH aJ cV, .row 31 1 dj di dk ft, .row 3 1 cY cX c5 fe, .row 3 1 dK dJ dM fG, .row 31 1 aV aQ aW cP, .row 185 2 dn dm dp fu, .row 9 1 eY eX e8 gV, .row 3 1 eO eN eP gB, .row 3 1 bu bt bv dW, .any (mapE (fun a : List UInt8 => Value.string (gstr a)) (fun a : Int => Value.int .i64 a) aX a0.number)] ++ A) w0 dW a0.single) {K : Int → run → Prop} (H : J0y a0 K) :
    CallsV Try.prog 133 #[.pointer (some ⟨fo, 0, none⟩)] w0 (fun v w' => ∃ (r0 : Int) (q : run) (cr : Nat) (cv : Option Addr) (cw : Nat) (d4 : List Value) (bY : Nat) (b7 : Option Addr) (b8 : Nat) (dP : List Value) (bK : Nat) (bM : Option Addr) (bN : Nat) (dD : List Value) (cx : Nat) (cy : Option Addr) (cz : Nat) (d5 : List Value) (b9 : Nat) (ca : Option Addr) (cb : Nat) (dQ : List Value) (cd : Nat) (ce : Option Addr) (cf : Nat) (dR : List Value) (dF : Nat) (dG : Option Addr) (dH : Nat) (fA : List Value) (c6 : Nat) (c7 : Option Addr) (c8 : Nat) (e9 : List Value) (c9 : Nat) (db : Option Addr) (de : Nat) (fd : List Value), v = .int .i64 r0 ∧ (fun Z0 => Owns n0 w' Z0 A ∧ Els (Rp.sl (Rp.int .i64)) (bl Z0 ++ A) w' d4 q.Enum.Gens ∧ Els (Rp.sl (Rp.int .i64)) (bl Z0 ++ A) w' dP q.Enum.Elems ∧ Els (Rp.int .i64) (bl Z0 ++ A) w' dD q.Enum.Prefix ∧ Els (Rp.int .i64) (bl Z0 ++ A) w' d5 q.Enum.Last ∧ Els (Rp.sl (Rp.int .i64)) (bl Z0 ++ A) w' dQ q.Enum.Right ∧ Els (rpRule) (bl Z0 ++ A) w' dR q.Enum.Rules ∧ Els (Rp.str) (bl Z0 ++ A) w' fA q.words ∧ Els (Rp.int .i64) (bl Z0 ++ A) w' e9 q.behind ∧ Els (Rp.int .i64) (bl Z0 ++ A) w' fd q.single ∧ Fr (bl [.blk fo (.cells #[.int .i64 a0.Enum.Points, .bool a0.Enum.Monoid, .slice aI aH aJ, .slice dj di dk, .slice cY cX c5, .slice dK dJ dM, .slice aV aQ aW, .slice dn dm dp, .int .i64 a0.Enum.Done, .map (some aX), .slice eY eX e8, .slice eO eN eP, .slice bu bt bv] 156 (0, 0)), .row 31 1 aI aH aJ cV, .row 31 1 dj di dk ft, .row 3 1 cY cX c5 fe, .row 3 1 dK dJ dM fG, .row 31 1 aV aQ aW cP, .row 185 2 dn dm dp fu, .row 9 1 eY eX e8 gV, .row 3 1 eO eN eP gB, .row 3 1 bu bt bv dW, .any (mapE (fun a : List UInt8 => Value.string (gstr a)) (fun a : Int => Value.int .i64 a) aX a0.number)]) w0 (bl Z0) w' ∧ K r0 q) [.blk fo (.cells #[.int .i64 q.Enum.Points, .bool q.Enum.Monoid, .slice cv cr cw, .slice b7 bY b8, .slice bM bK bN, .slice cy cx cz, .slice ca b9 cb, .slice ce cd cf, .int .i64 q.Enum.Done, .map (some aX), .slice dG dF dH, .slice c7 c6 c8, .slice db c9 de] 156 (0, 0)), .row 31 1 cv cr cw d4, .row 31 1 b7 bY b8 dP, .row 3 1 bM bK bN dD, .row 3 1 cy cx cz d5, .row 31 1 ca b9 cb dQ, .row 185 2 ce cd cf dR, .row 9 1 dG dF dH fA, .row 3 1 c7 c6 c8 e9, .row 3 1 db c9 de fd, .any (mapE (fun a : List UInt8 => Value.string (gstr a)) (fun a : Int => Value.int .i64 a) aX q.number)]) := by
 refine CallsV.of (l := [.pointer (some ⟨fo, 0, none⟩)]) Try.func133 rfl Try.ntmps133 rfl ?_
 have hB := Fr.refl (bl [.blk fo (.cells #[.int .i64 a0.Enum.Points, .bool a0.Enum.Monoid, .slice aI aH aJ, .slice dj di dk, .slice cY cX c5, .slice dK dJ dM, .slice aV aQ aW, .slice dn dm dp, .int .i64 a0.Enum.Done, .map (some aX), .slice eY eX e8, .slice eO eN eP, .slice bu bt bv] 156 (0, 0)), .row 31 1 aI aH aJ cV, .row 31 1 dj di dk ft, .row 3 1 cY cX c5 fe, .row 3 1 dK dJ dM fG, .row 31 1 aV aQ aW cP, .row 185 2 dn dm dp fu, .row 9 1 eY eX e8 gV, .row 3 1 eO eN eP gB, .row 3 1 bu bt bv dW, .any (mapE (fun a : List UInt8 => Value.string (gstr a)) (fun a : Int => Value.int .i64 a) aX a0.number)]) w0
 unfold J0y at H
 refine zq (zr (za rfl (zn (zq (zr ?_)))))
 refine zm rfl (zo (J01 rfl) (zo (J00 Try.underlying156 rfl ti123 rfl (by decide)) (zo (J00 Try.underlying123 rfl ti3 rfl (by decide)) (zs (oblk (i := 8) 0 hO rfl rfl Try.underlying3 rfl rfl) (za rfl ?_)))))
 refine zn (zq (zr (zm rfl (zo (J01 rfl) (zo (J00 Try.underlying156 rfl ti123 rfl (by decide)) ?_)))))
 refine zo (J00 Try.underlying123 rfl ti23 rfl (by decide)) (zs (oblk (i := 2) 0 hO rfl rfl Try.underlying23 rfl rfl) (zo (J0A Try.underlying23 rfl (ad.neq hO 1 rfl)) ?_))
 obtain ⟨h8, H⟩ := H
 obtain ⟨h9, H⟩ := H
 have zz := omake (n := (a0.Enum.Gens.length : Int)) (r := Rp.int .i64) (d := (0 : Int)) Try.underlying31 ti3 (fun _ _ => rfl) rfl hO h8 h9 (by decide)
 obtain ⟨w1, p2, vs3, ne, hE5, hs6, DK⟩ := zz
 refine zg (DK rfl rfl) ?_
 replace hO := ne.own
 refine za rfl (zn (zq (zq (zr (zm rfl ?_)))))
 refine zo (J01 rfl) (zo (J00 Try.underlying156 rfl ti123 rfl (by decide)) (zo (J00 Try.underlying123 rfl ti23 rfl (by decide)) (zs (oblk (i := 2) 1 hO rfl rfl Try.underlying23 rfl rfl) ?_)))
 replace ad := ad.ch ne.ch
 refine zo (J0A Try.underlying23 rfl (ad.neq hO 2 rfl)) (zm rfl (zn (zb ?_)))
 replace uH := uH.ch ne.ch
 replace t5 := t5.ch ne.ch
 replace u4 := u4.ch ne.ch
 replace ae := ae.ch ne.ch
 replace uI := uI.ch ne.ch
 replace xM := xM.ch ne.ch
 replace wU := wU.ch ne.ch
 replace ao := ao.ch ne.ch
 replace hB := hB.trans ne.fr
 refine Go1.loopW (S := Nat × List Int × List (List Int) × List Int × List Int × List Rule × List Str × List Int × (List (Str × Int))) (fun s σ w => match s with | (k1_12, d_13, d_16, d_22, d_28, d_34, d_40, d_46, m1_52) => ∃ (pC : List Value) (n21 : Nat) (p19 : Option Addr) (c20 : Nat) (lH : List Value) (n27 : Nat) (p25 : Option Addr) (c26 : Nat) (nr : List Value) (n33 : Nat) (p31 : Option Addr) (c32 : Nat) (ns : List Value) (n39 : Nat) (p37 : Option Addr) (c38 : Nat) (nt : List Value) (n45 : Nat) (p43 : Option Addr) (c44 : Nat) (nu : List Value) (n51 : Nat) (p49 : Option Addr) (c50 : Nat) (nw : List Value), agrees σ [(0, .pointer (some ⟨fo, 0, none⟩)), (3, .int .i64 a0.Enum.Done), (4, .slice p2 a0.Enum.Gens.length a0.Enum.Gens.length), (27, .slice aI aH aJ), (28, .int .i64 (a0.Enum.Gens.length : Int)), (29, .int .i64 (k1_12 : Int))] ∧ (fun Z0 => Owns n0 w Z0 A ∧ Els (Rp.int .i64) (bl Z0 ++ A) w pC d_13 ∧ Els (Rp.sl (Rp.int .i64)) (bl Z0 ++ A) w cV a0.Enum.Gens ∧ Els (Rp.sl (Rp.int .i64)) (bl Z0 ++ A) w lH d_16 ∧ Els (Rp.int .i64) (bl Z0 ++ A) w nr d_22 ∧ Els (Rp.int .i64) (bl Z0 ++ A) w ns d_28 ∧ Els (Rp.sl (Rp.int .i64)) (bl Z0 ++ A) w cP a0.Enum.Right ∧ Els (rpRule) (bl Z0 ++ A) w nt d_34 ∧ Els (Rp.str) (bl Z0 ++ A) w nu d_40 ∧ Els (Rp.int .i64) (bl Z0 ++ A) w nw d_46 ∧ Els (Rp.int .i64) (bl Z0 ++ A) w dW a0.single ∧ Fr (bl [.blk fo (.cells #[.int .i64 a0.Enum.Points, .bool a0.Enum.Monoid, .slice aI aH aJ, .slice dj di dk, .slice cY cX c5, .slice dK dJ dM, .slice aV aQ aW, .slice dn dm dp, .int .i64 a0.Enum.Done, .map (some aX), .slice eY eX e8, .slice eO eN eP, .slice bu bt bv] 156 (0, 0)), .row 31 1 aI aH aJ cV, .row 31 1 dj di dk ft, .row 3 1 cY cX c5 fe, .row 3 1 dK dJ dM fG, .row 31 1 aV aQ aW cP, .row 185 2 dn dm dp fu, .row 9 1 eY eX e8 gV, .row 3 1 eO eN eP gB, .row 3 1 bu bt bv dW, .any (mapE (fun a : List UInt8 => Value.string (gstr a)) (fun a : Int => Value.int .i64 a) aX a0.number)]) w0 (bl Z0) w) [.row 3 1 p2 a0.Enum.Gens.length a0.Enum.Gens.length pC, .blk fo (.cells #[.int .i64 a0.Enum.Points, .bool a0.Enum.Monoid, .slice aI aH aJ, .slice p19 n21 c20, .slice p25 n27 c26, .slice p31 n33 c32, .slice aV aQ aW, .slice p37 n39 c38, .int .i64 a0.Enum.Done, .map (some aX), .slice p43 n45 c44, .slice p49 n51 c50, .slice bu bt bv] 156 (0, 0)), .row 31 1 aI aH aJ cV, .row 31 1 p19 n21 c20 lH, .row 3 1 p25 n27 c26 nr, .row 3 1 p31 n33 c32 ns, .row 31 1 aV aQ aW cP, .row 185 2 p37 n39 c38 nt, .row 9 1 p43 n45 c44 nu, .row 3 1 p49 n51 c50 nw, .row 3 1 bu bt bv dW, .any (mapE (fun a : List UInt8 => Value.string (gstr a)) (fun a : Int => Value.int .i64 a) aX m1_52)]) H ⟨vs3, di, dj, dk, ft, cX, cY, c5, fe, dJ, dK, dM, fG, dm, dn, dp, fu, eX, eY, e8, gV, eN, eO, eP, gB, ⟨rfl, rfl, rfl, rfl, rfl, rfl, trivial⟩, hO, hE5, ad, uH, t5, u4, ae, uI, xM, wU, ao, hB⟩ ?_
 intro X1
 refine prE fun k1_12 => prE fun d_13 => prE fun d_16 => prE fun d_22 => prE fun d_28 => prE fun d_34 => prE fun d_40 => prE fun d_46 => fun m1_52 => ?_
 intro H hX1 σ w11
 refine exE fun pC => exE fun n21 => exE fun p19 => exE fun c20 => exE fun lH => exE fun n27 => exE fun p25 => exE fun c26 => exE fun nr => exE fun n33 => exE fun p31 => exE fun c32 => exE fun ns => exE fun n39 => exE fun p37 => exE fun c38 => exE fun nt => exE fun n45 => exE fun p43 => exE fun c44 => exE fun nu => exE fun n51 => exE fun p49 => exE fun c50 => exE fun nw => andE fun hag => andE fun hO => andE fun cg => andE fun ad => andE fun dN => andE fun cO => andE fun cJ => andE fun ae => andE fun ci => andE fun bV => andE fun bW => andE fun ao => fun hB => ?_
 dsimp only at H
 refine Go1.keep [(0, .pointer (some ⟨fo, 0, none⟩)), (3, .int .i64 a0.Enum.Done), (4, .slice p2 a0.Enum.Gens.length a0.Enum.Gens.length), (27, .slice aI aH aJ), (28, .int .i64 (a0.Enum.Gens.length : Int)), (29, .int .i64 (k1_12 : Int))] hag ?_
 refine zq (zr ?_)
 by_cases h53 : (k1_12 : Int) < (a0.Enum.Gens.length : Int)
 ·replace H := ifp h53 H
  refine zo (fun w => opB (J08 rfl rfl w) (decide_eq_true h53)) (zn (zq (zt rfl rfl (zk (zq ?_)))))
  refine zb (zq (zr (zm rfl ?_)))
  obtain ⟨h54, H⟩ := H
  obtain ⟨h55, H⟩ := H
  refine zo (J02 Try.underlying23 ti31 rfl rfl h54 (ltn (ad.neq hO 2 rfl) h55) (ad.psome hO 2 rfl h54 h55)) ?_
  have zz := oldSl 2 hO rfl ad h54 h55
  obtain ⟨p56, c57, cA, T5⟩ := zz
  refine zs (T5 Try.underlying31 rfl rfl) (za rfl (za rfl (zn (zq (zr ?_)))))
  refine zm rfl (zo (J01 rfl) (zo (J00 Try.underlying156 rfl ti123 rfl (by decide)) (zo (J00 Try.underlying123 rfl ti23 rfl (by decide)) (zs (oblk (i := 3) 1 hO rfl rfl Try.underlying23 rfl rfl) (zm rfl ?_)))))
  obtain ⟨h60, H⟩ := H
  obtain ⟨h61, H⟩ := H
  refine zo (J02 Try.underlying23 ti31 rfl rfl h60 (ltn (dN.neq hO 3 rfl) h61) (dN.psome hO 3 rfl h60 h61)) ?_
  have zz := oldSl 3 hO rfl dN h60 h61
  obtain ⟨p62, c63, cB, T6⟩ := zz
  refine zs (T6 Try.underlying31 rfl rfl) (zm rfl ?_)
  refine GoR.call (J0a body158 rfl (J3z hO.lt cB cA H)) rfl rfl ?_
  rintro v70 w67 ⟨r66, tP, tQ, rfl, Hf, bC, H⟩
  have gJ := Stp.same hO Hf
  replace hO := gJ.own
  refine za rfl (zn (zq ?_))
  refine Go1.drawS 0 [(0, .pure), (1, .pure), (2, .pure), (3, .stable), (4, .pure), (5, .loud), (6, .stable), (7, .pure), (8, .pure), (9, .pure), (10, .pure), (11, .pure)] mixed (by kernel_rfl) ?_
  intro w72 E7
  have jJ := Stp.same hO E7
  replace hO := jJ.own
  refine GoQ.pure rfl (J03 rfl) rfl rfl ?_
  refine GoQ.pure rfl (J01 rfl) rfl rfl ?_
  refine GoQ.pure rfl (J00 Try.underlying156 rfl ti154 rfl (by decide)) rfl rfl ?_
  refine GoQ.stable rfl (oblk (i := 9) 1 hO rfl rfl Try.underlying154 rfl rfl) rfl rfl ?_
  refine GoQ.pure rfl (J03 rfl) rfl rfl ?_
  replace bC := bC.ch jJ.ch
  refine GoQ.call rfl (J0a body157 rfl (J0p hO.lt bC H)) (fun v w hr => by obtain ⟨_, _, hs, _, _⟩ := hr; assumption) rfl rfl ?_
  rintro v79 w76 ⟨r75, rfl, Hg, Vi, H⟩
  have gM := Stp.same hO Hg
  replace hO := gM.own
  by_cases h81 : mhas m1_52 r75 = true
  ·replace H := ifp h81 H
   refine GoQ.stable rfl (olookT (a := r75) (MK.str Try.underlying9) 11 hO rfl Try.underlying154 rfl rfl h81) rfl rfl ?_
   refine GoQ.pure rfl (J03 rfl) rfl rfl ?_
   refine GoQ.pure rfl (J07 rfl rfl) rfl rfl ?_
   refine GoQ.pure rfl (J07 rfl rfl) rfl rfl ?_
   refine GoQ.pure rfl (J0s rfl) rfl rfl ?_
   refine GoQ.pure rfl (J0s rfl) rfl rfl ?_
   refine GoQ.nil ?_
   refine zq ?_
   refine Go1.cut [(0, .pointer (some ⟨fo, 0, none⟩)), (3, .int .i64 a0.Enum.Done), (4, .slice p2 a0.Enum.Gens.length a0.Enum.Gens.length), (5, .int .i64 (k1_12 : Int)), (7, .slice tP r66.length tQ), (8, .int .i64 (mgt m1_52 r75)), (9, .bool true), (27, .slice aI aH aJ), (28, .int .i64 (a0.Enum.Gens.length : Int)), (29, .int .i64 (k1_12 : Int))] ⟨rfl, rfl, rfl, rfl, rfl, rfl, rfl, rfl, rfl, rfl, trivial⟩ ?_
   intro σ _
   refine zr (zm rfl (zo (J01 rfl) (zo (J00 Try.underlying156 rfl ti30 rfl (by decide)) (zs (oblk (i := 10) 1 hO rfl rfl Try.underlying30 rfl rfl) (zm rfl ?_)))))
   obtain ⟨h82, H⟩ := H
   obtain ⟨h83, H⟩ := H
   have Z1 := (gJ.ch.trans jJ.ch).trans gM.ch
   replace bV := bV.ch Z1
   refine zo (J02 Try.underlying30 ti9 rfl rfl h82 (ltn (bV.neq hO 8 rfl) h83) (bV.psome hO 8 rfl h82 h83)) (zs (oldStr 8 hO rfl bV h82 h83 Try.underlying9 rfl rfl) ?_)
   have hle84 := Els.J2m bV h82 h83
   refine zm rfl ?_
   obtain ⟨h85, H⟩ := H
   refine zo (J0e rfl rfl (wrap_i64 h85)) (zo (J3O Try.underlying3 Try.underlying21 rfl rfl) ?_)
   obtain ⟨h86, H⟩ := H
   obtain ⟨h87, H⟩ := H
   refine zo (J3p Try.underlying21 Try.underlying9 rfl h86 h87) ?_
   obtain ⟨h88, H⟩ := H
   refine zo (J5z rfl rfl h88) (za rfl (zn (zq (zb (zq ?_)))))
   refine zr (zm rfl (zo (J0g rfl) (zm rfl (zp (zp ?_)))))
   refine zp (zp (zp (zp (zp (zo (J05 rfl rfl rfl) ?_)))))
   refine za rfl (zn (zf rfl rfl (zq ?_)))
   refine Go1.cut [(0, .pointer (some ⟨fo, 0, none⟩)), (3, .int .i64 a0.Enum.Done), (4, .slice p2 a0.Enum.Gens.length a0.Enum.Gens.length), (5, .int .i64 (k1_12 : Int)), (7, .slice tP r66.length tQ), (8, .int .i64 (mgt m1_52 r75)), (9, .bool true), (10, .string (gstr ((ix d_40 a0.Enum.Done) ++ (chr (IntKind.i32.wrap ((97 : Int) + (k1_12 : Int))))))), (27, .slice aI aH aJ), (28, .int .i64 (a0.Enum.Gens.length : Int)), (29, .int .i64 (k1_12 : Int))] ⟨rfl, rfl, rfl, rfl, rfl, rfl, rfl, rfl, rfl, rfl, rfl, trivial⟩ ?_
   intro σ _
   refine zr (zm rfl (zo (J0g rfl) (za rfl (zn (zf rfl rfl ?_)))))
   refine zq (zr (zm rfl (zo (J01 rfl) (zo (J00 Try.underlying156 rfl ti30 rfl (by decide)) (zs (oblk (i := 10) 1 hO rfl rfl Try.underlying30 rfl rfl) ?_)))))
   refine zm rfl ?_
   obtain ⟨h89, H⟩ := H
   obtain ⟨h90, H⟩ := H
   refine zo (J02 Try.underlying30 ti9 rfl rfl h89 (ltn (bV.neq hO 8 rfl) h90) (bV.psome hO 8 rfl h89 h90)) (zs (oldStr 8 hO rfl bV h89 h90 Try.underlying9 rfl rfl) ?_)
   have hle91 := Els.J2m bV h89 h90
   by_cases h92 : (ix d_40 a0.Enum.Done) = (([] : Str))
   ·replace H := ifp h92 H
    refine zo (fun w => opB (J3Q rfl rfl w) (ndT h92)) (zm rfl (zp (zp (zp (zp ?_)))))
    refine zp (zp (zp (zp (zp (zp ?_)))))
    refine zo (J05 rfl rfl rfl) (za rfl (zn (zf rfl rfl (zk ?_))))
    refine Go1.inBlock ?_
    refine Go1.cut [(0, .pointer (some ⟨fo, 0, none⟩)), (3, .int .i64 a0.Enum.Done), (4, .slice p2 a0.Enum.Gens.length a0.Enum.Gens.length), (5, .int .i64 (k1_12 : Int)), (8, .int .i64 (mgt m1_52 r75)), (27, .slice aI aH aJ), (28, .int .i64 (a0.Enum.Gens.length : Int)), (29, .int .i64 (k1_12 : Int))] ⟨rfl, rfl, rfl, rfl, rfl, rfl, rfl, rfl, trivial⟩ ?_
    intro σ _
    refine zr (zm rfl (zm rfl (zm rfl ?_)))
    obtain ⟨h93, H⟩ := H
    obtain ⟨h94, H⟩ := H
    replace cg := cg.ch Z1
    refine zo (J02 Try.underlying31 ti3 rfl rfl h93 (ltn (cg.neq hO 0 rfl) h94) (cg.psome hO 0 rfl h93 h94)) ?_
    have zz := ost (r := Rp.int .i64) rfl 0 hO rfl cg h93 h94 (v := .int .i64 (mgt m1_52 r75)) (u := (mgt m1_52 r75)) rfl rfl
    obtain ⟨w95, T7, rD, Ly, PV⟩ := zz
    dsimp only [sS, sZ] at rD Ly
    refine zg (PV Try.underlying3 rfl ti3 (by exact rfl) (by exact rfl)) ?_
    replace hO := rD.own
    refine zn ?_
    refine Go1.inBlock ?_
    refine zr ?_
    replace ad := (ad.ch Z1).ch rD.ch
    refine zo (J0e rfl rfl (wrap_i64 (natbd h53 ad.bd))) (zm rfl (zn ?_))
    replace bV := bV.ch rD.ch
    have Z2 := Z1.trans rD.ch
    replace dN := dN.ch Z2
    replace cO := cO.ch Z2
    replace cJ := cJ.ch Z2
    replace ae := ae.ch Z2
    replace ci := ci.ch Z2
    replace bW := bW.ch Z2
    replace ao := ao.ch Z2
    replace hB := (((hB.trans gJ.fr).trans jJ.fr).trans gM.fr).trans rD.fr
    exact hX1 _ H _ _ ⟨T7, n21, p19, c20, lH, n27, p25, c26, nr, n33, p31, c32, ns, n39, p37, c38, nt, n45, p43, c44, nu, n51, p49, c50, nw, ⟨rfl, rfl, rfl, rfl, rfl, rfl, trivial⟩, hO, Ly, ad, dN, cO, cJ, ae, ci, bV, bW, ao, hB⟩
   replace H := ifn h92 H
   refine zo (fun w => opB (J3Q rfl rfl w) (ndF h92)) (zm rfl (zm rfl (zm rfl (zo (J01 rfl) (zo (J00 Try.underlying156 rfl ti31 rfl (by decide)) ?_)))))
   refine zs (oblk (i := 11) 1 hO rfl rfl Try.underlying31 rfl rfl) (zm rfl ?_)
   obtain ⟨Hh, H⟩ := H
   obtain ⟨Hi, H⟩ := H
   replace bW := bW.ch Z1
   refine zo (J02 Try.underlying31 ti3 rfl rfl Hh (ltn (bW.neq hO 9 rfl) Hi) (bW.psome hO 9 rfl Hh Hi)) (zs (oldInt 9 hO rfl bW Hh Hi Try.underlying3 rfl rfl) (zm rfl ?_))
   refine GoR.inl (vs := [.pointer (some ⟨fo, 0, none⟩), .int .i64 (ix d_46 a0.Enum.Done), .int .i64 (k1_12 : Int)]) (caps := []) rfl rfl body160 Try.func160 rfl Try.ntmps160 rfl rfl rfl ?_
   intro RhR102 hR102
   refine zq (zr (za rfl (zn (zq ?_))))
   refine Go1.cut [(0, .pointer (some ⟨fo, 0, none⟩)), (1, .int .i64 (ix d_46 a0.Enum.Done)), (2, .int .i64 (k1_12 : Int))] ⟨rfl, rfl, rfl, trivial⟩ ?_
   intro σ _
   refine zr (zm rfl (zm rfl (zm rfl ?_)))
   refine GoR.inl (vs := [.pointer (some ⟨fo, 0, none⟩), .int .i64 (ix d_46 a0.Enum.Done), .int .i64 (k1_12 : Int)]) (caps := []) rfl rfl body159 Try.func159 rfl Try.ntmps159 rfl rfl rfl ?_
   intro RhR103 hR103
   refine zq (zr (za rfl (zn (zq (zq ?_)))))
   refine zr (zm rfl ?_)
   by_cases sL : (ix d_46 a0.Enum.Done) = (-1 : Int)
   ·replace H := ifp sL H
    refine zo (fun w => opB (J0D rfl rfl w) (decide_eq_true sL)) (zn (zt rfl rfl (zq (zr (zm rfl ?_)))))
    refine zo (J01 rfl) (zo (J00 Try.underlying156 rfl ti31 rfl (by decide)) (zs (oblk (i := 12) 1 hO rfl rfl Try.underlying31 rfl rfl) (zm rfl ?_)))
    obtain ⟨uF, H⟩ := H
    obtain ⟨AF, H⟩ := H
    replace ao := ao.ch Z1
    refine zo (J02 Try.underlying31 ti3 rfl rfl uF (ltn (ao.neq hO 10 rfl) AF) (ao.psome hO 10 rfl uF AF)) (zs (oldInt 10 hO rfl ao uF AF Try.underlying3 rfl rfl) (za rfl (zn ?_)))
    refine Go1.ret1V Try.func159 rfl (show _ = .int .i64 (ix a0.single (k1_12 : Int)) from rfl) ?_
    refine hR103 _ _ ?_
    refine za rfl (zn (zq (zr (zm rfl (zo (J01 rfl) ?_)))))
    refine zo (J00 Try.underlying156 rfl ti123 rfl (by decide)) (zo (J00 Try.underlying123 rfl ti31 rfl (by decide)) (zs (oblk (i := 4) 1 hO rfl rfl Try.underlying31 rfl rfl) (zm rfl ?_)))
    obtain ⟨nX, H⟩ := H
    obtain ⟨qO, H⟩ := H
    replace cO := cO.ch Z1
    refine zo (J02 Try.underlying31 ti3 rfl rfl nX (ltn (cO.neq hO 4 rfl) qO) (cO.psome hO 4 rfl nX qO)) (zs (oldInt 4 hO rfl cO nX qO Try.underlying3 rfl rfl) (zm rfl ?_))
    by_cases wn : (ix d_22 (ix a0.single (k1_12 : Int))) = (ix d_46 a0.Enum.Done)
    ·replace H := ifp wn H
     refine zo (fun w => opB (J0D rfl rfl w) (decide_eq_true wn)) (zm rfl (zm rfl (zo (J01 rfl) (zo (J00 Try.underlying156 rfl ti123 rfl (by decide)) (zo (J00 Try.underlying123 rfl ti31 rfl (by decide)) ?_)))))
     refine zs (oblk (i := 5) 1 hO rfl rfl Try.underlying31 rfl rfl) (zm rfl ?_)
     obtain ⟨yl, H⟩ := H
     obtain ⟨wO, H⟩ := H
     replace cJ := cJ.ch Z1
     refine zo (J02 Try.underlying31 ti3 rfl rfl yl (ltn (cJ.neq hO 5 rfl) wO) (cJ.psome hO 5 rfl yl wO)) (zs (oldInt 5 hO rfl cJ yl wO Try.underlying3 rfl rfl) (zm rfl ?_))
     by_cases yQ : (ix d_28 (ix a0.single (k1_12 : Int))) = (k1_12 : Int)
     ·replace H := ifp yQ H
      refine zo (fun w => opB (J0D rfl rfl w) (decide_eq_true yQ)) (zo (J04 rfl rfl rfl) (za rfl (zn ?_)))
      refine Go1.ret1V Try.func160 rfl (show _ = .bool true from rfl) ?_
      refine hR102 _ _ ?_
      refine zo (J04 rfl rfl rfl) (za rfl (zn (zt rfl rfl ?_)))
      refine Go1.cut [(0, .pointer (some ⟨fo, 0, none⟩)), (3, .int .i64 a0.Enum.Done), (4, .slice p2 a0.Enum.Gens.length a0.Enum.Gens.length), (5, .int .i64 (k1_12 : Int)), (8, .int .i64 (mgt m1_52 r75)), (10, .string (gstr ((ix d_40 a0.Enum.Done) ++ (chr (IntKind.i32.wrap ((97 : Int) + (k1_12 : Int))))))), (27, .slice aI aH aJ), (28, .int .i64 (a0.Enum.Gens.length : Int)), (29, .int .i64 (k1_12 : Int))] ⟨rfl, rfl, rfl, rfl, rfl, rfl, rfl, rfl, rfl, trivial⟩ ?_
      intro σ _
      refine Go1.drawS 5 [(0, .pure), (1, .pure), (2, .pure), (3, .pure), (4, .pure), (5, .stable), (6, .pure), (7, .pure), (8, .pure), (9, .pure), (10, .stable), (11, .pure), (12, .pure), (13, .stable), (14, .pure), (15, .loud), (16, .last), (17, .pure), (18, .pure), (19, .pure), (20, .last)] mixed (by kernel_rfl) ?_
      intro T8 FE
      have iC := Stp.same hO FE
      replace hO := iC.own
      refine GoQ.pure rfl (J03 rfl) rfl rfl ?_
      refine GoQ.pure rfl (J03 rfl) rfl rfl ?_
      refine GoQ.pure rfl (J01 rfl) rfl rfl ?_
      refine GoQ.pure rfl (J00 Try.underlying156 rfl ti123 rfl (by decide)) rfl rfl ?_
      refine GoQ.pure rfl (J00 Try.underlying123 rfl ti121 rfl (by decide)) rfl rfl ?_
      refine GoQ.stable rfl (oblk (i := 7) 1 hO rfl rfl Try.underlying121 rfl rfl) rfl rfl ?_
      refine GoQ.pure rfl (J03 rfl) rfl rfl ?_
      refine GoQ.pure rfl (J03 rfl) rfl rfl ?_
      refine GoQ.pure rfl (J01 rfl) rfl rfl ?_
      refine GoQ.pure rfl (J00 Try.underlying156 rfl ti30 rfl (by decide)) rfl rfl ?_
      refine GoQ.stable rfl (oblk (i := 10) 1 hO rfl rfl Try.underlying30 rfl rfl) rfl rfl ?_
      refine GoQ.pure rfl (J03 rfl) rfl rfl ?_
      obtain ⟨BU, H⟩ := H
      obtain ⟨BP, H⟩ := H
      replace bV := bV.ch iC.ch
      refine GoQ.pure rfl (J02 Try.underlying30 ti9 rfl rfl BU (ltn (bV.neq hO 8 rfl) BP) (bV.psome hO 8 rfl BU BP)) rfl rfl ?_
      refine GoQ.stable rfl (oldStr 8 hO rfl bV BU BP Try.underlying9 rfl rfl) rfl rfl ?_
      have hle118 := Els.J2m bV BU BP
      refine GoQ.pure rfl (J0w Try.underlying185 ti185 (pl := [(0, 1), (1, 1)]) (vs := [(0, .string (gstr ((ix d_40 a0.Enum.Done) ++ (chr (IntKind.i32.wrap ((97 : Int) + (k1_12 : Int))))))), (1, .string (gstr (ix d_40 (mgt m1_52 r75))))]) (cs := #[.string (gstr ((ix d_40 a0.Enum.Done) ++ (chr (IntKind.i32.wrap ((97 : Int) + (k1_12 : Int)))))), .string (gstr (ix d_40 (mgt m1_52 r75)))]) (by kernel_rfl) rfl (by kernel_rfl)) rfl rfl ?_
      have zz := obuildN (r := rpRule) (n := 1) (parts := [(0, .agg #[.string (gstr ((ix d_40 a0.Enum.Done) ++ (chr (IntKind.i32.wrap ((97 : Int) + (k1_12 : Int)))))), .string (gstr (ix d_40 (mgt m1_52 r75)))])]) (vs := [.string (gstr ((ix d_40 a0.Enum.Done) ++ (chr (IntKind.i32.wrap ((97 : Int) + (k1_12 : Int)))))), .string (gstr (ix d_40 (mgt m1_52 r75)))]) (xs := [(⟨((ix d_40 a0.Enum.Done) ++ (chr (IntKind.i32.wrap ((97 : Int) + (k1_12 : Int))))), ix d_40 (mgt m1_52 r75)⟩ : Rule)]) Try.underlying121 ti185 hO (by decide) (by decide) (by kernel_rfl) (Els.flat1 (⟨((ix d_40 a0.Enum.Done) ++ (chr (IntKind.i32.wrap ((97 : Int) + (k1_12 : Int))))), ix d_40 (mgt m1_52 r75)⟩ : Rule) ⟨(lenApp h88), hle118⟩) rfl
      obtain ⟨YC, jB, fN, pI, PW, Lz⟩ := zz
      refine GoQ.loud rfl (Lz rfl) PW rfl rfl ?_
      replace hO := fN.own
      have zz := freeze 0 hO rfl pI
      obtain ⟨hO1, tj, xo, PX⟩ := zz
      dsimp only [eS, eZ] at hO1 tj xo
      replace hB := (((((hB.trans gJ.fr).trans jJ.fr).trans gM.fr).trans iC.fr).trans fN.fr).trans (Owns.J09 _ _ 0)
      dsimp only [eS, eZ] at hB
      replace hO := hO1; clear hO1
      obtain ⟨T9, H⟩ := H
      have Z3 := ((Z1.trans iC.ch).trans fN.ch).trans tj
      replace ci := ci.ch Z3
      have zz := oapp Try.underlying121 ti185 rfl 7 hO rfl ci xo PX T9 (by decide)
      obtain ⟨YE, Hj, Hk, PY, mG, zN, DB⟩ := zz
      dsimp only [sS, sZ] at mG zN
      refine GoQ.last rfl (DB (by exact rfl) (by exact rfl)) rfl rfl ?_
      replace hO := mG.own
      refine GoQ.pure rfl (J01 rfl) rfl rfl ?_
      refine GoQ.pure rfl (J00 Try.underlying156 rfl ti123 rfl (by decide)) rfl rfl ?_
      refine GoQ.pure rfl (J00 Try.underlying123 rfl ti121 rfl (by decide)) rfl rfl ?_
      have zz := J0h (v := .slice Hj (n39 + 1) Hk) (i := 7) (cs' := #[.int .i64 a0.Enum.Points, .bool a0.Enum.Monoid, .slice aI aH aJ, .slice p19 n21 c20, .slice p25 n27 c26, .slice p31 n33 c32, .slice aV aQ aW, .slice Hj (n39 + 1) Hk, .int .i64 a0.Enum.Done, .map (some aX), .slice p43 n45 c44, .slice p49 n51 c50, .slice bu bt bv]) 1 hO rfl rfl rfl rfl
      obtain ⟨YF, gp, LA⟩ := zz
      dsimp only [sS, sZ] at gp
      refine GoQ.last rfl (LA Try.underlying121 rfl ti121 (by exact rfl) (by exact rfl)) rfl rfl ?_
      replace hO := gp.own
      refine GoQ.nil ?_
      refine Go1.inBlock ?_
      refine Go1.cut [(0, .pointer (some ⟨fo, 0, none⟩)), (3, .int .i64 a0.Enum.Done), (4, .slice p2 a0.Enum.Gens.length a0.Enum.Gens.length), (5, .int .i64 (k1_12 : Int)), (8, .int .i64 (mgt m1_52 r75)), (27, .slice aI aH aJ), (28, .int .i64 (a0.Enum.Gens.length : Int)), (29, .int .i64 (k1_12 : Int))] ⟨rfl, rfl, rfl, rfl, rfl, rfl, rfl, rfl, trivial⟩ ?_
      intro σ _
      refine zr (zm rfl (zm rfl (zm rfl ?_)))
      obtain ⟨uL, H⟩ := H
      obtain ⟨y7, H⟩ := H
      replace cg := ((cg.ch Z3).ch mG.ch).ch gp.ch
      refine zo (J02 Try.underlying31 ti3 rfl rfl uL (ltn (cg.neq hO 0 rfl) y7) (cg.psome hO 0 rfl uL y7)) ?_
      have zz := ost (r := Rp.int .i64) rfl 0 hO rfl cg uL y7 (v := .int .i64 (mgt m1_52 r75)) (u := (mgt m1_52 r75)) rfl rfl
      obtain ⟨Ua, P1, mH, Jp, LB⟩ := zz
      dsimp only [sS, sZ] at mH Jp
      refine zg (LB Try.underlying3 rfl ti3 (by exact rfl) (by exact rfl)) ?_
      replace hO := mH.own
      refine zn ?_
      refine Go1.inBlock ?_
      refine zr ?_
      have Z4 := ((Z3.trans mG.ch).trans gp.ch).trans mH.ch
      replace ad := ad.ch Z4
      refine zo (J0e rfl rfl (wrap_i64 (natbd h53 ad.bd))) (zm rfl (zn ?_))
      replace zN := (zN.ch gp.ch).ch mH.ch
      replace hB := ((hB.trans mG.fr).trans gp.fr).trans mH.fr
      have Z5 := (((fN.ch.trans tj).trans mG.ch).trans gp.ch).trans mH.ch
      replace bV := bV.ch Z5
      have Z6 := ((((iC.ch.trans fN.ch).trans tj).trans mG.ch).trans gp.ch).trans mH.ch
      replace cO := cO.ch Z6
      replace cJ := cJ.ch Z6
      replace bW := bW.ch Z6
      replace ao := ao.ch Z6
      replace dN := dN.ch Z4
      replace ae := ae.ch Z4
      exact hX1 _ H _ _ ⟨P1, n21, p19, c20, lH, n27, p25, c26, nr, n33, p31, c32, ns, n39 + 1, Hj, Hk, PY, n45, p43, c44, nu, n51, p49, c50, nw, ⟨rfl, rfl, rfl, rfl, rfl, rfl, trivial⟩, hO, Jp, ad, dN, cO, cJ, ae, zN, bV, bW, ao, hB⟩
     replace H := ifn yQ H
     refine zo (fun w => opB (J0D rfl rfl w) (decide_eq_false yQ)) (zo (J04 rfl rfl rfl) (za rfl (zn ?_)))
     refine Go1.ret1V Try.func160 rfl (show _ = .bool false from rfl) ?_
     refine hR102 _ _ ?_
     refine zo (J04 rfl rfl rfl) (za rfl (zn (zf rfl rfl (zk ?_))))
     refine Go1.inBlock ?_
     refine zr (zm rfl (zm rfl (zm rfl ?_)))
     obtain ⟨Hl, H⟩ := H
     obtain ⟨Hm, H⟩ := H
     replace cg := cg.ch Z1
     refine zo (J02 Try.underlying31 ti3 rfl rfl Hl (ltn (cg.neq hO 0 rfl) Hm) (cg.psome hO 0 rfl Hl Hm)) ?_
     have zz := ost (r := Rp.int .i64) rfl 0 hO rfl cg Hl Hm (v := .int .i64 (mgt m1_52 r75)) (u := (mgt m1_52 r75)) rfl rfl
     obtain ⟨Tc, P2, ny, Jq, De⟩ := zz
     dsimp only [sS, sZ] at ny Jq
     refine zg (De Try.underlying3 rfl ti3 (by exact rfl) (by exact rfl)) ?_
     replace hO := ny.own
     refine zn ?_
     refine Go1.inBlock ?_
     refine zr ?_
     replace ad := (ad.ch Z1).ch ny.ch
     refine zo (J0e rfl rfl (wrap_i64 (natbd h53 ad.bd))) (zm rfl (zn ?_))
     replace cO := cO.ch ny.ch
     replace cJ := cJ.ch ny.ch
     replace bV := bV.ch ny.ch
     replace bW := bW.ch ny.ch
     replace ao := ao.ch ny.ch
     have Z7 := Z1.trans ny.ch
     replace dN := dN.ch Z7
     replace ae := ae.ch Z7
     replace ci := ci.ch Z7
     replace hB := (((hB.trans gJ.fr).trans jJ.fr).trans gM.fr).trans ny.fr
     exact hX1 _ H _ _ ⟨P2, n21, p19, c20, lH, n27, p25, c26, nr, n33, p31, c32, ns, n39, p37, c38, nt, n45, p43, c44, nu, n51, p49, c50, nw, ⟨rfl, rfl, rfl, rfl, rfl, rfl, trivial⟩, hO, Jq, ad, dN, cO, cJ, ae, ci, bV, bW, ao, hB⟩
    replace H := ifn wn H
    refine zo (fun w => opB (J0D rfl rfl w) (decide_eq_false wn)) (zm rfl (zp (zp (zp (zp ?_)))))
    refine zp (zp (zp (zp (zp (zp ?_)))))
    refine zo (J05 rfl rfl rfl) (za rfl (zn ?_))
    refine Go1.ret1V Try.func160 rfl (show _ = .bool false from rfl) ?_
    refine hR102 _ _ ?_
    refine zo (J04 rfl rfl rfl) (za rfl (zn (zf rfl rfl (zk ?_))))
    refine Go1.inBlock ?_
    refine Go1.cut [(0, .pointer (some ⟨fo, 0, none⟩)), (3, .int .i64 a0.Enum.Done), (4, .slice p2 a0.Enum.Gens.length a0.Enum.Gens.length), (5, .int .i64 (k1_12 : Int)), (8, .int .i64 (mgt m1_52 r75)), (27, .slice aI aH aJ), (28, .int .i64 (a0.Enum.Gens.length : Int)), (29, .int .i64 (k1_12 : Int))] ⟨rfl, rfl, rfl, rfl, rfl, rfl, rfl, rfl, trivial⟩ ?_
    intro σ _
    refine zr (zm rfl (zm rfl (zm rfl ?_)))
    obtain ⟨yr, H⟩ := H
    obtain ⟨Aw, H⟩ := H
    replace cg := cg.ch Z1
    refine zo (J02 Try.underlying31 ti3 rfl rfl yr (ltn (cg.neq hO 0 rfl) Aw) (cg.psome hO 0 rfl yr Aw)) ?_
    have zz := ost (r := Rp.int .i64) rfl 0 hO rfl cg yr Aw (v := .int .i64 (mgt m1_52 r75)) (u := (mgt m1_52 r75)) rfl rfl
    obtain ⟨YG, P3, nA, Jr, LD⟩ := zz
    dsimp only [sS, sZ] at nA Jr
    refine zg (LD Try.underlying3 rfl ti3 (by exact rfl) (by exact rfl)) ?_
    replace hO := nA.own
    refine zn ?_
    refine Go1.inBlock ?_
    refine zr ?_
    replace ad := (ad.ch Z1).ch nA.ch
    refine zo (J0e rfl rfl (wrap_i64 (natbd h53 ad.bd))) (zm rfl (zn ?_))
    replace cO := cO.ch nA.ch
    replace bV := bV.ch nA.ch
    replace bW := bW.ch nA.ch
    replace ao := ao.ch nA.ch
    have Z8 := Z1.trans nA.ch
    replace dN := dN.ch Z8
    replace cJ := cJ.ch Z8
    replace ae := ae.ch Z8
    replace ci := ci.ch Z8
    replace hB := (((hB.trans gJ.fr).trans jJ.fr).trans gM.fr).trans nA.fr
    exact hX1 _ H _ _ ⟨P3, n21, p19, c20, lH, n27, p25, c26, nr, n33, p31, c32, ns, n39, p37, c38, nt, n45, p43, c44, nu, n51, p49, c50, nw, ⟨rfl, rfl, rfl, rfl, rfl, rfl, trivial⟩, hO, Jr, ad, dN, cO, cJ, ae, ci, bV, bW, ao, hB⟩
   replace H := ifn sL H
   refine zo (fun w => opB (J0D rfl rfl w) (decide_eq_false sL)) (zn (zf rfl rfl (zk (zq (zr ?_)))))
   refine zm rfl (zo (J01 rfl) (zo (J00 Try.underlying156 rfl ti123 rfl (by decide)) (zo (J00 Try.underlying123 rfl ti23 rfl (by decide)) (zs (oblk (i := 6) 1 hO rfl rfl Try.underlying23 rfl rfl) (zm rfl ?_)))))
   obtain ⟨DN, H⟩ := H
   obtain ⟨DO, H⟩ := H
   replace ae := ae.ch Z1
   refine zo (J02 Try.underlying23 ti31 rfl rfl DN (ltn (ae.neq hO 6 rfl) DO) (ae.psome hO 6 rfl DN DO)) ?_
   have zz := oldSl 6 hO rfl ae DN DO
   obtain ⟨YH, YJ, nT, P4⟩ := zz
   refine zs (P4 Try.underlying31 rfl rfl) (zm rfl ?_)
   obtain ⟨AG, H⟩ := H
   obtain ⟨Hn, H⟩ := H
   refine zo (J02 Try.underlying31 ti3 rfl rfl AG Hn (nT.some_ AG Hn)) (zs (ldInt nT AG Hn Try.underlying3 rfl rfl) (za rfl (zn ?_)))
   refine Go1.ret1V Try.func159 rfl (show _ = .int .i64 (ix (ix a0.Enum.Right (ix d_46 a0.Enum.Done)) (k1_12 : Int)) from rfl) ?_
   refine hR103 _ _ ?_
   refine za rfl (zn (zq ?_))
   refine Go1.cut [(0, .pointer (some ⟨fo, 0, none⟩)), (1, .int .i64 (ix d_46 a0.Enum.Done)), (2, .int .i64 (k1_12 : Int)), (7, .int .i64 (ix (ix a0.Enum.Right (ix d_46 a0.Enum.Done)) (k1_12 : Int)))] ⟨rfl, rfl, rfl, rfl, trivial⟩ ?_
   intro σ _
   refine zr (zm rfl (zo (J01 rfl) (zo (J00 Try.underlying156 rfl ti123 rfl (by decide)) (zo (J00 Try.underlying123 rfl ti31 rfl (by decide)) (zs (oblk (i := 4) 1 hO rfl rfl Try.underlying31 rfl rfl) ?_)))))
   refine zm rfl ?_
   obtain ⟨Ho, H⟩ := H
   obtain ⟨D3, H⟩ := H
   replace cO := cO.ch Z1
   refine zo (J02 Try.underlying31 ti3 rfl rfl Ho (ltn (cO.neq hO 4 rfl) D3) (cO.psome hO 4 rfl Ho D3)) (zs (oldInt 4 hO rfl cO Ho D3 Try.underlying3 rfl rfl) (zm rfl ?_))
   by_cases FF : (ix d_22 (ix (ix a0.Enum.Right (ix d_46 a0.Enum.Done)) (k1_12 : Int))) = (ix d_46 a0.Enum.Done)
   ·replace H := ifp FF H
    refine zo (fun w => opB (J0D rfl rfl w) (decide_eq_true FF)) (zm rfl (zm rfl (zo (J01 rfl) (zo (J00 Try.underlying156 rfl ti123 rfl (by decide)) (zo (J00 Try.underlying123 rfl ti31 rfl (by decide)) ?_)))))
    refine zs (oblk (i := 5) 1 hO rfl rfl Try.underlying31 rfl rfl) (zm rfl ?_)
    obtain ⟨ws, H⟩ := H
    obtain ⟨AH, H⟩ := H
    replace cJ := cJ.ch Z1
    refine zo (J02 Try.underlying31 ti3 rfl rfl ws (ltn (cJ.neq hO 5 rfl) AH) (cJ.psome hO 5 rfl ws AH)) (zs (oldInt 5 hO rfl cJ ws AH Try.underlying3 rfl rfl) (zm rfl ?_))
    by_cases xN : (ix d_28 (ix (ix a0.Enum.Right (ix d_46 a0.Enum.Done)) (k1_12 : Int))) = (k1_12 : Int)
    ·replace H := ifp xN H
     refine zo (fun w => opB (J0D rfl rfl w) (decide_eq_true xN)) (zo (J04 rfl rfl rfl) (za rfl (zn ?_)))
     refine Go1.ret1V Try.func160 rfl (show _ = .bool true from rfl) ?_
     refine hR102 _ _ ?_
     refine zo (J04 rfl rfl rfl) (za rfl (zn (zt rfl rfl ?_)))
     refine Go1.cut [(0, .pointer (some ⟨fo, 0, none⟩)), (3, .int .i64 a0.Enum.Done), (4, .slice p2 a0.Enum.Gens.length a0.Enum.Gens.length), (5, .int .i64 (k1_12 : Int)), (8, .int .i64 (mgt m1_52 r75)), (10, .string (gstr ((ix d_40 a0.Enum.Done) ++ (chr (IntKind.i32.wrap ((97 : Int) + (k1_12 : Int))))))), (27, .slice aI aH aJ), (28, .int .i64 (a0.Enum.Gens.length : Int)), (29, .int .i64 (k1_12 : Int))] ⟨rfl, rfl, rfl, rfl, rfl, rfl, rfl, rfl, rfl, trivial⟩ ?_
     intro σ _
     refine Go1.drawS 5 [(0, .pure), (1, .pure), (2, .pure), (3, .pure), (4, .pure), (5, .stable), (6, .pure), (7, .pure), (8, .pure), (9, .pure), (10, .stable), (11, .pure), (12, .pure), (13, .stable), (14, .pure), (15, .loud), (16, .last), (17, .pure), (18, .pure), (19, .pure), (20, .last)] mixed (by kernel_rfl) ?_
     intro LE P5
     have fS := Stp.same hO P5
     replace hO := fS.own
     refine GoQ.pure rfl (J03 rfl) rfl rfl ?_
     refine GoQ.pure rfl (J03 rfl) rfl rfl ?_
     refine GoQ.pure rfl (J01 rfl) rfl rfl ?_
     refine GoQ.pure rfl (J00 Try.underlying156 rfl ti123 rfl (by decide)) rfl rfl ?_
     refine GoQ.pure rfl (J00 Try.underlying123 rfl ti121 rfl (by decide)) rfl rfl ?_
     refine GoQ.stable rfl (oblk (i := 7) 1 hO rfl rfl Try.underlying121 rfl rfl) rfl rfl ?_
     refine GoQ.pure rfl (J03 rfl) rfl rfl ?_
     refine GoQ.pure rfl (J03 rfl) rfl rfl ?_
     refine GoQ.pure rfl (J01 rfl) rfl rfl ?_
     refine GoQ.pure rfl (J00 Try.underlying156 rfl ti30 rfl (by decide)) rfl rfl ?_
     refine GoQ.stable rfl (oblk (i := 10) 1 hO rfl rfl Try.underlying30 rfl rfl) rfl rfl ?_
     refine GoQ.pure rfl (J03 rfl) rfl rfl ?_
     obtain ⟨FG, H⟩ := H
     obtain ⟨FH, H⟩ := H
     replace bV := bV.ch fS.ch
     refine GoQ.pure rfl (J02 Try.underlying30 ti9 rfl rfl FG (ltn (bV.neq hO 8 rfl) FH) (bV.psome hO 8 rfl FG FH)) rfl rfl ?_
     refine GoQ.stable rfl (oldStr 8 hO rfl bV FG FH Try.underlying9 rfl rfl) rfl rfl ?_
     have hle181 := Els.J2m bV FG FH
     refine GoQ.pure rfl (J0w Try.underlying185 ti185 (pl := [(0, 1), (1, 1)]) (vs := [(0, .string (gstr ((ix d_40 a0.Enum.Done) ++ (chr (IntKind.i32.wrap ((97 : Int) + (k1_12 : Int))))))), (1, .string (gstr (ix d_40 (mgt m1_52 r75))))]) (cs := #[.string (gstr ((ix d_40 a0.Enum.Done) ++ (chr (IntKind.i32.wrap ((97 : Int) + (k1_12 : Int)))))), .string (gstr (ix d_40 (mgt m1_52 r75)))]) (by kernel_rfl) rfl (by kernel_rfl)) rfl rfl ?_
     have zz := obuildN (r := rpRule) (n := 1) (parts := [(0, .agg #[.string (gstr ((ix d_40 a0.Enum.Done) ++ (chr (IntKind.i32.wrap ((97 : Int) + (k1_12 : Int)))))), .string (gstr (ix d_40 (mgt m1_52 r75)))])]) (vs := [.string (gstr ((ix d_40 a0.Enum.Done) ++ (chr (IntKind.i32.wrap ((97 : Int) + (k1_12 : Int)))))), .string (gstr (ix d_40 (mgt m1_52 r75)))]) (xs := [(⟨((ix d_40 a0.Enum.Done) ++ (chr (IntKind.i32.wrap ((97 : Int) + (k1_12 : Int))))), ix d_40 (mgt m1_52 r75)⟩ : Rule)]) Try.underlying121 ti185 hO (by decide) (by decide) (by kernel_rfl) (Els.flat1 (⟨((ix d_40 a0.Enum.Done) ++ (chr (IntKind.i32.wrap ((97 : Int) + (k1_12 : Int))))), ix d_40 (mgt m1_52 r75)⟩ : Rule) ⟨(lenApp h88), hle181⟩) rfl
     obtain ⟨YK, YL, mI, P6, P7, LF⟩ := zz
     refine GoQ.loud rfl (LF rfl) P7 rfl rfl ?_
     replace hO := mI.own
     have zz := freeze 0 hO rfl P6
     obtain ⟨hO1, rE, xp, P8⟩ := zz
     dsimp only [eS, eZ] at hO1 rE xp
     replace hB := (((((hB.trans gJ.fr).trans jJ.fr).trans gM.fr).trans fS.fr).trans mI.fr).trans (Owns.J09 _ _ 0)
     dsimp only [eS, eZ] at hB
     replace hO := hO1; clear hO1
     obtain ⟨DG, H⟩ := H
     have Z9 := ((Z1.trans fS.ch).trans mI.ch).trans rE
     replace ci := ci.ch Z9
     have zz := oapp Try.underlying121 ti185 rfl 7 hO rfl ci xp P8 DG (by decide)
     obtain ⟨YM, Hp, Hq, Fa, iN, uU, DH⟩ := zz
     dsimp only [sS, sZ] at iN uU
     refine GoQ.last rfl (DH (by exact rfl) (by exact rfl)) rfl rfl ?_
     replace hO := iN.own
     refine GoQ.pure rfl (J01 rfl) rfl rfl ?_
     refine GoQ.pure rfl (J00 Try.underlying156 rfl ti123 rfl (by decide)) rfl rfl ?_
     refine GoQ.pure rfl (J00 Try.underlying123 rfl ti121 rfl (by decide)) rfl rfl ?_
     have zz := J0h (v := .slice Hp (n39 + 1) Hq) (i := 7) (cs' := #[.int .i64 a0.Enum.Points, .bool a0.Enum.Monoid, .slice aI aH aJ, .slice p19 n21 c20, .slice p25 n27 c26, .slice p31 n33 c32, .slice aV aQ aW, .slice Hp (n39 + 1) Hq, .int .i64 a0.Enum.Done, .map (some aX), .slice p43 n45 c44, .slice p49 n51 c50, .slice bu bt bv]) 1 hO rfl rfl rfl rfl
     obtain ⟨YN, lB, LG⟩ := zz
     dsimp only [sS, sZ] at lB
     refine GoQ.last rfl (LG Try.underlying121 rfl ti121 (by exact rfl) (by exact rfl)) rfl rfl ?_
     replace hO := lB.own
     refine GoQ.nil ?_
     refine Go1.inBlock ?_
     refine Go1.cut [(0, .pointer (some ⟨fo, 0, none⟩)), (3, .int .i64 a0.Enum.Done), (4, .slice p2 a0.Enum.Gens.length a0.Enum.Gens.length), (5, .int .i64 (k1_12 : Int)), (8, .int .i64 (mgt m1_52 r75)), (27, .slice aI aH aJ), (28, .int .i64 (a0.Enum.Gens.length : Int)), (29, .int .i64 (k1_12 : Int))] ⟨rfl, rfl, rfl, rfl, rfl, rfl, rfl, rfl, trivial⟩ ?_
     intro σ _
     refine zr (zm rfl (zm rfl (zm rfl ?_)))
     obtain ⟨wQ, H⟩ := H
     obtain ⟨yb, H⟩ := H
     replace cg := ((cg.ch Z9).ch iN.ch).ch lB.ch
     refine zo (J02 Try.underlying31 ti3 rfl rfl wQ (ltn (cg.neq hO 0 rfl) yb) (cg.psome hO 0 rfl wQ yb)) ?_
     have zz := ost (r := Rp.int .i64) rfl 0 hO rfl cg wQ yb (v := .int .i64 (mgt m1_52 r75)) (u := (mgt m1_52 r75)) rfl rfl
     obtain ⟨LH, P9, i5, Js, D4⟩ := zz
     dsimp only [sS, sZ] at i5 Js
     refine zg (D4 Try.underlying3 rfl ti3 (by exact rfl) (by exact rfl)) ?_
     replace hO := i5.own
     refine zn ?_
     refine Go1.inBlock ?_
     refine zr ?_
     have Z10 := ((Z9.trans iN.ch).trans lB.ch).trans i5.ch
     replace ad := ad.ch Z10
     refine zo (J0e rfl rfl (wrap_i64 (natbd h53 ad.bd))) (zm rfl (zn ?_))
     replace uU := (uU.ch lB.ch).ch i5.ch
     replace hB := ((hB.trans iN.fr).trans lB.fr).trans i5.fr
     have Z11 := (((mI.ch.trans rE).trans iN.ch).trans lB.ch).trans i5.ch
     replace bV := bV.ch Z11
     have Z12 := ((((fS.ch.trans mI.ch).trans rE).trans iN.ch).trans lB.ch).trans i5.ch
     replace cO := cO.ch Z12
     replace cJ := cJ.ch Z12
     replace ae := ae.ch Z12
     replace bW := bW.ch Z12
     replace dN := dN.ch Z10
     replace ao := ao.ch Z10
     exact hX1 _ H _ _ ⟨P9, n21, p19, c20, lH, n27, p25, c26, nr, n33, p31, c32, ns, n39 + 1, Hp, Hq, Fa, n45, p43, c44, nu, n51, p49, c50, nw, ⟨rfl, rfl, rfl, rfl, rfl, rfl, trivial⟩, hO, Js, ad, dN, cO, cJ, ae, uU, bV, bW, ao, hB⟩
    replace H := ifn xN H
    refine zo (fun w => opB (J0D rfl rfl w) (decide_eq_false xN)) (zo (J04 rfl rfl rfl) (za rfl (zn ?_)))
    refine Go1.ret1V Try.func160 rfl (show _ = .bool false from rfl) ?_
    refine hR102 _ _ ?_
    refine zo (J04 rfl rfl rfl) (za rfl (zn (zf rfl rfl (zk ?_))))
    refine Go1.inBlock ?_
    refine zr (zm rfl (zm rfl (zm rfl ?_)))
    obtain ⟨y8, H⟩ := H
    obtain ⟨xI, H⟩ := H
    replace cg := cg.ch Z1
    refine zo (J02 Try.underlying31 ti3 rfl rfl y8 (ltn (cg.neq hO 0 rfl) xI) (cg.psome hO 0 rfl y8 xI)) ?_
    have zz := ost (r := Rp.int .i64) rfl 0 hO rfl cg y8 xI (v := .int .i64 (mgt m1_52 r75)) (u := (mgt m1_52 r75)) rfl rfl
    obtain ⟨Tv, Qa, mJ, Jt, LI⟩ := zz
    dsimp only [sS, sZ] at mJ Jt
    refine zg (LI Try.underlying3 rfl ti3 (by exact rfl) (by exact rfl)) ?_
    replace hO := mJ.own
    refine zn ?_
    refine Go1.inBlock ?_
    refine zr ?_
    replace ad := (ad.ch Z1).ch mJ.ch
    refine zo (J0e rfl rfl (wrap_i64 (natbd h53 ad.bd))) (zm rfl (zn ?_))
    replace cO := cO.ch mJ.ch
    replace cJ := cJ.ch mJ.ch
    replace ae := ae.ch mJ.ch
    replace bV := bV.ch mJ.ch
    replace bW := bW.ch mJ.ch
    have Z13 := Z1.trans mJ.ch
    replace dN := dN.ch Z13
    replace ci := ci.ch Z13
    replace ao := ao.ch Z13
    replace hB := (((hB.trans gJ.fr).trans jJ.fr).trans gM.fr).trans mJ.fr
    exact hX1 _ H _ _ ⟨Qa, n21, p19, c20, lH, n27, p25, c26, nr, n33, p31, c32, ns, n39, p37, c38, nt, n45, p43, c44, nu, n51, p49, c50, nw, ⟨rfl, rfl, rfl, rfl, rfl, rfl, trivial⟩, hO, Jt, ad, dN, cO, cJ, ae, ci, bV, bW, ao, hB⟩
   replace H := ifn FF H
   refine zo (fun w => opB (J0D rfl rfl w) (decide_eq_false FF)) (zm rfl (zp (zp (zp (zp ?_)))))
   refine zp (zp (zp (zp (zp (zp ?_)))))
   refine zo (J05 rfl rfl rfl) (za rfl (zn ?_))
   refine Go1.ret1V Try.func160 rfl (show _ = .bool false from rfl) ?_
   refine hR102 _ _ ?_
   refine zo (J04 rfl rfl rfl) (za rfl (zn (zf rfl rfl (zk ?_))))
   refine Go1.inBlock ?_
   refine Go1.cut [(0, .pointer (some ⟨fo, 0, none⟩)), (3, .int .i64 a0.Enum.Done), (4, .slice p2 a0.Enum.Gens.length a0.Enum.Gens.length), (5, .int .i64 (k1_12 : Int)), (8, .int .i64 (mgt m1_52 r75)), (27, .slice aI aH aJ), (28, .int .i64 (a0.Enum.Gens.length : Int)), (29, .int .i64 (k1_12 : Int))] ⟨rfl, rfl, rfl, rfl, rfl, rfl, rfl, rfl, trivial⟩ ?_
   intro σ _
   refine zr (zm rfl (zm rfl (zm rfl ?_)))
   obtain ⟨Hr, H⟩ := H
   obtain ⟨Hs, H⟩ := H
   replace cg := cg.ch Z1
   refine zo (J02 Try.underlying31 ti3 rfl rfl Hr (ltn (cg.neq hO 0 rfl) Hs) (cg.psome hO 0 rfl Hr Hs)) ?_
   have zz := ost (r := Rp.int .i64) rfl 0 hO rfl cg Hr Hs (v := .int .i64 (mgt m1_52 r75)) (u := (mgt m1_52 r75)) rfl rfl
   obtain ⟨YO, Qb, eV, Ju, LJ⟩ := zz
   dsimp only [sS, sZ] at eV Ju
   refine zg (LJ Try.underlying3 rfl ti3 (by exact rfl) (by exact rfl)) ?_
   replace hO := eV.own
   refine zn ?_
   refine Go1.inBlock ?_
   refine zr ?_
   replace ad := (ad.ch Z1).ch eV.ch
   refine zo (J0e rfl rfl (wrap_i64 (natbd h53 ad.bd))) (zm rfl (zn ?_))
   replace cO := cO.ch eV.ch
   replace ae := ae.ch eV.ch
   replace bV := bV.ch eV.ch
   replace bW := bW.ch eV.ch
   have Z14 := Z1.trans eV.ch
   replace dN := dN.ch Z14
   replace cJ := cJ.ch Z14
   replace ci := ci.ch Z14
   replace ao := ao.ch Z14
   replace hB := (((hB.trans gJ.fr).trans jJ.fr).trans gM.fr).trans eV.fr
   exact hX1 _ H _ _ ⟨Qb, n21, p19, c20, lH, n27, p25, c26, nr, n33, p31, c32, ns, n39, p37, c38, nt, n45, p43, c44, nu, n51, p49, c50, nw, ⟨rfl, rfl, rfl, rfl, rfl, rfl, trivial⟩, hO, Ju, ad, dN, cO, cJ, ae, ci, bV, bW, ao, hB⟩
  replace H := ifn h81 H
  refine GoQ.stable rfl (olookF (a := r75) (MK.str Try.underlying9) 11 hO rfl Try.underlying154 ti3 rfl rfl h81) rfl rfl ?_
  refine GoQ.pure rfl (J03 rfl) rfl rfl ?_
  refine GoQ.pure rfl (J07 rfl rfl) rfl rfl ?_
  refine GoQ.pure rfl (J07 rfl rfl) rfl rfl ?_
  refine GoQ.pure rfl (J0s rfl) rfl rfl ?_
  refine GoQ.pure rfl (J0s rfl) rfl rfl ?_
  refine GoQ.nil ?_
  refine zq (zr (zm rfl (zo (J01 rfl) (zo (J00 Try.underlying156 rfl ti30 rfl (by decide)) (zs (oblk (i := 10) 1 hO rfl rfl Try.underlying30 rfl rfl) ?_)))))
  refine zm rfl ?_
  obtain ⟨BQ, H⟩ := H
  obtain ⟨yM, H⟩ := H
  have Z15 := (gJ.ch.trans jJ.ch).trans gM.ch
  replace bV := bV.ch Z15
  refine zo (J02 Try.underlying30 ti9 rfl rfl BQ (ltn (bV.neq hO 8 rfl) yM) (bV.psome hO 8 rfl BQ yM)) (zs (oldStr 8 hO rfl bV BQ yM Try.underlying9 rfl rfl) ?_)
  have hle227 := Els.J2m bV BQ yM
  refine zm rfl ?_
  obtain ⟨Ub, H⟩ := H
  refine zo (J0e rfl rfl (wrap_i64 Ub)) (zo (J3O Try.underlying3 Try.underlying21 rfl rfl) ?_)
  obtain ⟨B6, H⟩ := H
  obtain ⟨Uc, H⟩ := H
  refine zo (J3p Try.underlying21 Try.underlying9 rfl B6 Uc) ?_
  obtain ⟨yw, H⟩ := H
  refine zo (J5z rfl rfl yw) (za rfl (zn (zq (zb (zq ?_)))))
  refine Go1.cut [(0, .pointer (some ⟨fo, 0, none⟩)), (3, .int .i64 a0.Enum.Done), (4, .slice p2 a0.Enum.Gens.length a0.Enum.Gens.length), (5, .int .i64 (k1_12 : Int)), (7, .slice tP r66.length tQ), (8, .int .i64 0), (9, .bool false), (10, .string (gstr ((ix d_40 a0.Enum.Done) ++ (chr (IntKind.i32.wrap ((97 : Int) + (k1_12 : Int))))))), (27, .slice aI aH aJ), (28, .int .i64 (a0.Enum.Gens.length : Int)), (29, .int .i64 (k1_12 : Int))] ⟨rfl, rfl, rfl, rfl, rfl, rfl, rfl, rfl, rfl, rfl, rfl, trivial⟩ ?_
  intro σ _
  refine zr (zm rfl (zo (J0g rfl) (zm rfl (zm rfl (zo (J01 rfl) ?_)))))
  refine zo (J00 Try.underlying156 rfl ti123 rfl (by decide)) (zo (J00 Try.underlying123 rfl ti23 rfl (by decide)) (zs (oblk (i := 3) 1 hO rfl rfl Try.underlying23 rfl rfl) ?_))
  replace dN := dN.ch Z15
  refine zo (J0A Try.underlying23 rfl (dN.neq hO 3 rfl)) ?_
  by_cases yy : (d_16.length : Int) = (2000 : Int)
  ·replace H := ifp yy H
   refine zo (fun w => opB (J0D rfl rfl w) (decide_eq_true yy)) (zo (J04 rfl rfl rfl) (za rfl (zn (zt rfl rfl (zq ?_)))))
   refine zr (za rfl (zn ?_))
   replace hO := hO.drop 0
   replace dN := dN.ch (Owns.J06 _ _ 0)
   replace bV := bV.ch (Owns.J06 _ _ 0)
   replace bC := (bC.ch gM.ch).ch (Owns.J06 _ _ 0)
   have Z16 := Z15.trans (Owns.J06 _ _ 0)
   replace ad := ad.ch Z16
   replace cO := cO.ch Z16
   replace cJ := cJ.ch Z16
   replace ae := ae.ch Z16
   replace ci := ci.ch Z16
   replace bW := bW.ch Z16
   replace ao := ao.ch Z16
   replace cA := cA.ch Z16
   replace cB := cB.ch Z16
   replace hB := (((hB.trans gJ.fr).trans jJ.fr).trans gM.fr).trans (Owns.J09 _ _ 0)
   dsimp only [eS, eZ] at hB hO cA cB bC ad dN cO cJ ae ci bV bW ao
   refine Go1.ret1 Try.func133 rfl ?_
   exact ⟨((3 : Int)), (⟨(⟨a0.Enum.Points, a0.Enum.Monoid, a0.Enum.Gens, d_16, d_22, d_28, a0.Enum.Right, d_34, a0.Enum.Done⟩ : Enum), m1_52, d_40, d_46, a0.single⟩ : run), aH, aI, aJ, cV, n21, p19, c20, lH, n27, p25, c26, nr, n33, p31, c32, ns, aQ, aV, aW, cP, n39, p37, c38, nt, n45, p43, c44, nu, n51, p49, c50, nw, bt, bu, bv, dW, rfl, hO, ad, dN, cO, cJ, ae, ci, bV, bW, ao, hB, H⟩
  replace H := ifn yy H
  refine zo (fun w => opB (J0D rfl rfl w) (decide_eq_false yy)) (zo (J04 rfl rfl rfl) (za rfl (zn (zf rfl rfl (zq ?_)))))
  refine zr (zm rfl (zo (J0g rfl) (za rfl (zn (zt rfl rfl ?_)))))
  refine zr (zm rfl (zm rfl (zm rfl (zm rfl (zm rfl ?_)))))
  refine zm rfl (zm rfl (zo (J01 rfl) (zo (J00 Try.underlying156 rfl ti31 rfl (by decide)) (zs (oblk (i := 11) 1 hO rfl rfl Try.underlying31 rfl rfl) (zm rfl ?_)))))
  obtain ⟨Ht, H⟩ := H
  obtain ⟨Hu, H⟩ := H
  replace bW := bW.ch Z15
  refine zo (J02 Try.underlying31 ti3 rfl rfl Ht (ltn (bW.neq hO 9 rfl) Hu) (bW.psome hO 9 rfl Ht Hu)) (zs (oldInt 9 hO rfl bW Ht Hu Try.underlying3 rfl rfl) (zm rfl ?_))
  refine GoR.inl (vs := [.pointer (some ⟨fo, 0, none⟩), .int .i64 (ix d_46 a0.Enum.Done), .int .i64 (k1_12 : Int)]) (caps := []) rfl rfl body159 Try.func159 rfl Try.ntmps159 rfl rfl rfl ?_
  intro RhR235 hR235
  refine zq ?_
  refine Go1.cut [(0, .pointer (some ⟨fo, 0, none⟩)), (1, .int .i64 (ix d_46 a0.Enum.Done)), (2, .int .i64 (k1_12 : Int))] ⟨rfl, rfl, rfl, trivial⟩ ?_
  intro σ _
  refine zr (za rfl (zn (zq (zq (zr ?_)))))
  refine zm rfl ?_
  by_cases FI : (ix d_46 a0.Enum.Done) = (-1 : Int)
  ·replace H := ifp FI H
   refine zo (fun w => opB (J0D rfl rfl w) (decide_eq_true FI)) (zn (zt rfl rfl (zq (zr (zm rfl ?_)))))
   refine zo (J01 rfl) (zo (J00 Try.underlying156 rfl ti31 rfl (by decide)) (zs (oblk (i := 12) 1 hO rfl rfl Try.underlying31 rfl rfl) (zm rfl ?_)))
   obtain ⟨Hv, H⟩ := H
   obtain ⟨Hw, H⟩ := H
   replace ao := ao.ch Z15
   refine zo (J02 Try.underlying31 ti3 rfl rfl Hv (ltn (ao.neq hO 10 rfl) Hw) (ao.psome hO 10 rfl Hv Hw)) (zs (oldInt 10 hO rfl ao Hv Hw Try.underlying3 rfl rfl) (za rfl (zn ?_)))
   refine Go1.ret1V Try.func159 rfl (show _ = .int .i64 (ix a0.single (k1_12 : Int)) from rfl) ?_
   refine hR235 _ _ ?_
   refine GoR.inl (vs := [.pointer (some ⟨fo, 0, none⟩), .slice tP r66.length tQ, .int .i64 a0.Enum.Done, .int .i64 (k1_12 : Int), .string (gstr ((ix d_40 a0.Enum.Done) ++ (chr (IntKind.i32.wrap ((97 : Int) + (k1_12 : Int)))))), .int .i64 (ix a0.single (k1_12 : Int))]) (caps := []) rfl rfl body155 Try.func155 rfl Try.ntmps155 rfl rfl rfl ?_
   intro RhR239 hR239
   refine zq (zr (za rfl (zn (zq (zr ?_)))))
   refine zm rfl (zo (J01 rfl) (zo (J00 Try.underlying156 rfl ti123 rfl (by decide)) (zo (J00 Try.underlying123 rfl ti23 rfl (by decide)) (zs (oblk (i := 3) 1 hO rfl rfl Try.underlying23 rfl rfl) (zo (J0A Try.underlying23 rfl (dN.neq hO 3 rfl)) ?_)))))
   refine za rfl (zn (zq ?_))
   refine Go1.cut [(0, .pointer (some ⟨fo, 0, none⟩)), (1, .slice tP r66.length tQ), (2, .int .i64 a0.Enum.Done), (3, .int .i64 (k1_12 : Int)), (4, .string (gstr ((ix d_40 a0.Enum.Done) ++ (chr (IntKind.i32.wrap ((97 : Int) + (k1_12 : Int))))))), (5, .int .i64 (ix a0.single (k1_12 : Int))), (13, .int .i64 (d_16.length : Int))] ⟨rfl, rfl, rfl, rfl, rfl, rfl, rfl, trivial⟩ ?_
   intro σ _
   refine Go1.drawS 1 [(0, .pure), (1, .pure), (2, .pure), (3, .stable), (4, .pure), (6, .pure), (5, .loud), (7, .last)] mixed (by kernel_rfl) ?_
   intro Tx Fo
   have nB := Stp.same hO Fo
   replace hO := nB.own
   refine GoQ.pure rfl (J03 rfl) rfl rfl ?_
   refine GoQ.pure rfl (J01 rfl) rfl rfl ?_
   refine GoQ.pure rfl (J00 Try.underlying156 rfl ti154 rfl (by decide)) rfl rfl ?_
   refine GoQ.stable rfl (oblk (i := 9) 1 hO rfl rfl Try.underlying154 rfl rfl) rfl rfl ?_
   refine GoQ.pure rfl (J03 rfl) rfl rfl ?_
   refine GoQ.pure rfl (J03 rfl) rfl rfl ?_
   replace bC := (bC.ch gM.ch).ch nB.ch
   refine GoQ.call rfl (J0a body157 rfl (J0p hO.lt bC H)) (fun v w hr => by obtain ⟨_, _, hs, _, _⟩ := hr; assumption) rfl rfl ?_
   rintro YP YQ ⟨r243, rfl, Qc, Vf, H⟩
   have nC := Stp.same hO Qc
   replace hO := nC.own
   have zz := omapUpd (MK.str Try.underlying9) 11 hO rfl Try.underlying154 r243 (d_16.length : Int)
   obtain ⟨YR, mK, LK⟩ := zz
   dsimp only [sS, sZ] at mK
   refine GoQ.last rfl (LK (by exact rfl) (by exact rfl) (by exact rfl)) rfl rfl ?_
   replace hO := mK.own
   refine GoQ.nil ?_
   refine zq (zr (zm rfl (zm rfl (zo (J01 rfl) (zo (J00 Try.underlying156 rfl ti123 rfl (by decide)) ?_)))))
   refine zo (J00 Try.underlying123 rfl ti23 rfl (by decide)) (zs (oblk (i := 3) 1 hO rfl rfl Try.underlying23 rfl rfl) (zm rfl ?_))
   replace bC := (bC.ch nC.ch).ch mK.ch
   have zz := J0n (r := Rp.sl (Rp.int .i64)) (n := 1) (parts := [(0, .slice tP r66.length tQ)]) (vs := [.slice tP r66.length tQ]) (xs := [r66]) rfl Try.underlying23 ti31 hO (by decide) (by kernel_rfl) (Els.cons rfl ⟨tP, tQ, rfl, bC⟩ (Els.nil _ _ _) (by simp [mx])) rfl
   obtain ⟨YS, YT, nE, Qd, VO, Dk⟩ := zz
   refine zg (Dk rfl) ?_
   replace hO := nE.own
   have zz := freeze 0 hO rfl Qd
   obtain ⟨hO1, tm, gc, Qe⟩ := zz
   dsimp only [eS, eZ] at hO1 tm gc
   replace hB := (((((((hB.trans gJ.fr).trans jJ.fr).trans gM.fr).trans nB.fr).trans nC.fr).trans mK.fr).trans nE.fr).trans (Owns.J09 _ _ 0)
   dsimp only [eS, eZ] at hB
   replace hO := hO1; clear hO1
   obtain ⟨D5, H⟩ := H
   have Z17 := (((nB.ch.trans nC.ch).trans mK.ch).trans nE.ch).trans tm
   replace dN := dN.ch Z17
   have zz := oapp Try.underlying23 ti31 rfl 3 hO rfl dN gc Qe D5 (by decide)
   obtain ⟨YU, AI, AJ, Qf, mM, gx, LN⟩ := zz
   dsimp only [sS, sZ] at mM gx
   refine zg (LN (by exact rfl) (by exact rfl)) ?_
   replace hO := mM.own
   refine zo (J01 rfl) (zo (J00 Try.underlying156 rfl ti123 rfl (by decide)) (zo (J00 Try.underlying123 rfl ti23 rfl (by decide)) ?_))
   have zz := J0h (v := .slice AI (n21 + 1) AJ) (i := 3) (cs' := #[.int .i64 a0.Enum.Points, .bool a0.Enum.Monoid, .slice aI aH aJ, .slice AI (n21 + 1) AJ, .slice p25 n27 c26, .slice p31 n33 c32, .slice aV aQ aW, .slice p37 n39 c38, .int .i64 a0.Enum.Done, .map (some aX), .slice p43 n45 c44, .slice p49 n51 c50, .slice bu bt bv]) 1 hO rfl rfl rfl rfl
   obtain ⟨LO, l5, LP⟩ := zz
   dsimp only [sS, sZ] at l5
   refine zg (LP Try.underlying23 rfl ti23 (by exact rfl) (by exact rfl)) ?_
   replace hO := l5.own
   refine zn (zq ?_)
   refine Go1.cut [(0, .pointer (some ⟨fo, 0, none⟩)), (2, .int .i64 a0.Enum.Done), (3, .int .i64 (k1_12 : Int)), (4, .string (gstr ((ix d_40 a0.Enum.Done) ++ (chr (IntKind.i32.wrap ((97 : Int) + (k1_12 : Int))))))), (5, .int .i64 (ix a0.single (k1_12 : Int))), (13, .int .i64 (d_16.length : Int))] ⟨rfl, rfl, rfl, rfl, rfl, rfl, trivial⟩ ?_
   intro σ _
   refine zr (zm rfl (zm rfl (zo (J01 rfl) (zo (J00 Try.underlying156 rfl ti123 rfl (by decide)) (zo (J00 Try.underlying123 rfl ti31 rfl (by decide)) ?_)))))
   refine zs (oblk (i := 4) 1 hO rfl rfl Try.underlying31 rfl rfl) (zm rfl ?_)
   have zz := J0n (r := Rp.int .i64) (n := 1) (parts := [(0, .int .i64 a0.Enum.Done)]) (vs := [.int .i64 a0.Enum.Done]) (xs := [a0.Enum.Done]) rfl Try.underlying31 ti3 hO (by decide) (by kernel_rfl) (Els.cons rfl rfl (Els.nil _ _ _) (by simp [mx])) rfl
   obtain ⟨YV, YW, mO, Qg, VP, LQ⟩ := zz
   refine zg (LQ rfl) ?_
   replace hO := mO.own
   have zz := freeze 0 hO rfl Qg
   obtain ⟨hO1, rF, iv, Qh⟩ := zz
   dsimp only [eS, eZ] at hO1 rF iv
   replace hB := (((hB.trans mM.fr).trans l5.fr).trans mO.fr).trans (Owns.J09 _ _ 0)
   dsimp only [eS, eZ] at hB
   replace hO := hO1; clear hO1
   obtain ⟨B7, H⟩ := H
   have Z18 := ((((((((Z15.trans nB.ch).trans nC.ch).trans mK.ch).trans nE.ch).trans tm).trans mM.ch).trans l5.ch).trans mO.ch).trans rF
   replace cO := cO.ch Z18
   have zz := oapp Try.underlying31 ti3 rfl 4 hO rfl cO iv Qh B7 (by decide)
   obtain ⟨SJ, B9, Ca, Qi, l7, iT, LS⟩ := zz
   dsimp only [sS, sZ] at l7 iT
   refine zg (LS (by exact rfl) (by exact rfl)) ?_
   replace hO := l7.own
   refine zo (J01 rfl) (zo (J00 Try.underlying156 rfl ti123 rfl (by decide)) (zo (J00 Try.underlying123 rfl ti31 rfl (by decide)) ?_))
   have zz := J0h (v := .slice B9 (n27 + 1) Ca) (i := 4) (cs' := #[.int .i64 a0.Enum.Points, .bool a0.Enum.Monoid, .slice aI aH aJ, .slice AI (n21 + 1) AJ, .slice B9 (n27 + 1) Ca, .slice p31 n33 c32, .slice aV aQ aW, .slice p37 n39 c38, .int .i64 a0.Enum.Done, .map (some aX), .slice p43 n45 c44, .slice p49 n51 c50, .slice bu bt bv]) 1 hO rfl rfl rfl rfl
   obtain ⟨YX, gm, LT⟩ := zz
   dsimp only [sS, sZ] at gm
   refine zg (LT Try.underlying31 rfl ti31 (by exact rfl) (by exact rfl)) ?_
   replace hO := gm.own
   refine zn (zq (zr (zm rfl (zm rfl (zo (J01 rfl) ?_)))))
   refine zo (J00 Try.underlying156 rfl ti123 rfl (by decide)) (zo (J00 Try.underlying123 rfl ti31 rfl (by decide)) (zs (oblk (i := 5) 1 hO rfl rfl Try.underlying31 rfl rfl) (zm rfl ?_)))
   have zz := J0n (r := Rp.int .i64) (n := 1) (parts := [(0, .int .i64 (k1_12 : Int))]) (vs := [.int .i64 (k1_12 : Int)]) (xs := [(k1_12 : Int)]) rfl Try.underlying31 ti3 hO (by decide) (by kernel_rfl) (Els.cons rfl rfl (Els.nil _ _ _) (by simp [mx])) rfl
   obtain ⟨Ud, YY, l8, Qj, VQ, LU⟩ := zz
   refine zg (LU rfl) ?_
   replace hO := l8.own
   have zz := freeze 0 hO rfl Qj
   obtain ⟨hO1, pN, kc, Qk⟩ := zz
   dsimp only [eS, eZ] at hO1 pN kc
   replace hB := (((hB.trans l7.fr).trans gm.fr).trans l8.fr).trans (Owns.J09 _ _ 0)
   dsimp only [eS, eZ] at hB
   replace hO := hO1; clear hO1
   obtain ⟨Ue, H⟩ := H
   have Z19 := (((Z18.trans l7.ch).trans gm.ch).trans l8.ch).trans pN
   replace cJ := cJ.ch Z19
   have zz := oapp Try.underlying31 ti3 rfl 5 hO rfl cJ kc Qk Ue (by decide)
   obtain ⟨Uf, D6, D7, Ql, lC, f6, LV⟩ := zz
   dsimp only [sS, sZ] at lC f6
   refine zg (LV (by exact rfl) (by exact rfl)) ?_
   replace hO := lC.own
   refine zo (J01 rfl) (zo (J00 Try.underlying156 rfl ti123 rfl (by decide)) (zo (J00 Try.underlying123 rfl ti31 rfl (by decide)) ?_))
   have zz := J0h (v := .slice D6 (n33 + 1) D7) (i := 5) (cs' := #[.int .i64 a0.Enum.Points, .bool a0.Enum.Monoid, .slice aI aH aJ, .slice AI (n21 + 1) AJ, .slice B9 (n27 + 1) Ca, .slice D6 (n33 + 1) D7, .slice aV aQ aW, .slice p37 n39 c38, .int .i64 a0.Enum.Done, .map (some aX), .slice p43 n45 c44, .slice p49 n51 c50, .slice bu bt bv]) 1 hO rfl rfl rfl rfl
   obtain ⟨Y0, kD, LX⟩ := zz
   dsimp only [sS, sZ] at kD
   refine zg (LX Try.underlying31 rfl ti31 (by exact rfl) (by exact rfl)) ?_
   replace hO := kD.own
   refine zn (zq ?_)
   refine Go1.cut [(0, .pointer (some ⟨fo, 0, none⟩)), (4, .string (gstr ((ix d_40 a0.Enum.Done) ++ (chr (IntKind.i32.wrap ((97 : Int) + (k1_12 : Int))))))), (5, .int .i64 (ix a0.single (k1_12 : Int))), (13, .int .i64 (d_16.length : Int))] ⟨rfl, rfl, rfl, rfl, trivial⟩ ?_
   intro σ _
   refine zr (zm rfl (zm rfl (zo (J01 rfl) (zo (J00 Try.underlying156 rfl ti30 rfl (by decide)) (zs (oblk (i := 10) 1 hO rfl rfl Try.underlying30 rfl rfl) ?_)))))
   refine zm rfl ?_
   have zz := J0n (r := Rp.str) (n := 1) (parts := [(0, .string (gstr ((ix d_40 a0.Enum.Done) ++ (chr (IntKind.i32.wrap ((97 : Int) + (k1_12 : Int)))))))]) (vs := [.string (gstr ((ix d_40 a0.Enum.Done) ++ (chr (IntKind.i32.wrap ((97 : Int) + (k1_12 : Int))))))]) (xs := [(ix d_40 a0.Enum.Done) ++ (chr (IntKind.i32.wrap ((97 : Int) + (k1_12 : Int))))]) rfl Try.underlying30 ti9 hO (by decide) (by kernel_rfl) (Els.cons rfl ⟨rfl, (lenApp yw)⟩ (Els.nil _ _ _) (by simp [mx])) rfl
   obtain ⟨LY, Y1, lD, Qm, VR, L1⟩ := zz
   refine zg (L1 rfl) ?_
   replace hO := lD.own
   have zz := freeze 0 hO rfl Qm
   obtain ⟨hO1, g6, pO, Qn⟩ := zz
   dsimp only [eS, eZ] at hO1 g6 pO
   replace hB := (((hB.trans lC.fr).trans kD.fr).trans lD.fr).trans (Owns.J09 _ _ 0)
   dsimp only [eS, eZ] at hB
   replace hO := hO1; clear hO1
   obtain ⟨Ug, H⟩ := H
   have Z20 := (((((((((((Z17.trans mM.ch).trans l5.ch).trans mO.ch).trans rF).trans l7.ch).trans gm.ch).trans l8.ch).trans pN).trans lC.ch).trans kD.ch).trans lD.ch).trans g6
   replace bV := bV.ch Z20
   have zz := oapp Try.underlying30 ti9 rfl 8 hO rfl bV pO Qn Ug (by decide)
   obtain ⟨Y2, FJ, FK, Qo, kE, tn, L5⟩ := zz
   dsimp only [sS, sZ] at kE tn
   refine zg (L5 (by exact rfl) (by exact rfl)) ?_
   replace hO := kE.own
   refine zo (J01 rfl) (zo (J00 Try.underlying156 rfl ti30 rfl (by decide)) ?_)
   have zz := J0h (v := .slice FJ (n45 + 1) FK) (i := 10) (cs' := #[.int .i64 a0.Enum.Points, .bool a0.Enum.Monoid, .slice aI aH aJ, .slice AI (n21 + 1) AJ, .slice B9 (n27 + 1) Ca, .slice D6 (n33 + 1) D7, .slice aV aQ aW, .slice p37 n39 c38, .int .i64 a0.Enum.Done, .map (some aX), .slice FJ (n45 + 1) FK, .slice p49 n51 c50, .slice bu bt bv]) 1 hO rfl rfl rfl rfl
   obtain ⟨Y3, j6, L6⟩ := zz
   dsimp only [sS, sZ] at j6
   refine zg (L6 Try.underlying30 rfl ti30 (by exact rfl) (by exact rfl)) ?_
   replace hO := j6.own
   refine zn (zq (zr (zm rfl (zm rfl (zo (J01 rfl) ?_)))))
   refine zo (J00 Try.underlying156 rfl ti31 rfl (by decide)) (zs (oblk (i := 11) 1 hO rfl rfl Try.underlying31 rfl rfl) (zm rfl ?_))
   have zz := J0n (r := Rp.int .i64) (n := 1) (parts := [(0, .int .i64 (ix a0.single (k1_12 : Int)))]) (vs := [.int .i64 (ix a0.single (k1_12 : Int))]) (xs := [(ix a0.single (k1_12 : Int))]) rfl Try.underlying31 ti3 hO (by decide) (by kernel_rfl) (Els.cons rfl rfl (Els.nil _ _ _) (by simp [mx])) rfl
   obtain ⟨Y4, Y5, kF, Qp, VS, Do⟩ := zz
   refine zg (Do rfl) ?_
   replace hO := kF.own
   have zz := freeze 0 hO rfl Qp
   obtain ⟨hO1, nU, xq, Qq⟩ := zz
   dsimp only [eS, eZ] at hO1 nU xq
   replace hB := (((hB.trans kE.fr).trans j6.fr).trans kF.fr).trans (Owns.J09 _ _ 0)
   dsimp only [eS, eZ] at hB
   replace hO := hO1; clear hO1
   obtain ⟨D8, H⟩ := H
   have Z21 := (((Z20.trans kE.ch).trans j6.ch).trans kF.ch).trans nU
   replace bW := bW.ch Z21
   have zz := oapp Try.underlying31 ti3 rfl 9 hO rfl bW xq Qq D8 (by decide)
   obtain ⟨Y6, Hx, Hy, Qr, j7, zO, Dp⟩ := zz
   dsimp only [sS, sZ] at j7 zO
   refine zg (Dp (by exact rfl) (by exact rfl)) ?_
   replace hO := j7.own
   refine zo (J01 rfl) (zo (J00 Try.underlying156 rfl ti31 rfl (by decide)) ?_)
   have zz := J0h (v := .slice Hx (n51 + 1) Hy) (i := 11) (cs' := #[.int .i64 a0.Enum.Points, .bool a0.Enum.Monoid, .slice aI aH aJ, .slice AI (n21 + 1) AJ, .slice B9 (n27 + 1) Ca, .slice D6 (n33 + 1) D7, .slice aV aQ aW, .slice p37 n39 c38, .int .i64 a0.Enum.Done, .map (some aX), .slice FJ (n45 + 1) FK, .slice Hx (n51 + 1) Hy, .slice bu bt bv]) 1 hO rfl rfl rfl rfl
   obtain ⟨Y7, fm, L7⟩ := zz
   dsimp only [sS, sZ] at fm
   refine zg (L7 Try.underlying31 rfl ti31 (by exact rfl) (by exact rfl)) ?_
   replace hO := fm.own
   refine zn (zq ?_)
   refine Go1.cut [(13, .int .i64 (d_16.length : Int))] ⟨rfl, trivial⟩ ?_
   intro σ _
   refine zr (zm rfl (za rfl (zn ?_)))
   refine Go1.ret1V Try.func155 rfl (show _ = .int .i64 (d_16.length : Int) from rfl) ?_
   refine hR239 _ _ ?_
   refine za rfl (zn ?_)
   refine Go1.inBlock ?_
   refine zr (zm rfl (zm rfl (zm rfl ?_)))
   obtain ⟨Hz, H⟩ := H
   obtain ⟨HA, H⟩ := H
   have Z22 := (((((((((Z19.trans lC.ch).trans kD.ch).trans lD.ch).trans g6).trans kE.ch).trans j6.ch).trans kF.ch).trans nU).trans j7.ch).trans fm.ch
   replace cg := cg.ch Z22
   refine zo (J02 Try.underlying31 ti3 rfl rfl Hz (ltn (cg.neq hO 0 rfl) HA) (cg.psome hO 0 rfl Hz HA)) ?_
   have zz := ost (r := Rp.int .i64) rfl 0 hO rfl cg Hz HA (v := .int .i64 (d_16.length : Int)) (u := (d_16.length : Int)) rfl rfl
   obtain ⟨SQ, Qs, j8, Jv, L8⟩ := zz
   dsimp only [sS, sZ] at j8 Jv
   refine zg (L8 Try.underlying3 rfl ti3 (by exact rfl) (by exact rfl)) ?_
   replace hO := j8.own
   refine zn ?_
   refine Go1.inBlock ?_
   refine zr ?_
   replace ad := (ad.ch Z22).ch j8.ch
   refine zo (J0e rfl rfl (wrap_i64 (natbd h53 ad.bd))) (zm rfl (zn ?_))
   replace zO := (zO.ch fm.ch).ch j8.ch
   replace hB := ((hB.trans j7.fr).trans fm.fr).trans j8.fr
   have Z23 := ((((j6.ch.trans kF.ch).trans nU).trans j7.ch).trans fm.ch).trans j8.ch
   replace tn := tn.ch Z23
   have Z24 := ((((((((kD.ch.trans lD.ch).trans g6).trans kE.ch).trans j6.ch).trans kF.ch).trans nU).trans j7.ch).trans fm.ch).trans j8.ch
   replace f6 := f6.ch Z24
   have Z25 := ((((((((((((gm.ch.trans l8.ch).trans pN).trans lC.ch).trans kD.ch).trans lD.ch).trans g6).trans kE.ch).trans j6.ch).trans kF.ch).trans nU).trans j7.ch).trans fm.ch).trans j8.ch
   replace iT := iT.ch Z25
   have Z26 := ((((((((((((((((l5.ch.trans mO.ch).trans rF).trans l7.ch).trans gm.ch).trans l8.ch).trans pN).trans lC.ch).trans kD.ch).trans lD.ch).trans g6).trans kE.ch).trans j6.ch).trans kF.ch).trans nU).trans j7.ch).trans fm.ch).trans j8.ch
   replace gx := gx.ch Z26
   have Z27 := ((Z21.trans j7.ch).trans fm.ch).trans j8.ch
   replace ao := ao.ch Z27
   have Z28 := Z22.trans j8.ch
   replace ae := ae.ch Z28
   replace ci := ci.ch Z28
   exact hX1 _ H _ _ ⟨Qs, n21 + 1, AI, AJ, Qf, n27 + 1, B9, Ca, Qi, n33 + 1, D6, D7, Ql, n39, p37, c38, nt, n45 + 1, FJ, FK, Qo, n51 + 1, Hx, Hy, Qr, ⟨rfl, rfl, rfl, rfl, rfl, rfl, trivial⟩, hO, Jv, ad, gx, iT, f6, ae, ci, tn, zO, ao, hB⟩
  replace H := ifn FI H
  refine zo (fun w => opB (J0D rfl rfl w) (decide_eq_false FI)) (zn (zf rfl rfl (zk (zq (zr ?_)))))
  refine zm rfl (zo (J01 rfl) (zo (J00 Try.underlying156 rfl ti123 rfl (by decide)) (zo (J00 Try.underlying123 rfl ti23 rfl (by decide)) (zs (oblk (i := 6) 1 hO rfl rfl Try.underlying23 rfl rfl) (zm rfl ?_)))))
  obtain ⟨HB, H⟩ := H
  obtain ⟨HC, H⟩ := H
  replace ae := ae.ch Z15
  refine zo (J02 Try.underlying23 ti31 rfl rfl HB (ltn (ae.neq hO 6 rfl) HC) (ae.psome hO 6 rfl HB HC)) ?_
  have zz := oldSl 6 hO rfl ae HB HC
  obtain ⟨Y8, Y9, fy, Qt⟩ := zz
  refine zs (Qt Try.underlying31 rfl rfl) (zm rfl ?_)
  obtain ⟨yf, H⟩ := H
  obtain ⟨HD, H⟩ := H
  refine zo (J02 Try.underlying31 ti3 rfl rfl yf HD (fy.some_ yf HD)) (zs (ldInt fy yf HD Try.underlying3 rfl rfl) (za rfl (zn ?_)))
  refine Go1.ret1V Try.func159 rfl (show _ = .int .i64 (ix (ix a0.Enum.Right (ix d_46 a0.Enum.Done)) (k1_12 : Int)) from rfl) ?_
  refine hR235 _ _ ?_
  refine GoR.inl (vs := [.pointer (some ⟨fo, 0, none⟩), .slice tP r66.length tQ, .int .i64 a0.Enum.Done, .int .i64 (k1_12 : Int), .string (gstr ((ix d_40 a0.Enum.Done) ++ (chr (IntKind.i32.wrap ((97 : Int) + (k1_12 : Int)))))), .int .i64 (ix (ix a0.Enum.Right (ix d_46 a0.Enum.Done)) (k1_12 : Int))]) (caps := []) rfl rfl body155 Try.func155 rfl Try.ntmps155 rfl rfl rfl ?_
  intro RhR377 hR377
  refine zq ?_
  refine Go1.cut [(0, .pointer (some ⟨fo, 0, none⟩)), (1, .slice tP r66.length tQ), (2, .int .i64 a0.Enum.Done), (3, .int .i64 (k1_12 : Int)), (4, .string (gstr ((ix d_40 a0.Enum.Done) ++ (chr (IntKind.i32.wrap ((97 : Int) + (k1_12 : Int))))))), (5, .int .i64 (ix (ix a0.Enum.Right (ix d_46 a0.Enum.Done)) (k1_12 : Int)))] ⟨rfl, rfl, rfl, rfl, rfl, rfl, trivial⟩ ?_
  intro σ _
  refine zr (za rfl (zn (zq (zr (zm rfl ?_)))))
  refine zo (J01 rfl) (zo (J00 Try.underlying156 rfl ti123 rfl (by decide)) (zo (J00 Try.underlying123 rfl ti23 rfl (by decide)) (zs (oblk (i := 3) 1 hO rfl rfl Try.underlying23 rfl rfl) (zo (J0A Try.underlying23 rfl (dN.neq hO 3 rfl)) (za rfl ?_)))))
  refine zn (zq ?_)
  refine Go1.drawS 1 [(0, .pure), (1, .pure), (2, .pure), (3, .stable), (4, .pure), (6, .pure), (5, .loud), (7, .last)] mixed (by kernel_rfl) ?_
  intro aaa Qu
  have mP := Stp.same hO Qu
  replace hO := mP.own
  refine GoQ.pure rfl (J03 rfl) rfl rfl ?_
  refine GoQ.pure rfl (J01 rfl) rfl rfl ?_
  refine GoQ.pure rfl (J00 Try.underlying156 rfl ti154 rfl (by decide)) rfl rfl ?_
  refine GoQ.stable rfl (oblk (i := 9) 1 hO rfl rfl Try.underlying154 rfl rfl) rfl rfl ?_
  refine GoQ.pure rfl (J03 rfl) rfl rfl ?_
  refine GoQ.pure rfl (J03 rfl) rfl rfl ?_
  replace bC := (bC.ch gM.ch).ch mP.ch
  refine GoQ.call rfl (J0a body157 rfl (J0p hO.lt bC H)) (fun v w hr => by obtain ⟨_, _, hs, _, _⟩ := hr; assumption) rfl rfl ?_
  rintro aab aac ⟨r381, rfl, Qv, Vg, H⟩
  have gO := Stp.same hO Qv
  replace hO := gO.own
  have zz := omapUpd (MK.str Try.underlying9) 11 hO rfl Try.underlying154 r381 (d_16.length : Int)
  obtain ⟨aad, gH, Du⟩ := zz
  dsimp only [sS, sZ] at gH
  refine GoQ.last rfl (Du (by exact rfl) (by exact rfl) (by exact rfl)) rfl rfl ?_
  replace hO := gH.own
  refine GoQ.nil ?_
  refine zq (zr (zm rfl (zm rfl (zo (J01 rfl) (zo (J00 Try.underlying156 rfl ti123 rfl (by decide)) ?_)))))
  refine zo (J00 Try.underlying123 rfl ti23 rfl (by decide)) (zs (oblk (i := 3) 1 hO rfl rfl Try.underlying23 rfl rfl) (zm rfl ?_))
  replace bC := (bC.ch gO.ch).ch gH.ch
  have zz := J0n (r := Rp.sl (Rp.int .i64)) (n := 1) (parts := [(0, .slice tP r66.length tQ)]) (vs := [.slice tP r66.length tQ]) (xs := [r66]) rfl Try.underlying23 ti31 hO (by decide) (by kernel_rfl) (Els.cons rfl ⟨tP, tQ, rfl, bC⟩ (Els.nil _ _ _) (by simp [mx])) rfl
  obtain ⟨aae, Uh, gP, Qw, VU, L9⟩ := zz
  refine zg (L9 rfl) ?_
  replace hO := gP.own
  have zz := freeze 0 hO rfl Qw
  obtain ⟨hO1, rG, gf, Qx⟩ := zz
  dsimp only [eS, eZ] at hO1 rG gf
  replace hB := (((((((hB.trans gJ.fr).trans jJ.fr).trans gM.fr).trans mP.fr).trans gO.fr).trans gH.fr).trans gP.fr).trans (Owns.J09 _ _ 0)
  dsimp only [eS, eZ] at hB
  replace hO := hO1; clear hO1
  obtain ⟨h400, H⟩ := H
  have Z29 := (((mP.ch.trans gO.ch).trans gH.ch).trans gP.ch).trans rG
  replace dN := dN.ch Z29
  have zz := oapp Try.underlying23 ti31 rfl 3 hO rfl dN gf Qx h400 (by decide)
  obtain ⟨SS, AK, AM, ov, gq, dC, D9⟩ := zz
  dsimp only [sS, sZ] at gq dC
  refine zg (D9 (by exact rfl) (by exact rfl)) ?_
  replace hO := gq.own
  refine zo (J01 rfl) (zo (J00 Try.underlying156 rfl ti123 rfl (by decide)) (zo (J00 Try.underlying123 rfl ti23 rfl (by decide)) ?_))
  have zz := J0h (v := .slice AK (n21 + 1) AM) (i := 3) (cs' := #[.int .i64 a0.Enum.Points, .bool a0.Enum.Monoid, .slice aI aH aJ, .slice AK (n21 + 1) AM, .slice p25 n27 c26, .slice p31 n33 c32, .slice aV aQ aW, .slice p37 n39 c38, .int .i64 a0.Enum.Done, .map (some aX), .slice p43 n45 c44, .slice p49 n51 c50, .slice bu bt bv]) 1 hO rfl rfl rfl rfl
  obtain ⟨aaf, gn, Ma⟩ := zz
  dsimp only [sS, sZ] at gn
  refine zg (Ma Try.underlying23 rfl ti23 (by exact rfl) (by exact rfl)) ?_
  replace hO := gn.own
  refine zn (zq ?_)
  refine Go1.cut [(0, .pointer (some ⟨fo, 0, none⟩)), (2, .int .i64 a0.Enum.Done), (3, .int .i64 (k1_12 : Int)), (4, .string (gstr ((ix d_40 a0.Enum.Done) ++ (chr (IntKind.i32.wrap ((97 : Int) + (k1_12 : Int))))))), (5, .int .i64 (ix (ix a0.Enum.Right (ix d_46 a0.Enum.Done)) (k1_12 : Int))), (13, .int .i64 (d_16.length : Int))] ⟨rfl, rfl, rfl, rfl, rfl, rfl, trivial⟩ ?_
  intro σ _
  refine zr (zm rfl (zm rfl (zo (J01 rfl) (zo (J00 Try.underlying156 rfl ti123 rfl (by decide)) (zo (J00 Try.underlying123 rfl ti31 rfl (by decide)) ?_)))))
  refine zs (oblk (i := 4) 1 hO rfl rfl Try.underlying31 rfl rfl) (zm rfl ?_)
  have zz := J0n (r := Rp.int .i64) (n := 1) (parts := [(0, .int .i64 a0.Enum.Done)]) (vs := [.int .i64 a0.Enum.Done]) (xs := [a0.Enum.Done]) rfl Try.underlying31 ti3 hO (by decide) (by kernel_rfl) (Els.cons rfl rfl (Els.nil _ _ _) (by simp [mx])) rfl
  obtain ⟨aag, aah, fL, yz, Jw, Ea⟩ := zz
  refine zg (Ea rfl) ?_
  replace hO := fL.own
  have zz := freeze 0 hO rfl yz
  obtain ⟨hO1, pP, iw, Qy⟩ := zz
  dsimp only [eS, eZ] at hO1 pP iw
  replace hB := (((hB.trans gq.fr).trans gn.fr).trans fL.fr).trans (Owns.J09 _ _ 0)
  dsimp only [eS, eZ] at hB
  replace hO := hO1; clear hO1
  obtain ⟨Eb, H⟩ := H
  have Z30 := ((((((((Z15.trans mP.ch).trans gO.ch).trans gH.ch).trans gP.ch).trans rG).trans gq.ch).trans gn.ch).trans fL.ch).trans pP
  replace cO := cO.ch Z30
  have zz := oapp Try.underlying31 ti3 rfl 4 hO rfl cO iw Qy Eb (by decide)
  obtain ⟨aai, Cb, Cc, Qz, iO, ir, Mb⟩ := zz
  dsimp only [sS, sZ] at iO ir
  refine zg (Mb (by exact rfl) (by exact rfl)) ?_
  replace hO := iO.own
  refine zo (J01 rfl) (zo (J00 Try.underlying156 rfl ti123 rfl (by decide)) (zo (J00 Try.underlying123 rfl ti31 rfl (by decide)) ?_))
  have zz := J0h (v := .slice Cb (n27 + 1) Cc) (i := 4) (cs' := #[.int .i64 a0.Enum.Points, .bool a0.Enum.Monoid, .slice aI aH aJ, .slice AK (n21 + 1) AM, .slice Cb (n27 + 1) Cc, .slice p31 n33 c32, .slice aV aQ aW, .slice p37 n39 c38, .int .i64 a0.Enum.Done, .map (some aX), .slice p43 n45 c44, .slice p49 n51 c50, .slice bu bt bv]) 1 hO rfl rfl rfl rfl
  obtain ⟨aaj, kG, Mc⟩ := zz
  dsimp only [sS, sZ] at kG
  refine zg (Mc Try.underlying31 rfl ti31 (by exact rfl) (by exact rfl)) ?_
  replace hO := kG.own
  refine zn (zq (zr (zm rfl (zm rfl (zo (J01 rfl) ?_)))))
  refine zo (J00 Try.underlying156 rfl ti123 rfl (by decide)) (zo (J00 Try.underlying123 rfl ti31 rfl (by decide)) (zs (oblk (i := 5) 1 hO rfl rfl Try.underlying31 rfl rfl) (zm rfl ?_)))
  have zz := J0n (r := Rp.int .i64) (n := 1) (parts := [(0, .int .i64 (k1_12 : Int))]) (vs := [.int .i64 (k1_12 : Int)]) (xs := [(k1_12 : Int)]) rfl Try.underlying31 ti3 hO (by decide) (by kernel_rfl) (Els.cons rfl rfl (Els.nil _ _ _) (by simp [mx])) rfl
  obtain ⟨aak, aal, lE, QA, VV, Me⟩ := zz
  refine zg (Me rfl) ?_
  replace hO := lE.own
  have zz := freeze 0 hO rfl QA
  obtain ⟨hO1, ow, kd, QB⟩ := zz
  dsimp only [eS, eZ] at hO1 ow kd
  replace hB := (((hB.trans iO.fr).trans kG.fr).trans lE.fr).trans (Owns.J09 _ _ 0)
  dsimp only [eS, eZ] at hB
  replace hO := hO1; clear hO1
  obtain ⟨AO, H⟩ := H
  have Z31 := (((Z30.trans iO.ch).trans kG.ch).trans lE.ch).trans ow
  replace cJ := cJ.ch Z31
  have zz := oapp Try.underlying31 ti3 rfl 5 hO rfl cJ kd QB AO (by decide)
  obtain ⟨aam, Ec, Ed, QC, kI, lh, Mf⟩ := zz
  dsimp only [sS, sZ] at kI lh
  refine zg (Mf (by exact rfl) (by exact rfl)) ?_
  replace hO := kI.own
  refine zo (J01 rfl) (zo (J00 Try.underlying156 rfl ti123 rfl (by decide)) (zo (J00 Try.underlying123 rfl ti31 rfl (by decide)) ?_))
  have zz := J0h (v := .slice Ec (n33 + 1) Ed) (i := 5) (cs' := #[.int .i64 a0.Enum.Points, .bool a0.Enum.Monoid, .slice aI aH aJ, .slice AK (n21 + 1) AM, .slice Cb (n27 + 1) Cc, .slice Ec (n33 + 1) Ed, .slice aV aQ aW, .slice p37 n39 c38, .int .i64 a0.Enum.Done, .map (some aX), .slice p43 n45 c44, .slice p49 n51 c50, .slice bu bt bv]) 1 hO rfl rfl rfl rfl
  obtain ⟨aan, j9, Mg⟩ := zz
  dsimp only [sS, sZ] at j9
  refine zg (Mg Try.underlying31 rfl ti31 (by exact rfl) (by exact rfl)) ?_
  replace hO := j9.own
  refine zn (zq ?_)
  refine Go1.cut [(0, .pointer (some ⟨fo, 0, none⟩)), (4, .string (gstr ((ix d_40 a0.Enum.Done) ++ (chr (IntKind.i32.wrap ((97 : Int) + (k1_12 : Int))))))), (5, .int .i64 (ix (ix a0.Enum.Right (ix d_46 a0.Enum.Done)) (k1_12 : Int))), (13, .int .i64 (d_16.length : Int))] ⟨rfl, rfl, rfl, rfl, trivial⟩ ?_
  intro σ _
  refine zr (zm rfl (zm rfl (zo (J01 rfl) (zo (J00 Try.underlying156 rfl ti30 rfl (by decide)) (zs (oblk (i := 10) 1 hO rfl rfl Try.underlying30 rfl rfl) ?_)))))
  refine zm rfl ?_
  have zz := J0n (r := Rp.str) (n := 1) (parts := [(0, .string (gstr ((ix d_40 a0.Enum.Done) ++ (chr (IntKind.i32.wrap ((97 : Int) + (k1_12 : Int)))))))]) (vs := [.string (gstr ((ix d_40 a0.Enum.Done) ++ (chr (IntKind.i32.wrap ((97 : Int) + (k1_12 : Int))))))]) (xs := [(ix d_40 a0.Enum.Done) ++ (chr (IntKind.i32.wrap ((97 : Int) + (k1_12 : Int))))]) rfl Try.underlying30 ti9 hO (by decide) (by kernel_rfl) (Els.cons rfl ⟨rfl, (lenApp yw)⟩ (Els.nil _ _ _) (by simp [mx])) rfl
  obtain ⟨aao, aap, kK, QD, VW, DU⟩ := zz
  refine zg (DU rfl) ?_
  replace hO := kK.own
  have zz := freeze 0 hO rfl QD
  obtain ⟨hO1, nV, pQ, QE⟩ := zz
  dsimp only [eS, eZ] at hO1 nV pQ
  replace hB := (((hB.trans kI.fr).trans j9.fr).trans kK.fr).trans (Owns.J09 _ _ 0)
  dsimp only [eS, eZ] at hB
  replace hO := hO1; clear hO1
  obtain ⟨Ui, H⟩ := H
  have Z32 := (((((((((((Z29.trans gq.ch).trans gn.ch).trans fL.ch).trans pP).trans iO.ch).trans kG.ch).trans lE.ch).trans ow).trans kI.ch).trans j9.ch).trans kK.ch).trans nV
  replace bV := bV.ch Z32
  have zz := oapp Try.underlying30 ti9 rfl 8 hO rfl bV pQ QE Ui (by decide)
  obtain ⟨aaq, FL, FM, QF, fT, tp, Mh⟩ := zz
  dsimp only [sS, sZ] at fT tp
  refine zg (Mh (by exact rfl) (by exact rfl)) ?_
  replace hO := fT.own
  refine zo (J01 rfl) (zo (J00 Try.underlying156 rfl ti30 rfl (by decide)) ?_)
  have zz := J0h (v := .slice FL (n45 + 1) FM) (i := 10) (cs' := #[.int .i64 a0.Enum.Points, .bool a0.Enum.Monoid, .slice aI aH aJ, .slice AK (n21 + 1) AM, .slice Cb (n27 + 1) Cc, .slice Ec (n33 + 1) Ed, .slice aV aQ aW, .slice p37 n39 c38, .int .i64 a0.Enum.Done, .map (some aX), .slice FL (n45 + 1) FM, .slice p49 n51 c50, .slice bu bt bv]) 1 hO rfl rfl rfl rfl
  obtain ⟨aar, jL, Mi⟩ := zz
  dsimp only [sS, sZ] at jL
  refine zg (Mi Try.underlying30 rfl ti30 (by exact rfl) (by exact rfl)) ?_
  replace hO := jL.own
  refine zn (zq (zr (zm rfl (zm rfl (zo (J01 rfl) ?_)))))
  refine zo (J00 Try.underlying156 rfl ti31 rfl (by decide)) (zs (oblk (i := 11) 1 hO rfl rfl Try.underlying31 rfl rfl) (zm rfl ?_))
  have zz := J0n (r := Rp.int .i64) (n := 1) (parts := [(0, .int .i64 (ix (ix a0.Enum.Right (ix d_46 a0.Enum.Done)) (k1_12 : Int)))]) (vs := [.int .i64 (ix (ix a0.Enum.Right (ix d_46 a0.Enum.Done)) (k1_12 : Int))]) (xs := [(ix (ix a0.Enum.Right (ix d_46 a0.Enum.Done)) (k1_12 : Int))]) rfl Try.underlying31 ti3 hO (by decide) (by kernel_rfl) (Els.cons rfl rfl (Els.nil _ _ _) (by simp [mx])) rfl
  obtain ⟨aas, aat, fU, QG, VX, Mj⟩ := zz
  refine zg (Mj rfl) ?_
  replace hO := fU.own
  have zz := freeze 0 hO rfl QG
  obtain ⟨hO1, m9, xr, QH⟩ := zz
  dsimp only [eS, eZ] at hO1 m9 xr
  replace hB := (((hB.trans fT.fr).trans jL.fr).trans fU.fr).trans (Owns.J09 _ _ 0)
  dsimp only [eS, eZ] at hB
  replace hO := hO1; clear hO1
  obtain ⟨Uj, H⟩ := H
  have Z33 := (((Z32.trans fT.ch).trans jL.ch).trans fU.ch).trans m9
  replace bW := bW.ch Z33
  have zz := oapp Try.underlying31 ti3 rfl 9 hO rfl bW xr QH Uj (by decide)
  obtain ⟨aau, HE, HF, QI, gk, xm, Mk⟩ := zz
  dsimp only [sS, sZ] at gk xm
  refine zg (Mk (by exact rfl) (by exact rfl)) ?_
  replace hO := gk.own
  refine zo (J01 rfl) (zo (J00 Try.underlying156 rfl ti31 rfl (by decide)) ?_)
  have zz := J0h (v := .slice HE (n51 + 1) HF) (i := 11) (cs' := #[.int .i64 a0.Enum.Points, .bool a0.Enum.Monoid, .slice aI aH aJ, .slice AK (n21 + 1) AM, .slice Cb (n27 + 1) Cc, .slice Ec (n33 + 1) Ed, .slice aV aQ aW, .slice p37 n39 c38, .int .i64 a0.Enum.Done, .map (some aX), .slice FL (n45 + 1) FM, .slice HE (n51 + 1) HF, .slice bu bt bv]) 1 hO rfl rfl rfl rfl
  obtain ⟨aav, jz, Ml⟩ := zz
  dsimp only [sS, sZ] at jz
  refine zg (Ml Try.underlying31 rfl ti31 (by exact rfl) (by exact rfl)) ?_
  replace hO := jz.own
  refine zn (zq ?_)
  refine Go1.cut [(13, .int .i64 (d_16.length : Int))] ⟨rfl, trivial⟩ ?_
  intro σ _
  refine zr (zm rfl (za rfl (zn ?_)))
  refine Go1.ret1V Try.func155 rfl (show _ = .int .i64 (d_16.length : Int) from rfl) ?_
  refine hR377 _ _ ?_
  refine za rfl (zn ?_)
  refine Go1.inBlock ?_
  refine zr (zm rfl (zm rfl (zm rfl ?_)))
  obtain ⟨HG, H⟩ := H
  obtain ⟨AP, H⟩ := H
  have Z34 := (((((((((Z31.trans kI.ch).trans j9.ch).trans kK.ch).trans nV).trans fT.ch).trans jL.ch).trans fU.ch).trans m9).trans gk.ch).trans jz.ch
  replace cg := cg.ch Z34
  refine zo (J02 Try.underlying31 ti3 rfl rfl HG (ltn (cg.neq hO 0 rfl) AP) (cg.psome hO 0 rfl HG AP)) ?_
  have zz := ost (r := Rp.int .i64) rfl 0 hO rfl cg HG AP (v := .int .i64 (d_16.length : Int)) (u := (d_16.length : Int)) rfl rfl
  obtain ⟨aaw, QJ, fM, Jx, Mm⟩ := zz
  dsimp only [sS, sZ] at fM Jx
  refine zg (Mm Try.underlying3 rfl ti3 (by exact rfl) (by exact rfl)) ?_
  replace hO := fM.own
  refine zn ?_
  refine Go1.inBlock ?_
  refine zr ?_
  replace ad := (ad.ch Z34).ch fM.ch
  refine zo (J0e rfl rfl (wrap_i64 (natbd h53 ad.bd))) (zm rfl (zn ?_))
  replace xm := (xm.ch jz.ch).ch fM.ch
  replace hB := ((hB.trans gk.fr).trans jz.fr).trans fM.fr
  have Z35 := ((((jL.ch.trans fU.ch).trans m9).trans gk.ch).trans jz.ch).trans fM.ch
  replace tp := tp.ch Z35
  have Z36 := ((((((((j9.ch.trans kK.ch).trans nV).trans fT.ch).trans jL.ch).trans fU.ch).trans m9).trans gk.ch).trans jz.ch).trans fM.ch
  replace lh := lh.ch Z36
  have Z37 := ((((((((((((kG.ch.trans lE.ch).trans ow).trans kI.ch).trans j9.ch).trans kK.ch).trans nV).trans fT.ch).trans jL.ch).trans fU.ch).trans m9).trans gk.ch).trans jz.ch).trans fM.ch
  replace ir := ir.ch Z37
  have Z38 := ((((((((((((((((gn.ch.trans fL.ch).trans pP).trans iO.ch).trans kG.ch).trans lE.ch).trans ow).trans kI.ch).trans j9.ch).trans kK.ch).trans nV).trans fT.ch).trans jL.ch).trans fU.ch).trans m9).trans gk.ch).trans jz.ch).trans fM.ch
  replace dC := dC.ch Z38
  have Z39 := ((Z33.trans gk.ch).trans jz.ch).trans fM.ch
  replace ae := ae.ch Z39
  have Z40 := Z34.trans fM.ch
  replace ci := ci.ch Z40
  replace ao := ao.ch Z40
  exact hX1 _ H _ _ ⟨QJ, n21 + 1, AK, AM, ov, n27 + 1, Cb, Cc, Qz, n33 + 1, Ec, Ed, QC, n39, p37, c38, nt, n45 + 1, FL, FM, QF, n51 + 1, HE, HF, QI, ⟨rfl, rfl, rfl, rfl, rfl, rfl, trivial⟩, hO, Jx, ad, dC, ir, lh, ae, ci, tp, xm, ao, hB⟩
 replace H := ifn h53 H
 refine zo (fun w => opB (J08 rfl rfl w) (decide_eq_false h53)) (zn (zq (zf rfl rfl ?_)))
 refine Go1.exit rfl ?_
 refine zq (zr (zm rfl (zm rfl (zo (J01 rfl) (zo (J00 Try.underlying156 rfl ti123 rfl (by decide)) ?_)))))
 refine zo (J00 Try.underlying123 rfl ti23 rfl (by decide)) (zs (oblk (i := 6) 1 hO rfl rfl Try.underlying23 rfl rfl) (zm rfl ?_))
 have zz := freeze 0 hO rfl cg
 obtain ⟨hO1, vD, uA, QK⟩ := zz
 dsimp only [eS, eZ] at hO1 vD uA
 replace hB := hB.trans (Owns.J09 _ _ 0)
 dsimp only [eS, eZ] at hB
 replace hO := hO1; clear hO1
 have zz := J0n (r := Rp.sl (Rp.int .i64)) (n := 1) (parts := [(0, .slice p2 a0.Enum.Gens.length a0.Enum.Gens.length)]) (vs := [.slice p2 a0.Enum.Gens.length a0.Enum.Gens.length]) (xs := [d_13]) rfl Try.underlying23 ti31 hO (by decide) (by kernel_rfl) (Els.cons rfl ⟨p2, a0.Enum.Gens.length, congrArg some (congrArg (fun nn => Value.slice p2 nn a0.Enum.Gens.length) QK), uA⟩ (Els.nil _ _ _) (by simp [mx])) rfl
 obtain ⟨aax, aay, sA, QL, VY, DW⟩ := zz
 refine zg (DW rfl) ?_
 replace hO := sA.own
 have zz := freeze 0 hO rfl QL
 obtain ⟨hO1, u5, xt, QM⟩ := zz
 dsimp only [eS, eZ] at hO1 u5 xt
 replace hB := (hB.trans sA.fr).trans (Owns.J09 _ _ 0)
 dsimp only [eS, eZ] at hB
 replace hO := hO1; clear hO1
 obtain ⟨Uk, H⟩ := H
 have Z41 := (vD.trans sA.ch).trans u5
 replace ae := ae.ch Z41
 have zz := oapp Try.underlying23 ti31 rfl 5 hO rfl ae xt QM Uk (by decide)
 obtain ⟨aaz, FN, FO, QO, qi, zP, Mn⟩ := zz
 dsimp only [sS, sZ] at qi zP
 refine zg (Mn (by exact rfl) (by exact rfl)) ?_
 replace hO := qi.own
 refine zo (J01 rfl) (zo (J00 Try.underlying156 rfl ti123 rfl (by decide)) (zo (J00 Try.underlying123 rfl ti23 rfl (by decide)) ?_))
 have zz := J0h (v := .slice FN (aQ + 1) FO) (i := 6) (cs' := #[.int .i64 a0.Enum.Points, .bool a0.Enum.Monoid, .slice aI aH aJ, .slice p19 n21 c20, .slice p25 n27 c26, .slice p31 n33 c32, .slice FN (aQ + 1) FO, .slice p37 n39 c38, .int .i64 a0.Enum.Done, .map (some aX), .slice p43 n45 c44, .slice p49 n51 c50, .slice bu bt bv]) 0 hO rfl rfl rfl rfl
 obtain ⟨aaA, oA, Mo⟩ := zz
 dsimp only [sS, sZ] at oA
 refine zg (Mo Try.underlying23 rfl ti23 (by exact rfl) (by exact rfl)) ?_
 replace hO := oA.own
 refine zn (zq ?_)
 refine Go1.cut [(0, .pointer (some ⟨fo, 0, none⟩))] ⟨rfl, trivial⟩ ?_
 intro σ _
 refine zr (zm rfl (zo (J01 rfl) (zo (J00 Try.underlying156 rfl ti123 rfl (by decide)) (zo (J00 Try.underlying123 rfl ti3 rfl (by decide)) (zs (oblk (i := 8) 0 hO rfl rfl Try.underlying3 rfl rfl) ?_)))))
 obtain ⟨Ul, H⟩ := H
 refine zo (J0e rfl rfl (wrap_i64 Ul)) (zo (J01 rfl) (zo (J00 Try.underlying156 rfl ti123 rfl (by decide)) (zo (J00 Try.underlying123 rfl ti3 rfl (by decide)) ?_)))
 have zz := J0h (v := .int .i64 (a0.Enum.Done + (1 : Int))) (i := 8) (cs' := #[.int .i64 a0.Enum.Points, .bool a0.Enum.Monoid, .slice aI aH aJ, .slice p19 n21 c20, .slice p25 n27 c26, .slice p31 n33 c32, .slice FN (aQ + 1) FO, .slice p37 n39 c38, .int .i64 (a0.Enum.Done + (1 : Int)), .map (some aX), .slice p43 n45 c44, .slice p49 n51 c50, .slice bu bt bv]) 0 hO rfl rfl rfl rfl
 obtain ⟨aaB, gI, Mp⟩ := zz
 dsimp only [sS, sZ] at gI
 refine zg (Mp Try.underlying3 rfl ti3 (by exact rfl) (by exact rfl)) ?_
 replace hO := gI.own
 refine zn (zq (zr (za rfl (zn ?_))))
 refine Go1.ret1 Try.func133 rfl ?_
 replace zP := (zP.ch oA.ch).ch gI.ch
 replace hB := ((hB.trans qi.fr).trans oA.fr).trans gI.fr
 have Z42 := ((Z41.trans qi.ch).trans oA.ch).trans gI.ch
 replace ad := ad.ch Z42
 replace dN := dN.ch Z42
 replace cO := cO.ch Z42
 replace cJ := cJ.ch Z42
 replace ci := ci.ch Z42
 replace bV := bV.ch Z42
 replace bW := bW.ch Z42
 replace ao := ao.ch Z42
 exact ⟨((0 : Int)), (⟨(⟨a0.Enum.Points, a0.Enum.Monoid, a0.Enum.Gens, d_16, d_22, d_28, a0.Enum.Right ++ ([d_13]), d_34, (a0.Enum.Done + (1 : Int))⟩ : Enum), m1_52, d_40, d_46, a0.single⟩ : run), aH, aI, aJ, cV, n21, p19, c20, lH, n27, p25, c26, nr, n33, p31, c32, ns, (aQ + 1), FN, FO, QO, n39, p37, c38, nt, n45, p43, c44, nu, n51, p49, c50, nw, bt, bu, bv, dW, rfl, hO, ad, dN, cO, cJ, zP, ci, bV, bW, ao, hB, H⟩
theorem body132 : Body Try.prog 132 := ⟨Try.f132, Try.func132, rfl, by kernel_rfl⟩
theorem body101 : Body Try.prog 101 := ⟨Try.f101, Try.func101, rfl, by kernel_rfl⟩
theorem J35 {A : List Nat} {w0 : World} {Ee : Option Addr} {Ef : Nat} {gens : List (List Int)} {monoid : Bool} (hA : ∀ b ∈ A, b < w0.heap.size) (qj : ISl (Rp.sl (Rp.int .i64)) A w0 Ee Ef gens) {K : Enum → Int → Prop} (H : J14 gens monoid K) :
    CallsV Try.prog 101 #[.slice Ee gens.length Ef, .bool monoid] w0 (fun v w' => ∃ (r0 : Enum) (r1 : Int) (Cq : Option Addr) (Cr : Nat) (Bi : Option Addr) (Bj : Nat) (z6 : Option Addr) (z7 : Nat) (Cs : Option Addr) (Ct : Nat) (Bk : Option Addr) (Bl : Nat) (Bm : Option Addr) (Bn : Nat), v = .tuple #[.agg #[.int .i64 r0.Points, .bool r0.Monoid, .slice Cq r0.Gens.length Cr, .slice Bi r0.Elems.length Bj, .slice z6 r0.Prefix.length z7, .slice Cs r0.Last.length Ct, .slice Bk r0.Right.length Bl, .slice Bm r0.Rules.length Bn, .int .i64 r0.Done], .int .i64 r1] ∧ Same w0 w' ∧ ISl (Rp.sl (Rp.int .i64)) A w' Cq Cr r0.Gens ∧ ISl (Rp.sl (Rp.int .i64)) A w' Bi Bj r0.Elems ∧ ISl (Rp.int .i64) A w' z6 z7 r0.Prefix ∧ ISl (Rp.int .i64) A w' Cs Ct r0.Last ∧ ISl (Rp.sl (Rp.int .i64)) A w' Bk Bl r0.Right ∧ ISl (rpRule) A w' Bm Bn r0.Rules ∧ K r0 r1) := by
 refine CallsV.of (l := [.slice Ee gens.length Ef, .bool monoid]) Try.func101 rfl Try.ntmps101 rfl ?_
 have hO := Owns.start hA
 have hB := Fr.refl (bl []) w0
 unfold J14 at H
 refine zq (zr ?_)
 have zz := oalloc (t := 123) (cs := #[.int .i64 0, .bool false, .slice none 0 0, .slice none 0 0, .slice none 0 0, .slice none 0 0, .slice none 0 0, .slice none 0 0, .int .i64 0]) ti123 hO rfl
 obtain ⟨w1, B2, dX, hs4, jU⟩ := zz
 refine GoR.op jU rfl rfl ?_
 replace hO := dX.own
 refine za rfl (zn (zq (zr (zm rfl (zm rfl ?_)))))
 replace qj := (qj.ch (Ch.start A w0)).ch dX.ch
 refine GoR.call (J0a body131 rfl (J33 hO.lt qj H)) rfl rfl ?_
 intro v9 w10 hcase13
 refine Or.elim hcase13 ?_ ?_
 ·refine exE fun r8 => andE fun hv14 => andE fun Aj => fun H => ?_
  subst hv14
  clear hcase13
  replace H := oElimN H
  have FP := Stp.same hO Aj
  replace hO := FP.own
  refine zm rfl (zo (J07 rfl rfl) (zo (J07 rfl rfl) (za rfl (za rfl (zn ?_)))))
  refine zq (zq (zr (zm rfl ?_)))
  by_cases h16 : r8 = (0 : Int)
  ·replace H := ifp h16 H
   refine zo (fun w => opB (J0j rfl rfl w) (ndT h16)) (zn (zf rfl rfl (zk (zq (zb ?_)))))
   replace hB := (hB.trans dX.fr).trans FP.fr
   refine Go1.loopW (S := Unit) (fun s σ w => agrees σ [(4, .pointer (some ⟨B2, 0, none⟩)), (6, .pointer none)] ∧ Owns w0.heap.size w [.blk B2 (.cells #[.int .i64 0, .bool false, .slice none 0 0, .slice none 0 0, .slice none 0 0, .slice none 0 0, .slice none 0 0, .slice none 0 0, .int .i64 0] 123 (0, 0))] A ∧ Fr (bl []) w0 (bl [.blk B2 (.cells #[.int .i64 0, .bool false, .slice none 0 0, .slice none 0 0, .slice none 0 0, .slice none 0 0, .slice none 0 0, .slice none 0 0, .int .i64 0] 123 (0, 0))]) w) H ⟨⟨rfl, rfl, trivial⟩, hO, hB⟩ ?_
   intro X1 _
   intro H hX1 σ w17
   refine andE fun hag => andE fun hO => fun hB => ?_
   refine Go1.keep [(4, .pointer (some ⟨B2, 0, none⟩)), (6, .pointer none)] hag ?_
   refine zq (zq (zr (zm rfl ?_)))
   refine GoR.inl (vs := [.pointer none]) (caps := []) rfl rfl body132 Try.func132 rfl Try.ntmps132 rfl rfl rfl ?_
   intro RhR18 hR18
   refine zq (zr (za rfl (zn (zq ?_))))
   refine Go1.drawS 0 [(0, .pure), (1, .pure), (2, .pure), (3, .pure), (4, .stable), (5, .pure), (6, .pure), (7, .pure), (8, .pure), (9, .stable), (10, .pure), (11, .pure), (12, .pure)] mixed (by kernel_rfl) ?_
   intro w19 Um
   have uB := Stp.same hO Um
   replace hO := uB.own
   refine GoQ.pure rfl (J03 rfl) rfl rfl ?_
   exact H.elim
  replace H := ifn h16 H
  refine zo (fun w => opB (J0j rfl rfl w) (ndF h16)) (zn (zt rfl rfl (zq (zr (zo (J0w Try.underlying123 ti123 (pl := [(0, 1), (1, 1), (2, 1), (3, 1), (4, 1), (5, 1), (6, 1), (7, 1), (8, 1)]) (vs := []) (cs := #[.int .i64 0, .bool false, .slice none 0 0, .slice none 0 0, .slice none 0 0, .slice none 0 0, .slice none 0 0, .slice none 0 0, .int .i64 0]) (by kernel_rfl) rfl (by kernel_rfl)) ?_)))))
  refine zm rfl ?_
  have zz := J0b (us := [.int .i64 0, .bool false, .slice none 0 0, .slice none 0 0, .slice none 0 0, .slice none 0 0, .slice none 0 0, .slice none 0 0, .int .i64 0]) (o := 0) (cs' := #[.int .i64 0, .bool false, .slice none 0 0, .slice none 0 0, .slice none 0 0, .slice none 0 0, .slice none 0 0, .slice none 0 0, .int .i64 0]) 0 hO rfl rfl (Nat.le_of_ble_eq_true rfl) rfl
  obtain ⟨w22, ml, Bb⟩ := zz
  refine zg (Bb ti123 (by exact rfl) (by exact rfl) rfl) ?_
  replace hO := ml.own
  refine za rfl (zn ?_)
  refine Go1.retC2 Try.func101 rfl rfl (J0i (vs := [.int .i64 0, .bool false, .slice none 0 0, .slice none 0 0, .slice none 0 0, .slice none 0 0, .slice none 0 0, .slice none 0 0, .int .i64 0]) 0 hO rfl rfl Try.underlying123 rfl ti123) ?_
  replace hB := ((hB.trans dX.fr).trans FP.fr).trans ml.fr
  exact ⟨(⟨(0 : Int), false, ([] : List (List Int)), ([] : List (List Int)), ([] : List Int), ([] : List Int), ([] : List (List Int)), ([] : List Rule), (0 : Int)⟩ : Enum), r8, none, 0, none, 0, none, 0, none, 0, none, 0, none, 0, rfl, hB.same, (ISl.null _ _ _), (ISl.null _ _ _), (ISl.null _ _ _), (ISl.null _ _ _), (ISl.null _ _ _), (ISl.null _ _ _), H⟩
 ·refine exE fun r7 => exE fun r8 => exE fun na => exE fun Cd => exE fun Ce => exE fun Cf => exE fun Bo => exE fun Bp => exE fun Bq => exE fun Br => exE fun AQ => exE fun AR => exE fun AT => exE fun AU => exE fun z5 => exE fun Cg => exE fun Ci => exE fun Cj => exE fun Bs => exE fun Bt => exE fun Bu => exE fun Bv => exE fun AV => exE fun Bw => exE fun Bx => exE fun By => exE fun AW => exE fun cT => exE fun FQ => exE fun FS => exE fun FT => exE fun EE => exE fun EF => exE fun EG => exE fun EH => exE fun Eg => exE fun EI => exE fun EJ => exE fun EK => exE fun Eh => andE fun hv25 => andE fun Aj => andE fun hN12 => andE fun mv => andE fun lM => andE fun kT => andE fun mw => andE fun lN => andE fun lO => andE fun sH => andE fun qk => andE fun ql => fun H => ?_
  subst hv25
  clear hcase13
  replace H := oElimS H
  have m6 := Stp.more hO Aj hN12
  dsimp only [List.cons_append, List.nil_append] at m6
  replace hO := m6.own
  replace mv := mv.ch (Ch.assoc _ _ _ _)
  dsimp only [List.cons_append, List.nil_append] at mv
  replace lM := lM.ch (Ch.assoc _ _ _ _)
  dsimp only [List.cons_append, List.nil_append] at lM
  replace kT := kT.ch (Ch.assoc _ _ _ _)
  dsimp only [List.cons_append, List.nil_append] at kT
  replace mw := mw.ch (Ch.assoc _ _ _ _)
  dsimp only [List.cons_append, List.nil_append] at mw
  replace lN := lN.ch (Ch.assoc _ _ _ _)
  dsimp only [List.cons_append, List.nil_append] at lN
  replace lO := lO.ch (Ch.assoc _ _ _ _)
  dsimp only [List.cons_append, List.nil_append] at lO
  replace sH := sH.ch (Ch.assoc _ _ _ _)
  dsimp only [List.cons_append, List.nil_append] at sH
  replace qk := qk.ch (Ch.assoc _ _ _ _)
  dsimp only [List.cons_append, List.nil_append] at qk
  replace ql := ql.ch (Ch.assoc _ _ _ _)
  dsimp only [List.cons_append, List.nil_append] at ql
  refine zm rfl (zo (J07 rfl rfl) (zo (J07 rfl rfl) (za rfl (za rfl (zn ?_)))))
  refine zq (zq (zr (zm rfl ?_)))
  by_cases h38 : r8 = (0 : Int)
  ·replace H := ifp h38 H
   refine zo (fun w => opB (J0j rfl rfl w) (ndT h38)) (zn (zf rfl rfl (zk (zq (zb ?_)))))
   replace hB := (hB.trans dX.fr).trans m6.fr
   refine Go1.loopW (S := Int × Bool × Int × List (List Int) × List (List Int) × List Int × List Int × List (List Int) × List Rule × List Str × List Int × List Int × (List (Str × Int))) (fun s σ w => match s with | (k2_40, b2_41, k2_42, d_43, d_49, d_55, d_61, d_67, d_73, d_79, d_85, d_91, m2_97) => ∃ (n48 : Nat) (p46 : Option Addr) (c47 : Nat) (sM : List Value) (n54 : Nat) (p52 : Option Addr) (c53 : Nat) (pV : List Value) (n60 : Nat) (p58 : Option Addr) (c59 : Nat) (sN : List Value) (n66 : Nat) (p64 : Option Addr) (c65 : Nat) (sO : List Value) (n72 : Nat) (p70 : Option Addr) (c71 : Nat) (sP : List Value) (n78 : Nat) (p76 : Option Addr) (c77 : Nat) (sQ : List Value) (n84 : Nat) (p82 : Option Addr) (c83 : Nat) (pX : List Value) (n90 : Nat) (p88 : Option Addr) (c89 : Nat) (sR : List Value) (n96 : Nat) (p94 : Option Addr) (c95 : Nat) (sT : List Value), agrees σ [(4, .pointer (some ⟨B2, 0, none⟩)), (6, .pointer (some ⟨na, 0, none⟩))] ∧ (fun Z0 => Owns w0.heap.size w Z0 A ∧ Els (Rp.sl (Rp.int .i64)) (bl Z0 ++ A) w sM d_43 ∧ Els (Rp.sl (Rp.int .i64)) (bl Z0 ++ A) w pV d_49 ∧ Els (Rp.int .i64) (bl Z0 ++ A) w sN d_55 ∧ Els (Rp.int .i64) (bl Z0 ++ A) w sO d_61 ∧ Els (Rp.sl (Rp.int .i64)) (bl Z0 ++ A) w sP d_67 ∧ Els (rpRule) (bl Z0 ++ A) w sQ d_73 ∧ Els (Rp.str) (bl Z0 ++ A) w pX d_79 ∧ Els (Rp.int .i64) (bl Z0 ++ A) w sR d_85 ∧ Els (Rp.int .i64) (bl Z0 ++ A) w sT d_91 ∧ Fr (bl []) w0 (bl Z0) w) [.blk na (.cells #[.int .i64 k2_40, .bool b2_41, .slice p46 n48 c47, .slice p52 n54 c53, .slice p58 n60 c59, .slice p64 n66 c65, .slice p70 n72 c71, .slice p76 n78 c77, .int .i64 k2_42, .map (some cT), .slice p82 n84 c83, .slice p88 n90 c89, .slice p94 n96 c95] 156 (0, 0)), .row 31 1 p46 n48 c47 sM, .row 31 1 p52 n54 c53 pV, .row 3 1 p58 n60 c59 sN, .row 3 1 p64 n66 c65 sO, .row 31 1 p70 n72 c71 sP, .row 185 2 p76 n78 c77 sQ, .row 9 1 p82 n84 c83 pX, .row 3 1 p88 n90 c89 sR, .row 3 1 p94 n96 c95 sT, .any (mapE (fun a : List UInt8 => Value.string (gstr a)) (fun a : Int => Value.int .i64 a) cT m2_97), .blk B2 (.cells #[.int .i64 0, .bool false, .slice none 0 0, .slice none 0 0, .slice none 0 0, .slice none 0 0, .slice none 0 0, .slice none 0 0, .int .i64 0] 123 (0, 0))]) H ⟨Cd, Ce, Cf, Bo, Bp, Bq, Br, AQ, AR, AT, AU, z5, Cg, Ci, Cj, Bs, Bt, Bu, Bv, AV, Bw, Bx, By, AW, FQ, FS, FT, EE, EF, EG, EH, Eg, EI, EJ, EK, Eh, ⟨rfl, rfl, trivial⟩, hO, mv, lM, kT, mw, lN, lO, sH, qk, ql, hB⟩ ?_
   intro X2
   refine prE fun k2_40 => prE fun b2_41 => prE fun k2_42 => prE fun d_43 => prE fun d_49 => prE fun d_55 => prE fun d_61 => prE fun d_67 => prE fun d_73 => prE fun d_79 => prE fun d_85 => prE fun d_91 => fun m2_97 => ?_
   intro H hX2 σ w39
   refine exE fun n48 => exE fun p46 => exE fun c47 => exE fun sM => exE fun n54 => exE fun p52 => exE fun c53 => exE fun pV => exE fun n60 => exE fun p58 => exE fun c59 => exE fun sN => exE fun n66 => exE fun p64 => exE fun c65 => exE fun sO => exE fun n72 => exE fun p70 => exE fun c71 => exE fun sP => exE fun n78 => exE fun p76 => exE fun c77 => exE fun sQ => exE fun n84 => exE fun p82 => exE fun c83 => exE fun pX => exE fun n90 => exE fun p88 => exE fun c89 => exE fun sR => exE fun n96 => exE fun p94 => exE fun c95 => exE fun sT => andE fun hag => andE fun hO => andE fun Ck => andE fun yA => andE fun xO => andE fun wt => andE fun tW => andE fun t6 => andE fun nF => andE fun tE => andE fun kt => fun hB => ?_
   dsimp only at H
   refine Go1.keep [(4, .pointer (some ⟨B2, 0, none⟩)), (6, .pointer (some ⟨na, 0, none⟩))] hag ?_
   refine zq (zq (zr (zm rfl ?_)))
   refine GoR.inl (vs := [.pointer (some ⟨na, 0, none⟩)]) (caps := []) rfl rfl body132 Try.func132 rfl Try.ntmps132 rfl rfl rfl ?_
   intro RhR98 hR98
   refine zq (zr (za rfl (zn (zq ?_))))
   refine Go1.drawS 0 [(0, .pure), (1, .pure), (2, .pure), (3, .pure), (4, .stable), (5, .pure), (6, .pure), (7, .pure), (8, .pure), (9, .stable), (10, .pure), (11, .pure), (12, .pure)] mixed (by kernel_rfl) ?_
   intro w99 QP
   have gX := Stp.same hO QP
   replace hO := gX.own
   refine GoQ.pure rfl (J03 rfl) rfl rfl ?_
   refine GoQ.pure rfl (J01 rfl) rfl rfl ?_
   refine GoQ.pure rfl (J00 Try.underlying156 rfl ti123 rfl (by decide)) rfl rfl ?_
   refine GoQ.pure rfl (J00 Try.underlying123 rfl ti3 rfl (by decide)) rfl rfl ?_
   refine GoQ.stable rfl (oblk (i := 8) 0 hO rfl rfl Try.underlying3 rfl rfl) rfl rfl ?_
   refine GoQ.pure rfl (J03 rfl) rfl rfl ?_
   refine GoQ.pure rfl (J01 rfl) rfl rfl ?_
   refine GoQ.pure rfl (J00 Try.underlying156 rfl ti123 rfl (by decide)) rfl rfl ?_
   refine GoQ.pure rfl (J00 Try.underlying123 rfl ti23 rfl (by decide)) rfl rfl ?_
   refine GoQ.stable rfl (oblk (i := 3) 0 hO rfl rfl Try.underlying23 rfl rfl) rfl rfl ?_
   replace yA := yA.ch gX.ch
   refine GoQ.pure rfl (J0A Try.underlying23 rfl (yA.neq hO 2 rfl)) rfl rfl ?_
   by_cases y9 : k2_42 = (d_49.length : Int)
   ·replace H := ifp y9 H
    refine GoQ.pure rfl (fun w => opB (J0D rfl rfl w) (decide_eq_true y9)) rfl rfl ?_
    refine GoQ.pure rfl (J0s rfl) rfl rfl ?_
    refine GoQ.nil ?_
    refine Go1.ret1V Try.func132 rfl (show _ = .bool true from rfl) ?_
    refine hR98 _ _ ?_
    refine zo (J0g rfl) (zn (zf rfl rfl ?_))
    refine Go1.exit rfl ?_
    refine zq (zr (zm rfl (zo (J01 rfl) (zo (J00 Try.underlying156 rfl ti123 rfl (by decide)) (zs (J0l (vs := [.int .i64 k2_40, .bool b2_41, .slice p46 n48 c47, .slice p52 n54 c53, .slice p58 n60 c59, .slice p64 n66 c65, .slice p70 n72 c71, .slice p76 n78 c77, .int .i64 k2_42]) (i := 0) 0 hO rfl rfl Try.underlying123 rfl ti123 rfl) ?_)))))
    have zz := J0b (us := [.int .i64 k2_40, .bool b2_41, .slice p46 n48 c47, .slice p52 n54 c53, .slice p58 n60 c59, .slice p64 n66 c65, .slice p70 n72 c71, .slice p76 n78 c77, .int .i64 k2_42]) (o := 0) (cs' := #[.int .i64 k2_40, .bool b2_41, .slice p46 n48 c47, .slice p52 n54 c53, .slice p58 n60 c59, .slice p64 n66 c65, .slice p70 n72 c71, .slice p76 n78 c77, .int .i64 k2_42]) 11 hO rfl rfl (Nat.le_of_ble_eq_true rfl) rfl
    obtain ⟨aaC, jy, Ei⟩ := zz
    dsimp only [sS, sZ] at jy
    refine zg (Ei ti123 (by exact rfl) (by exact rfl) rfl) ?_
    replace hO := jy.own
    refine za rfl (zn ?_)
    replace Ck := (Ck.ch gX.ch).ch jy.ch
    have zz := freeze 1 hO rfl Ck
    obtain ⟨hO1, wy, uC, QQ⟩ := zz
    dsimp only [eS, eZ] at hO1 wy uC
    replace hB := ((hB.trans gX.fr).trans jy.fr).trans (Owns.J09 _ _ 1)
    dsimp only [eS, eZ] at hB
    replace hO := hO1; clear hO1
    replace yA := (yA.ch jy.ch).ch wy
    have zz := freeze 1 hO rfl yA
    obtain ⟨hO1, wz, vE, QR⟩ := zz
    dsimp only [eS, eZ] at hO1 wz vE
    replace hB := hB.trans (Owns.J09 _ _ 1)
    dsimp only [eS, eZ] at hB
    replace hO := hO1; clear hO1
    have Z1 := ((gX.ch.trans jy.ch).trans wy).trans wz
    replace xO := xO.ch Z1
    have zz := freeze 1 hO rfl xO
    obtain ⟨hO1, wA, xv, QS⟩ := zz
    dsimp only [eS, eZ] at hO1 wA xv
    replace hB := hB.trans (Owns.J09 _ _ 1)
    dsimp only [eS, eZ] at hB
    replace hO := hO1; clear hO1
    replace wt := (wt.ch Z1).ch wA
    have zz := freeze 1 hO rfl wt
    obtain ⟨hO1, wB, zQ, QT⟩ := zz
    dsimp only [eS, eZ] at hO1 wB zQ
    replace hB := hB.trans (Owns.J09 _ _ 1)
    dsimp only [eS, eZ] at hB
    replace hO := hO1; clear hO1
    replace tW := ((tW.ch Z1).ch wA).ch wB
    have zz := freeze 1 hO rfl tW
    obtain ⟨hO1, wC, CX, QU⟩ := zz
    dsimp only [eS, eZ] at hO1 wC CX
    replace hB := hB.trans (Owns.J09 _ _ 1)
    dsimp only [eS, eZ] at hB
    replace hO := hO1; clear hO1
    have Z2 := ((Z1.trans wA).trans wB).trans wC
    replace t6 := t6.ch Z2
    have zz := freeze 1 hO rfl t6
    obtain ⟨hO1, wD, Jy, QV⟩ := zz
    dsimp only [eS, eZ] at hO1 wD Jy
    replace hB := hB.trans (Owns.J09 _ _ 1)
    dsimp only [eS, eZ] at hB
    replace hO := hO1; clear hO1
    refine Go1.retC2 Try.func101 rfl rfl (J0i (vs := [.int .i64 k2_40, .bool b2_41, .slice p46 n48 c47, .slice p52 n54 c53, .slice p58 n60 c59, .slice p64 n66 c65, .slice p70 n72 c71, .slice p76 n78 c77, .int .i64 k2_42]) 5 hO rfl rfl Try.underlying123 rfl ti123) ?_
    replace CX := CX.ch wD
    replace zQ := (zQ.ch wC).ch wD
    have Z3 := (wB.trans wC).trans wD
    replace xv := xv.ch Z3
    have Z4 := ((wA.trans wB).trans wC).trans wD
    replace vE := vE.ch Z4
    have Z5 := (((wz.trans wA).trans wB).trans wC).trans wD
    replace uC := uC.ch Z5
    exact ⟨(⟨k2_40, b2_41, d_43, d_49, d_55, d_61, d_67, d_73, k2_42⟩ : Enum), (0 : Int), p46, c47, p52, c53, p58, c59, p64, c65, p70, c71, p76, c77, (congrArg (fun l => Value.tuple (List.toArray l)) (J0k (congrArg (fun l => Value.agg (List.toArray l)) (J0k rfl (J0k rfl (J0k (congrArg (fun nn => Value.slice p46 nn c47) QQ) (J0k (congrArg (fun nn => Value.slice p52 nn c53) QR) (J0k (congrArg (fun nn => Value.slice p58 nn c59) QS) (J0k (congrArg (fun nn => Value.slice p64 nn c65) QT) (J0k (congrArg (fun nn => Value.slice p70 nn c71) QU) (J0k (congrArg (fun nn => Value.slice p76 nn c77) QV) (J0k rfl rfl)))))))))) (J0k rfl rfl))), hB.same, (uC.ch (Ch.weak _ _ _)), (vE.ch (Ch.weak _ _ _)), (xv.ch (Ch.weak _ _ _)), (zQ.ch (Ch.weak _ _ _)), (CX.ch (Ch.weak _ _ _)), (Jy.ch (Ch.weak _ _ _)), H⟩
   replace H := ifn y9 H
   refine GoQ.pure rfl (fun w => opB (J0D rfl rfl w) (decide_eq_false y9)) rfl rfl ?_
   refine GoQ.pure rfl (J0s rfl) rfl rfl ?_
   refine GoQ.nil ?_
   refine Go1.ret1V Try.func132 rfl (show _ = .bool false from rfl) ?_
   refine hR98 _ _ ?_
   refine zo (J0g rfl) (zn (zt rfl rfl (zk (zb (zq ?_)))))
   refine Go1.cut [(4, .pointer (some ⟨B2, 0, none⟩)), (6, .pointer (some ⟨na, 0, none⟩))] ⟨rfl, rfl, trivial⟩ ?_
   intro σ _
   refine zr (zm rfl ?_)
   have Jz : Owns w0.heap.size w99 ([.blk na (.cells #[.int .i64 k2_40, .bool b2_41, .slice p46 n48 c47, .slice p52 n54 c53, .slice p58 n60 c59, .slice p64 n66 c65, .slice p70 n72 c71, .slice p76 n78 c77, .int .i64 k2_42, .map (some cT), .slice p82 n84 c83, .slice p88 n90 c89, .slice p94 n96 c95] 156 (0, 0)), .row 31 1 p46 n48 c47 sM, .row 31 1 p52 n54 c53 pV, .row 3 1 p58 n60 c59 sN, .row 3 1 p64 n66 c65 sO, .row 31 1 p70 n72 c71 sP, .row 185 2 p76 n78 c77 sQ, .row 9 1 p82 n84 c83 pX, .row 3 1 p88 n90 c89 sR, .row 3 1 p94 n96 c95 sT, .any (mapE (fun a : List UInt8 => Value.string (gstr a)) (fun a : Int => Value.int .i64 a) cT m2_97)] ++ [.blk B2 (.cells #[.int .i64 0, .bool false, .slice none 0 0, .slice none 0 0, .slice none 0 0, .slice none 0 0, .slice none 0 0, .slice none 0 0, .int .i64 0] 123 (0, 0))]) A := hO
   have QW := Owns.split Jz
   have hca126 : Ch (bl [.blk na (.cells #[.int .i64 k2_40, .bool b2_41, .slice p46 n48 c47, .slice p52 n54 c53, .slice p58 n60 c59, .slice p64 n66 c65, .slice p70 n72 c71, .slice p76 n78 c77, .int .i64 k2_42, .map (some cT), .slice p82 n84 c83, .slice p88 n90 c89, .slice p94 n96 c95] 156 (0, 0)), .row 31 1 p46 n48 c47 sM, .row 31 1 p52 n54 c53 pV, .row 3 1 p58 n60 c59 sN, .row 3 1 p64 n66 c65 sO, .row 31 1 p70 n72 c71 sP, .row 185 2 p76 n78 c77 sQ, .row 9 1 p82 n84 c83 pX, .row 3 1 p88 n90 c89 sR, .row 3 1 p94 n96 c95 sT, .any (mapE (fun a : List UInt8 => Value.string (gstr a)) (fun a : Int => Value.int .i64 a) cT m2_97), .blk B2 (.cells #[.int .i64 0, .bool false, .slice none 0 0, .slice none 0 0, .slice none 0 0, .slice none 0 0, .slice none 0 0, .slice none 0 0, .int .i64 0] 123 (0, 0))] ++ A) w99 (bl [.blk na (.cells #[.int .i64 k2_40, .bool b2_41, .slice p46 n48 c47, .slice p52 n54 c53, .slice p58 n60 c59, .slice p64 n66 c65, .slice p70 n72 c71, .slice p76 n78 c77, .int .i64 k2_42, .map (some cT), .slice p82 n84 c83, .slice p88 n90 c89, .slice p94 n96 c95] 156 (0, 0)), .row 31 1 p46 n48 c47 sM, .row 31 1 p52 n54 c53 pV, .row 3 1 p58 n60 c59 sN, .row 3 1 p64 n66 c65 sO, .row 31 1 p70 n72 c71 sP, .row 185 2 p76 n78 c77 sQ, .row 9 1 p82 n84 c83 pX, .row 3 1 p88 n90 c89 sR, .row 3 1 p94 n96 c95 sT, .any (mapE (fun a : List UInt8 => Value.string (gstr a)) (fun a : Int => Value.int .i64 a) cT m2_97)] ++ (bl [.blk B2 (.cells #[.int .i64 0, .bool false, .slice none 0 0, .slice none 0 0, .slice none 0 0, .slice none 0 0, .slice none 0 0, .slice none 0 0, .int .i64 0] 123 (0, 0))] ++ A)) w99 := Ch.assoc' [.blk na (.cells #[.int .i64 k2_40, .bool b2_41, .slice p46 n48 c47, .slice p52 n54 c53, .slice p58 n60 c59, .slice p64 n66 c65, .slice p70 n72 c71, .slice p76 n78 c77, .int .i64 k2_42, .map (some cT), .slice p82 n84 c83, .slice p88 n90 c89, .slice p94 n96 c95] 156 (0, 0)), .row 31 1 p46 n48 c47 sM, .row 31 1 p52 n54 c53 pV, .row 3 1 p58 n60 c59 sN, .row 3 1 p64 n66 c65 sO, .row 31 1 p70 n72 c71 sP, .row 185 2 p76 n78 c77 sQ, .row 9 1 p82 n84 c83 pX, .row 3 1 p88 n90 c89 sR, .row 3 1 p94 n96 c95 sT, .any (mapE (fun a : List UInt8 => Value.string (gstr a)) (fun a : Int => Value.int .i64 a) cT m2_97)] [.blk B2 (.cells #[.int .i64 0, .bool false, .slice none 0 0, .slice none 0 0, .slice none 0 0, .slice none 0 0, .slice none 0 0, .slice none 0 0, .int .i64 0] 123 (0, 0))] A w99
   replace Ck := Ck.ch gX.ch
   replace xO := xO.ch gX.ch
   replace wt := wt.ch gX.ch
   replace tW := tW.ch gX.ch
   replace t6 := t6.ch gX.ch
   replace nF := nF.ch gX.ch
   replace tE := tE.ch gX.ch
   replace kt := kt.ch gX.ch
   refine GoR.call (J0a body133 rfl (J2a (a0 := (⟨(⟨k2_40, b2_41, d_43, d_49, d_55, d_61, d_67, d_73, k2_42⟩ : Enum), m2_97, d_79, d_85, d_91⟩ : run)) QW (Ck.ch hca126) (yA.ch hca126) (xO.ch hca126) (wt.ch hca126) (tW.ch hca126) (t6.ch hca126) (nF.ch hca126) (tE.ch hca126) (kt.ch hca126) H)) rfl rfl ?_
   intro aaD Dz
   refine exE fun r127 => exE fun q128 => exE fun iE => exE fun iF => exE fun iG => exE fun mQ => exE fun g7 => exE fun g8 => exE fun g9 => exE fun l9 => exE fun gQ => exE fun gR => exE fun gS => exE fun lF => exE fun iH => exE fun iI => exE fun iJ => exE fun mS => exE fun ia => exE fun ic => exE fun ie => exE fun ma => exE fun ig => exE fun ii => exE fun ik => exE fun mb => exE fun kM => exE fun kN => exE fun kO => exE fun sB => exE fun jN => exE fun jO => exE fun jP => exE fun qm => exE fun jQ => exE fun jR => exE fun jS => exE fun qn => andE fun hv134 => andE fun hN131 => andE fun mT => andE fun mc => andE fun lG => andE fun mU => andE fun mf => andE fun mg => andE fun sC => andE fun qo => andE fun qq => andE fun hF132 => fun H => ?_
   subst hv134
   have mz : Stp w0.heap.size A w99 [.blk na (.cells #[.int .i64 k2_40, .bool b2_41, .slice p46 n48 c47, .slice p52 n54 c53, .slice p58 n60 c59, .slice p64 n66 c65, .slice p70 n72 c71, .slice p76 n78 c77, .int .i64 k2_42, .map (some cT), .slice p82 n84 c83, .slice p88 n90 c89, .slice p94 n96 c95] 156 (0, 0)), .row 31 1 p46 n48 c47 sM, .row 31 1 p52 n54 c53 pV, .row 3 1 p58 n60 c59 sN, .row 3 1 p64 n66 c65 sO, .row 31 1 p70 n72 c71 sP, .row 185 2 p76 n78 c77 sQ, .row 9 1 p82 n84 c83 pX, .row 3 1 p88 n90 c89 sR, .row 3 1 p94 n96 c95 sT, .any (mapE (fun a : List UInt8 => Value.string (gstr a)) (fun a : Int => Value.int .i64 a) cT m2_97), .blk B2 (.cells #[.int .i64 0, .bool false, .slice none 0 0, .slice none 0 0, .slice none 0 0, .slice none 0 0, .slice none 0 0, .slice none 0 0, .int .i64 0] 123 (0, 0))] Dz [.blk na (.cells #[.int .i64 q128.Enum.Points, .bool q128.Enum.Monoid, .slice iF iE iG, .slice g8 g7 g9, .slice gR gQ gS, .slice iI iH iJ, .slice ic ia ie, .slice ii ig ik, .int .i64 q128.Enum.Done, .map (some cT), .slice kN kM kO, .slice jO jN jP, .slice jR jQ jS] 156 (0, 0)), .row 31 1 iF iE iG mQ, .row 31 1 g8 g7 g9 l9, .row 3 1 gR gQ gS lF, .row 3 1 iI iH iJ mS, .row 31 1 ic ia ie ma, .row 185 2 ii ig ik mb, .row 9 1 kN kM kO sB, .row 3 1 jO jN jP qm, .row 3 1 jR jQ jS qn, .any (mapE (fun a : List UInt8 => Value.string (gstr a)) (fun a : Int => Value.int .i64 a) cT q128.number), .blk B2 (.cells #[.int .i64 0, .bool false, .slice none 0 0, .slice none 0 0, .slice none 0 0, .slice none 0 0, .slice none 0 0, .slice none 0 0, .int .i64 0] 123 (0, 0))] := Stp.join Jz hN131 hF132
   replace hO := mz.own
   have hca135 : Ch (bl [.blk na (.cells #[.int .i64 q128.Enum.Points, .bool q128.Enum.Monoid, .slice iF iE iG, .slice g8 g7 g9, .slice gR gQ gS, .slice iI iH iJ, .slice ic ia ie, .slice ii ig ik, .int .i64 q128.Enum.Done, .map (some cT), .slice kN kM kO, .slice jO jN jP, .slice jR jQ jS] 156 (0, 0)), .row 31 1 iF iE iG mQ, .row 31 1 g8 g7 g9 l9, .row 3 1 gR gQ gS lF, .row 3 1 iI iH iJ mS, .row 31 1 ic ia ie ma, .row 185 2 ii ig ik mb, .row 9 1 kN kM kO sB, .row 3 1 jO jN jP qm, .row 3 1 jR jQ jS qn, .any (mapE (fun a : List UInt8 => Value.string (gstr a)) (fun a : Int => Value.int .i64 a) cT q128.number)] ++ (bl [.blk B2 (.cells #[.int .i64 0, .bool false, .slice none 0 0, .slice none 0 0, .slice none 0 0, .slice none 0 0, .slice none 0 0, .slice none 0 0, .int .i64 0] 123 (0, 0))] ++ A)) Dz (bl [.blk na (.cells #[.int .i64 q128.Enum.Points, .bool q128.Enum.Monoid, .slice iF iE iG, .slice g8 g7 g9, .slice gR gQ gS, .slice iI iH iJ, .slice ic ia ie, .slice ii ig ik, .int .i64 q128.Enum.Done, .map (some cT), .slice kN kM kO, .slice jO jN jP, .slice jR jQ jS] 156 (0, 0)), .row 31 1 iF iE iG mQ, .row 31 1 g8 g7 g9 l9, .row 3 1 gR gQ gS lF, .row 3 1 iI iH iJ mS, .row 31 1 ic ia ie ma, .row 185 2 ii ig ik mb, .row 9 1 kN kM kO sB, .row 3 1 jO jN jP qm, .row 3 1 jR jQ jS qn, .any (mapE (fun a : List UInt8 => Value.string (gstr a)) (fun a : Int => Value.int .i64 a) cT q128.number), .blk B2 (.cells #[.int .i64 0, .bool false, .slice none 0 0, .slice none 0 0, .slice none 0 0, .slice none 0 0, .slice none 0 0, .slice none 0 0, .int .i64 0] 123 (0, 0))] ++ A) Dz := Ch.assoc [.blk na (.cells #[.int .i64 q128.Enum.Points, .bool q128.Enum.Monoid, .slice iF iE iG, .slice g8 g7 g9, .slice gR gQ gS, .slice iI iH iJ, .slice ic ia ie, .slice ii ig ik, .int .i64 q128.Enum.Done, .map (some cT), .slice kN kM kO, .slice jO jN jP, .slice jR jQ jS] 156 (0, 0)), .row 31 1 iF iE iG mQ, .row 31 1 g8 g7 g9 l9, .row 3 1 gR gQ gS lF, .row 3 1 iI iH iJ mS, .row 31 1 ic ia ie ma, .row 185 2 ii ig ik mb, .row 9 1 kN kM kO sB, .row 3 1 jO jN jP qm, .row 3 1 jR jQ jS qn, .any (mapE (fun a : List UInt8 => Value.string (gstr a)) (fun a : Int => Value.int .i64 a) cT q128.number)] [.blk B2 (.cells #[.int .i64 0, .bool false, .slice none 0 0, .slice none 0 0, .slice none 0 0, .slice none 0 0, .slice none 0 0, .slice none 0 0, .int .i64 0] 123 (0, 0))] A Dz
   refine za rfl (zn (zq (zr (zm rfl ?_))))
   by_cases FU : r127 = (0 : Int)
   ·replace H := ifp FU H
    refine zo (fun w => opB (J0j rfl rfl w) (ndT FU)) (zn (zf rfl rfl (zk ?_)))
    refine Go1.inBlock ?_
    replace mT := mT.ch hca135
    replace mc := mc.ch hca135
    replace lG := lG.ch hca135
    replace mU := mU.ch hca135
    replace mf := mf.ch hca135
    replace mg := mg.ch hca135
    replace sC := sC.ch hca135
    replace qo := qo.ch hca135
    replace qq := qq.ch hca135
    replace hB := (hB.trans gX.fr).trans mz.fr
    exact hX2 _ H _ _ ⟨iE, iF, iG, mQ, g7, g8, g9, l9, gQ, gR, gS, lF, iH, iI, iJ, mS, ia, ic, ie, ma, ig, ii, ik, mb, kM, kN, kO, sB, jN, jO, jP, qm, jQ, jR, jS, qn, ⟨rfl, rfl, trivial⟩, hO, mT, mc, lG, mU, mf, mg, sC, qo, qq, hB⟩
   replace H := ifn FU H
   refine zo (fun w => opB (J0j rfl rfl w) (ndF FU)) (zn (zt rfl rfl (zq (zr (zo (J0w Try.underlying123 ti123 (pl := [(0, 1), (1, 1), (2, 1), (3, 1), (4, 1), (5, 1), (6, 1), (7, 1), (8, 1)]) (vs := []) (cs := #[.int .i64 0, .bool false, .slice none 0 0, .slice none 0 0, .slice none 0 0, .slice none 0 0, .slice none 0 0, .slice none 0 0, .int .i64 0]) (by kernel_rfl) rfl (by kernel_rfl)) ?_)))))
   refine zm rfl ?_
   have zz := J0b (us := [.int .i64 0, .bool false, .slice none 0 0, .slice none 0 0, .slice none 0 0, .slice none 0 0, .slice none 0 0, .slice none 0 0, .int .i64 0]) (o := 0) (cs' := #[.int .i64 0, .bool false, .slice none 0 0, .slice none 0 0, .slice none 0 0, .slice none 0 0, .slice none 0 0, .slice none 0 0, .int .i64 0]) 11 hO rfl rfl (Nat.le_of_ble_eq_true rfl) rfl
   obtain ⟨aaE, sD, Mq⟩ := zz
   dsimp only [sS, sZ] at sD
   refine zg (Mq ti123 (by exact rfl) (by exact rfl) rfl) ?_
   replace hO := sD.own
   refine za rfl (zn ?_)
   refine Go1.retC2 Try.func101 rfl rfl (J0i (vs := [.int .i64 0, .bool false, .slice none 0 0, .slice none 0 0, .slice none 0 0, .slice none 0 0, .slice none 0 0, .slice none 0 0, .int .i64 0]) 11 hO rfl rfl Try.underlying123 rfl ti123) ?_
   replace hB := ((hB.trans gX.fr).trans mz.fr).trans sD.fr
   exact ⟨(⟨(0 : Int), false, ([] : List (List Int)), ([] : List (List Int)), ([] : List Int), ([] : List Int), ([] : List (List Int)), ([] : List Rule), (0 : Int)⟩ : Enum), r127, none, 0, none, 0, none, 0, none, 0, none, 0, none, 0, rfl, hB.same, (ISl.null _ _ _), (ISl.null _ _ _), (ISl.null _ _ _), (ISl.null _ _ _), (ISl.null _ _ _), (ISl.null _ _ _), H⟩
  replace H := ifn h38 H
  refine zo (fun w => opB (J0j rfl rfl w) (ndF h38)) (zn (zt rfl rfl (zq (zr (zo (J0w Try.underlying123 ti123 (pl := [(0, 1), (1, 1), (2, 1), (3, 1), (4, 1), (5, 1), (6, 1), (7, 1), (8, 1)]) (vs := []) (cs := #[.int .i64 0, .bool false, .slice none 0 0, .slice none 0 0, .slice none 0 0, .slice none 0 0, .slice none 0 0, .slice none 0 0, .int .i64 0]) (by kernel_rfl) rfl (by kernel_rfl)) ?_)))))
  refine zm rfl ?_
  have zz := J0b (us := [.int .i64 0, .bool false, .slice none 0 0, .slice none 0 0, .slice none 0 0, .slice none 0 0, .slice none 0 0, .slice none 0 0, .int .i64 0]) (o := 0) (cs' := #[.int .i64 0, .bool false, .slice none 0 0, .slice none 0 0, .slice none 0 0, .slice none 0 0, .slice none 0 0, .slice none 0 0, .int .i64 0]) 11 hO rfl rfl (Nat.le_of_ble_eq_true rfl) rfl
  obtain ⟨aaF, jA, Mr⟩ := zz
  dsimp only [sS, sZ] at jA
  refine zg (Mr ti123 (by exact rfl) (by exact rfl) rfl) ?_
  replace hO := jA.own
  refine za rfl (zn ?_)
  refine Go1.retC2 Try.func101 rfl rfl (J0i (vs := [.int .i64 0, .bool false, .slice none 0 0, .slice none 0 0, .slice none 0 0, .slice none 0 0, .slice none 0 0, .slice none 0 0, .int .i64 0]) 11 hO rfl rfl Try.underlying123 rfl ti123) ?_
  replace hB := ((hB.trans dX.fr).trans m6.fr).trans jA.fr
  exact ⟨(⟨(0 : Int), false, ([] : List (List Int)), ([] : List (List Int)), ([] : List Int), ([] : List Int), ([] : List (List Int)), ([] : List Rule), (0 : Int)⟩ : Enum), r8, none, 0, none, 0, none, 0, none, 0, none, 0, none, 0, rfl, hB.same, (ISl.null _ _ _), (ISl.null _ _ _), (ISl.null _ _ _), (ISl.null _ _ _), (ISl.null _ _ _), (ISl.null _ _ _), H⟩
theorem body134 : Body Try.prog 134 := ⟨Try.f134, Try.func134, rfl, by kernel_rfl⟩
theorem J2K {A : List Nat} {w0 : World} {nW : Option Addr} {sI : Nat} {s_ : List Int} {v : Int} (hA : ∀ b ∈ A, b < w0.heap.size) (iU : ISl (Rp.int .i64) A w0 nW sI s_) {K : Int → Prop} (H : J1b s_ v K) :
    CallsV Try.prog 134 #[.slice nW s_.length sI, .int .i64 v] w0 (fun v w' => ∃ (r0 : Int), v = .int .i64 r0 ∧ Same w0 w' ∧ K r0) := by
 refine CallsV.of (l := [.slice nW s_.length sI, .int .i64 v]) Try.func134 rfl Try.ntmps134 rfl ?_
 have hO := Owns.start hA
 have hB := Fr.refl (bl []) w0
 unfold J1b at H
 refine zq (zr (za rfl (zn (zq (zq ?_)))))
 refine zr (zm rfl (zo (J0c Try.underlying31 rfl) ?_))
 replace iU := iU.ch (Ch.start A w0)
 replace H := H iU.bd
 refine zm rfl (zn (zb ?_))
 refine Go1.loopW (S := Nat) (fun s σ w => agrees σ [(0, .slice nW s_.length sI), (1, .int .i64 v), (7, .int .i64 (s_.length : Int)), (8, .int .i64 (s : Int))] ∧ Owns w0.heap.size w [] A ∧ ISl (Rp.int .i64) (bl [] ++ A) w nW sI s_ ∧ Fr (bl []) w0 (bl []) w) H ⟨⟨rfl, rfl, rfl, rfl, trivial⟩, hO, iU, hB⟩ ?_
 intro X1 k1_2
 intro H hX1 σ w1
 refine andE fun hag => andE fun hO => andE fun iU => fun hB => ?_
 refine Go1.keep [(0, .slice nW s_.length sI), (1, .int .i64 v), (7, .int .i64 (s_.length : Int)), (8, .int .i64 (k1_2 : Int))] hag ?_
 refine zq (zr ?_)
 by_cases h3 : (k1_2 : Int) < (s_.length : Int)
 ·replace H := ifp h3 H
  refine zo (fun w => opB (J08 rfl rfl w) (decide_eq_true h3)) (zn (zq (zt rfl rfl (zk (zq ?_)))))
  refine zb (zq (zr (zm rfl (za rfl (zn ?_)))))
  refine zq (zr (zm rfl (zm rfl (zm rfl ?_))))
  obtain ⟨h4, H⟩ := H
  obtain ⟨h5, H⟩ := H
  refine zo (J02 Try.underlying31 ti3 rfl rfl h4 h5 (iU.some_ h4 h5)) (zs (ldInt iU h4 h5 Try.underlying3 rfl rfl) ?_)
  by_cases h6 : v = (ix s_ (k1_2 : Int))
  ·replace H := ifp h6 H
   refine zo (fun w => opB (J0D rfl rfl w) (decide_eq_true h6)) (zn (zt rfl rfl (zq (zr (zm rfl ?_)))))
   refine za rfl (zn ?_)
   refine Go1.ret1 Try.func134 rfl ?_
   exact ⟨(k1_2 : Int), rfl, hB.same, H⟩
  replace H := ifn h6 H
  refine zo (fun w => opB (J0D rfl rfl w) (decide_eq_false h6)) (zn (zf rfl rfl (zk ?_)))
  refine Go1.inBlock ?_
  refine zr (zo (J0e rfl rfl (wrap_i64 (natbd h3 iU.bd))) (zm rfl (zn ?_)))
  exact hX1 _ H _ _ ⟨⟨rfl, rfl, rfl, rfl, trivial⟩, hO, iU, hB⟩
 replace H := ifn h3 H
 refine zo (fun w => opB (J08 rfl rfl w) (decide_eq_false h3)) (zn (zq (zf rfl rfl ?_)))
 refine Go1.exit rfl ?_
 refine zq (zr (za rfl (zn ?_)))
 refine Go1.ret1 Try.func134 rfl ?_
 exact ⟨(-1 : Int), rfl, hB.same, H⟩
theorem body102 : Body Try.prog 102 := ⟨Try.f102, Try.func102, rfl, by kernel_rfl⟩
theorem J2k {A : List Nat} {w0 : World} {nW : Option Addr} {sI : Nat} {s_ : List Int} {v : Int} (hA : ∀ b ∈ A, b < w0.heap.size) (iU : ISl (Rp.int .i64) A w0 nW sI s_) {K : Bool → Prop} (H : J0F s_ v K) :
    CallsV Try.prog 102 #[.slice nW s_.length sI, .int .i64 v] w0 (fun v w' => ∃ (r0 : Bool), v = .bool r0 ∧ Same w0 w' ∧ K r0) := by
 refine CallsV.of (l := [.slice nW s_.length sI, .int .i64 v]) Try.func102 rfl Try.ntmps102 rfl ?_
 have hO := Owns.start hA
 have hB := Fr.refl (bl []) w0
 unfold J0F at H
 refine zq (zr (za rfl (zn (zq (zr ?_)))))
 refine zm rfl (zm rfl ?_)
 replace iU := iU.ch (Ch.start A w0)
 refine GoR.call (J0a body134 rfl (J2K hO.lt iU H)) rfl rfl ?_
 rintro v5 w2 ⟨r1, rfl, hs3, H⟩
 have yn := Stp.same hO hs3
 replace hO := yn.own
 by_cases h7 : (0 : Int) ≤ r1
 ·replace H := ifp h7 H
  refine zo (fun w => opB (J1k rfl rfl w) (decide_eq_true h7)) (za rfl (zn ?_))
  refine Go1.ret1 Try.func102 rfl ?_
  replace hB := hB.trans yn.fr
  exact ⟨true, rfl, hB.same, H⟩
 replace H := ifn h7 H
 refine zo (fun w => opB (J1k rfl rfl w) (decide_eq_false h7)) (za rfl (zn ?_))
 refine Go1.ret1 Try.func102 rfl ?_
 replace hB := hB.trans yn.fr
 exact ⟨false, rfl, hB.same, H⟩
theorem body103 : Body Try.prog 103 := ⟨Try.f103, Try.func103, rfl, by kernel_rfl⟩
theorem J29 {A : List Nat} {w0 : World} {wc : Option Addr} {we : Nat} {p_f : Option Addr} {c_f : Nat} {p : part} {f : List Int} (hA : ∀ b ∈ A, b < w0.heap.size) (qM : ISl (Rp.bool) A w0 wc we p.final) (h_f : ISl (Rp.int .i64) A w0 p_f c_f f) {K : Bool → Prop} (H : J0J p f K) :
    CallsV Try.prog 103 #[.agg #[.int .i64 p.start, .slice wc p.final.length we, .int .i64 p.shift], .slice p_f f.length c_f] w0 (fun v w' => ∃ (r0 : Bool), v = .bool r0 ∧ Same w0 w' ∧ K r0) := by
 refine CallsV.of (l := [.agg #[.int .i64 p.start, .slice wc p.final.length we, .int .i64 p.shift], .slice p_f f.length c_f]) Try.func103 rfl Try.ntmps103 rfl ?_
 have hO := Owns.start hA
 have hB := Fr.refl (bl []) w0
 unfold J0J at H
 refine zq (zr ?_)
 have zz := obox (t := 120) (v := .agg #[.int .i64 p.start, .slice wc p.final.length we, .int .i64 p.shift]) (cs := #[.int .i64 p.start, .slice wc p.final.length we, .int .i64 p.shift]) hO rfl
 obtain ⟨w1, B2, dX, hs4, jU⟩ := zz
 refine zg (jU rfl) ?_
 replace hO := dX.own
 refine za rfl (zn (zq ?_))
 refine Go1.drawS 0 [(0, .pure), (1, .stable), (2, .pure), (3, .pure), (4, .stable), (5, .pure), (6, .stable), (7, .pure), (8, .stable), (9, .pure), (10, .pure), (11, .stable), (12, .pure)] mixed (by kernel_rfl) ?_
 intro w7 hs8
 have gU := Stp.same hO hs8
 replace hO := gU.own
 refine GoQ.pure rfl (J00 Try.underlying120 rfl ti22 rfl (by decide)) rfl rfl ?_
 refine GoQ.stable rfl (oblk (i := 1) 0 hO rfl rfl Try.underlying22 rfl rfl) rfl rfl ?_
 refine GoQ.pure rfl (J03 rfl) rfl rfl ?_
 refine GoQ.pure rfl (J00 Try.underlying120 rfl ti3 rfl (by decide)) rfl rfl ?_
 refine GoQ.stable rfl (oblk (i := 0) 0 hO rfl rfl Try.underlying3 rfl rfl) rfl rfl ?_
 obtain ⟨h10, H⟩ := H
 obtain ⟨h11, H⟩ := H
 have Z1 := ((Ch.start A w0).trans dX.ch).trans gU.ch
 replace h_f := h_f.ch Z1
 refine GoQ.pure rfl (J02 Try.underlying31 ti3 rfl rfl h10 h11 (h_f.some_ h10 h11)) rfl rfl ?_
 refine GoQ.stable rfl (ldInt h_f h10 h11 Try.underlying3 rfl rfl) rfl rfl ?_
 refine GoQ.pure rfl (J00 Try.underlying120 rfl ti3 rfl (by decide)) rfl rfl ?_
 refine GoQ.stable rfl (oblk (i := 2) 0 hO rfl rfl Try.underlying3 rfl rfl) rfl rfl ?_
 obtain ⟨h12, H⟩ := H
 refine GoQ.pure rfl (J7Q rfl rfl (wrap_i64 h12)) rfl rfl ?_
 obtain ⟨h13, H⟩ := H
 obtain ⟨h14, H⟩ := H
 replace qM := qM.ch Z1
 refine GoQ.pure rfl (J02 Try.underlying22 ti4 rfl rfl h13 h14 (qM.some_ h13 h14)) rfl rfl ?_
 refine GoQ.stable rfl (ldBool qM h13 h14 Try.underlying4 rfl rfl) rfl rfl ?_
 refine GoQ.pure rfl (J0s rfl) rfl rfl ?_
 refine GoQ.nil ?_
 refine Go1.ret1 Try.func103 rfl ?_
 replace hB := (hB.trans dX.fr).trans gU.fr
 exact ⟨ix p.final ((ix f p.start) - p.shift), rfl, hB.same, H⟩
end Sg
