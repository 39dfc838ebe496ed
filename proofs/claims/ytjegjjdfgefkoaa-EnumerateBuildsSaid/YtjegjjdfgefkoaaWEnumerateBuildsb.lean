/- The walks: each call keeps to its plain transformer. Printed by walkgen.py. -/
import Derived.Test.YtjegjjdfgefkoaaTi
import Derived.Test.YtjegjjdfgefkoaaWEnumerateBuilds
import Derived.Test.YtjegjjdfgefkoaaAl
namespace Sg
open Go Go.RowKit Go.Proofs
set_option linter.unusedVariables false
set_option linter.unusedSimpArgs false
set_option maxRecDepth 100000
set_option maxHeartbeats 4000000
theorem body66 : Body Try.prog 66 := ⟨Try.f66, Try.func66, rfl, by kernel_rfl⟩
theorem body67 : Body Try.prog 67 := ⟨Try.f67, Try.func67, rfl, by kernel_rfl⟩
theorem body51 : Body Try.prog 51 := ⟨Try.f51, Try.func51, rfl, by kernel_rfl⟩
theorem walk_enumerate_run_process {A : List Nat} {n0 : Nat} {w0 : World} {eC : Nat} {aj : Nat} {ak : Option Addr} {al : Nat} {cC : List Value} {cK : Nat} {cL : Option Addr} {cM : Nat} {eI : List Value} {cE : Nat} {cF : Option Addr} {cG : Nat} {eo : List Value} {c6 : Nat} {db : Option Addr} {de : Nat} {fd : List Value} {ar : Nat} {az : Option Addr} {aA : Nat} {cx : List Value} {cN : Nat} {cO : Option Addr} {cP : Nat} {eK : List Value} {aB : Nat} {dQ : Nat} {dR : Option Addr} {dS : Nat} {gK : List Value} {dH : Nat} {dI : Option Addr} {dJ : Nat} {fV : List Value} {aX : Nat} {aY : Option Addr} {a7 : Nat} {dp : List Value} {a0 : run} (hO : Owns n0 w0 [.blk eC (.cells #[.int .i64 a0.Enum.Points, .bool a0.Enum.Monoid, .slice ak aj al, .slice cL cK cM, .slice cF cE cG, .slice db c6 de, .slice az ar aA, .slice cO cN cP, .int .i64 a0.Enum.Done, .map (some aB), .slice dR dQ dS, .slice dI dH dJ, .slice aY aX a7] 72 (0, 0)), .row 26 1 ak aj al cC, .row 26 1 cL cK cM eI, .row 3 1 cF cE cG eo, .row 3 1 db c6 de fd, .row 26 1 az ar aA cx, .row 39 2 cO cN cP eK, .row 9 1 dR dQ dS gK, .row 3 1 dI dH dJ fV, .row 3 1 aY aX a7 dp, .any (mapE (fun a : List UInt8 => Value.string (gstr a)) (fun a : Int => Value.int .i64 a) aB a0.number)] A) (aa : Els (Rp.sl (Rp.int .i64)) (bl [.blk eC (.cells #[.int .i64 a0.Enum.Points, .bool a0.Enum.Monoid, .slice ak aj al, .slice cL cK cM, .slice cF cE cG, .slice db c6 de, .slice az ar aA, .slice cO cN cP, .int .i64 a0.Enum.Done, .map (some aB), .slice dR dQ dS, .slice dI dH dJ, .slice aY aX a7] 72 (0, 0)), .row 26 1 ak aj al cC, .row 26 1 cL cK cM eI, .row 3 1 cF cE cG eo, .row 3 1 db c6 de fd, .row 26 1 az ar aA cx, .row 39 2 cO cN cP eK, .row 9 1 dR dQ dS gK, .row 3 1 dI dH dJ fV, .row 3 1 aY aX a7 dp, .any (mapE (fun a : List UInt8 => Value.string (gstr a)) (fun a : Int => Value.int .i64 a) aB a0.number)] ++ A) w0 cC a0.Enum.Gens) (vD : Els (Rp.sl (Rp.int .i64)) (bl [.blk eC (.cells #[.int .i64 a0.Enum.Points, .bool a0.Enum.Monoid, .slice ak aj al, .slice cL cK cM, .slice cF cE cG, .slice db c6 de, .slice az ar aA, .slice cO cN cP, .int .i64 a0.Enum.Done, .map (some aB), .slice dR dQ dS, .slice dI dH dJ, .slice aY aX a7] 72 (0, 0)), .row 26 1 ak aj al cC, .row 26 1 cL cK cM eI, .row 3 1 cF cE cG eo, .row 3 1 db c6 de fd, .row 26 1 az ar aA cx, .row 39 2 cO cN cP eK, .row 9 1 dR dQ dS gK, .row 3 1 dI dH dJ fV, .row 3 1 aY aX a7 dp, .any (mapE (fun a : List UInt8 => Value.string (gstr a)) (fun a : Int => Value.int .i64 a) aB a0.number)] ++ A) w0 eI a0.Enum.Elems) (uP : Els (Rp.int .i64) (bl [.blk eC (.cells #[.int .i64 a0.Enum.Points, .bool a0.Enum.Monoid, .slice ak aj al, .slice cL cK cM, .slice cF cE cG, .slice db c6 de, .slice az ar aA, .slice cO cN cP, .int .i64 a0.Enum.Done, .map (some aB), .slice dR dQ dS, .slice dI dH dJ, .slice aY aX a7] 72 (0, 0)), .row 26 1 ak aj al cC, .row 26 1 cL cK cM eI, .row 3 1 cF cE cG eo, .row 3 1 db c6 de fd, .row 26 1 az ar aA cx, .row 39 2 cO cN cP eK, .row 9 1 dR dQ dS gK, .row 3 1 dI dH dJ fV, .row 3 1 aY aX a7 dp, .any (mapE (fun a : List UInt8 => Value.string (gstr a)) (fun a : Int => Value.int .i64 a) aB a0.number)] ++ A) w0 eo a0.Enum.Prefix) (vM : Els (Rp.int .i64) (bl [.blk eC (.cells #[.int .i64 a0.Enum.Points, .bool a0.Enum.Monoid, .slice ak aj al, .slice cL cK cM, .slice cF cE cG, .slice db c6 de, .slice az ar aA, .slice cO cN cP, .int .i64 a0.Enum.Done, .map (some aB), .slice dR dQ dS, .slice dI dH dJ, .slice aY aX a7] 72 (0, 0)), .row 26 1 ak aj al cC, .row 26 1 cL cK cM eI, .row 3 1 cF cE cG eo, .row 3 1 db c6 de fd, .row 26 1 az ar aA cx, .row 39 2 cO cN cP eK, .row 9 1 dR dQ dS gK, .row 3 1 dI dH dJ fV, .row 3 1 aY aX a7 dp, .any (mapE (fun a : List UInt8 => Value.string (gstr a)) (fun a : Int => Value.int .i64 a) aB a0.number)] ++ A) w0 fd a0.Enum.Last) (ab : Els (Rp.sl (Rp.int .i64)) (bl [.blk eC (.cells #[.int .i64 a0.Enum.Points, .bool a0.Enum.Monoid, .slice ak aj al, .slice cL cK cM, .slice cF cE cG, .slice db c6 de, .slice az ar aA, .slice cO cN cP, .int .i64 a0.Enum.Done, .map (some aB), .slice dR dQ dS, .slice dI dH dJ, .slice aY aX a7] 72 (0, 0)), .row 26 1 ak aj al cC, .row 26 1 cL cK cM eI, .row 3 1 cF cE cG eo, .row 3 1 db c6 de fd, .row 26 1 az ar aA cx, .row 39 2 cO cN cP eK, .row 9 1 dR dQ dS gK, .row 3 1 dI dH dJ fV, .row 3 1 aY aX a7 dp, .any (mapE (fun a : List UInt8 => Value.string (gstr a)) (fun a : Int => Value.int .i64 a) aB a0.number)] ++ A) w0 cx a0.Enum.Right) (vE : Els (rpRule) (bl [.blk eC (.cells #[.int .i64 a0.Enum.Points, .bool a0.Enum.Monoid, .slice ak aj al, .slice cL cK cM, .slice cF cE cG, .slice db c6 de, .slice az ar aA, .slice cO cN cP, .int .i64 a0.Enum.Done, .map (some aB), .slice dR dQ dS, .slice dI dH dJ, .slice aY aX a7] 72 (0, 0)), .row 26 1 ak aj al cC, .row 26 1 cL cK cM eI, .row 3 1 cF cE cG eo, .row 3 1 db c6 de fd, .row 26 1 az ar aA cx, .row 39 2 cO cN cP eK, .row 9 1 dR dQ dS gK, .row 3 1 dI dH dJ fV, .row 3 1 aY aX a7 dp, .any (mapE (fun a : List UInt8 => Value.string (gstr a)) (fun a : Int => Value.int .i64 a) aB a0.number)] ++ A) w0 eK a0.Enum.Rules) (yO : Els (Rp.str) (bl [.blk eC (.cells #[.int .i64 a0.Enum.Points, .bool a0.Enum.Monoid, .slice ak aj al, .slice cL cK cM, .slice cF cE cG, .slice db c6 de, .slice az ar aA, .slice cO cN cP, .int .i64 a0.Enum.Done, .map (some aB), .slice dR dQ dS, .slice dI dH dJ, .slice aY aX a7] 72 (0, 0)), .row 26 1 ak aj al cC, .row 26 1 cL cK cM eI, .row 3 1 cF cE cG eo, .row 3 1 db c6 de fd, .row 26 1 az ar aA cx, .row 39 2 cO cN cP eK, .row 9 1 dR dQ dS gK, .row 3 1 dI dH dJ fV, .row 3 1 aY aX a7 dp, .any (mapE (fun a : List UInt8 => Value.string (gstr a)) (fun a : Int => Value.int .i64 a) aB a0.number)] ++ A) w0 gK a0.words) (x4 : Els (Rp.int .i64) (bl [.blk eC (.cells #[.int .i64 a0.Enum.Points, .bool a0.Enum.Monoid, .slice ak aj al, .slice cL cK cM, .slice cF cE cG, .slice db c6 de, .slice az ar aA, .slice cO cN cP, .int .i64 a0.Enum.Done, .map (some aB), .slice dR dQ dS, .slice dI dH dJ, .slice aY aX a7] 72 (0, 0)), .row 26 1 ak aj al cC, .row 26 1 cL cK cM eI, .row 3 1 cF cE cG eo, .row 3 1 db c6 de fd, .row 26 1 az ar aA cx, .row 39 2 cO cN cP eK, .row 9 1 dR dQ dS gK, .row 3 1 dI dH dJ fV, .row 3 1 aY aX a7 dp, .any (mapE (fun a : List UInt8 => Value.string (gstr a)) (fun a : Int => Value.int .i64 a) aB a0.number)] ++ A) w0 fV a0.behind) (ad : Els (Rp.int .i64) (bl [.blk eC (.cells #[.int .i64 a0.Enum.Points, .bool a0.Enum.Monoid, .slice ak aj al, .slice cL cK cM, .slice cF cE cG, .slice db c6 de, .slice az ar aA, .slice cO cN cP, .int .i64 a0.Enum.Done, .map (some aB), .slice dR dQ dS, .slice dI dH dJ, .slice aY aX a7] 72 (0, 0)), .row 26 1 ak aj al cC, .row 26 1 cL cK cM eI, .row 3 1 cF cE cG eo, .row 3 1 db c6 de fd, .row 26 1 az ar aA cx, .row 39 2 cO cN cP eK, .row 9 1 dR dQ dS gK, .row 3 1 dI dH dJ fV, .row 3 1 aY aX a7 dp, .any (mapE (fun a : List UInt8 => Value.string (gstr a)) (fun a : Int => Value.int .i64 a) aB a0.number)] ++ A) w0 dp a0.single) {K : Int → run → Prop} (H : enumerate_run_process a0 K) :
    CallsV Try.prog 51 #[.pointer (some ⟨eC, 0, none⟩)] w0 (fun v w' => ∃ (r0 : Int), ∃ (q : run), ∃ (aO : Nat), ∃ (aP : Option Addr), ∃ (aQ : Nat), ∃ (cf : List Value), ∃ (aC : Nat), ∃ (aD : Option Addr), ∃ (aE : Nat), ∃ (bS : List Value), ∃ (av : Nat), ∃ (aw : Option Addr), ∃ (ax : Nat), ∃ (bG : List Value), ∃ (aR : Nat), ∃ (aS : Option Addr), ∃ (aT : Nat), ∃ (cg : List Value), ∃ (aF : Nat), ∃ (aG : Option Addr), ∃ (aH : Nat), ∃ (bT : List Value), ∃ (aI : Nat), ∃ (aJ : Option Addr), ∃ (aK : Nat), ∃ (bU : List Value), ∃ (bI : Nat), ∃ (bK : Option Addr), ∃ (bM : Nat), ∃ (dl : List Value), ∃ (bh : Nat), ∃ (bi : Option Addr), ∃ (bj : Nat), ∃ (cT : List Value), ∃ (bk : Nat), ∃ (bm : Option Addr), ∃ (bn : Nat), ∃ (cU : List Value), v = .int .i64 r0 ∧ (fun Z0 => Owns n0 w' Z0 A ∧ Els (Rp.sl (Rp.int .i64)) (bl Z0 ++ A) w' cf q.Enum.Gens ∧ Els (Rp.sl (Rp.int .i64)) (bl Z0 ++ A) w' bS q.Enum.Elems ∧ Els (Rp.int .i64) (bl Z0 ++ A) w' bG q.Enum.Prefix ∧ Els (Rp.int .i64) (bl Z0 ++ A) w' cg q.Enum.Last ∧ Els (Rp.sl (Rp.int .i64)) (bl Z0 ++ A) w' bT q.Enum.Right ∧ Els (rpRule) (bl Z0 ++ A) w' bU q.Enum.Rules ∧ Els (Rp.str) (bl Z0 ++ A) w' dl q.words ∧ Els (Rp.int .i64) (bl Z0 ++ A) w' cT q.behind ∧ Els (Rp.int .i64) (bl Z0 ++ A) w' cU q.single ∧ Fr (bl [.blk eC (.cells #[.int .i64 a0.Enum.Points, .bool a0.Enum.Monoid, .slice ak aj al, .slice cL cK cM, .slice cF cE cG, .slice db c6 de, .slice az ar aA, .slice cO cN cP, .int .i64 a0.Enum.Done, .map (some aB), .slice dR dQ dS, .slice dI dH dJ, .slice aY aX a7] 72 (0, 0)), .row 26 1 ak aj al cC, .row 26 1 cL cK cM eI, .row 3 1 cF cE cG eo, .row 3 1 db c6 de fd, .row 26 1 az ar aA cx, .row 39 2 cO cN cP eK, .row 9 1 dR dQ dS gK, .row 3 1 dI dH dJ fV, .row 3 1 aY aX a7 dp, .any (mapE (fun a : List UInt8 => Value.string (gstr a)) (fun a : Int => Value.int .i64 a) aB a0.number)]) w0 (bl Z0) w' ∧ K r0 q) [.blk eC (.cells #[.int .i64 q.Enum.Points, .bool q.Enum.Monoid, .slice aP aO aQ, .slice aD aC aE, .slice aw av ax, .slice aS aR aT, .slice aG aF aH, .slice aJ aI aK, .int .i64 q.Enum.Done, .map (some aB), .slice bK bI bM, .slice bi bh bj, .slice bm bk bn] 72 (0, 0)), .row 26 1 aP aO aQ cf, .row 26 1 aD aC aE bS, .row 3 1 aw av ax bG, .row 3 1 aS aR aT cg, .row 26 1 aG aF aH bT, .row 39 2 aJ aI aK bU, .row 9 1 bK bI bM dl, .row 3 1 bi bh bj cT, .row 3 1 bm bk bn cU, .any (mapE (fun a : List UInt8 => Value.string (gstr a)) (fun a : Int => Value.int .i64 a) aB q.number)]) := by
 refine CallsV.of (l := [.pointer (some ⟨eC, 0, none⟩)]) Try.func51 rfl Try.ntmps51 rfl ?_
 have hB := Fr.refl (bl [.blk eC (.cells #[.int .i64 a0.Enum.Points, .bool a0.Enum.Monoid, .slice ak aj al, .slice cL cK cM, .slice cF cE cG, .slice db c6 de, .slice az ar aA, .slice cO cN cP, .int .i64 a0.Enum.Done, .map (some aB), .slice dR dQ dS, .slice dI dH dJ, .slice aY aX a7] 72 (0, 0)), .row 26 1 ak aj al cC, .row 26 1 cL cK cM eI, .row 3 1 cF cE cG eo, .row 3 1 db c6 de fd, .row 26 1 az ar aA cx, .row 39 2 cO cN cP eK, .row 9 1 dR dQ dS gK, .row 3 1 dI dH dJ fV, .row 3 1 aY aX a7 dp, .any (mapE (fun a : List UInt8 => Value.string (gstr a)) (fun a : Int => Value.int .i64 a) aB a0.number)]) w0
 unfold enumerate_run_process at H
 refine zq (zr (za rfl (zn (zq (zr ?_)))))
 refine zm rfl (zo (op_nilCheck rfl) (zo (op_fieldAddr Try.underlying72 rfl ti29 rfl (by decide)) (zo (op_fieldAddr Try.underlying29 rfl ti3 rfl (by decide)) (zs (oblk (i := 8) 0 hO rfl rfl Try.underlying3 rfl rfl) (za rfl ?_)))))
 refine zn (zq (zr (zm rfl (zo (op_nilCheck rfl) (zo (op_fieldAddr Try.underlying72 rfl ti29 rfl (by decide)) ?_)))))
 refine zo (op_fieldAddr Try.underlying29 rfl ti22 rfl (by decide)) (zs (oblk (i := 2) 0 hO rfl rfl Try.underlying22 rfl rfl) (zo (op_lenN Try.underlying22 rfl (aa.neq hO 1 rfl)) ?_))
 obtain ⟨h8, H⟩ := H
 obtain ⟨h9, H⟩ := H
 have hobt := omake (n := (a0.Enum.Gens.length : Int)) (r := Rp.int .i64) (d := (0 : Int)) Try.underlying26 ti3 (fun _ _ => rfl) rfl hO h8 h9 (by decide)
 obtain ⟨w1, p2, vs3, li, hE5, hs6, xY⟩ := hobt
 refine zg (xY rfl rfl) ?_
 replace hO := li.own
 refine za rfl (zn (zq (zq (zr (zm rfl ?_)))))
 refine zo (op_nilCheck rfl) (zo (op_fieldAddr Try.underlying72 rfl ti29 rfl (by decide)) (zo (op_fieldAddr Try.underlying29 rfl ti22 rfl (by decide)) (zs (oblk (i := 2) 1 hO rfl rfl Try.underlying22 rfl rfl) ?_)))
 replace aa := aa.ch li.ch
 refine zo (op_lenN Try.underlying22 rfl (aa.neq hO 2 rfl)) (zm rfl (zn (zb ?_)))
 replace vD := vD.ch li.ch
 replace uP := uP.ch li.ch
 replace vM := vM.ch li.ch
 replace ab := ab.ch li.ch
 replace vE := vE.ch li.ch
 replace yO := yO.ch li.ch
 replace x4 := x4.ch li.ch
 replace ad := ad.ch li.ch
 replace hB := hB.trans li.fr
 refine Go1.loopW (S := Nat × List Int × List (List Int) × List Int × List Int × List Rule × List Str × List Int × (List (Str × Int))) (fun s σ w => match s with | (k1_12, d_13, d_16, d_22, d_28, d_34, d_40, d_46, m1_52) => ∃ (jy : List Value), ∃ (n21 : Nat), ∃ (p19 : Option Addr), ∃ (c20 : Nat), ∃ (nY : List Value), ∃ (n27 : Nat), ∃ (p25 : Option Addr), ∃ (c26 : Nat), ∃ (oY : List Value), ∃ (n33 : Nat), ∃ (p31 : Option Addr), ∃ (c32 : Nat), ∃ (o0 : List Value), ∃ (n39 : Nat), ∃ (p37 : Option Addr), ∃ (c38 : Nat), ∃ (o3 : List Value), ∃ (n45 : Nat), ∃ (p43 : Option Addr), ∃ (c44 : Nat), ∃ (o4 : List Value), ∃ (n51 : Nat), ∃ (p49 : Option Addr), ∃ (c50 : Nat), ∃ (o5 : List Value), agrees σ [(0, .pointer (some ⟨eC, 0, none⟩)), (3, .int .i64 a0.Enum.Done), (4, .slice p2 a0.Enum.Gens.length a0.Enum.Gens.length), (27, .slice ak aj al), (28, .int .i64 (a0.Enum.Gens.length : Int)), (29, .int .i64 (k1_12 : Int))] ∧ (fun Z0 => Owns n0 w Z0 A ∧ Els (Rp.int .i64) (bl Z0 ++ A) w jy d_13 ∧ Els (Rp.sl (Rp.int .i64)) (bl Z0 ++ A) w cC a0.Enum.Gens ∧ Els (Rp.sl (Rp.int .i64)) (bl Z0 ++ A) w nY d_16 ∧ Els (Rp.int .i64) (bl Z0 ++ A) w oY d_22 ∧ Els (Rp.int .i64) (bl Z0 ++ A) w o0 d_28 ∧ Els (Rp.sl (Rp.int .i64)) (bl Z0 ++ A) w cx a0.Enum.Right ∧ Els (rpRule) (bl Z0 ++ A) w o3 d_34 ∧ Els (Rp.str) (bl Z0 ++ A) w o4 d_40 ∧ Els (Rp.int .i64) (bl Z0 ++ A) w o5 d_46 ∧ Els (Rp.int .i64) (bl Z0 ++ A) w dp a0.single ∧ Fr (bl [.blk eC (.cells #[.int .i64 a0.Enum.Points, .bool a0.Enum.Monoid, .slice ak aj al, .slice cL cK cM, .slice cF cE cG, .slice db c6 de, .slice az ar aA, .slice cO cN cP, .int .i64 a0.Enum.Done, .map (some aB), .slice dR dQ dS, .slice dI dH dJ, .slice aY aX a7] 72 (0, 0)), .row 26 1 ak aj al cC, .row 26 1 cL cK cM eI, .row 3 1 cF cE cG eo, .row 3 1 db c6 de fd, .row 26 1 az ar aA cx, .row 39 2 cO cN cP eK, .row 9 1 dR dQ dS gK, .row 3 1 dI dH dJ fV, .row 3 1 aY aX a7 dp, .any (mapE (fun a : List UInt8 => Value.string (gstr a)) (fun a : Int => Value.int .i64 a) aB a0.number)]) w0 (bl Z0) w) [.row 3 1 p2 a0.Enum.Gens.length a0.Enum.Gens.length jy, .blk eC (.cells #[.int .i64 a0.Enum.Points, .bool a0.Enum.Monoid, .slice ak aj al, .slice p19 n21 c20, .slice p25 n27 c26, .slice p31 n33 c32, .slice az ar aA, .slice p37 n39 c38, .int .i64 a0.Enum.Done, .map (some aB), .slice p43 n45 c44, .slice p49 n51 c50, .slice aY aX a7] 72 (0, 0)), .row 26 1 ak aj al cC, .row 26 1 p19 n21 c20 nY, .row 3 1 p25 n27 c26 oY, .row 3 1 p31 n33 c32 o0, .row 26 1 az ar aA cx, .row 39 2 p37 n39 c38 o3, .row 9 1 p43 n45 c44 o4, .row 3 1 p49 n51 c50 o5, .row 3 1 aY aX a7 dp, .any (mapE (fun a : List UInt8 => Value.string (gstr a)) (fun a : Int => Value.int .i64 a) aB m1_52)]) H ⟨vs3, cK, cL, cM, eI, cE, cF, cG, eo, c6, db, de, fd, cN, cO, cP, eK, dQ, dR, dS, gK, dH, dI, dJ, fV, ⟨rfl, rfl, rfl, rfl, rfl, rfl, trivial⟩, hO, hE5, aa, vD, uP, vM, ab, vE, yO, x4, ad, hB⟩ ?_
 intro X1
 refine prE fun k1_12 => prE fun d_13 => prE fun d_16 => prE fun d_22 => prE fun d_28 => prE fun d_34 => prE fun d_40 => prE fun d_46 => fun m1_52 => ?_
 intro H hX1 σ w11
 refine exE fun jy => exE fun n21 => exE fun p19 => exE fun c20 => exE fun nY => exE fun n27 => exE fun p25 => exE fun c26 => exE fun oY => exE fun n33 => exE fun p31 => exE fun c32 => exE fun o0 => exE fun n39 => exE fun p37 => exE fun c38 => exE fun o3 => exE fun n45 => exE fun p43 => exE fun c44 => exE fun o4 => exE fun n51 => exE fun p49 => exE fun c50 => exE fun o5 => andE fun hag => andE fun hO => andE fun bg => andE fun aa => andE fun dj => andE fun cy => andE fun cj => andE fun ab => andE fun bD => andE fun bx => andE fun bw => andE fun ad => fun hB => ?_
 dsimp only at H
 refine Go1.keep [(0, .pointer (some ⟨eC, 0, none⟩)), (3, .int .i64 a0.Enum.Done), (4, .slice p2 a0.Enum.Gens.length a0.Enum.Gens.length), (27, .slice ak aj al), (28, .int .i64 (a0.Enum.Gens.length : Int)), (29, .int .i64 (k1_12 : Int))] hag ?_
 refine zq (zr ?_)
 by_cases h53 : (k1_12 : Int) < (a0.Enum.Gens.length : Int)
 ·replace H := ifp h53 H
  refine zo (fun w => opB (op_lss rfl rfl w) (decide_eq_true h53)) (zn (zq (zt rfl rfl (zk (zq ?_)))))
  refine zb (zq (zr (zm rfl ?_)))
  obtain ⟨h54, H⟩ := H
  obtain ⟨h55, H⟩ := H
  refine zo (op_index Try.underlying22 ti26 rfl rfl h54 (ltn (aa.neq hO 2 rfl) h55) (aa.psome hO 2 rfl h54 h55)) ?_
  have hobt := oldSl 2 hO rfl aa h54 h55
  obtain ⟨p56, c57, bN, QT⟩ := hobt
  refine zs (QT Try.underlying26 rfl rfl) (za rfl (za rfl (zn (zq (zr ?_)))))
  refine zm rfl (zo (op_nilCheck rfl) (zo (op_fieldAddr Try.underlying72 rfl ti29 rfl (by decide)) (zo (op_fieldAddr Try.underlying29 rfl ti22 rfl (by decide)) (zs (oblk (i := 3) 1 hO rfl rfl Try.underlying22 rfl rfl) (zm rfl ?_)))))
  obtain ⟨h60, H⟩ := H
  obtain ⟨h61, H⟩ := H
  refine zo (op_index Try.underlying22 ti26 rfl rfl h60 (ltn (dj.neq hO 3 rfl) h61) (dj.psome hO 3 rfl h60 h61)) ?_
  have hobt := oldSl 3 hO rfl dj h60 h61
  obtain ⟨p62, c63, bO, QU⟩ := hobt
  refine zs (QU Try.underlying26 rfl rfl) (zm rfl ?_)
  refine GoR.call (op_call body37 rfl (walk_trans_Compose hO.lt bO bN H)) rfl rfl ?_
  rintro v70 w67 ⟨r66, uq, ur, rfl, QV, a9, H⟩
  have nW := Stp.same hO QV
  replace hO := nW.own
  refine za rfl (zn (zq ?_))
  refine Go1.drawS 0 [(0, .pure), (1, .pure), (2, .pure), (3, .stable), (4, .pure), (5, .loud), (6, .stable), (7, .pure), (8, .pure), (9, .pure), (10, .pure), (11, .pure)] mixed (by kernel_rfl) ?_
  intro w72 QW
  have f7 := Stp.same hO QW
  replace hO := f7.own
  refine GoQ.pure rfl (op_move rfl) rfl rfl ?_
  refine GoQ.pure rfl (op_nilCheck rfl) rfl rfl ?_
  refine GoQ.pure rfl (op_fieldAddr Try.underlying72 rfl ti69 rfl (by decide)) rfl rfl ?_
  refine GoQ.stable rfl (oblk (i := 9) 1 hO rfl rfl Try.underlying69 rfl rfl) rfl rfl ?_
  refine GoQ.pure rfl (op_move rfl) rfl rfl ?_
  replace a9 := a9.ch f7.ch
  refine GoQ.call rfl (op_call body61 rfl (walk_enumerate_text hO.lt a9 H)) (fun v w hr => by obtain ⟨_, _, hs, _, _⟩ := hr; assumption) rfl rfl ?_
  rintro v79 w76 ⟨r75, rfl, FY, S3, H⟩
  have jf := Stp.same hO FY
  replace hO := jf.own
  by_cases h81 : mhas m1_52 r75 = true
  ·replace H := ifp h81 H
   refine GoQ.stable rfl (olookT (a := r75) (MK.str Try.underlying9) 11 hO rfl Try.underlying69 rfl rfl h81) rfl rfl ?_
   refine GoQ.pure rfl (op_move rfl) rfl rfl ?_
   refine GoQ.pure rfl (op_extract rfl rfl) rfl rfl ?_
   refine GoQ.pure rfl (op_extract rfl rfl) rfl rfl ?_
   refine GoQ.pure rfl (op_assign rfl) rfl rfl ?_
   refine GoQ.pure rfl (op_assign rfl) rfl rfl ?_
   refine GoQ.nil ?_
   refine zq ?_
   refine Go1.cut [(0, .pointer (some ⟨eC, 0, none⟩)), (3, .int .i64 a0.Enum.Done), (4, .slice p2 a0.Enum.Gens.length a0.Enum.Gens.length), (5, .int .i64 (k1_12 : Int)), (7, .slice uq r66.length ur), (8, .int .i64 (mgt m1_52 r75)), (9, .bool true), (27, .slice ak aj al), (28, .int .i64 (a0.Enum.Gens.length : Int)), (29, .int .i64 (k1_12 : Int))] ⟨rfl, rfl, rfl, rfl, rfl, rfl, rfl, rfl, rfl, rfl, trivial⟩ ?_
   intro σ _
   refine zr (zm rfl (zo (op_nilCheck rfl) (zo (op_fieldAddr Try.underlying72 rfl ti70 rfl (by decide)) (zs (oblk (i := 10) 1 hO rfl rfl Try.underlying70 rfl rfl) (zm rfl ?_)))))
   obtain ⟨h82, H⟩ := H
   obtain ⟨h83, H⟩ := H
   have Z1 := (nW.ch.trans f7.ch).trans jf.ch
   replace bx := bx.ch Z1
   refine zo (op_index Try.underlying70 ti9 rfl rfl h82 (ltn (bx.neq hO 8 rfl) h83) (bx.psome hO 8 rfl h82 h83)) (zs (oldStr 8 hO rfl bx h82 h83 Try.underlying9 rfl rfl) ?_)
   have hle84 := Els.str_le bx h82 h83
   refine zm rfl ?_
   obtain ⟨h85, H⟩ := H
   refine zo (op_add rfl rfl (wrap_i64 h85)) (zo (op_conv Try.underlying3 Try.underlying21 rfl rfl) ?_)
   obtain ⟨h86, H⟩ := H
   obtain ⟨h87, H⟩ := H
   refine zo (op_convRS Try.underlying21 Try.underlying9 rfl h86 h87) ?_
   obtain ⟨h88, H⟩ := H
   refine zo (op_addS rfl rfl h88) (za rfl (zn (zq (zb (zq ?_)))))
   refine zr (zm rfl (zo (op_not rfl) (zm rfl (zp (zp ?_)))))
   refine zp (zp (zp (zp (zp (zo (op_pickF rfl rfl rfl) ?_)))))
   refine za rfl (zn (zf rfl rfl (zq ?_)))
   refine Go1.cut [(0, .pointer (some ⟨eC, 0, none⟩)), (3, .int .i64 a0.Enum.Done), (4, .slice p2 a0.Enum.Gens.length a0.Enum.Gens.length), (5, .int .i64 (k1_12 : Int)), (7, .slice uq r66.length ur), (8, .int .i64 (mgt m1_52 r75)), (9, .bool true), (10, .string (gstr ((ix d_40 a0.Enum.Done) ++ (chr (IntKind.i32.wrap ((97 : Int) + (k1_12 : Int))))))), (27, .slice ak aj al), (28, .int .i64 (a0.Enum.Gens.length : Int)), (29, .int .i64 (k1_12 : Int))] ⟨rfl, rfl, rfl, rfl, rfl, rfl, rfl, rfl, rfl, rfl, rfl, trivial⟩ ?_
   intro σ _
   refine zr (zm rfl (zo (op_not rfl) (za rfl (zn (zf rfl rfl ?_)))))
   refine zq (zr (zm rfl (zo (op_nilCheck rfl) (zo (op_fieldAddr Try.underlying72 rfl ti70 rfl (by decide)) (zs (oblk (i := 10) 1 hO rfl rfl Try.underlying70 rfl rfl) ?_)))))
   refine zm rfl ?_
   obtain ⟨h89, H⟩ := H
   obtain ⟨h90, H⟩ := H
   refine zo (op_index Try.underlying70 ti9 rfl rfl h89 (ltn (bx.neq hO 8 rfl) h90) (bx.psome hO 8 rfl h89 h90)) (zs (oldStr 8 hO rfl bx h89 h90 Try.underlying9 rfl rfl) ?_)
   have hle91 := Els.str_le bx h89 h90
   by_cases h92 : (ix d_40 a0.Enum.Done) = (([] : Str))
   ·replace H := ifp h92 H
    refine zo (fun w => opB (op_neqS rfl rfl w) (ndT h92)) (zm rfl (zp (zp (zp (zp ?_)))))
    refine zp (zp (zp (zp (zp (zp ?_)))))
    refine zo (op_pickF rfl rfl rfl) (za rfl (zn (zf rfl rfl (zk ?_))))
    refine Go1.inBlock ?_
    refine Go1.cut [(0, .pointer (some ⟨eC, 0, none⟩)), (3, .int .i64 a0.Enum.Done), (4, .slice p2 a0.Enum.Gens.length a0.Enum.Gens.length), (5, .int .i64 (k1_12 : Int)), (8, .int .i64 (mgt m1_52 r75)), (27, .slice ak aj al), (28, .int .i64 (a0.Enum.Gens.length : Int)), (29, .int .i64 (k1_12 : Int))] ⟨rfl, rfl, rfl, rfl, rfl, rfl, rfl, rfl, trivial⟩ ?_
    intro σ _
    refine zr (zm rfl (zm rfl (zm rfl ?_)))
    obtain ⟨h93, H⟩ := H
    obtain ⟨h94, H⟩ := H
    replace bg := bg.ch Z1
    refine zo (op_index Try.underlying26 ti3 rfl rfl h93 (ltn (bg.neq hO 0 rfl) h94) (bg.psome hO 0 rfl h93 h94)) ?_
    have hobt := ost (r := Rp.int .i64) rfl 0 hO rfl bg h93 h94 (v := .int .i64 (mgt m1_52 r75)) (u := (mgt m1_52 r75)) rfl rfl
    obtain ⟨w95, QX, rK, IQ, Mo⟩ := hobt
    dsimp only [sS, sZ] at rK IQ
    refine zg (Mo Try.underlying3 rfl ti3 (by exact rfl) (by exact rfl)) ?_
    replace hO := rK.own
    refine zn ?_
    refine Go1.inBlock ?_
    refine zr ?_
    replace aa := (aa.ch Z1).ch rK.ch
    refine zo (op_add rfl rfl (wrap_i64 (natbd h53 aa.bd))) (zm rfl (zn ?_))
    replace bx := bx.ch rK.ch
    have Z2 := Z1.trans rK.ch
    replace dj := dj.ch Z2
    replace cy := cy.ch Z2
    replace cj := cj.ch Z2
    replace ab := ab.ch Z2
    replace bD := bD.ch Z2
    replace bw := bw.ch Z2
    replace ad := ad.ch Z2
    replace hB := (((hB.trans nW.fr).trans f7.fr).trans jf.fr).trans rK.fr
    exact hX1 _ H _ _ ⟨QX, n21, p19, c20, nY, n27, p25, c26, oY, n33, p31, c32, o0, n39, p37, c38, o3, n45, p43, c44, o4, n51, p49, c50, o5, ⟨rfl, rfl, rfl, rfl, rfl, rfl, trivial⟩, hO, IQ, aa, dj, cy, cj, ab, bD, bx, bw, ad, hB⟩
   replace H := ifn h92 H
   refine zo (fun w => opB (op_neqS rfl rfl w) (ndF h92)) (zm rfl (zm rfl (zm rfl (zo (op_nilCheck rfl) (zo (op_fieldAddr Try.underlying72 rfl ti26 rfl (by decide)) ?_)))))
   refine zs (oblk (i := 11) 1 hO rfl rfl Try.underlying26 rfl rfl) (zm rfl ?_)
   obtain ⟨AV, H⟩ := H
   obtain ⟨AW, H⟩ := H
   replace bw := bw.ch Z1
   refine zo (op_index Try.underlying26 ti3 rfl rfl AV (ltn (bw.neq hO 9 rfl) AW) (bw.psome hO 9 rfl AV AW)) (zs (oldInt 9 hO rfl bw AV AW Try.underlying3 rfl rfl) (zm rfl ?_))
   refine GoR.inl (vs := [.pointer (some ⟨eC, 0, none⟩), .int .i64 (ix d_46 a0.Enum.Done), .int .i64 (k1_12 : Int)]) (caps := []) rfl rfl body67 Try.func67 rfl Try.ntmps67 rfl rfl rfl ?_
   intro RhR102 hR102
   refine zq (zr (za rfl (zn (zq ?_))))
   refine Go1.cut [(0, .pointer (some ⟨eC, 0, none⟩)), (1, .int .i64 (ix d_46 a0.Enum.Done)), (2, .int .i64 (k1_12 : Int))] ⟨rfl, rfl, rfl, trivial⟩ ?_
   intro σ _
   refine zr (zm rfl (zm rfl (zm rfl ?_)))
   refine GoR.inl (vs := [.pointer (some ⟨eC, 0, none⟩), .int .i64 (ix d_46 a0.Enum.Done), .int .i64 (k1_12 : Int)]) (caps := []) rfl rfl body66 Try.func66 rfl Try.ntmps66 rfl rfl rfl ?_
   intro RhR103 hR103
   refine zq (zr (za rfl (zn (zq (zq ?_)))))
   refine zr (zm rfl ?_)
   by_cases zL : (ix d_46 a0.Enum.Done) = (-1 : Int)
   ·replace H := ifp zL H
    refine zo (fun w => opB (op_eql rfl rfl w) (decide_eq_true zL)) (zn (zt rfl rfl (zq (zr (zm rfl ?_)))))
    refine zo (op_nilCheck rfl) (zo (op_fieldAddr Try.underlying72 rfl ti26 rfl (by decide)) (zs (oblk (i := 12) 1 hO rfl rfl Try.underlying26 rfl rfl) (zm rfl ?_)))
    obtain ⟨xr, H⟩ := H
    obtain ⟨xt, H⟩ := H
    replace ad := ad.ch Z1
    refine zo (op_index Try.underlying26 ti3 rfl rfl xr (ltn (ad.neq hO 10 rfl) xt) (ad.psome hO 10 rfl xr xt)) (zs (oldInt 10 hO rfl ad xr xt Try.underlying3 rfl rfl) (za rfl (zn ?_)))
    refine Go1.ret1V Try.func66 rfl (show _ = .int .i64 (ix a0.single (k1_12 : Int)) from rfl) ?_
    refine hR103 _ _ ?_
    refine za rfl (zn (zq (zr (zm rfl (zo (op_nilCheck rfl) ?_)))))
    refine zo (op_fieldAddr Try.underlying72 rfl ti29 rfl (by decide)) (zo (op_fieldAddr Try.underlying29 rfl ti26 rfl (by decide)) (zs (oblk (i := 4) 1 hO rfl rfl Try.underlying26 rfl rfl) (zm rfl ?_)))
    obtain ⟨BN, H⟩ := H
    obtain ⟨F0, H⟩ := H
    replace cy := cy.ch Z1
    refine zo (op_index Try.underlying26 ti3 rfl rfl BN (ltn (cy.neq hO 4 rfl) F0) (cy.psome hO 4 rfl BN F0)) (zs (oldInt 4 hO rfl cy BN F0 Try.underlying3 rfl rfl) (zm rfl ?_))
    by_cases Eo : (ix d_22 (ix a0.single (k1_12 : Int))) = (ix d_46 a0.Enum.Done)
    ·replace H := ifp Eo H
     refine zo (fun w => opB (op_eql rfl rfl w) (decide_eq_true Eo)) (zm rfl (zm rfl (zo (op_nilCheck rfl) (zo (op_fieldAddr Try.underlying72 rfl ti29 rfl (by decide)) (zo (op_fieldAddr Try.underlying29 rfl ti26 rfl (by decide)) ?_)))))
     refine zs (oblk (i := 5) 1 hO rfl rfl Try.underlying26 rfl rfl) (zm rfl ?_)
     obtain ⟨F1, H⟩ := H
     obtain ⟨F2, H⟩ := H
     replace cj := cj.ch Z1
     refine zo (op_index Try.underlying26 ti3 rfl rfl F1 (ltn (cj.neq hO 5 rfl) F2) (cj.psome hO 5 rfl F1 F2)) (zs (oldInt 5 hO rfl cj F1 F2 Try.underlying3 rfl rfl) (zm rfl ?_))
     by_cases Ep : (ix d_28 (ix a0.single (k1_12 : Int))) = (k1_12 : Int)
     ·replace H := ifp Ep H
      refine zo (fun w => opB (op_eql rfl rfl w) (decide_eq_true Ep)) (zo (op_pickT rfl rfl rfl) (za rfl (zn ?_)))
      refine Go1.ret1V Try.func67 rfl (show _ = .bool true from rfl) ?_
      refine hR102 _ _ ?_
      refine zo (op_pickT rfl rfl rfl) (za rfl (zn (zt rfl rfl ?_)))
      refine Go1.cut [(0, .pointer (some ⟨eC, 0, none⟩)), (3, .int .i64 a0.Enum.Done), (4, .slice p2 a0.Enum.Gens.length a0.Enum.Gens.length), (5, .int .i64 (k1_12 : Int)), (8, .int .i64 (mgt m1_52 r75)), (10, .string (gstr ((ix d_40 a0.Enum.Done) ++ (chr (IntKind.i32.wrap ((97 : Int) + (k1_12 : Int))))))), (27, .slice ak aj al), (28, .int .i64 (a0.Enum.Gens.length : Int)), (29, .int .i64 (k1_12 : Int))] ⟨rfl, rfl, rfl, rfl, rfl, rfl, rfl, rfl, rfl, trivial⟩ ?_
      intro σ _
      refine Go1.drawS 5 [(0, .pure), (1, .pure), (2, .pure), (3, .pure), (4, .pure), (5, .stable), (6, .pure), (7, .pure), (8, .pure), (9, .pure), (10, .stable), (11, .pure), (12, .pure), (13, .stable), (14, .pure), (15, .loud), (16, .last), (17, .pure), (18, .pure), (19, .pure), (20, .last)] mixed (by kernel_rfl) ?_
      intro Ve Mp
      have o6 := Stp.same hO Mp
      replace hO := o6.own
      refine GoQ.pure rfl (op_move rfl) rfl rfl ?_
      refine GoQ.pure rfl (op_move rfl) rfl rfl ?_
      refine GoQ.pure rfl (op_nilCheck rfl) rfl rfl ?_
      refine GoQ.pure rfl (op_fieldAddr Try.underlying72 rfl ti29 rfl (by decide)) rfl rfl ?_
      refine GoQ.pure rfl (op_fieldAddr Try.underlying29 rfl ti27 rfl (by decide)) rfl rfl ?_
      refine GoQ.stable rfl (oblk (i := 7) 1 hO rfl rfl Try.underlying27 rfl rfl) rfl rfl ?_
      refine GoQ.pure rfl (op_move rfl) rfl rfl ?_
      refine GoQ.pure rfl (op_move rfl) rfl rfl ?_
      refine GoQ.pure rfl (op_nilCheck rfl) rfl rfl ?_
      refine GoQ.pure rfl (op_fieldAddr Try.underlying72 rfl ti70 rfl (by decide)) rfl rfl ?_
      refine GoQ.stable rfl (oblk (i := 10) 1 hO rfl rfl Try.underlying70 rfl rfl) rfl rfl ?_
      refine GoQ.pure rfl (op_move rfl) rfl rfl ?_
      obtain ⟨Er, H⟩ := H
      obtain ⟨Et, H⟩ := H
      replace bx := bx.ch o6.ch
      refine GoQ.pure rfl (op_index Try.underlying70 ti9 rfl rfl Er (ltn (bx.neq hO 8 rfl) Et) (bx.psome hO 8 rfl Er Et)) rfl rfl ?_
      refine GoQ.stable rfl (oldStr 8 hO rfl bx Er Et Try.underlying9 rfl rfl) rfl rfl ?_
      have hle118 := Els.str_le bx Er Et
      refine GoQ.pure rfl (op_build Try.underlying39 ti39 (pl := [(0, 1), (1, 1)]) (vs := [(0, .string (gstr ((ix d_40 a0.Enum.Done) ++ (chr (IntKind.i32.wrap ((97 : Int) + (k1_12 : Int))))))), (1, .string (gstr (ix d_40 (mgt m1_52 r75))))]) (cs := #[.string (gstr ((ix d_40 a0.Enum.Done) ++ (chr (IntKind.i32.wrap ((97 : Int) + (k1_12 : Int)))))), .string (gstr (ix d_40 (mgt m1_52 r75)))]) (by kernel_rfl) rfl (by kernel_rfl)) rfl rfl ?_
      have hobt := obuildN (r := rpRule) (n := 1) (parts := [(0, .agg #[.string (gstr ((ix d_40 a0.Enum.Done) ++ (chr (IntKind.i32.wrap ((97 : Int) + (k1_12 : Int)))))), .string (gstr (ix d_40 (mgt m1_52 r75)))])]) (vs := [.string (gstr ((ix d_40 a0.Enum.Done) ++ (chr (IntKind.i32.wrap ((97 : Int) + (k1_12 : Int)))))), .string (gstr (ix d_40 (mgt m1_52 r75)))]) (xs := [(⟨(ix d_40 a0.Enum.Done) ++ (chr (IntKind.i32.wrap ((97 : Int) + (k1_12 : Int)))), ix d_40 (mgt m1_52 r75)⟩ : Rule)]) Try.underlying27 ti39 hO (by decide) (by decide) (by kernel_rfl) (Els.flat1 (⟨(ix d_40 a0.Enum.Done) ++ (chr (IntKind.i32.wrap ((97 : Int) + (k1_12 : Int)))), ix d_40 (mgt m1_52 r75)⟩ : Rule) ⟨(lenApp h88), hle118⟩) rfl
      obtain ⟨Vf, kc, o7, Mq, Eu, IR⟩ := hobt
      refine GoQ.loud rfl (IR rfl) Eu rfl rfl ?_
      replace hO := o7.own
      have hobt := freeze 0 hO rfl Mq
      obtain ⟨hO1, tC, ym, Mr⟩ := hobt
      dsimp only [eS, eZ] at hO1 tC ym
      replace hB := (((((hB.trans nW.fr).trans f7.fr).trans jf.fr).trans o6.fr).trans o7.fr).trans (Owns.dropFr _ _ 0)
      dsimp only [eS, eZ] at hB
      replace hO := hO1; clear hO1
      obtain ⟨F3, H⟩ := H
      have Z3 := ((Z1.trans o6.ch).trans o7.ch).trans tC
      replace bD := bD.ch Z3
      have hobt := oapp Try.underlying27 ti39 rfl 7 hO rfl bD ym Mr F3 (by decide)
      obtain ⟨QY, j5, j6, rL, eW, fD, Dz⟩ := hobt
      dsimp only [sS, sZ] at eW fD
      refine GoQ.last rfl (Dz (by exact rfl) (by exact rfl)) rfl rfl ?_
      replace hO := eW.own
      refine GoQ.pure rfl (op_nilCheck rfl) rfl rfl ?_
      refine GoQ.pure rfl (op_fieldAddr Try.underlying72 rfl ti29 rfl (by decide)) rfl rfl ?_
      refine GoQ.pure rfl (op_fieldAddr Try.underlying29 rfl ti27 rfl (by decide)) rfl rfl ?_
      have hobt := oblkSt2 (v := .slice j5 (n39 + 1) j6) (i := 7) (cs' := #[.int .i64 a0.Enum.Points, .bool a0.Enum.Monoid, .slice ak aj al, .slice p19 n21 c20, .slice p25 n27 c26, .slice p31 n33 c32, .slice az ar aA, .slice j5 (n39 + 1) j6, .int .i64 a0.Enum.Done, .map (some aB), .slice p43 n45 c44, .slice p49 n51 c50, .slice aY aX a7]) 1 hO rfl rfl rfl rfl
      obtain ⟨Vg, nm, IS⟩ := hobt
      dsimp only [sS, sZ] at nm
      refine GoQ.last rfl (IS Try.underlying27 rfl ti27 (by exact rfl) (by exact rfl)) rfl rfl ?_
      replace hO := nm.own
      refine GoQ.nil ?_
      refine Go1.inBlock ?_
      refine Go1.cut [(0, .pointer (some ⟨eC, 0, none⟩)), (3, .int .i64 a0.Enum.Done), (4, .slice p2 a0.Enum.Gens.length a0.Enum.Gens.length), (5, .int .i64 (k1_12 : Int)), (8, .int .i64 (mgt m1_52 r75)), (27, .slice ak aj al), (28, .int .i64 (a0.Enum.Gens.length : Int)), (29, .int .i64 (k1_12 : Int))] ⟨rfl, rfl, rfl, rfl, rfl, rfl, rfl, rfl, trivial⟩ ?_
      intro σ _
      refine zr (zm rfl (zm rfl (zm rfl ?_)))
      obtain ⟨F4, H⟩ := H
      obtain ⟨F5, H⟩ := H
      replace bg := ((bg.ch Z3).ch eW.ch).ch nm.ch
      refine zo (op_index Try.underlying26 ti3 rfl rfl F4 (ltn (bg.neq hO 0 rfl) F5) (bg.psome hO 0 rfl F4 F5)) ?_
      have hobt := ost (r := Rp.int .i64) rfl 0 hO rfl bg F4 F5 (v := .int .i64 (mgt m1_52 r75)) (u := (mgt m1_52 r75)) rfl rfl
      obtain ⟨Vh, Ms, fG, G7, IT⟩ := hobt
      dsimp only [sS, sZ] at fG G7
      refine zg (IT Try.underlying3 rfl ti3 (by exact rfl) (by exact rfl)) ?_
      replace hO := fG.own
      refine zn ?_
      refine Go1.inBlock ?_
      refine zr ?_
      have Z4 := ((Z3.trans eW.ch).trans nm.ch).trans fG.ch
      replace aa := aa.ch Z4
      refine zo (op_add rfl rfl (wrap_i64 (natbd h53 aa.bd))) (zm rfl (zn ?_))
      replace fD := (fD.ch nm.ch).ch fG.ch
      replace hB := ((hB.trans eW.fr).trans nm.fr).trans fG.fr
      have Z5 := (((o7.ch.trans tC).trans eW.ch).trans nm.ch).trans fG.ch
      replace bx := bx.ch Z5
      have Z6 := ((((o6.ch.trans o7.ch).trans tC).trans eW.ch).trans nm.ch).trans fG.ch
      replace cy := cy.ch Z6
      replace cj := cj.ch Z6
      replace bw := bw.ch Z6
      replace ad := ad.ch Z6
      replace dj := dj.ch Z4
      replace ab := ab.ch Z4
      exact hX1 _ H _ _ ⟨Ms, n21, p19, c20, nY, n27, p25, c26, oY, n33, p31, c32, o0, n39 + 1, j5, j6, rL, n45, p43, c44, o4, n51, p49, c50, o5, ⟨rfl, rfl, rfl, rfl, rfl, rfl, trivial⟩, hO, G7, aa, dj, cy, cj, ab, fD, bx, bw, ad, hB⟩
     replace H := ifn Ep H
     refine zo (fun w => opB (op_eql rfl rfl w) (decide_eq_false Ep)) (zo (op_pickT rfl rfl rfl) (za rfl (zn ?_)))
     refine Go1.ret1V Try.func67 rfl (show _ = .bool false from rfl) ?_
     refine hR102 _ _ ?_
     refine zo (op_pickT rfl rfl rfl) (za rfl (zn (zf rfl rfl (zk ?_))))
     refine Go1.inBlock ?_
     refine zr (zm rfl (zm rfl (zm rfl ?_)))
     obtain ⟨F6, H⟩ := H
     obtain ⟨F7, H⟩ := H
     replace bg := bg.ch Z1
     refine zo (op_index Try.underlying26 ti3 rfl rfl F6 (ltn (bg.neq hO 0 rfl) F7) (bg.psome hO 0 rfl F6 F7)) ?_
     have hobt := ost (r := Rp.int .i64) rfl 0 hO rfl bg F6 F7 (v := .int .i64 (mgt m1_52 r75)) (u := (mgt m1_52 r75)) rfl rfl
     obtain ⟨Q0, Mt, o8, G8, DA⟩ := hobt
     dsimp only [sS, sZ] at o8 G8
     refine zg (DA Try.underlying3 rfl ti3 (by exact rfl) (by exact rfl)) ?_
     replace hO := o8.own
     refine zn ?_
     refine Go1.inBlock ?_
     refine zr ?_
     replace aa := (aa.ch Z1).ch o8.ch
     refine zo (op_add rfl rfl (wrap_i64 (natbd h53 aa.bd))) (zm rfl (zn ?_))
     replace cy := cy.ch o8.ch
     replace cj := cj.ch o8.ch
     replace bx := bx.ch o8.ch
     replace bw := bw.ch o8.ch
     replace ad := ad.ch o8.ch
     have Z7 := Z1.trans o8.ch
     replace dj := dj.ch Z7
     replace ab := ab.ch Z7
     replace bD := bD.ch Z7
     replace hB := (((hB.trans nW.fr).trans f7.fr).trans jf.fr).trans o8.fr
     exact hX1 _ H _ _ ⟨Mt, n21, p19, c20, nY, n27, p25, c26, oY, n33, p31, c32, o0, n39, p37, c38, o3, n45, p43, c44, o4, n51, p49, c50, o5, ⟨rfl, rfl, rfl, rfl, rfl, rfl, trivial⟩, hO, G8, aa, dj, cy, cj, ab, bD, bx, bw, ad, hB⟩
    replace H := ifn Eo H
    refine zo (fun w => opB (op_eql rfl rfl w) (decide_eq_false Eo)) (zm rfl (zp (zp (zp (zp ?_)))))
    refine zp (zp (zp (zp (zp (zp ?_)))))
    refine zo (op_pickF rfl rfl rfl) (za rfl (zn ?_))
    refine Go1.ret1V Try.func67 rfl (show _ = .bool false from rfl) ?_
    refine hR102 _ _ ?_
    refine zo (op_pickT rfl rfl rfl) (za rfl (zn (zf rfl rfl (zk ?_))))
    refine Go1.inBlock ?_
    refine Go1.cut [(0, .pointer (some ⟨eC, 0, none⟩)), (3, .int .i64 a0.Enum.Done), (4, .slice p2 a0.Enum.Gens.length a0.Enum.Gens.length), (5, .int .i64 (k1_12 : Int)), (8, .int .i64 (mgt m1_52 r75)), (27, .slice ak aj al), (28, .int .i64 (a0.Enum.Gens.length : Int)), (29, .int .i64 (k1_12 : Int))] ⟨rfl, rfl, rfl, rfl, rfl, rfl, rfl, rfl, trivial⟩ ?_
    intro σ _
    refine zr (zm rfl (zm rfl (zm rfl ?_)))
    obtain ⟨BC, H⟩ := H
    obtain ⟨BD, H⟩ := H
    replace bg := bg.ch Z1
    refine zo (op_index Try.underlying26 ti3 rfl rfl BC (ltn (bg.neq hO 0 rfl) BD) (bg.psome hO 0 rfl BC BD)) ?_
    have hobt := ost (r := Rp.int .i64) rfl 0 hO rfl bg BC BD (v := .int .i64 (mgt m1_52 r75)) (u := (mgt m1_52 r75)) rfl rfl
    obtain ⟨Vi, Mu, o9, G9, IU⟩ := hobt
    dsimp only [sS, sZ] at o9 G9
    refine zg (IU Try.underlying3 rfl ti3 (by exact rfl) (by exact rfl)) ?_
    replace hO := o9.own
    refine zn ?_
    refine Go1.inBlock ?_
    refine zr ?_
    replace aa := (aa.ch Z1).ch o9.ch
    refine zo (op_add rfl rfl (wrap_i64 (natbd h53 aa.bd))) (zm rfl (zn ?_))
    replace cy := cy.ch o9.ch
    replace bx := bx.ch o9.ch
    replace bw := bw.ch o9.ch
    replace ad := ad.ch o9.ch
    have Z8 := Z1.trans o9.ch
    replace dj := dj.ch Z8
    replace cj := cj.ch Z8
    replace ab := ab.ch Z8
    replace bD := bD.ch Z8
    replace hB := (((hB.trans nW.fr).trans f7.fr).trans jf.fr).trans o9.fr
    exact hX1 _ H _ _ ⟨Mu, n21, p19, c20, nY, n27, p25, c26, oY, n33, p31, c32, o0, n39, p37, c38, o3, n45, p43, c44, o4, n51, p49, c50, o5, ⟨rfl, rfl, rfl, rfl, rfl, rfl, trivial⟩, hO, G9, aa, dj, cy, cj, ab, bD, bx, bw, ad, hB⟩
   replace H := ifn zL H
   refine zo (fun w => opB (op_eql rfl rfl w) (decide_eq_false zL)) (zn (zf rfl rfl (zk (zq (zr ?_)))))
   refine zm rfl (zo (op_nilCheck rfl) (zo (op_fieldAddr Try.underlying72 rfl ti29 rfl (by decide)) (zo (op_fieldAddr Try.underlying29 rfl ti22 rfl (by decide)) (zs (oblk (i := 6) 1 hO rfl rfl Try.underlying22 rfl rfl) (zm rfl ?_)))))
   obtain ⟨BE, H⟩ := H
   obtain ⟨Dj, H⟩ := H
   replace ab := ab.ch Z1
   refine zo (op_index Try.underlying22 ti26 rfl rfl BE (ltn (ab.neq hO 6 rfl) Dj) (ab.psome hO 6 rfl BE Dj)) ?_
   have hobt := oldSl 6 hO rfl ab BE Dj
   obtain ⟨Ev, Ew, pC, Mv⟩ := hobt
   refine zs (Mv Try.underlying26 rfl rfl) (zm rfl ?_)
   obtain ⟨F8, H⟩ := H
   obtain ⟨F9, H⟩ := H
   refine zo (op_index Try.underlying26 ti3 rfl rfl F8 F9 (pC.some_ F8 F9)) (zs (ldInt pC F8 F9 Try.underlying3 rfl rfl) (za rfl (zn ?_)))
   refine Go1.ret1V Try.func66 rfl (show _ = .int .i64 (ix (ix a0.Enum.Right (ix d_46 a0.Enum.Done)) (k1_12 : Int)) from rfl) ?_
   refine hR103 _ _ ?_
   refine za rfl (zn (zq ?_))
   refine Go1.cut [(0, .pointer (some ⟨eC, 0, none⟩)), (1, .int .i64 (ix d_46 a0.Enum.Done)), (2, .int .i64 (k1_12 : Int)), (7, .int .i64 (ix (ix a0.Enum.Right (ix d_46 a0.Enum.Done)) (k1_12 : Int)))] ⟨rfl, rfl, rfl, rfl, trivial⟩ ?_
   intro σ _
   refine zr (zm rfl (zo (op_nilCheck rfl) (zo (op_fieldAddr Try.underlying72 rfl ti29 rfl (by decide)) (zo (op_fieldAddr Try.underlying29 rfl ti26 rfl (by decide)) (zs (oblk (i := 4) 1 hO rfl rfl Try.underlying26 rfl rfl) ?_)))))
   refine zm rfl ?_
   obtain ⟨Ga, H⟩ := H
   obtain ⟨Gb, H⟩ := H
   replace cy := cy.ch Z1
   refine zo (op_index Try.underlying26 ti3 rfl rfl Ga (ltn (cy.neq hO 4 rfl) Gb) (cy.psome hO 4 rfl Ga Gb)) (zs (oldInt 4 hO rfl cy Ga Gb Try.underlying3 rfl rfl) (zm rfl ?_))
   by_cases Ex : (ix d_22 (ix (ix a0.Enum.Right (ix d_46 a0.Enum.Done)) (k1_12 : Int))) = (ix d_46 a0.Enum.Done)
   ·replace H := ifp Ex H
    refine zo (fun w => opB (op_eql rfl rfl w) (decide_eq_true Ex)) (zm rfl (zm rfl (zo (op_nilCheck rfl) (zo (op_fieldAddr Try.underlying72 rfl ti29 rfl (by decide)) (zo (op_fieldAddr Try.underlying29 rfl ti26 rfl (by decide)) ?_)))))
    refine zs (oblk (i := 5) 1 hO rfl rfl Try.underlying26 rfl rfl) (zm rfl ?_)
    obtain ⟨AH, H⟩ := H
    obtain ⟨Gc, H⟩ := H
    replace cj := cj.ch Z1
    refine zo (op_index Try.underlying26 ti3 rfl rfl AH (ltn (cj.neq hO 5 rfl) Gc) (cj.psome hO 5 rfl AH Gc)) (zs (oldInt 5 hO rfl cj AH Gc Try.underlying3 rfl rfl) (zm rfl ?_))
    by_cases Ey : (ix d_28 (ix (ix a0.Enum.Right (ix d_46 a0.Enum.Done)) (k1_12 : Int))) = (k1_12 : Int)
    ·replace H := ifp Ey H
     refine zo (fun w => opB (op_eql rfl rfl w) (decide_eq_true Ey)) (zo (op_pickT rfl rfl rfl) (za rfl (zn ?_)))
     refine Go1.ret1V Try.func67 rfl (show _ = .bool true from rfl) ?_
     refine hR102 _ _ ?_
     refine zo (op_pickT rfl rfl rfl) (za rfl (zn (zt rfl rfl ?_)))
     refine Go1.cut [(0, .pointer (some ⟨eC, 0, none⟩)), (3, .int .i64 a0.Enum.Done), (4, .slice p2 a0.Enum.Gens.length a0.Enum.Gens.length), (5, .int .i64 (k1_12 : Int)), (8, .int .i64 (mgt m1_52 r75)), (10, .string (gstr ((ix d_40 a0.Enum.Done) ++ (chr (IntKind.i32.wrap ((97 : Int) + (k1_12 : Int))))))), (27, .slice ak aj al), (28, .int .i64 (a0.Enum.Gens.length : Int)), (29, .int .i64 (k1_12 : Int))] ⟨rfl, rfl, rfl, rfl, rfl, rfl, rfl, rfl, rfl, trivial⟩ ?_
     intro σ _
     refine Go1.drawS 5 [(0, .pure), (1, .pure), (2, .pure), (3, .pure), (4, .pure), (5, .stable), (6, .pure), (7, .pure), (8, .pure), (9, .pure), (10, .stable), (11, .pure), (12, .pure), (13, .stable), (14, .pure), (15, .loud), (16, .last), (17, .pure), (18, .pure), (19, .pure), (20, .last)] mixed (by kernel_rfl) ?_
     intro Vj Mw
     have jc := Stp.same hO Mw
     replace hO := jc.own
     refine GoQ.pure rfl (op_move rfl) rfl rfl ?_
     refine GoQ.pure rfl (op_move rfl) rfl rfl ?_
     refine GoQ.pure rfl (op_nilCheck rfl) rfl rfl ?_
     refine GoQ.pure rfl (op_fieldAddr Try.underlying72 rfl ti29 rfl (by decide)) rfl rfl ?_
     refine GoQ.pure rfl (op_fieldAddr Try.underlying29 rfl ti27 rfl (by decide)) rfl rfl ?_
     refine GoQ.stable rfl (oblk (i := 7) 1 hO rfl rfl Try.underlying27 rfl rfl) rfl rfl ?_
     refine GoQ.pure rfl (op_move rfl) rfl rfl ?_
     refine GoQ.pure rfl (op_move rfl) rfl rfl ?_
     refine GoQ.pure rfl (op_nilCheck rfl) rfl rfl ?_
     refine GoQ.pure rfl (op_fieldAddr Try.underlying72 rfl ti70 rfl (by decide)) rfl rfl ?_
     refine GoQ.stable rfl (oblk (i := 10) 1 hO rfl rfl Try.underlying70 rfl rfl) rfl rfl ?_
     refine GoQ.pure rfl (op_move rfl) rfl rfl ?_
     obtain ⟨Ez, H⟩ := H
     obtain ⟨EA, H⟩ := H
     replace bx := bx.ch jc.ch
     refine GoQ.pure rfl (op_index Try.underlying70 ti9 rfl rfl Ez (ltn (bx.neq hO 8 rfl) EA) (bx.psome hO 8 rfl Ez EA)) rfl rfl ?_
     refine GoQ.stable rfl (oldStr 8 hO rfl bx Ez EA Try.underlying9 rfl rfl) rfl rfl ?_
     have hle181 := Els.str_le bx Ez EA
     refine GoQ.pure rfl (op_build Try.underlying39 ti39 (pl := [(0, 1), (1, 1)]) (vs := [(0, .string (gstr ((ix d_40 a0.Enum.Done) ++ (chr (IntKind.i32.wrap ((97 : Int) + (k1_12 : Int))))))), (1, .string (gstr (ix d_40 (mgt m1_52 r75))))]) (cs := #[.string (gstr ((ix d_40 a0.Enum.Done) ++ (chr (IntKind.i32.wrap ((97 : Int) + (k1_12 : Int)))))), .string (gstr (ix d_40 (mgt m1_52 r75)))]) (by kernel_rfl) rfl (by kernel_rfl)) rfl rfl ?_
     have hobt := obuildN (r := rpRule) (n := 1) (parts := [(0, .agg #[.string (gstr ((ix d_40 a0.Enum.Done) ++ (chr (IntKind.i32.wrap ((97 : Int) + (k1_12 : Int)))))), .string (gstr (ix d_40 (mgt m1_52 r75)))])]) (vs := [.string (gstr ((ix d_40 a0.Enum.Done) ++ (chr (IntKind.i32.wrap ((97 : Int) + (k1_12 : Int)))))), .string (gstr (ix d_40 (mgt m1_52 r75)))]) (xs := [(⟨(ix d_40 a0.Enum.Done) ++ (chr (IntKind.i32.wrap ((97 : Int) + (k1_12 : Int)))), ix d_40 (mgt m1_52 r75)⟩ : Rule)]) Try.underlying27 ti39 hO (by decide) (by decide) (by kernel_rfl) (Els.flat1 (⟨(ix d_40 a0.Enum.Done) ++ (chr (IntKind.i32.wrap ((97 : Int) + (k1_12 : Int)))), ix d_40 (mgt m1_52 r75)⟩ : Rule) ⟨(lenApp h88), hle181⟩) rfl
     obtain ⟨Vk, Vl, oh, Mx, My, IV⟩ := hobt
     refine GoQ.loud rfl (IV rfl) My rfl rfl ?_
     replace hO := oh.own
     have hobt := freeze 0 hO rfl Mx
     obtain ⟨hO1, rM, yn, Mz⟩ := hobt
     dsimp only [eS, eZ] at hO1 rM yn
     replace hB := (((((hB.trans nW.fr).trans f7.fr).trans jf.fr).trans jc.fr).trans oh.fr).trans (Owns.dropFr _ _ 0)
     dsimp only [eS, eZ] at hB
     replace hO := hO1; clear hO1
     obtain ⟨Q1, H⟩ := H
     have Z9 := ((Z1.trans jc.ch).trans oh.ch).trans rM
     replace bD := bD.ch Z9
     have hobt := oapp Try.underlying27 ti39 rfl 7 hO rfl bD yn Mz Q1 (by decide)
     obtain ⟨Vm, Gd, Ge, MA, np, Bg, IW⟩ := hobt
     dsimp only [sS, sZ] at np Bg
     refine GoQ.last rfl (IW (by exact rfl) (by exact rfl)) rfl rfl ?_
     replace hO := np.own
     refine GoQ.pure rfl (op_nilCheck rfl) rfl rfl ?_
     refine GoQ.pure rfl (op_fieldAddr Try.underlying72 rfl ti29 rfl (by decide)) rfl rfl ?_
     refine GoQ.pure rfl (op_fieldAddr Try.underlying29 rfl ti27 rfl (by decide)) rfl rfl ?_
     have hobt := oblkSt2 (v := .slice Gd (n39 + 1) Ge) (i := 7) (cs' := #[.int .i64 a0.Enum.Points, .bool a0.Enum.Monoid, .slice ak aj al, .slice p19 n21 c20, .slice p25 n27 c26, .slice p31 n33 c32, .slice az ar aA, .slice Gd (n39 + 1) Ge, .int .i64 a0.Enum.Done, .map (some aB), .slice p43 n45 c44, .slice p49 n51 c50, .slice aY aX a7]) 1 hO rfl rfl rfl rfl
     obtain ⟨Vn, mF, IX⟩ := hobt
     dsimp only [sS, sZ] at mF
     refine GoQ.last rfl (IX Try.underlying27 rfl ti27 (by exact rfl) (by exact rfl)) rfl rfl ?_
     replace hO := mF.own
     refine GoQ.nil ?_
     refine Go1.inBlock ?_
     refine Go1.cut [(0, .pointer (some ⟨eC, 0, none⟩)), (3, .int .i64 a0.Enum.Done), (4, .slice p2 a0.Enum.Gens.length a0.Enum.Gens.length), (5, .int .i64 (k1_12 : Int)), (8, .int .i64 (mgt m1_52 r75)), (27, .slice ak aj al), (28, .int .i64 (a0.Enum.Gens.length : Int)), (29, .int .i64 (k1_12 : Int))] ⟨rfl, rfl, rfl, rfl, rfl, rfl, rfl, rfl, trivial⟩ ?_
     intro σ _
     refine zr (zm rfl (zm rfl (zm rfl ?_)))
     obtain ⟨Gf, H⟩ := H
     obtain ⟨Gg, H⟩ := H
     replace bg := ((bg.ch Z9).ch np.ch).ch mF.ch
     refine zo (op_index Try.underlying26 ti3 rfl rfl Gf (ltn (bg.neq hO 0 rfl) Gg) (bg.psome hO 0 rfl Gf Gg)) ?_
     have hobt := ost (r := Rp.int .i64) rfl 0 hO rfl bg Gf Gg (v := .int .i64 (mgt m1_52 r75)) (u := (mgt m1_52 r75)) rfl rfl
     obtain ⟨Vo, MB, nq, Ha, IY⟩ := hobt
     dsimp only [sS, sZ] at nq Ha
     refine zg (IY Try.underlying3 rfl ti3 (by exact rfl) (by exact rfl)) ?_
     replace hO := nq.own
     refine zn ?_
     refine Go1.inBlock ?_
     refine zr ?_
     have Z10 := ((Z9.trans np.ch).trans mF.ch).trans nq.ch
     replace aa := aa.ch Z10
     refine zo (op_add rfl rfl (wrap_i64 (natbd h53 aa.bd))) (zm rfl (zn ?_))
     replace Bg := (Bg.ch mF.ch).ch nq.ch
     replace hB := ((hB.trans np.fr).trans mF.fr).trans nq.fr
     have Z11 := (((oh.ch.trans rM).trans np.ch).trans mF.ch).trans nq.ch
     replace bx := bx.ch Z11
     have Z12 := ((((jc.ch.trans oh.ch).trans rM).trans np.ch).trans mF.ch).trans nq.ch
     replace cy := cy.ch Z12
     replace cj := cj.ch Z12
     replace ab := ab.ch Z12
     replace bw := bw.ch Z12
     replace dj := dj.ch Z10
     replace ad := ad.ch Z10
     exact hX1 _ H _ _ ⟨MB, n21, p19, c20, nY, n27, p25, c26, oY, n33, p31, c32, o0, n39 + 1, Gd, Ge, MA, n45, p43, c44, o4, n51, p49, c50, o5, ⟨rfl, rfl, rfl, rfl, rfl, rfl, trivial⟩, hO, Ha, aa, dj, cy, cj, ab, Bg, bx, bw, ad, hB⟩
    replace H := ifn Ey H
    refine zo (fun w => opB (op_eql rfl rfl w) (decide_eq_false Ey)) (zo (op_pickT rfl rfl rfl) (za rfl (zn ?_)))
    refine Go1.ret1V Try.func67 rfl (show _ = .bool false from rfl) ?_
    refine hR102 _ _ ?_
    refine zo (op_pickT rfl rfl rfl) (za rfl (zn (zf rfl rfl (zk ?_))))
    refine Go1.inBlock ?_
    refine zr (zm rfl (zm rfl (zm rfl ?_)))
    obtain ⟨Gh, H⟩ := H
    obtain ⟨Dl, H⟩ := H
    replace bg := bg.ch Z1
    refine zo (op_index Try.underlying26 ti3 rfl rfl Gh (ltn (bg.neq hO 0 rfl) Dl) (bg.psome hO 0 rfl Gh Dl)) ?_
    have hobt := ost (r := Rp.int .i64) rfl 0 hO rfl bg Gh Dl (v := .int .i64 (mgt m1_52 r75)) (u := (mgt m1_52 r75)) rfl rfl
    obtain ⟨Qf, MC, ol, yo, I0⟩ := hobt
    dsimp only [sS, sZ] at ol yo
    refine zg (I0 Try.underlying3 rfl ti3 (by exact rfl) (by exact rfl)) ?_
    replace hO := ol.own
    refine zn ?_
    refine Go1.inBlock ?_
    refine zr ?_
    replace aa := (aa.ch Z1).ch ol.ch
    refine zo (op_add rfl rfl (wrap_i64 (natbd h53 aa.bd))) (zm rfl (zn ?_))
    replace cy := cy.ch ol.ch
    replace cj := cj.ch ol.ch
    replace ab := ab.ch ol.ch
    replace bx := bx.ch ol.ch
    replace bw := bw.ch ol.ch
    have Z13 := Z1.trans ol.ch
    replace dj := dj.ch Z13
    replace bD := bD.ch Z13
    replace ad := ad.ch Z13
    replace hB := (((hB.trans nW.fr).trans f7.fr).trans jf.fr).trans ol.fr
    exact hX1 _ H _ _ ⟨MC, n21, p19, c20, nY, n27, p25, c26, oY, n33, p31, c32, o0, n39, p37, c38, o3, n45, p43, c44, o4, n51, p49, c50, o5, ⟨rfl, rfl, rfl, rfl, rfl, rfl, trivial⟩, hO, yo, aa, dj, cy, cj, ab, bD, bx, bw, ad, hB⟩
   replace H := ifn Ex H
   refine zo (fun w => opB (op_eql rfl rfl w) (decide_eq_false Ex)) (zm rfl (zp (zp (zp (zp ?_)))))
   refine zp (zp (zp (zp (zp (zp ?_)))))
   refine zo (op_pickF rfl rfl rfl) (za rfl (zn ?_))
   refine Go1.ret1V Try.func67 rfl (show _ = .bool false from rfl) ?_
   refine hR102 _ _ ?_
   refine zo (op_pickT rfl rfl rfl) (za rfl (zn (zf rfl rfl (zk ?_))))
   refine Go1.inBlock ?_
   refine Go1.cut [(0, .pointer (some ⟨eC, 0, none⟩)), (3, .int .i64 a0.Enum.Done), (4, .slice p2 a0.Enum.Gens.length a0.Enum.Gens.length), (5, .int .i64 (k1_12 : Int)), (8, .int .i64 (mgt m1_52 r75)), (27, .slice ak aj al), (28, .int .i64 (a0.Enum.Gens.length : Int)), (29, .int .i64 (k1_12 : Int))] ⟨rfl, rfl, rfl, rfl, rfl, rfl, rfl, rfl, trivial⟩ ?_
   intro σ _
   refine zr (zm rfl (zm rfl (zm rfl ?_)))
   obtain ⟨AX, H⟩ := H
   obtain ⟨AY, H⟩ := H
   replace bg := bg.ch Z1
   refine zo (op_index Try.underlying26 ti3 rfl rfl AX (ltn (bg.neq hO 0 rfl) AY) (bg.psome hO 0 rfl AX AY)) ?_
   have hobt := ost (r := Rp.int .i64) rfl 0 hO rfl bg AX AY (v := .int .i64 (mgt m1_52 r75)) (u := (mgt m1_52 r75)) rfl rfl
   obtain ⟨Vp, MD, eB, Hb, I1⟩ := hobt
   dsimp only [sS, sZ] at eB Hb
   refine zg (I1 Try.underlying3 rfl ti3 (by exact rfl) (by exact rfl)) ?_
   replace hO := eB.own
   refine zn ?_
   refine Go1.inBlock ?_
   refine zr ?_
   replace aa := (aa.ch Z1).ch eB.ch
   refine zo (op_add rfl rfl (wrap_i64 (natbd h53 aa.bd))) (zm rfl (zn ?_))
   replace cy := cy.ch eB.ch
   replace ab := ab.ch eB.ch
   replace bx := bx.ch eB.ch
   replace bw := bw.ch eB.ch
   have Z14 := Z1.trans eB.ch
   replace dj := dj.ch Z14
   replace cj := cj.ch Z14
   replace bD := bD.ch Z14
   replace ad := ad.ch Z14
   replace hB := (((hB.trans nW.fr).trans f7.fr).trans jf.fr).trans eB.fr
   exact hX1 _ H _ _ ⟨MD, n21, p19, c20, nY, n27, p25, c26, oY, n33, p31, c32, o0, n39, p37, c38, o3, n45, p43, c44, o4, n51, p49, c50, o5, ⟨rfl, rfl, rfl, rfl, rfl, rfl, trivial⟩, hO, Hb, aa, dj, cy, cj, ab, bD, bx, bw, ad, hB⟩
  replace H := ifn h81 H
  refine GoQ.stable rfl (olookF (a := r75) (MK.str Try.underlying9) 11 hO rfl Try.underlying69 ti3 rfl rfl h81) rfl rfl ?_
  refine GoQ.pure rfl (op_move rfl) rfl rfl ?_
  refine GoQ.pure rfl (op_extract rfl rfl) rfl rfl ?_
  refine GoQ.pure rfl (op_extract rfl rfl) rfl rfl ?_
  refine GoQ.pure rfl (op_assign rfl) rfl rfl ?_
  refine GoQ.pure rfl (op_assign rfl) rfl rfl ?_
  refine GoQ.nil ?_
  refine zq (zr (zm rfl (zo (op_nilCheck rfl) (zo (op_fieldAddr Try.underlying72 rfl ti70 rfl (by decide)) (zs (oblk (i := 10) 1 hO rfl rfl Try.underlying70 rfl rfl) ?_)))))
  refine zm rfl ?_
  obtain ⟨EB, H⟩ := H
  obtain ⟨EC, H⟩ := H
  have Z15 := (nW.ch.trans f7.ch).trans jf.ch
  replace bx := bx.ch Z15
  refine zo (op_index Try.underlying70 ti9 rfl rfl EB (ltn (bx.neq hO 8 rfl) EC) (bx.psome hO 8 rfl EB EC)) (zs (oldStr 8 hO rfl bx EB EC Try.underlying9 rfl rfl) ?_)
  have hle227 := Els.str_le bx EB EC
  refine zm rfl ?_
  obtain ⟨Q2, H⟩ := H
  refine zo (op_add rfl rfl (wrap_i64 Q2)) (zo (op_conv Try.underlying3 Try.underlying21 rfl rfl) ?_)
  obtain ⟨Q3, H⟩ := H
  obtain ⟨Q4, H⟩ := H
  refine zo (op_convRS Try.underlying21 Try.underlying9 rfl Q3 Q4) ?_
  obtain ⟨Gi, H⟩ := H
  refine zo (op_addS rfl rfl Gi) (za rfl (zn (zq (zb (zq ?_)))))
  refine Go1.cut [(0, .pointer (some ⟨eC, 0, none⟩)), (3, .int .i64 a0.Enum.Done), (4, .slice p2 a0.Enum.Gens.length a0.Enum.Gens.length), (5, .int .i64 (k1_12 : Int)), (7, .slice uq r66.length ur), (8, .int .i64 (0 : Int)), (9, .bool false), (10, .string (gstr ((ix d_40 a0.Enum.Done) ++ (chr (IntKind.i32.wrap ((97 : Int) + (k1_12 : Int))))))), (27, .slice ak aj al), (28, .int .i64 (a0.Enum.Gens.length : Int)), (29, .int .i64 (k1_12 : Int))] ⟨rfl, rfl, rfl, rfl, rfl, rfl, rfl, rfl, rfl, rfl, rfl, trivial⟩ ?_
  intro σ _
  refine zr (zm rfl (zo (op_not rfl) (zm rfl (zm rfl (zo (op_nilCheck rfl) ?_)))))
  refine zo (op_fieldAddr Try.underlying72 rfl ti29 rfl (by decide)) (zo (op_fieldAddr Try.underlying29 rfl ti22 rfl (by decide)) (zs (oblk (i := 3) 1 hO rfl rfl Try.underlying22 rfl rfl) ?_))
  replace dj := dj.ch Z15
  refine zo (op_lenN Try.underlying22 rfl (dj.neq hO 3 rfl)) ?_
  by_cases ED : (d_16.length : Int) = (2000 : Int)
  ·replace H := ifp ED H
   refine zo (fun w => opB (op_eql rfl rfl w) (decide_eq_true ED)) (zo (op_pickT rfl rfl rfl) (za rfl (zn (zt rfl rfl (zq ?_)))))
   refine zr (za rfl (zn ?_))
   replace hO := hO.drop 0
   replace dj := dj.ch (Owns.dropCh _ _ 0)
   replace bx := bx.ch (Owns.dropCh _ _ 0)
   replace a9 := (a9.ch jf.ch).ch (Owns.dropCh _ _ 0)
   have Z16 := Z15.trans (Owns.dropCh _ _ 0)
   replace aa := aa.ch Z16
   replace cy := cy.ch Z16
   replace cj := cj.ch Z16
   replace ab := ab.ch Z16
   replace bD := bD.ch Z16
   replace bw := bw.ch Z16
   replace ad := ad.ch Z16
   replace bN := bN.ch Z16
   replace bO := bO.ch Z16
   replace hB := (((hB.trans nW.fr).trans f7.fr).trans jf.fr).trans (Owns.dropFr _ _ 0)
   dsimp only [eS, eZ] at hB hO bN bO a9 aa dj cy cj ab bD bx bw ad
   refine Go1.ret1 Try.func51 rfl ?_
   exact ⟨((3 : Int)), (⟨(⟨a0.Enum.Points, a0.Enum.Monoid, a0.Enum.Gens, d_16, d_22, d_28, a0.Enum.Right, d_34, a0.Enum.Done⟩ : Enum), m1_52, d_40, d_46, a0.single⟩ : run), aj, ak, al, cC, n21, p19, c20, nY, n27, p25, c26, oY, n33, p31, c32, o0, ar, az, aA, cx, n39, p37, c38, o3, n45, p43, c44, o4, n51, p49, c50, o5, aX, aY, a7, dp, rfl, hO, aa, dj, cy, cj, ab, bD, bx, bw, ad, hB, H⟩
  replace H := ifn ED H
  refine zo (fun w => opB (op_eql rfl rfl w) (decide_eq_false ED)) (zo (op_pickT rfl rfl rfl) (za rfl (zn (zf rfl rfl (zq ?_)))))
  refine zr (zm rfl (zo (op_not rfl) (za rfl (zn (zt rfl rfl ?_)))))
  refine zr (zm rfl (zm rfl (zm rfl (zm rfl (zm rfl ?_)))))
  refine zm rfl (zm rfl (zo (op_nilCheck rfl) (zo (op_fieldAddr Try.underlying72 rfl ti26 rfl (by decide)) (zs (oblk (i := 11) 1 hO rfl rfl Try.underlying26 rfl rfl) (zm rfl ?_)))))
  obtain ⟨Gj, H⟩ := H
  obtain ⟨Gk, H⟩ := H
  replace bw := bw.ch Z15
  refine zo (op_index Try.underlying26 ti3 rfl rfl Gj (ltn (bw.neq hO 9 rfl) Gk) (bw.psome hO 9 rfl Gj Gk)) (zs (oldInt 9 hO rfl bw Gj Gk Try.underlying3 rfl rfl) (zm rfl ?_))
  refine GoR.inl (vs := [.pointer (some ⟨eC, 0, none⟩), .int .i64 (ix d_46 a0.Enum.Done), .int .i64 (k1_12 : Int)]) (caps := []) rfl rfl body66 Try.func66 rfl Try.ntmps66 rfl rfl rfl ?_
  intro RhR235 hR235
  refine zq ?_
  refine Go1.cut [(0, .pointer (some ⟨eC, 0, none⟩)), (1, .int .i64 (ix d_46 a0.Enum.Done)), (2, .int .i64 (k1_12 : Int))] ⟨rfl, rfl, rfl, trivial⟩ ?_
  intro σ _
  refine zr (za rfl (zn (zq (zq (zr ?_)))))
  refine zm rfl ?_
  by_cases EE : (ix d_46 a0.Enum.Done) = (-1 : Int)
  ·replace H := ifp EE H
   refine zo (fun w => opB (op_eql rfl rfl w) (decide_eq_true EE)) (zn (zt rfl rfl (zq (zr (zm rfl ?_)))))
   refine zo (op_nilCheck rfl) (zo (op_fieldAddr Try.underlying72 rfl ti26 rfl (by decide)) (zs (oblk (i := 12) 1 hO rfl rfl Try.underlying26 rfl rfl) (zm rfl ?_)))
   obtain ⟨Gl, H⟩ := H
   obtain ⟨Gm, H⟩ := H
   replace ad := ad.ch Z15
   refine zo (op_index Try.underlying26 ti3 rfl rfl Gl (ltn (ad.neq hO 10 rfl) Gm) (ad.psome hO 10 rfl Gl Gm)) (zs (oldInt 10 hO rfl ad Gl Gm Try.underlying3 rfl rfl) (za rfl (zn ?_)))
   refine Go1.ret1V Try.func66 rfl (show _ = .int .i64 (ix a0.single (k1_12 : Int)) from rfl) ?_
   refine hR235 _ _ ?_
   refine GoR.inl (vs := [.pointer (some ⟨eC, 0, none⟩), .slice uq r66.length ur, .int .i64 a0.Enum.Done, .int .i64 (k1_12 : Int), .string (gstr ((ix d_40 a0.Enum.Done) ++ (chr (IntKind.i32.wrap ((97 : Int) + (k1_12 : Int)))))), .int .i64 (ix a0.single (k1_12 : Int))]) (caps := []) rfl rfl body65 Try.func65 rfl Try.ntmps65 rfl rfl rfl ?_
   intro RhR239 hR239
   refine zq (zr (za rfl (zn (zq (zr ?_)))))
   refine zm rfl (zo (op_nilCheck rfl) (zo (op_fieldAddr Try.underlying72 rfl ti29 rfl (by decide)) (zo (op_fieldAddr Try.underlying29 rfl ti22 rfl (by decide)) (zs (oblk (i := 3) 1 hO rfl rfl Try.underlying22 rfl rfl) (zo (op_lenN Try.underlying22 rfl (dj.neq hO 3 rfl)) ?_)))))
   refine za rfl (zn (zq ?_))
   refine Go1.cut [(0, .pointer (some ⟨eC, 0, none⟩)), (1, .slice uq r66.length ur), (2, .int .i64 a0.Enum.Done), (3, .int .i64 (k1_12 : Int)), (4, .string (gstr ((ix d_40 a0.Enum.Done) ++ (chr (IntKind.i32.wrap ((97 : Int) + (k1_12 : Int))))))), (5, .int .i64 (ix a0.single (k1_12 : Int))), (13, .int .i64 (d_16.length : Int))] ⟨rfl, rfl, rfl, rfl, rfl, rfl, rfl, trivial⟩ ?_
   intro σ _
   refine Go1.drawS 1 [(0, .pure), (1, .pure), (2, .pure), (3, .stable), (4, .pure), (6, .pure), (5, .loud), (7, .last)] mixed (by kernel_rfl) ?_
   intro Qh D7
   have pc := Stp.same hO D7
   replace hO := pc.own
   refine GoQ.pure rfl (op_move rfl) rfl rfl ?_
   refine GoQ.pure rfl (op_nilCheck rfl) rfl rfl ?_
   refine GoQ.pure rfl (op_fieldAddr Try.underlying72 rfl ti69 rfl (by decide)) rfl rfl ?_
   refine GoQ.stable rfl (oblk (i := 9) 1 hO rfl rfl Try.underlying69 rfl rfl) rfl rfl ?_
   refine GoQ.pure rfl (op_move rfl) rfl rfl ?_
   refine GoQ.pure rfl (op_move rfl) rfl rfl ?_
   replace a9 := (a9.ch jf.ch).ch pc.ch
   refine GoQ.call rfl (op_call body61 rfl (walk_enumerate_text hO.lt a9 H)) (fun v w hr => by obtain ⟨_, _, hs, _, _⟩ := hr; assumption) rfl rfl ?_
   rintro Vq Vr ⟨r243, rfl, ME, SY, H⟩
   have pe := Stp.same hO ME
   replace hO := pe.own
   have hobt := omapUpd (MK.str Try.underlying9) 11 hO rfl Try.underlying69 r243 (d_16.length : Int)
   obtain ⟨Vs, om, I2⟩ := hobt
   dsimp only [sS, sZ] at om
   refine GoQ.last rfl (I2 (by exact rfl) (by exact rfl) (by exact rfl)) rfl rfl ?_
   replace hO := om.own
   refine GoQ.nil ?_
   refine zq (zr (zm rfl (zm rfl (zo (op_nilCheck rfl) (zo (op_fieldAddr Try.underlying72 rfl ti29 rfl (by decide)) ?_)))))
   refine zo (op_fieldAddr Try.underlying29 rfl ti22 rfl (by decide)) (zs (oblk (i := 3) 1 hO rfl rfl Try.underlying22 rfl rfl) (zm rfl ?_))
   replace a9 := (a9.ch pe.ch).ch om.ch
   have hobt := obuild (r := Rp.sl (Rp.int .i64)) (n := 1) (parts := [(0, .slice uq r66.length ur)]) (vs := [.slice uq r66.length ur]) (xs := [r66]) rfl Try.underlying22 ti26 hO (by decide) (by kernel_rfl) (Els.cons rfl ⟨uq, ur, rfl, a9⟩ (Els.nil _ _ _) (by simp [mx])) rfl
   obtain ⟨Q5, BO, pg, MF, Tr, I3⟩ := hobt
   refine zg (I3 rfl) ?_
   replace hO := pg.own
   have hobt := freeze 0 hO rfl MF
   obtain ⟨hO1, tD, fI, MG⟩ := hobt
   dsimp only [eS, eZ] at hO1 tD fI
   replace hB := (((((((hB.trans nW.fr).trans f7.fr).trans jf.fr).trans pc.fr).trans pe.fr).trans om.fr).trans pg.fr).trans (Owns.dropFr _ _ 0)
   dsimp only [eS, eZ] at hB
   replace hO := hO1; clear hO1
   obtain ⟨Q6, H⟩ := H
   have Z17 := (((pc.ch.trans pe.ch).trans om.ch).trans pg.ch).trans tD
   replace dj := dj.ch Z17
   have hobt := oapp Try.underlying22 ti26 rfl 3 hO rfl dj fI MG Q6 (by decide)
   obtain ⟨Vt, BP, BQ, MH, oo, fR, I4⟩ := hobt
   dsimp only [sS, sZ] at oo fR
   refine zg (I4 (by exact rfl) (by exact rfl)) ?_
   replace hO := oo.own
   refine zo (op_nilCheck rfl) (zo (op_fieldAddr Try.underlying72 rfl ti29 rfl (by decide)) (zo (op_fieldAddr Try.underlying29 rfl ti22 rfl (by decide)) ?_))
   have hobt := oblkSt2 (v := .slice BP (n21 + 1) BQ) (i := 3) (cs' := #[.int .i64 a0.Enum.Points, .bool a0.Enum.Monoid, .slice ak aj al, .slice BP (n21 + 1) BQ, .slice p25 n27 c26, .slice p31 n33 c32, .slice az ar aA, .slice p37 n39 c38, .int .i64 a0.Enum.Done, .map (some aB), .slice p43 n45 c44, .slice p49 n51 c50, .slice aY aX a7]) 1 hO rfl rfl rfl rfl
   obtain ⟨Vu, nr, I5⟩ := hobt
   dsimp only [sS, sZ] at nr
   refine zg (I5 Try.underlying22 rfl ti22 (by exact rfl) (by exact rfl)) ?_
   replace hO := nr.own
   refine zn (zq ?_)
   refine Go1.cut [(0, .pointer (some ⟨eC, 0, none⟩)), (2, .int .i64 a0.Enum.Done), (3, .int .i64 (k1_12 : Int)), (4, .string (gstr ((ix d_40 a0.Enum.Done) ++ (chr (IntKind.i32.wrap ((97 : Int) + (k1_12 : Int))))))), (5, .int .i64 (ix a0.single (k1_12 : Int))), (13, .int .i64 (d_16.length : Int))] ⟨rfl, rfl, rfl, rfl, rfl, rfl, trivial⟩ ?_
   intro σ _
   refine zr (zm rfl (zm rfl (zo (op_nilCheck rfl) (zo (op_fieldAddr Try.underlying72 rfl ti29 rfl (by decide)) (zo (op_fieldAddr Try.underlying29 rfl ti26 rfl (by decide)) ?_)))))
   refine zs (oblk (i := 4) 1 hO rfl rfl Try.underlying26 rfl rfl) (zm rfl ?_)
   have hobt := obuild (r := Rp.int .i64) (n := 1) (parts := [(0, .int .i64 a0.Enum.Done)]) (vs := [.int .i64 a0.Enum.Done]) (xs := [a0.Enum.Done]) rfl Try.underlying26 ti3 hO (by decide) (by kernel_rfl) (Els.cons rfl rfl (Els.nil _ _ _) (by simp [mx])) rfl
   obtain ⟨Vv, Vw, oq, MJ, Ts, I6⟩ := hobt
   refine zg (I6 rfl) ?_
   replace hO := oq.own
   have hobt := freeze 0 hO rfl MJ
   obtain ⟨hO1, rN, iA, ML⟩ := hobt
   dsimp only [eS, eZ] at hO1 rN iA
   replace hB := (((hB.trans oo.fr).trans nr.fr).trans oq.fr).trans (Owns.dropFr _ _ 0)
   dsimp only [eS, eZ] at hB
   replace hO := hO1; clear hO1
   obtain ⟨Q7, H⟩ := H
   have Z18 := ((((((((Z15.trans pc.ch).trans pe.ch).trans om.ch).trans pg.ch).trans tD).trans oo.ch).trans nr.ch).trans oq.ch).trans rN
   replace cy := cy.ch Z18
   have hobt := oapp Try.underlying26 ti3 rfl 4 hO rfl cy iA ML Q7 (by decide)
   obtain ⟨Vx, Cx, Cy, km, ns, jg, I7⟩ := hobt
   dsimp only [sS, sZ] at ns jg
   refine zg (I7 (by exact rfl) (by exact rfl)) ?_
   replace hO := ns.own
   refine zo (op_nilCheck rfl) (zo (op_fieldAddr Try.underlying72 rfl ti29 rfl (by decide)) (zo (op_fieldAddr Try.underlying29 rfl ti26 rfl (by decide)) ?_))
   have hobt := oblkSt2 (v := .slice Cx (n27 + 1) Cy) (i := 4) (cs' := #[.int .i64 a0.Enum.Points, .bool a0.Enum.Monoid, .slice ak aj al, .slice BP (n21 + 1) BQ, .slice Cx (n27 + 1) Cy, .slice p31 n33 c32, .slice az ar aA, .slice p37 n39 c38, .int .i64 a0.Enum.Done, .map (some aB), .slice p43 n45 c44, .slice p49 n51 c50, .slice aY aX a7]) 1 hO rfl rfl rfl rfl
   obtain ⟨Q8, mG, I8⟩ := hobt
   dsimp only [sS, sZ] at mG
   refine zg (I8 Try.underlying26 rfl ti26 (by exact rfl) (by exact rfl)) ?_
   replace hO := mG.own
   refine zn (zq (zr (zm rfl (zm rfl (zo (op_nilCheck rfl) ?_)))))
   refine zo (op_fieldAddr Try.underlying72 rfl ti29 rfl (by decide)) (zo (op_fieldAddr Try.underlying29 rfl ti26 rfl (by decide)) (zs (oblk (i := 5) 1 hO rfl rfl Try.underlying26 rfl rfl) (zm rfl ?_)))
   have hobt := obuild (r := Rp.int .i64) (n := 1) (parts := [(0, .int .i64 (k1_12 : Int))]) (vs := [.int .i64 (k1_12 : Int)]) (xs := [(k1_12 : Int)]) rfl Try.underlying26 ti3 hO (by decide) (by kernel_rfl) (Els.cons rfl rfl (Els.nil _ _ _) (by simp [mx])) rfl
   obtain ⟨Q9, Vy, nt, MM, Tt, I9⟩ := hobt
   refine zg (I9 rfl) ?_
   replace hO := nt.own
   have hobt := freeze 0 hO rfl MM
   obtain ⟨hO1, qu, lg, MN⟩ := hobt
   dsimp only [eS, eZ] at hO1 qu lg
   replace hB := (((hB.trans ns.fr).trans mG.fr).trans nt.fr).trans (Owns.dropFr _ _ 0)
   dsimp only [eS, eZ] at hB
   replace hO := hO1; clear hO1
   obtain ⟨Ra, H⟩ := H
   have Z19 := (((Z18.trans ns.ch).trans mG.ch).trans nt.ch).trans qu
   replace cj := cj.ch Z19
   have hobt := oapp Try.underlying26 ti3 rfl 5 hO rfl cj lg MN Ra (by decide)
   obtain ⟨Vz, gp, gq, MO, mH, my, Ja⟩ := hobt
   dsimp only [sS, sZ] at mH my
   refine zg (Ja (by exact rfl) (by exact rfl)) ?_
   replace hO := mH.own
   refine zo (op_nilCheck rfl) (zo (op_fieldAddr Try.underlying72 rfl ti29 rfl (by decide)) (zo (op_fieldAddr Try.underlying29 rfl ti26 rfl (by decide)) ?_))
   have hobt := oblkSt2 (v := .slice gp (n33 + 1) gq) (i := 5) (cs' := #[.int .i64 a0.Enum.Points, .bool a0.Enum.Monoid, .slice ak aj al, .slice BP (n21 + 1) BQ, .slice Cx (n27 + 1) Cy, .slice gp (n33 + 1) gq, .slice az ar aA, .slice p37 n39 c38, .int .i64 a0.Enum.Done, .map (some aB), .slice p43 n45 c44, .slice p49 n51 c50, .slice aY aX a7]) 1 hO rfl rfl rfl rfl
   obtain ⟨VA, lP, Jb⟩ := hobt
   dsimp only [sS, sZ] at lP
   refine zg (Jb Try.underlying26 rfl ti26 (by exact rfl) (by exact rfl)) ?_
   replace hO := lP.own
   refine zn (zq ?_)
   refine Go1.cut [(0, .pointer (some ⟨eC, 0, none⟩)), (4, .string (gstr ((ix d_40 a0.Enum.Done) ++ (chr (IntKind.i32.wrap ((97 : Int) + (k1_12 : Int))))))), (5, .int .i64 (ix a0.single (k1_12 : Int))), (13, .int .i64 (d_16.length : Int))] ⟨rfl, rfl, rfl, rfl, trivial⟩ ?_
   intro σ _
   refine zr (zm rfl (zm rfl (zo (op_nilCheck rfl) (zo (op_fieldAddr Try.underlying72 rfl ti70 rfl (by decide)) (zs (oblk (i := 10) 1 hO rfl rfl Try.underlying70 rfl rfl) ?_)))))
   refine zm rfl ?_
   have hobt := obuild (r := Rp.str) (n := 1) (parts := [(0, .string (gstr ((ix d_40 a0.Enum.Done) ++ (chr (IntKind.i32.wrap ((97 : Int) + (k1_12 : Int)))))))]) (vs := [.string (gstr ((ix d_40 a0.Enum.Done) ++ (chr (IntKind.i32.wrap ((97 : Int) + (k1_12 : Int))))))]) (xs := [(ix d_40 a0.Enum.Done) ++ (chr (IntKind.i32.wrap ((97 : Int) + (k1_12 : Int))))]) rfl Try.underlying70 ti9 hO (by decide) (by kernel_rfl) (Els.cons rfl ⟨rfl, (lenApp Gi)⟩ (Els.nil _ _ _) (by simp [mx])) rfl
   obtain ⟨VB, VC, mI, MP, Tu, Jc⟩ := hobt
   refine zg (Jc rfl) ?_
   replace hO := mI.own
   have hobt := freeze 0 hO rfl MP
   obtain ⟨hO1, pU, bA, MQ⟩ := hobt
   dsimp only [eS, eZ] at hO1 pU bA
   replace hB := (((hB.trans mH.fr).trans lP.fr).trans mI.fr).trans (Owns.dropFr _ _ 0)
   dsimp only [eS, eZ] at hB
   replace hO := hO1; clear hO1
   obtain ⟨Rb, H⟩ := H
   have Z20 := (((((((((((Z17.trans oo.ch).trans nr.ch).trans oq.ch).trans rN).trans ns.ch).trans mG.ch).trans nt.ch).trans qu).trans mH.ch).trans lP.ch).trans mI.ch).trans pU
   replace bx := bx.ch Z20
   have hobt := oapp Try.underlying70 ti9 rfl 8 hO rfl bx bA MQ Rb (by decide)
   obtain ⟨VD, EF, EG, MR, lQ, tE, Jd⟩ := hobt
   dsimp only [sS, sZ] at lQ tE
   refine zg (Jd (by exact rfl) (by exact rfl)) ?_
   replace hO := lQ.own
   refine zo (op_nilCheck rfl) (zo (op_fieldAddr Try.underlying72 rfl ti70 rfl (by decide)) ?_)
   have hobt := oblkSt2 (v := .slice EF (n45 + 1) EG) (i := 10) (cs' := #[.int .i64 a0.Enum.Points, .bool a0.Enum.Monoid, .slice ak aj al, .slice BP (n21 + 1) BQ, .slice Cx (n27 + 1) Cy, .slice gp (n33 + 1) gq, .slice az ar aA, .slice p37 n39 c38, .int .i64 a0.Enum.Done, .map (some aB), .slice EF (n45 + 1) EG, .slice p49 n51 c50, .slice aY aX a7]) 1 hO rfl rfl rfl rfl
   obtain ⟨Rc, k8, Je⟩ := hobt
   dsimp only [sS, sZ] at k8
   refine zg (Je Try.underlying70 rfl ti70 (by exact rfl) (by exact rfl)) ?_
   replace hO := k8.own
   refine zn (zq (zr (zm rfl (zm rfl (zo (op_nilCheck rfl) ?_)))))
   refine zo (op_fieldAddr Try.underlying72 rfl ti26 rfl (by decide)) (zs (oblk (i := 11) 1 hO rfl rfl Try.underlying26 rfl rfl) (zm rfl ?_))
   have hobt := obuild (r := Rp.int .i64) (n := 1) (parts := [(0, .int .i64 (ix a0.single (k1_12 : Int)))]) (vs := [.int .i64 (ix a0.single (k1_12 : Int))]) (xs := [(ix a0.single (k1_12 : Int))]) rfl Try.underlying26 ti3 hO (by decide) (by kernel_rfl) (Els.cons rfl rfl (Els.nil _ _ _) (by simp [mx])) rfl
   obtain ⟨Rd, BR, iL, ut, EH, DB⟩ := hobt
   refine zg (DB rfl) ?_
   replace hO := iL.own
   have hobt := freeze 0 hO rfl ut
   obtain ⟨hO1, pD, yp, MS⟩ := hobt
   dsimp only [eS, eZ] at hO1 pD yp
   replace hB := (((hB.trans lQ.fr).trans k8.fr).trans iL.fr).trans (Owns.dropFr _ _ 0)
   dsimp only [eS, eZ] at hB
   replace hO := hO1; clear hO1
   obtain ⟨Cz, H⟩ := H
   have Z21 := (((Z20.trans lQ.ch).trans k8.ch).trans iL.ch).trans pD
   replace bw := bw.ch Z21
   have hobt := oapp Try.underlying26 ti3 rfl 9 hO rfl bw yp MS Cz (by decide)
   obtain ⟨Re, Gn, Gp, MT, gl, Bh, Jf⟩ := hobt
   dsimp only [sS, sZ] at gl Bh
   refine zg (Jf (by exact rfl) (by exact rfl)) ?_
   replace hO := gl.own
   refine zo (op_nilCheck rfl) (zo (op_fieldAddr Try.underlying72 rfl ti26 rfl (by decide)) ?_)
   have hobt := oblkSt2 (v := .slice Gn (n51 + 1) Gp) (i := 11) (cs' := #[.int .i64 a0.Enum.Points, .bool a0.Enum.Monoid, .slice ak aj al, .slice BP (n21 + 1) BQ, .slice Cx (n27 + 1) Cy, .slice gp (n33 + 1) gq, .slice az ar aA, .slice p37 n39 c38, .int .i64 a0.Enum.Done, .map (some aB), .slice EF (n45 + 1) EG, .slice Gn (n51 + 1) Gp, .slice aY aX a7]) 1 hO rfl rfl rfl rfl
   obtain ⟨VE, kd, Jg⟩ := hobt
   dsimp only [sS, sZ] at kd
   refine zg (Jg Try.underlying26 rfl ti26 (by exact rfl) (by exact rfl)) ?_
   replace hO := kd.own
   refine zn (zq ?_)
   refine Go1.cut [(13, .int .i64 (d_16.length : Int))] ⟨rfl, trivial⟩ ?_
   intro σ _
   refine zr (zm rfl (za rfl (zn ?_)))
   refine Go1.ret1V Try.func65 rfl (show _ = .int .i64 (d_16.length : Int) from rfl) ?_
   refine hR239 _ _ ?_
   refine za rfl (zn ?_)
   refine Go1.inBlock ?_
   refine zr (zm rfl (zm rfl (zm rfl ?_)))
   obtain ⟨Gq, H⟩ := H
   obtain ⟨Gr, H⟩ := H
   have Z22 := (((((((((Z19.trans mH.ch).trans lP.ch).trans mI.ch).trans pU).trans lQ.ch).trans k8.ch).trans iL.ch).trans pD).trans gl.ch).trans kd.ch
   replace bg := bg.ch Z22
   refine zo (op_index Try.underlying26 ti3 rfl rfl Gq (ltn (bg.neq hO 0 rfl) Gr) (bg.psome hO 0 rfl Gq Gr)) ?_
   have hobt := ost (r := Rp.int .i64) rfl 0 hO rfl bg Gq Gr (v := .int .i64 (d_16.length : Int)) (u := (d_16.length : Int)) rfl rfl
   obtain ⟨VG, MU, k9, Hc, Jh⟩ := hobt
   dsimp only [sS, sZ] at k9 Hc
   refine zg (Jh Try.underlying3 rfl ti3 (by exact rfl) (by exact rfl)) ?_
   replace hO := k9.own
   refine zn ?_
   refine Go1.inBlock ?_
   refine zr ?_
   replace aa := (aa.ch Z22).ch k9.ch
   refine zo (op_add rfl rfl (wrap_i64 (natbd h53 aa.bd))) (zm rfl (zn ?_))
   replace Bh := (Bh.ch kd.ch).ch k9.ch
   replace hB := ((hB.trans gl.fr).trans kd.fr).trans k9.fr
   have Z23 := ((((k8.ch.trans iL.ch).trans pD).trans gl.ch).trans kd.ch).trans k9.ch
   replace tE := tE.ch Z23
   have Z24 := ((((((((lP.ch.trans mI.ch).trans pU).trans lQ.ch).trans k8.ch).trans iL.ch).trans pD).trans gl.ch).trans kd.ch).trans k9.ch
   replace my := my.ch Z24
   have Z25 := ((((((((((((mG.ch.trans nt.ch).trans qu).trans mH.ch).trans lP.ch).trans mI.ch).trans pU).trans lQ.ch).trans k8.ch).trans iL.ch).trans pD).trans gl.ch).trans kd.ch).trans k9.ch
   replace jg := jg.ch Z25
   have Z26 := ((((((((((((((((nr.ch.trans oq.ch).trans rN).trans ns.ch).trans mG.ch).trans nt.ch).trans qu).trans mH.ch).trans lP.ch).trans mI.ch).trans pU).trans lQ.ch).trans k8.ch).trans iL.ch).trans pD).trans gl.ch).trans kd.ch).trans k9.ch
   replace fR := fR.ch Z26
   have Z27 := ((Z21.trans gl.ch).trans kd.ch).trans k9.ch
   replace ad := ad.ch Z27
   have Z28 := Z22.trans k9.ch
   replace ab := ab.ch Z28
   replace bD := bD.ch Z28
   exact hX1 _ H _ _ ⟨MU, n21 + 1, BP, BQ, MH, n27 + 1, Cx, Cy, km, n33 + 1, gp, gq, MO, n39, p37, c38, o3, n45 + 1, EF, EG, MR, n51 + 1, Gn, Gp, MT, ⟨rfl, rfl, rfl, rfl, rfl, rfl, trivial⟩, hO, Hc, aa, fR, jg, my, ab, bD, tE, Bh, ad, hB⟩
  replace H := ifn EE H
  refine zo (fun w => opB (op_eql rfl rfl w) (decide_eq_false EE)) (zn (zf rfl rfl (zk (zq (zr ?_)))))
  refine zm rfl (zo (op_nilCheck rfl) (zo (op_fieldAddr Try.underlying72 rfl ti29 rfl (by decide)) (zo (op_fieldAddr Try.underlying29 rfl ti22 rfl (by decide)) (zs (oblk (i := 6) 1 hO rfl rfl Try.underlying22 rfl rfl) (zm rfl ?_)))))
  obtain ⟨Gs, H⟩ := H
  obtain ⟨Gt, H⟩ := H
  replace ab := ab.ch Z15
  refine zo (op_index Try.underlying22 ti26 rfl rfl Gs (ltn (ab.neq hO 6 rfl) Gt) (ab.psome hO 6 rfl Gs Gt)) ?_
  have hobt := oldSl 6 hO rfl ab Gs Gt
  obtain ⟨gr, gs, eP, MV⟩ := hobt
  refine zs (MV Try.underlying26 rfl rfl) (zm rfl ?_)
  obtain ⟨Gu, H⟩ := H
  obtain ⟨Gv, H⟩ := H
  refine zo (op_index Try.underlying26 ti3 rfl rfl Gu Gv (eP.some_ Gu Gv)) (zs (ldInt eP Gu Gv Try.underlying3 rfl rfl) (za rfl (zn ?_)))
  refine Go1.ret1V Try.func66 rfl (show _ = .int .i64 (ix (ix a0.Enum.Right (ix d_46 a0.Enum.Done)) (k1_12 : Int)) from rfl) ?_
  refine hR235 _ _ ?_
  refine GoR.inl (vs := [.pointer (some ⟨eC, 0, none⟩), .slice uq r66.length ur, .int .i64 a0.Enum.Done, .int .i64 (k1_12 : Int), .string (gstr ((ix d_40 a0.Enum.Done) ++ (chr (IntKind.i32.wrap ((97 : Int) + (k1_12 : Int)))))), .int .i64 (ix (ix a0.Enum.Right (ix d_46 a0.Enum.Done)) (k1_12 : Int))]) (caps := []) rfl rfl body65 Try.func65 rfl Try.ntmps65 rfl rfl rfl ?_
  intro RhR377 hR377
  refine zq ?_
  refine Go1.cut [(0, .pointer (some ⟨eC, 0, none⟩)), (1, .slice uq r66.length ur), (2, .int .i64 a0.Enum.Done), (3, .int .i64 (k1_12 : Int)), (4, .string (gstr ((ix d_40 a0.Enum.Done) ++ (chr (IntKind.i32.wrap ((97 : Int) + (k1_12 : Int))))))), (5, .int .i64 (ix (ix a0.Enum.Right (ix d_46 a0.Enum.Done)) (k1_12 : Int)))] ⟨rfl, rfl, rfl, rfl, rfl, rfl, trivial⟩ ?_
  intro σ _
  refine zr (za rfl (zn (zq (zr (zm rfl ?_)))))
  refine zo (op_nilCheck rfl) (zo (op_fieldAddr Try.underlying72 rfl ti29 rfl (by decide)) (zo (op_fieldAddr Try.underlying29 rfl ti22 rfl (by decide)) (zs (oblk (i := 3) 1 hO rfl rfl Try.underlying22 rfl rfl) (zo (op_lenN Try.underlying22 rfl (dj.neq hO 3 rfl)) (za rfl ?_)))))
  refine zn (zq ?_)
  refine Go1.drawS 1 [(0, .pure), (1, .pure), (2, .pure), (3, .stable), (4, .pure), (6, .pure), (5, .loud), (7, .last)] mixed (by kernel_rfl) ?_
  intro Rf MW
  have ot := Stp.same hO MW
  replace hO := ot.own
  refine GoQ.pure rfl (op_move rfl) rfl rfl ?_
  refine GoQ.pure rfl (op_nilCheck rfl) rfl rfl ?_
  refine GoQ.pure rfl (op_fieldAddr Try.underlying72 rfl ti69 rfl (by decide)) rfl rfl ?_
  refine GoQ.stable rfl (oblk (i := 9) 1 hO rfl rfl Try.underlying69 rfl rfl) rfl rfl ?_
  refine GoQ.pure rfl (op_move rfl) rfl rfl ?_
  refine GoQ.pure rfl (op_move rfl) rfl rfl ?_
  replace a9 := (a9.ch jf.ch).ch ot.ch
  refine GoQ.call rfl (op_call body61 rfl (walk_enumerate_text hO.lt a9 H)) (fun v w hr => by obtain ⟨_, _, hs, _, _⟩ := hr; assumption) rfl rfl ?_
  rintro VH VI ⟨r381, rfl, MX, S0, H⟩
  have gx := Stp.same hO MX
  replace hO := gx.own
  have hobt := omapUpd (MK.str Try.underlying9) 11 hO rfl Try.underlying69 r381 (d_16.length : Int)
  obtain ⟨Gw, gi, Ji⟩ := hobt
  dsimp only [sS, sZ] at gi
  refine GoQ.last rfl (Ji (by exact rfl) (by exact rfl) (by exact rfl)) rfl rfl ?_
  replace hO := gi.own
  refine GoQ.nil ?_
  refine zq (zr (zm rfl (zm rfl (zo (op_nilCheck rfl) (zo (op_fieldAddr Try.underlying72 rfl ti29 rfl (by decide)) ?_)))))
  refine zo (op_fieldAddr Try.underlying29 rfl ti22 rfl (by decide)) (zs (oblk (i := 3) 1 hO rfl rfl Try.underlying22 rfl rfl) (zm rfl ?_))
  replace a9 := (a9.ch gx.ch).ch gi.ch
  have hobt := obuild (r := Rp.sl (Rp.int .i64)) (n := 1) (parts := [(0, .slice uq r66.length ur)]) (vs := [.slice uq r66.length ur]) (xs := [r66]) rfl Try.underlying22 ti26 hO (by decide) (by kernel_rfl) (Els.cons rfl ⟨uq, ur, rfl, a9⟩ (Els.nil _ _ _) (by simp [mx])) rfl
  obtain ⟨VJ, VK, gy, MY, Tv, Jj⟩ := hobt
  refine zg (Jj rfl) ?_
  replace hO := gy.own
  have hobt := freeze 0 hO rfl MY
  obtain ⟨hO1, rO, bH, M0⟩ := hobt
  dsimp only [eS, eZ] at hO1 rO bH
  replace hB := (((((((hB.trans nW.fr).trans f7.fr).trans jf.fr).trans ot.fr).trans gx.fr).trans gi.fr).trans gy.fr).trans (Owns.dropFr _ _ 0)
  dsimp only [eS, eZ] at hB
  replace hO := hO1; clear hO1
  obtain ⟨Rg, H⟩ := H
  have Z29 := (((ot.ch.trans gx.ch).trans gi.ch).trans gy.ch).trans rO
  replace dj := dj.ch Z29
  have hobt := oapp Try.underlying22 ti26 rfl 3 hO rfl dj bH M0 Rg (by decide)
  obtain ⟨VL, BS, BT, M1, nu, fS, Jk⟩ := hobt
  dsimp only [sS, sZ] at nu fS
  refine zg (Jk (by exact rfl) (by exact rfl)) ?_
  replace hO := nu.own
  refine zo (op_nilCheck rfl) (zo (op_fieldAddr Try.underlying72 rfl ti29 rfl (by decide)) (zo (op_fieldAddr Try.underlying29 rfl ti22 rfl (by decide)) ?_))
  have hobt := oblkSt2 (v := .slice BS (n21 + 1) BT) (i := 3) (cs' := #[.int .i64 a0.Enum.Points, .bool a0.Enum.Monoid, .slice ak aj al, .slice BS (n21 + 1) BT, .slice p25 n27 c26, .slice p31 n33 c32, .slice az ar aA, .slice p37 n39 c38, .int .i64 a0.Enum.Done, .map (some aB), .slice p43 n45 c44, .slice p49 n51 c50, .slice aY aX a7]) 1 hO rfl rfl rfl rfl
  obtain ⟨Rh, mJ, DD⟩ := hobt
  dsimp only [sS, sZ] at mJ
  refine zg (DD Try.underlying22 rfl ti22 (by exact rfl) (by exact rfl)) ?_
  replace hO := mJ.own
  refine zn (zq ?_)
  refine Go1.cut [(0, .pointer (some ⟨eC, 0, none⟩)), (2, .int .i64 a0.Enum.Done), (3, .int .i64 (k1_12 : Int)), (4, .string (gstr ((ix d_40 a0.Enum.Done) ++ (chr (IntKind.i32.wrap ((97 : Int) + (k1_12 : Int))))))), (5, .int .i64 (ix (ix a0.Enum.Right (ix d_46 a0.Enum.Done)) (k1_12 : Int))), (13, .int .i64 (d_16.length : Int))] ⟨rfl, rfl, rfl, rfl, rfl, rfl, trivial⟩ ?_
  intro σ _
  refine zr (zm rfl (zm rfl (zo (op_nilCheck rfl) (zo (op_fieldAddr Try.underlying72 rfl ti29 rfl (by decide)) (zo (op_fieldAddr Try.underlying29 rfl ti26 rfl (by decide)) ?_)))))
  refine zs (oblk (i := 4) 1 hO rfl rfl Try.underlying26 rfl rfl) (zm rfl ?_)
  have hobt := obuild (r := Rp.int .i64) (n := 1) (parts := [(0, .int .i64 a0.Enum.Done)]) (vs := [.int .i64 a0.Enum.Done]) (xs := [a0.Enum.Done]) rfl Try.underlying26 ti3 hO (by decide) (by kernel_rfl) (Els.cons rfl rfl (Els.nil _ _ _) (by simp [mx])) rfl
  obtain ⟨VM, VN, jF, M2, Tw, Jl⟩ := hobt
  refine zg (Jl rfl) ?_
  replace hO := jF.own
  have hobt := freeze 0 hO rfl M2
  obtain ⟨hO1, qv, iB, M3⟩ := hobt
  dsimp only [eS, eZ] at hO1 qv iB
  replace hB := (((hB.trans nu.fr).trans mJ.fr).trans jF.fr).trans (Owns.dropFr _ _ 0)
  dsimp only [eS, eZ] at hB
  replace hO := hO1; clear hO1
  obtain ⟨Ri, H⟩ := H
  have Z30 := ((((((((Z15.trans ot.ch).trans gx.ch).trans gi.ch).trans gy.ch).trans rO).trans nu.ch).trans mJ.ch).trans jF.ch).trans qv
  replace cy := cy.ch Z30
  have hobt := oapp Try.underlying26 ti3 rfl 4 hO rfl cy iB M3 Ri (by decide)
  obtain ⟨VO, CA, CB, M4, ja, iv, Jm⟩ := hobt
  dsimp only [sS, sZ] at ja iv
  refine zg (Jm (by exact rfl) (by exact rfl)) ?_
  replace hO := ja.own
  refine zo (op_nilCheck rfl) (zo (op_fieldAddr Try.underlying72 rfl ti29 rfl (by decide)) (zo (op_fieldAddr Try.underlying29 rfl ti26 rfl (by decide)) ?_))
  have hobt := oblkSt2 (v := .slice CA (n27 + 1) CB) (i := 4) (cs' := #[.int .i64 a0.Enum.Points, .bool a0.Enum.Monoid, .slice ak aj al, .slice BS (n21 + 1) BT, .slice CA (n27 + 1) CB, .slice p31 n33 c32, .slice az ar aA, .slice p37 n39 c38, .int .i64 a0.Enum.Done, .map (some aB), .slice p43 n45 c44, .slice p49 n51 c50, .slice aY aX a7]) 1 hO rfl rfl rfl rfl
  obtain ⟨VP, lR, Jo⟩ := hobt
  dsimp only [sS, sZ] at lR
  refine zg (Jo Try.underlying26 rfl ti26 (by exact rfl) (by exact rfl)) ?_
  replace hO := lR.own
  refine zn (zq (zr (zm rfl (zm rfl (zo (op_nilCheck rfl) ?_)))))
  refine zo (op_fieldAddr Try.underlying72 rfl ti29 rfl (by decide)) (zo (op_fieldAddr Try.underlying29 rfl ti26 rfl (by decide)) (zs (oblk (i := 5) 1 hO rfl rfl Try.underlying26 rfl rfl) (zm rfl ?_)))
  have hobt := obuild (r := Rp.int .i64) (n := 1) (parts := [(0, .int .i64 (k1_12 : Int))]) (vs := [.int .i64 (k1_12 : Int)]) (xs := [(k1_12 : Int)]) rfl Try.underlying26 ti3 hO (by decide) (by kernel_rfl) (Els.cons rfl rfl (Els.nil _ _ _) (by simp [mx])) rfl
  obtain ⟨Rj, VQ, eX, gR, Tx, Jp⟩ := hobt
  refine zg (Jp rfl) ?_
  replace hO := eX.own
  have hobt := freeze 0 hO rfl gR
  obtain ⟨hO1, pV, lh, M5⟩ := hobt
  dsimp only [eS, eZ] at hO1 pV lh
  replace hB := (((hB.trans ja.fr).trans lR.fr).trans eX.fr).trans (Owns.dropFr _ _ 0)
  dsimp only [eS, eZ] at hB
  replace hO := hO1; clear hO1
  obtain ⟨Rk, H⟩ := H
  have Z31 := (((Z30.trans ja.ch).trans lR.ch).trans eX.ch).trans pV
  replace cj := cj.ch Z31
  have hobt := oapp Try.underlying26 ti3 rfl 5 hO rfl cj lh M5 Rk (by decide)
  obtain ⟨VR, DE, DF, M6, lT, mz, DG⟩ := hobt
  dsimp only [sS, sZ] at lT mz
  refine zg (DG (by exact rfl) (by exact rfl)) ?_
  replace hO := lT.own
  refine zo (op_nilCheck rfl) (zo (op_fieldAddr Try.underlying72 rfl ti29 rfl (by decide)) (zo (op_fieldAddr Try.underlying29 rfl ti26 rfl (by decide)) ?_))
  have hobt := oblkSt2 (v := .slice DE (n33 + 1) DF) (i := 5) (cs' := #[.int .i64 a0.Enum.Points, .bool a0.Enum.Monoid, .slice ak aj al, .slice BS (n21 + 1) BT, .slice CA (n27 + 1) CB, .slice DE (n33 + 1) DF, .slice az ar aA, .slice p37 n39 c38, .int .i64 a0.Enum.Done, .map (some aB), .slice p43 n45 c44, .slice p49 n51 c50, .slice aY aX a7]) 1 hO rfl rfl rfl rfl
  obtain ⟨VS, gm, Jq⟩ := hobt
  dsimp only [sS, sZ] at gm
  refine zg (Jq Try.underlying26 rfl ti26 (by exact rfl) (by exact rfl)) ?_
  replace hO := gm.own
  refine zn (zq ?_)
  refine Go1.cut [(0, .pointer (some ⟨eC, 0, none⟩)), (4, .string (gstr ((ix d_40 a0.Enum.Done) ++ (chr (IntKind.i32.wrap ((97 : Int) + (k1_12 : Int))))))), (5, .int .i64 (ix (ix a0.Enum.Right (ix d_46 a0.Enum.Done)) (k1_12 : Int))), (13, .int .i64 (d_16.length : Int))] ⟨rfl, rfl, rfl, rfl, trivial⟩ ?_
  intro σ _
  refine zr (zm rfl (zm rfl (zo (op_nilCheck rfl) (zo (op_fieldAddr Try.underlying72 rfl ti70 rfl (by decide)) (zs (oblk (i := 10) 1 hO rfl rfl Try.underlying70 rfl rfl) ?_)))))
  refine zm rfl ?_
  have hobt := obuild (r := Rp.str) (n := 1) (parts := [(0, .string (gstr ((ix d_40 a0.Enum.Done) ++ (chr (IntKind.i32.wrap ((97 : Int) + (k1_12 : Int)))))))]) (vs := [.string (gstr ((ix d_40 a0.Enum.Done) ++ (chr (IntKind.i32.wrap ((97 : Int) + (k1_12 : Int))))))]) (xs := [(ix d_40 a0.Enum.Done) ++ (chr (IntKind.i32.wrap ((97 : Int) + (k1_12 : Int))))]) rfl Try.underlying70 ti9 hO (by decide) (by kernel_rfl) (Els.cons rfl ⟨rfl, (lenApp Gi)⟩ (Els.nil _ _ _) (by simp [mx])) rfl
  obtain ⟨VU, VV, lU, M7, Ty, Dr⟩ := hobt
  refine zg (Dr rfl) ?_
  replace hO := lU.own
  have hobt := freeze 0 hO rfl M7
  obtain ⟨hO1, pE, qw, M8⟩ := hobt
  dsimp only [eS, eZ] at hO1 pE qw
  replace hB := (((hB.trans lT.fr).trans gm.fr).trans lU.fr).trans (Owns.dropFr _ _ 0)
  dsimp only [eS, eZ] at hB
  replace hO := hO1; clear hO1
  obtain ⟨Rl, H⟩ := H
  have Z32 := (((((((((((Z29.trans nu.ch).trans mJ.ch).trans jF.ch).trans qv).trans ja.ch).trans lR.ch).trans eX.ch).trans pV).trans lT.ch).trans gm.ch).trans lU.ch).trans pE
  replace bx := bx.ch Z32
  have hobt := oapp Try.underlying70 ti9 rfl 8 hO rfl bx qw M8 Rl (by decide)
  obtain ⟨Gx, EI, EJ, M9, la, tF, Jr⟩ := hobt
  dsimp only [sS, sZ] at la tF
  refine zg (Jr (by exact rfl) (by exact rfl)) ?_
  replace hO := la.own
  refine zo (op_nilCheck rfl) (zo (op_fieldAddr Try.underlying72 rfl ti70 rfl (by decide)) ?_)
  have hobt := oblkSt2 (v := .slice EI (n45 + 1) EJ) (i := 10) (cs' := #[.int .i64 a0.Enum.Points, .bool a0.Enum.Monoid, .slice ak aj al, .slice BS (n21 + 1) BT, .slice CA (n27 + 1) CB, .slice DE (n33 + 1) DF, .slice az ar aA, .slice p37 n39 c38, .int .i64 a0.Enum.Done, .map (some aB), .slice EI (n45 + 1) EJ, .slice p49 n51 c50, .slice aY aX a7]) 1 hO rfl rfl rfl rfl
  obtain ⟨VW, ke, Js⟩ := hobt
  dsimp only [sS, sZ] at ke
  refine zg (Js Try.underlying70 rfl ti70 (by exact rfl) (by exact rfl)) ?_
  replace hO := ke.own
  refine zn (zq (zr (zm rfl (zm rfl (zo (op_nilCheck rfl) ?_)))))
  refine zo (op_fieldAddr Try.underlying72 rfl ti26 rfl (by decide)) (zs (oblk (i := 11) 1 hO rfl rfl Try.underlying26 rfl rfl) (zm rfl ?_))
  have hobt := obuild (r := Rp.int .i64) (n := 1) (parts := [(0, .int .i64 (ix (ix a0.Enum.Right (ix d_46 a0.Enum.Done)) (k1_12 : Int)))]) (vs := [.int .i64 (ix (ix a0.Enum.Right (ix d_46 a0.Enum.Done)) (k1_12 : Int))]) (xs := [(ix (ix a0.Enum.Right (ix d_46 a0.Enum.Done)) (k1_12 : Int))]) rfl Try.underlying26 ti3 hO (by decide) (by kernel_rfl) (Els.cons rfl rfl (Els.nil _ _ _) (by simp [mx])) rfl
  obtain ⟨Rm, VX, lb, Na, Tz, DH⟩ := hobt
  refine zg (DH rfl) ?_
  replace hO := lb.own
  have hobt := freeze 0 hO rfl Na
  obtain ⟨hO1, oH, yq, Nb⟩ := hobt
  dsimp only [eS, eZ] at hO1 oH yq
  replace hB := (((hB.trans la.fr).trans ke.fr).trans lb.fr).trans (Owns.dropFr _ _ 0)
  dsimp only [eS, eZ] at hB
  replace hO := hO1; clear hO1
  obtain ⟨Rn, H⟩ := H
  have Z33 := (((Z32.trans la.ch).trans ke.ch).trans lb.ch).trans oH
  replace bw := bw.ch Z33
  have hobt := oapp Try.underlying26 ti3 rfl 9 hO rfl bw yq Nb Rn (by decide)
  obtain ⟨VY, Gy, Gz, Nc, fL, yk, Jt⟩ := hobt
  dsimp only [sS, sZ] at fL yk
  refine zg (Jt (by exact rfl) (by exact rfl)) ?_
  replace hO := fL.own
  refine zo (op_nilCheck rfl) (zo (op_fieldAddr Try.underlying72 rfl ti26 rfl (by decide)) ?_)
  have hobt := oblkSt2 (v := .slice Gy (n51 + 1) Gz) (i := 11) (cs' := #[.int .i64 a0.Enum.Points, .bool a0.Enum.Monoid, .slice ak aj al, .slice BS (n21 + 1) BT, .slice CA (n27 + 1) CB, .slice DE (n33 + 1) DF, .slice az ar aA, .slice p37 n39 c38, .int .i64 a0.Enum.Done, .map (some aB), .slice EI (n45 + 1) EJ, .slice Gy (n51 + 1) Gz, .slice aY aX a7]) 1 hO rfl rfl rfl rfl
  obtain ⟨V0, j3, Ju⟩ := hobt
  dsimp only [sS, sZ] at j3
  refine zg (Ju Try.underlying26 rfl ti26 (by exact rfl) (by exact rfl)) ?_
  replace hO := j3.own
  refine zn (zq ?_)
  refine Go1.cut [(13, .int .i64 (d_16.length : Int))] ⟨rfl, trivial⟩ ?_
  intro σ _
  refine zr (zm rfl (za rfl (zn ?_)))
  refine Go1.ret1V Try.func65 rfl (show _ = .int .i64 (d_16.length : Int) from rfl) ?_
  refine hR377 _ _ ?_
  refine za rfl (zn ?_)
  refine Go1.inBlock ?_
  refine zr (zm rfl (zm rfl (zm rfl ?_)))
  obtain ⟨GA, H⟩ := H
  obtain ⟨GB, H⟩ := H
  have Z34 := (((((((((Z31.trans lT.ch).trans gm.ch).trans lU.ch).trans pE).trans la.ch).trans ke.ch).trans lb.ch).trans oH).trans fL.ch).trans j3.ch
  replace bg := bg.ch Z34
  refine zo (op_index Try.underlying26 ti3 rfl rfl GA (ltn (bg.neq hO 0 rfl) GB) (bg.psome hO 0 rfl GA GB)) ?_
  have hobt := ost (r := Rp.int .i64) rfl 0 hO rfl bg GA GB (v := .int .i64 (d_16.length : Int)) (u := (d_16.length : Int)) rfl rfl
  obtain ⟨V1, Nd, kg, He, Jv⟩ := hobt
  dsimp only [sS, sZ] at kg He
  refine zg (Jv Try.underlying3 rfl ti3 (by exact rfl) (by exact rfl)) ?_
  replace hO := kg.own
  refine zn ?_
  refine Go1.inBlock ?_
  refine zr ?_
  replace aa := (aa.ch Z34).ch kg.ch
  refine zo (op_add rfl rfl (wrap_i64 (natbd h53 aa.bd))) (zm rfl (zn ?_))
  replace yk := (yk.ch j3.ch).ch kg.ch
  replace hB := ((hB.trans fL.fr).trans j3.fr).trans kg.fr
  have Z35 := ((((ke.ch.trans lb.ch).trans oH).trans fL.ch).trans j3.ch).trans kg.ch
  replace tF := tF.ch Z35
  have Z36 := ((((((((gm.ch.trans lU.ch).trans pE).trans la.ch).trans ke.ch).trans lb.ch).trans oH).trans fL.ch).trans j3.ch).trans kg.ch
  replace mz := mz.ch Z36
  have Z37 := ((((((((((((lR.ch.trans eX.ch).trans pV).trans lT.ch).trans gm.ch).trans lU.ch).trans pE).trans la.ch).trans ke.ch).trans lb.ch).trans oH).trans fL.ch).trans j3.ch).trans kg.ch
  replace iv := iv.ch Z37
  have Z38 := ((((((((((((((((mJ.ch.trans jF.ch).trans qv).trans ja.ch).trans lR.ch).trans eX.ch).trans pV).trans lT.ch).trans gm.ch).trans lU.ch).trans pE).trans la.ch).trans ke.ch).trans lb.ch).trans oH).trans fL.ch).trans j3.ch).trans kg.ch
  replace fS := fS.ch Z38
  have Z39 := ((Z33.trans fL.ch).trans j3.ch).trans kg.ch
  replace ab := ab.ch Z39
  have Z40 := Z34.trans kg.ch
  replace bD := bD.ch Z40
  replace ad := ad.ch Z40
  exact hX1 _ H _ _ ⟨Nd, n21 + 1, BS, BT, M1, n27 + 1, CA, CB, M4, n33 + 1, DE, DF, M6, n39, p37, c38, o3, n45 + 1, EI, EJ, M9, n51 + 1, Gy, Gz, Nc, ⟨rfl, rfl, rfl, rfl, rfl, rfl, trivial⟩, hO, He, aa, fS, iv, mz, ab, bD, tF, yk, ad, hB⟩
 replace H := ifn h53 H
 refine zo (fun w => opB (op_lss rfl rfl w) (decide_eq_false h53)) (zn (zq (zf rfl rfl ?_)))
 refine Go1.exit rfl ?_
 refine zq (zr (zm rfl (zm rfl (zo (op_nilCheck rfl) (zo (op_fieldAddr Try.underlying72 rfl ti29 rfl (by decide)) ?_)))))
 refine zo (op_fieldAddr Try.underlying29 rfl ti22 rfl (by decide)) (zs (oblk (i := 6) 1 hO rfl rfl Try.underlying22 rfl rfl) (zm rfl ?_))
 have hobt := freeze 0 hO rfl bg
 obtain ⟨hO1, ww, vc, Nf⟩ := hobt
 dsimp only [eS, eZ] at hO1 ww vc
 replace hB := hB.trans (Owns.dropFr _ _ 0)
 dsimp only [eS, eZ] at hB
 replace hO := hO1; clear hO1
 have hobt := obuild (r := Rp.sl (Rp.int .i64)) (n := 1) (parts := [(0, .slice p2 a0.Enum.Gens.length a0.Enum.Gens.length)]) (vs := [.slice p2 a0.Enum.Gens.length a0.Enum.Gens.length]) (xs := [d_13]) rfl Try.underlying22 ti26 hO (by decide) (by kernel_rfl) (Els.cons rfl ⟨p2, a0.Enum.Gens.length, congrArg some (congrArg (fun nn => Value.slice p2 nn a0.Enum.Gens.length) Nf), vc⟩ (Els.nil _ _ _) (by simp [mx])) rfl
 obtain ⟨V2, V3, sX, Ng, TA, Ds⟩ := hobt
 refine zg (Ds rfl) ?_
 replace hO := sX.own
 have hobt := freeze 0 hO rfl Ng
 obtain ⟨hO1, vN, yr, Nh⟩ := hobt
 dsimp only [eS, eZ] at hO1 vN yr
 replace hB := (hB.trans sX.fr).trans (Owns.dropFr _ _ 0)
 dsimp only [eS, eZ] at hB
 replace hO := hO1; clear hO1
 obtain ⟨Ro, H⟩ := H
 have Z41 := (ww.trans sX.ch).trans vN
 replace ab := ab.ch Z41
 have hobt := oapp Try.underlying22 ti26 rfl 5 hO rfl ab yr Nh Ro (by decide)
 obtain ⟨GC, EK, EL, Ni, qQ, Bi, Jw⟩ := hobt
 dsimp only [sS, sZ] at qQ Bi
 refine zg (Jw (by exact rfl) (by exact rfl)) ?_
 replace hO := qQ.own
 refine zo (op_nilCheck rfl) (zo (op_fieldAddr Try.underlying72 rfl ti29 rfl (by decide)) (zo (op_fieldAddr Try.underlying29 rfl ti22 rfl (by decide)) ?_))
 have hobt := oblkSt2 (v := .slice EK (ar + 1) EL) (i := 6) (cs' := #[.int .i64 a0.Enum.Points, .bool a0.Enum.Monoid, .slice ak aj al, .slice p19 n21 c20, .slice p25 n27 c26, .slice p31 n33 c32, .slice EK (ar + 1) EL, .slice p37 n39 c38, .int .i64 a0.Enum.Done, .map (some aB), .slice p43 n45 c44, .slice p49 n51 c50, .slice aY aX a7]) 0 hO rfl rfl rfl rfl
 obtain ⟨V4, pW, Jx⟩ := hobt
 dsimp only [sS, sZ] at pW
 refine zg (Jx Try.underlying22 rfl ti22 (by exact rfl) (by exact rfl)) ?_
 replace hO := pW.own
 refine zn (zq ?_)
 refine Go1.cut [(0, .pointer (some ⟨eC, 0, none⟩))] ⟨rfl, trivial⟩ ?_
 intro σ _
 refine zr (zm rfl (zo (op_nilCheck rfl) (zo (op_fieldAddr Try.underlying72 rfl ti29 rfl (by decide)) (zo (op_fieldAddr Try.underlying29 rfl ti3 rfl (by decide)) (zs (oblk (i := 8) 0 hO rfl rfl Try.underlying3 rfl rfl) ?_)))))
 obtain ⟨Rq, H⟩ := H
 refine zo (op_add rfl rfl (wrap_i64 Rq)) (zo (op_nilCheck rfl) (zo (op_fieldAddr Try.underlying72 rfl ti29 rfl (by decide)) (zo (op_fieldAddr Try.underlying29 rfl ti3 rfl (by decide)) ?_)))
 have hobt := oblkSt2 (v := .int .i64 (a0.Enum.Done + (1 : Int))) (i := 8) (cs' := #[.int .i64 a0.Enum.Points, .bool a0.Enum.Monoid, .slice ak aj al, .slice p19 n21 c20, .slice p25 n27 c26, .slice p31 n33 c32, .slice EK (ar + 1) EL, .slice p37 n39 c38, .int .i64 (a0.Enum.Done + (1 : Int)), .map (some aB), .slice p43 n45 c44, .slice p49 n51 c50, .slice aY aX a7]) 0 hO rfl rfl rfl rfl
 obtain ⟨V5, gj, Jy⟩ := hobt
 dsimp only [sS, sZ] at gj
 refine zg (Jy Try.underlying3 rfl ti3 (by exact rfl) (by exact rfl)) ?_
 replace hO := gj.own
 refine zn (zq (zr (za rfl (zn ?_))))
 refine Go1.ret1 Try.func51 rfl ?_
 replace Bi := (Bi.ch pW.ch).ch gj.ch
 replace hB := ((hB.trans qQ.fr).trans pW.fr).trans gj.fr
 have Z42 := ((Z41.trans qQ.ch).trans pW.ch).trans gj.ch
 replace aa := aa.ch Z42
 replace dj := dj.ch Z42
 replace cy := cy.ch Z42
 replace cj := cj.ch Z42
 replace bD := bD.ch Z42
 replace bx := bx.ch Z42
 replace bw := bw.ch Z42
 replace ad := ad.ch Z42
 exact ⟨((0 : Int)), (⟨(⟨a0.Enum.Points, a0.Enum.Monoid, a0.Enum.Gens, d_16, d_22, d_28, a0.Enum.Right ++ ([d_13]), d_34, (a0.Enum.Done + (1 : Int))⟩ : Enum), m1_52, d_40, d_46, a0.single⟩ : run), aj, ak, al, cC, n21, p19, c20, nY, n27, p25, c26, oY, n33, p31, c32, o0, (ar + 1), EK, EL, Ni, n39, p37, c38, o3, n45, p43, c44, o4, n51, p49, c50, o5, aX, aY, a7, dp, rfl, hO, aa, dj, cy, cj, Bi, bD, bx, bw, ad, hB, H⟩
theorem body50 : Body Try.prog 50 := ⟨Try.f50, Try.func50, rfl, by kernel_rfl⟩
theorem body17 : Body Try.prog 17 := ⟨Try.f17, Try.func17, rfl, by kernel_rfl⟩
theorem walk_enumerate_Build {A : List Nat} {w0 : World} {iI : Option Addr} {iJ : Nat} {gens : List (List Int)} {monoid : Bool} (hA : ∀ b ∈ A, b < w0.heap.size) (bC : ISl (Rp.sl (Rp.int .i64)) A w0 iI iJ gens) {K : Enum → Int → Prop} (H : enumerate_Build gens monoid K) :
    CallsV Try.prog 17 #[.slice iI gens.length iJ, .bool monoid] w0 (fun v w' => ∃ (r0 : Enum), ∃ (r1 : Int), ∃ (nv : Option Addr), ∃ (nw : Nat), ∃ (lV : Option Addr), ∃ (lW : Nat), ∃ (kh : Option Addr), ∃ (ki : Nat), ∃ (ny : Option Addr), ∃ (nz : Nat), ∃ (lX : Option Addr), ∃ (lY : Nat), ∃ (l5 : Option Addr), ∃ (l7 : Nat), v = .tuple #[.agg #[.int .i64 r0.Points, .bool r0.Monoid, .slice nv r0.Gens.length nw, .slice lV r0.Elems.length lW, .slice kh r0.Prefix.length ki, .slice ny r0.Last.length nz, .slice lX r0.Right.length lY, .slice l5 r0.Rules.length l7, .int .i64 r0.Done], .int .i64 r1] ∧ Same w0 w' ∧ ISl (Rp.sl (Rp.int .i64)) A w' nv nw r0.Gens ∧ ISl (Rp.sl (Rp.int .i64)) A w' lV lW r0.Elems ∧ ISl (Rp.int .i64) A w' kh ki r0.Prefix ∧ ISl (Rp.int .i64) A w' ny nz r0.Last ∧ ISl (Rp.sl (Rp.int .i64)) A w' lX lY r0.Right ∧ ISl (rpRule) A w' l5 l7 r0.Rules ∧ K r0 r1) := by
 refine CallsV.of (l := [.slice iI gens.length iJ, .bool monoid]) Try.func17 rfl Try.ntmps17 rfl ?_
 have hO := Owns.start hA
 have hB := Fr.refl (bl []) w0
 unfold enumerate_Build at H
 refine zq (zr ?_)
 have hobt := oalloc (t := 29) (cs := #[.int .i64 (0 : Int), .bool false, .slice none 0 0, .slice none 0 0, .slice none 0 0, .slice none 0 0, .slice none 0 0, .slice none 0 0, .int .i64 (0 : Int)]) ti29 hO rfl
 obtain ⟨w1, B2, eF, hs4, vF⟩ := hobt
 refine GoR.op vF rfl rfl ?_
 replace hO := eF.own
 refine za rfl (zn (zq (zr (zm rfl (zm rfl ?_)))))
 replace bC := (bC.ch (Ch.start A w0)).ch eF.ch
 refine GoR.call (op_call body49 rfl (walk_enumerate_begin hO.lt bC H)) rfl rfl ?_
 intro v9 w10 hcase13
 refine Or.elim hcase13 ?_ ?_
 ·refine exE fun r8 => andE fun hv14 => andE fun x5 => fun H => ?_
  subst hv14
  clear hcase13
  replace H := oElimN H
  have jN := Stp.same hO x5
  replace hO := jN.own
  refine zm rfl (zo (op_extract rfl rfl) (zo (op_extract rfl rfl) (za rfl (za rfl (zn ?_)))))
  refine zq (zq (zr (zm rfl ?_)))
  by_cases h16 : r8 = (0 : Int)
  ·replace H := ifp h16 H
   refine zo (fun w => opB (op_neq rfl rfl w) (ndT h16)) (zn (zf rfl rfl (zk (zq (zb ?_)))))
   replace hB := (hB.trans eF.fr).trans jN.fr
   refine Go1.loopW (S := Unit) (fun s σ w => agrees σ [(4, .pointer (some ⟨B2, 0, none⟩)), (6, .pointer none)] ∧ Owns w0.heap.size w [.blk B2 (.cells #[.int .i64 (0 : Int), .bool false, .slice none 0 0, .slice none 0 0, .slice none 0 0, .slice none 0 0, .slice none 0 0, .slice none 0 0, .int .i64 (0 : Int)] 29 (0, 0))] A ∧ Fr (bl []) w0 (bl [.blk B2 (.cells #[.int .i64 (0 : Int), .bool false, .slice none 0 0, .slice none 0 0, .slice none 0 0, .slice none 0 0, .slice none 0 0, .slice none 0 0, .int .i64 (0 : Int)] 29 (0, 0))]) w) H ⟨⟨rfl, rfl, trivial⟩, hO, hB⟩ ?_
   intro X1 _
   intro H hX1 σ w17
   refine andE fun hag => andE fun hO => fun hB => ?_
   refine Go1.keep [(4, .pointer (some ⟨B2, 0, none⟩)), (6, .pointer none)] hag ?_
   refine zq (zq (zr (zm rfl ?_)))
   refine GoR.inl (vs := [.pointer none]) (caps := []) rfl rfl body50 Try.func50 rfl Try.ntmps50 rfl rfl rfl ?_
   intro RhR18 hR18
   refine zq (zr (za rfl (zn (zq ?_))))
   refine Go1.drawS 0 [(0, .pure), (1, .pure), (2, .pure), (3, .pure), (4, .stable), (5, .pure), (6, .pure), (7, .pure), (8, .pure), (9, .stable), (10, .pure), (11, .pure), (12, .pure)] mixed (by kernel_rfl) ?_
   intro w19 Rr
   have gS := Stp.same hO Rr
   replace hO := gS.own
   refine GoQ.pure rfl (op_move rfl) rfl rfl ?_
   exact H.elim
  replace H := ifn h16 H
  refine zo (fun w => opB (op_neq rfl rfl w) (ndF h16)) (zn (zt rfl rfl (zq (zr (zo (op_build Try.underlying29 ti29 (pl := [(0, 1), (1, 1), (2, 1), (3, 1), (4, 1), (5, 1), (6, 1), (7, 1), (8, 1)]) (vs := []) (cs := #[.int .i64 (0 : Int), .bool false, .slice none 0 0, .slice none 0 0, .slice none 0 0, .slice none 0 0, .slice none 0 0, .slice none 0 0, .int .i64 (0 : Int)]) (by kernel_rfl) rfl (by kernel_rfl)) ?_)))))
  refine zm rfl ?_
  have hobt := oblkStAgg (us := [.int .i64 (0 : Int), .bool false, .slice none 0 0, .slice none 0 0, .slice none 0 0, .slice none 0 0, .slice none 0 0, .slice none 0 0, .int .i64 (0 : Int)]) (o := 0) (cs' := #[.int .i64 (0 : Int), .bool false, .slice none 0 0, .slice none 0 0, .slice none 0 0, .slice none 0 0, .slice none 0 0, .slice none 0 0, .int .i64 (0 : Int)]) 0 hO rfl rfl (Nat.le_of_ble_eq_true rfl) rfl
  obtain ⟨w22, rk, Nj⟩ := hobt
  refine zg (Nj ti29 (by exact rfl) (by exact rfl) rfl) ?_
  replace hO := rk.own
  refine za rfl (zn ?_)
  refine Go1.retC2 Try.func17 rfl rfl (run_loadBlk (vs := [.int .i64 (0 : Int), .bool false, .slice none 0 0, .slice none 0 0, .slice none 0 0, .slice none 0 0, .slice none 0 0, .slice none 0 0, .int .i64 (0 : Int)]) 0 hO rfl rfl Try.underlying29 rfl ti29) ?_
  replace hB := ((hB.trans eF.fr).trans jN.fr).trans rk.fr
  exact ⟨(⟨(0 : Int), false, ([] : List (List Int)), ([] : List (List Int)), ([] : List Int), ([] : List Int), ([] : List (List Int)), ([] : List Rule), (0 : Int)⟩ : Enum), r8, none, 0, none, 0, none, 0, none, 0, none, 0, none, 0, rfl, hB.same, (ISl.null _ _ _), (ISl.null _ _ _), (ISl.null _ _ _), (ISl.null _ _ _), (ISl.null _ _ _), (ISl.null _ _ _), H⟩
 ·refine exE fun r7 => exE fun r8 => exE fun eH => exE fun uu => exE fun uv => exE fun uw => exE fun tG => exE fun tH => exE fun tI => exE fun tJ => exE fun rP => exE fun rQ => exE fun rR => exE fun rS => exE fun qx => exE fun ux => exE fun uy => exE fun uz => exE fun tK => exE fun tL => exE fun tM => exE fun tN => exE fun rT => exE fun tO => exE fun tP => exE fun tQ => exE fun rU => exE fun ai => exE fun xw => exE fun xx => exE fun xz => exE fun wx => exE fun wy => exE fun wz => exE fun wA => exE fun vO => exE fun wB => exE fun wC => exE fun wD => exE fun vP => andE fun hv25 => andE fun x5 => andE fun hN12 => andE fun fe => andE fun er => andE fun et => andE fun ff => andE fun eM => andE fun eN => andE fun fA => andE fun fW => andE fun fX => fun H => ?_
  subst hv25
  clear hcase13
  replace H := oElimS H
  have CV := Stp.more hO x5 hN12
  dsimp only [List.cons_append, List.nil_append] at CV
  replace hO := CV.own
  replace fe := fe.ch (Ch.assoc _ _ _ _)
  dsimp only [List.cons_append, List.nil_append] at fe
  replace er := er.ch (Ch.assoc _ _ _ _)
  dsimp only [List.cons_append, List.nil_append] at er
  replace et := et.ch (Ch.assoc _ _ _ _)
  dsimp only [List.cons_append, List.nil_append] at et
  replace ff := ff.ch (Ch.assoc _ _ _ _)
  dsimp only [List.cons_append, List.nil_append] at ff
  replace eM := eM.ch (Ch.assoc _ _ _ _)
  dsimp only [List.cons_append, List.nil_append] at eM
  replace eN := eN.ch (Ch.assoc _ _ _ _)
  dsimp only [List.cons_append, List.nil_append] at eN
  replace fA := fA.ch (Ch.assoc _ _ _ _)
  dsimp only [List.cons_append, List.nil_append] at fA
  replace fW := fW.ch (Ch.assoc _ _ _ _)
  dsimp only [List.cons_append, List.nil_append] at fW
  replace fX := fX.ch (Ch.assoc _ _ _ _)
  dsimp only [List.cons_append, List.nil_append] at fX
  refine zm rfl (zo (op_extract rfl rfl) (zo (op_extract rfl rfl) (za rfl (za rfl (zn ?_)))))
  refine zq (zq (zr (zm rfl ?_)))
  by_cases h38 : r8 = (0 : Int)
  ·replace H := ifp h38 H
   refine zo (fun w => opB (op_neq rfl rfl w) (ndT h38)) (zn (zf rfl rfl (zk (zq (zb ?_)))))
   replace hB := (hB.trans eF.fr).trans CV.fr
   refine Go1.loopW (S := Int × Bool × Int × List (List Int) × List (List Int) × List Int × List Int × List (List Int) × List Rule × List Str × List Int × List Int × (List (Str × Int))) (fun s σ w => match s with | (k2_40, b2_41, k2_42, d_43, d_49, d_55, d_61, d_67, d_73, d_79, d_85, d_91, m2_97) => ∃ (n48 : Nat), ∃ (p46 : Option Addr), ∃ (c47 : Nat), ∃ (th : List Value), ∃ (n54 : Nat), ∃ (p52 : Option Addr), ∃ (c53 : Nat), ∃ (tj : List Value), ∃ (n60 : Nat), ∃ (p58 : Option Addr), ∃ (c59 : Nat), ∃ (tk : List Value), ∃ (n66 : Nat), ∃ (p64 : Option Addr), ∃ (c65 : Nat), ∃ (tm : List Value), ∃ (n72 : Nat), ∃ (p70 : Option Addr), ∃ (c71 : Nat), ∃ (tn : List Value), ∃ (n78 : Nat), ∃ (p76 : Option Addr), ∃ (c77 : Nat), ∃ (tp : List Value), ∃ (n84 : Nat), ∃ (p82 : Option Addr), ∃ (c83 : Nat), ∃ (qE : List Value), ∃ (n90 : Nat), ∃ (p88 : Option Addr), ∃ (c89 : Nat), ∃ (tq : List Value), ∃ (n96 : Nat), ∃ (p94 : Option Addr), ∃ (c95 : Nat), ∃ (tt : List Value), agrees σ [(4, .pointer (some ⟨B2, 0, none⟩)), (6, .pointer (some ⟨eH, 0, none⟩))] ∧ (fun Z0 => Owns w0.heap.size w Z0 A ∧ Els (Rp.sl (Rp.int .i64)) (bl Z0 ++ A) w th d_43 ∧ Els (Rp.sl (Rp.int .i64)) (bl Z0 ++ A) w tj d_49 ∧ Els (Rp.int .i64) (bl Z0 ++ A) w tk d_55 ∧ Els (Rp.int .i64) (bl Z0 ++ A) w tm d_61 ∧ Els (Rp.sl (Rp.int .i64)) (bl Z0 ++ A) w tn d_67 ∧ Els (rpRule) (bl Z0 ++ A) w tp d_73 ∧ Els (Rp.str) (bl Z0 ++ A) w qE d_79 ∧ Els (Rp.int .i64) (bl Z0 ++ A) w tq d_85 ∧ Els (Rp.int .i64) (bl Z0 ++ A) w tt d_91 ∧ Fr (bl []) w0 (bl Z0) w) [.blk eH (.cells #[.int .i64 k2_40, .bool b2_41, .slice p46 n48 c47, .slice p52 n54 c53, .slice p58 n60 c59, .slice p64 n66 c65, .slice p70 n72 c71, .slice p76 n78 c77, .int .i64 k2_42, .map (some ai), .slice p82 n84 c83, .slice p88 n90 c89, .slice p94 n96 c95] 72 (0, 0)), .row 26 1 p46 n48 c47 th, .row 26 1 p52 n54 c53 tj, .row 3 1 p58 n60 c59 tk, .row 3 1 p64 n66 c65 tm, .row 26 1 p70 n72 c71 tn, .row 39 2 p76 n78 c77 tp, .row 9 1 p82 n84 c83 qE, .row 3 1 p88 n90 c89 tq, .row 3 1 p94 n96 c95 tt, .any (mapE (fun a : List UInt8 => Value.string (gstr a)) (fun a : Int => Value.int .i64 a) ai m2_97), .blk B2 (.cells #[.int .i64 (0 : Int), .bool false, .slice none 0 0, .slice none 0 0, .slice none 0 0, .slice none 0 0, .slice none 0 0, .slice none 0 0, .int .i64 (0 : Int)] 29 (0, 0))]) H ⟨uu, uv, uw, tG, tH, tI, tJ, rP, rQ, rR, rS, qx, ux, uy, uz, tK, tL, tM, tN, rT, tO, tP, tQ, rU, xw, xx, xz, wx, wy, wz, wA, vO, wB, wC, wD, vP, ⟨rfl, rfl, trivial⟩, hO, fe, er, et, ff, eM, eN, fA, fW, fX, hB⟩ ?_
   intro X2
   refine prE fun k2_40 => prE fun b2_41 => prE fun k2_42 => prE fun d_43 => prE fun d_49 => prE fun d_55 => prE fun d_61 => prE fun d_67 => prE fun d_73 => prE fun d_79 => prE fun d_85 => prE fun d_91 => fun m2_97 => ?_
   intro H hX2 σ w39
   refine exE fun n48 => exE fun p46 => exE fun c47 => exE fun th => exE fun n54 => exE fun p52 => exE fun c53 => exE fun tj => exE fun n60 => exE fun p58 => exE fun c59 => exE fun tk => exE fun n66 => exE fun p64 => exE fun c65 => exE fun tm => exE fun n72 => exE fun p70 => exE fun c71 => exE fun tn => exE fun n78 => exE fun p76 => exE fun c77 => exE fun tp => exE fun n84 => exE fun p82 => exE fun c83 => exE fun qE => exE fun n90 => exE fun p88 => exE fun c89 => exE fun tq => exE fun n96 => exE fun p94 => exE fun c95 => exE fun tt => andE fun hag => andE fun hO => andE fun CC => andE fun zM => andE fun yP => andE fun dM => andE fun oE => andE fun qR => andE fun uc => andE fun dT => andE fun lF => fun hB => ?_
   dsimp only at H
   refine Go1.keep [(4, .pointer (some ⟨B2, 0, none⟩)), (6, .pointer (some ⟨eH, 0, none⟩))] hag ?_
   refine zq (zq (zr (zm rfl ?_)))
   refine GoR.inl (vs := [.pointer (some ⟨eH, 0, none⟩)]) (caps := []) rfl rfl body50 Try.func50 rfl Try.ntmps50 rfl rfl rfl ?_
   intro RhR98 hR98
   refine zq (zr (za rfl (zn (zq ?_))))
   refine Go1.drawS 0 [(0, .pure), (1, .pure), (2, .pure), (3, .pure), (4, .stable), (5, .pure), (6, .pure), (7, .pure), (8, .pure), (9, .stable), (10, .pure), (11, .pure), (12, .pure)] mixed (by kernel_rfl) ?_
   intro w99 EM
   have fm := Stp.same hO EM
   replace hO := fm.own
   refine GoQ.pure rfl (op_move rfl) rfl rfl ?_
   refine GoQ.pure rfl (op_nilCheck rfl) rfl rfl ?_
   refine GoQ.pure rfl (op_fieldAddr Try.underlying72 rfl ti29 rfl (by decide)) rfl rfl ?_
   refine GoQ.pure rfl (op_fieldAddr Try.underlying29 rfl ti3 rfl (by decide)) rfl rfl ?_
   refine GoQ.stable rfl (oblk (i := 8) 0 hO rfl rfl Try.underlying3 rfl rfl) rfl rfl ?_
   refine GoQ.pure rfl (op_move rfl) rfl rfl ?_
   refine GoQ.pure rfl (op_nilCheck rfl) rfl rfl ?_
   refine GoQ.pure rfl (op_fieldAddr Try.underlying72 rfl ti29 rfl (by decide)) rfl rfl ?_
   refine GoQ.pure rfl (op_fieldAddr Try.underlying29 rfl ti22 rfl (by decide)) rfl rfl ?_
   refine GoQ.stable rfl (oblk (i := 3) 0 hO rfl rfl Try.underlying22 rfl rfl) rfl rfl ?_
   replace zM := zM.ch fm.ch
   refine GoQ.pure rfl (op_lenN Try.underlying22 rfl (zM.neq hO 2 rfl)) rfl rfl ?_
   by_cases zN : k2_42 = (d_49.length : Int)
   ·replace H := ifp zN H
    refine GoQ.pure rfl (fun w => opB (op_eql rfl rfl w) (decide_eq_true zN)) rfl rfl ?_
    refine GoQ.pure rfl (op_assign rfl) rfl rfl ?_
    refine GoQ.nil ?_
    refine Go1.ret1V Try.func50 rfl (show _ = .bool true from rfl) ?_
    refine hR98 _ _ ?_
    refine zo (op_not rfl) (zn (zf rfl rfl ?_))
    refine Go1.exit rfl ?_
    refine zq (zr (zm rfl (zo (op_nilCheck rfl) (zo (op_fieldAddr Try.underlying72 rfl ti29 rfl (by decide)) (zs (oblkAgg (vs := [.int .i64 k2_40, .bool b2_41, .slice p46 n48 c47, .slice p52 n54 c53, .slice p58 n60 c59, .slice p64 n66 c65, .slice p70 n72 c71, .slice p76 n78 c77, .int .i64 k2_42]) (i := 0) 0 hO rfl rfl Try.underlying29 rfl ti29 rfl) ?_)))))
    have hobt := oblkStAgg (us := [.int .i64 k2_40, .bool b2_41, .slice p46 n48 c47, .slice p52 n54 c53, .slice p58 n60 c59, .slice p64 n66 c65, .slice p70 n72 c71, .slice p76 n78 c77, .int .i64 k2_42]) (o := 0) (cs' := #[.int .i64 k2_40, .bool b2_41, .slice p46 n48 c47, .slice p52 n54 c53, .slice p58 n60 c59, .slice p64 n66 c65, .slice p70 n72 c71, .slice p76 n78 c77, .int .i64 k2_42]) 11 hO rfl rfl (Nat.le_of_ble_eq_true rfl) rfl
    obtain ⟨V6, jX, Jz⟩ := hobt
    dsimp only [sS, sZ] at jX
    refine zg (Jz ti29 (by exact rfl) (by exact rfl) rfl) ?_
    replace hO := jX.own
    refine za rfl (zn ?_)
    replace CC := (CC.ch fm.ch).ch jX.ch
    have hobt := freeze 1 hO rfl CC
    obtain ⟨hO1, xA, vd, Nk⟩ := hobt
    dsimp only [eS, eZ] at hO1 xA vd
    replace hB := ((hB.trans fm.fr).trans jX.fr).trans (Owns.dropFr _ _ 1)
    dsimp only [eS, eZ] at hB
    replace hO := hO1; clear hO1
    replace zM := (zM.ch jX.ch).ch xA
    have hobt := freeze 1 hO rfl zM
    obtain ⟨hO1, xB, wE, Nl⟩ := hobt
    dsimp only [eS, eZ] at hO1 xB wE
    replace hB := hB.trans (Owns.dropFr _ _ 1)
    dsimp only [eS, eZ] at hB
    replace hO := hO1; clear hO1
    have Z1 := ((fm.ch.trans jX.ch).trans xA).trans xB
    replace yP := yP.ch Z1
    have hobt := freeze 1 hO rfl yP
    obtain ⟨hO1, xC, yt, EO⟩ := hobt
    dsimp only [eS, eZ] at hO1 xC yt
    replace hB := hB.trans (Owns.dropFr _ _ 1)
    dsimp only [eS, eZ] at hB
    replace hO := hO1; clear hO1
    replace dM := (dM.ch Z1).ch xC
    have hobt := freeze 1 hO rfl dM
    obtain ⟨hO1, xD, Bj, Nm⟩ := hobt
    dsimp only [eS, eZ] at hO1 xD Bj
    replace hB := hB.trans (Owns.dropFr _ _ 1)
    dsimp only [eS, eZ] at hB
    replace hO := hO1; clear hO1
    replace oE := ((oE.ch Z1).ch xC).ch xD
    have hobt := freeze 1 hO rfl oE
    obtain ⟨hO1, xE, CW, Nn⟩ := hobt
    dsimp only [eS, eZ] at hO1 xE CW
    replace hB := hB.trans (Owns.dropFr _ _ 1)
    dsimp only [eS, eZ] at hB
    replace hO := hO1; clear hO1
    have Z2 := ((Z1.trans xC).trans xD).trans xE
    replace qR := qR.ch Z2
    have hobt := freeze 1 hO rfl qR
    obtain ⟨hO1, xF, Hf, Np⟩ := hobt
    dsimp only [eS, eZ] at hO1 xF Hf
    replace hB := hB.trans (Owns.dropFr _ _ 1)
    dsimp only [eS, eZ] at hB
    replace hO := hO1; clear hO1
    refine Go1.retC2 Try.func17 rfl rfl (run_loadBlk (vs := [.int .i64 k2_40, .bool b2_41, .slice p46 n48 c47, .slice p52 n54 c53, .slice p58 n60 c59, .slice p64 n66 c65, .slice p70 n72 c71, .slice p76 n78 c77, .int .i64 k2_42]) 5 hO rfl rfl Try.underlying29 rfl ti29) ?_
    replace CW := CW.ch xF
    replace Bj := (Bj.ch xE).ch xF
    have Z3 := (xD.trans xE).trans xF
    replace yt := yt.ch Z3
    have Z4 := ((xC.trans xD).trans xE).trans xF
    replace wE := wE.ch Z4
    have Z5 := (((xB.trans xC).trans xD).trans xE).trans xF
    replace vd := vd.ch Z5
    exact ⟨(⟨k2_40, b2_41, d_43, d_49, d_55, d_61, d_67, d_73, k2_42⟩ : Enum), (0 : Int), p46, c47, p52, c53, p58, c59, p64, c65, p70, c71, p76, c77, (congrArg (fun l => Value.tuple (List.toArray l)) (cons_eq (congrArg (fun l => Value.agg (List.toArray l)) (cons_eq rfl (cons_eq rfl (cons_eq (congrArg (fun nn => Value.slice p46 nn c47) Nk) (cons_eq (congrArg (fun nn => Value.slice p52 nn c53) Nl) (cons_eq (congrArg (fun nn => Value.slice p58 nn c59) EO) (cons_eq (congrArg (fun nn => Value.slice p64 nn c65) Nm) (cons_eq (congrArg (fun nn => Value.slice p70 nn c71) Nn) (cons_eq (congrArg (fun nn => Value.slice p76 nn c77) Np) (cons_eq rfl rfl)))))))))) (cons_eq rfl rfl))), hB.same, (vd.ch (Ch.weak _ _ _)), (wE.ch (Ch.weak _ _ _)), (yt.ch (Ch.weak _ _ _)), (Bj.ch (Ch.weak _ _ _)), (CW.ch (Ch.weak _ _ _)), (Hf.ch (Ch.weak _ _ _)), H⟩
   replace H := ifn zN H
   refine GoQ.pure rfl (fun w => opB (op_eql rfl rfl w) (decide_eq_false zN)) rfl rfl ?_
   refine GoQ.pure rfl (op_assign rfl) rfl rfl ?_
   refine GoQ.nil ?_
   refine Go1.ret1V Try.func50 rfl (show _ = .bool false from rfl) ?_
   refine hR98 _ _ ?_
   refine zo (op_not rfl) (zn (zt rfl rfl (zk (zb (zq ?_)))))
   refine Go1.cut [(4, .pointer (some ⟨B2, 0, none⟩)), (6, .pointer (some ⟨eH, 0, none⟩))] ⟨rfl, rfl, trivial⟩ ?_
   intro σ _
   refine zr (zm rfl ?_)
   have Hg : Owns w0.heap.size w99 ([.blk eH (.cells #[.int .i64 k2_40, .bool b2_41, .slice p46 n48 c47, .slice p52 n54 c53, .slice p58 n60 c59, .slice p64 n66 c65, .slice p70 n72 c71, .slice p76 n78 c77, .int .i64 k2_42, .map (some ai), .slice p82 n84 c83, .slice p88 n90 c89, .slice p94 n96 c95] 72 (0, 0)), .row 26 1 p46 n48 c47 th, .row 26 1 p52 n54 c53 tj, .row 3 1 p58 n60 c59 tk, .row 3 1 p64 n66 c65 tm, .row 26 1 p70 n72 c71 tn, .row 39 2 p76 n78 c77 tp, .row 9 1 p82 n84 c83 qE, .row 3 1 p88 n90 c89 tq, .row 3 1 p94 n96 c95 tt, .any (mapE (fun a : List UInt8 => Value.string (gstr a)) (fun a : Int => Value.int .i64 a) ai m2_97)] ++ [.blk B2 (.cells #[.int .i64 (0 : Int), .bool false, .slice none 0 0, .slice none 0 0, .slice none 0 0, .slice none 0 0, .slice none 0 0, .slice none 0 0, .int .i64 (0 : Int)] 29 (0, 0))]) A := hO
   have Nq := Owns.split Hg
   have hca126 : Ch (bl [.blk eH (.cells #[.int .i64 k2_40, .bool b2_41, .slice p46 n48 c47, .slice p52 n54 c53, .slice p58 n60 c59, .slice p64 n66 c65, .slice p70 n72 c71, .slice p76 n78 c77, .int .i64 k2_42, .map (some ai), .slice p82 n84 c83, .slice p88 n90 c89, .slice p94 n96 c95] 72 (0, 0)), .row 26 1 p46 n48 c47 th, .row 26 1 p52 n54 c53 tj, .row 3 1 p58 n60 c59 tk, .row 3 1 p64 n66 c65 tm, .row 26 1 p70 n72 c71 tn, .row 39 2 p76 n78 c77 tp, .row 9 1 p82 n84 c83 qE, .row 3 1 p88 n90 c89 tq, .row 3 1 p94 n96 c95 tt, .any (mapE (fun a : List UInt8 => Value.string (gstr a)) (fun a : Int => Value.int .i64 a) ai m2_97), .blk B2 (.cells #[.int .i64 (0 : Int), .bool false, .slice none 0 0, .slice none 0 0, .slice none 0 0, .slice none 0 0, .slice none 0 0, .slice none 0 0, .int .i64 (0 : Int)] 29 (0, 0))] ++ A) w99 (bl [.blk eH (.cells #[.int .i64 k2_40, .bool b2_41, .slice p46 n48 c47, .slice p52 n54 c53, .slice p58 n60 c59, .slice p64 n66 c65, .slice p70 n72 c71, .slice p76 n78 c77, .int .i64 k2_42, .map (some ai), .slice p82 n84 c83, .slice p88 n90 c89, .slice p94 n96 c95] 72 (0, 0)), .row 26 1 p46 n48 c47 th, .row 26 1 p52 n54 c53 tj, .row 3 1 p58 n60 c59 tk, .row 3 1 p64 n66 c65 tm, .row 26 1 p70 n72 c71 tn, .row 39 2 p76 n78 c77 tp, .row 9 1 p82 n84 c83 qE, .row 3 1 p88 n90 c89 tq, .row 3 1 p94 n96 c95 tt, .any (mapE (fun a : List UInt8 => Value.string (gstr a)) (fun a : Int => Value.int .i64 a) ai m2_97)] ++ (bl [.blk B2 (.cells #[.int .i64 (0 : Int), .bool false, .slice none 0 0, .slice none 0 0, .slice none 0 0, .slice none 0 0, .slice none 0 0, .slice none 0 0, .int .i64 (0 : Int)] 29 (0, 0))] ++ A)) w99 := Ch.assoc' [.blk eH (.cells #[.int .i64 k2_40, .bool b2_41, .slice p46 n48 c47, .slice p52 n54 c53, .slice p58 n60 c59, .slice p64 n66 c65, .slice p70 n72 c71, .slice p76 n78 c77, .int .i64 k2_42, .map (some ai), .slice p82 n84 c83, .slice p88 n90 c89, .slice p94 n96 c95] 72 (0, 0)), .row 26 1 p46 n48 c47 th, .row 26 1 p52 n54 c53 tj, .row 3 1 p58 n60 c59 tk, .row 3 1 p64 n66 c65 tm, .row 26 1 p70 n72 c71 tn, .row 39 2 p76 n78 c77 tp, .row 9 1 p82 n84 c83 qE, .row 3 1 p88 n90 c89 tq, .row 3 1 p94 n96 c95 tt, .any (mapE (fun a : List UInt8 => Value.string (gstr a)) (fun a : Int => Value.int .i64 a) ai m2_97)] [.blk B2 (.cells #[.int .i64 (0 : Int), .bool false, .slice none 0 0, .slice none 0 0, .slice none 0 0, .slice none 0 0, .slice none 0 0, .slice none 0 0, .int .i64 (0 : Int)] 29 (0, 0))] A w99
   replace CC := CC.ch fm.ch
   replace yP := yP.ch fm.ch
   replace dM := dM.ch fm.ch
   replace oE := oE.ch fm.ch
   replace qR := qR.ch fm.ch
   replace uc := uc.ch fm.ch
   replace dT := dT.ch fm.ch
   replace lF := lF.ch fm.ch
   refine GoR.call (op_call body51 rfl (walk_enumerate_run_process (a0 := (⟨(⟨k2_40, b2_41, d_43, d_49, d_55, d_61, d_67, d_73, k2_42⟩ : Enum), m2_97, d_79, d_85, d_91⟩ : run)) Nq (CC.ch hca126) (zM.ch hca126) (yP.ch hca126) (dM.ch hca126) (oE.ch hca126) (qR.ch hca126) (uc.ch hca126) (dT.ch hca126) (lF.ch hca126) H)) rfl rfl ?_
   intro V7 EP
   refine exE fun r127 => exE fun q128 => exE fun iN => exE fun iO => exE fun iP => exE fun ou => exE fun gV => exE fun gW => exE fun gX => exE fun nA => exE fun gz => exE fun gA => exE fun gB => exE fun mK => exE fun iQ => exE fun iR => exE fun iT => exE fun ov => exE fun gY => exE fun g0 => exE fun g5 => exE fun nB => exE fun g6 => exE fun g7 => exE fun g8 => exE fun nC => exE fun l8 => exE fun l9 => exE fun ma => exE fun sY => exE fun kn => exE fun ko => exE fun kq => exE fun qS => exE fun kr => exE fun ks => exE fun kt => exE fun qT => andE fun hv134 => andE fun hN131 => andE fun ow => andE fun nD => andE fun mM => andE fun oA => andE fun nE => andE fun nF => andE fun ta => andE fun qU => andE fun qV => andE fun hF132 => fun H => ?_
   subst hv134
   have Fz : Stp w0.heap.size A w99 [.blk eH (.cells #[.int .i64 k2_40, .bool b2_41, .slice p46 n48 c47, .slice p52 n54 c53, .slice p58 n60 c59, .slice p64 n66 c65, .slice p70 n72 c71, .slice p76 n78 c77, .int .i64 k2_42, .map (some ai), .slice p82 n84 c83, .slice p88 n90 c89, .slice p94 n96 c95] 72 (0, 0)), .row 26 1 p46 n48 c47 th, .row 26 1 p52 n54 c53 tj, .row 3 1 p58 n60 c59 tk, .row 3 1 p64 n66 c65 tm, .row 26 1 p70 n72 c71 tn, .row 39 2 p76 n78 c77 tp, .row 9 1 p82 n84 c83 qE, .row 3 1 p88 n90 c89 tq, .row 3 1 p94 n96 c95 tt, .any (mapE (fun a : List UInt8 => Value.string (gstr a)) (fun a : Int => Value.int .i64 a) ai m2_97), .blk B2 (.cells #[.int .i64 (0 : Int), .bool false, .slice none 0 0, .slice none 0 0, .slice none 0 0, .slice none 0 0, .slice none 0 0, .slice none 0 0, .int .i64 (0 : Int)] 29 (0, 0))] EP [.blk eH (.cells #[.int .i64 q128.Enum.Points, .bool q128.Enum.Monoid, .slice iO iN iP, .slice gW gV gX, .slice gA gz gB, .slice iR iQ iT, .slice g0 gY g5, .slice g7 g6 g8, .int .i64 q128.Enum.Done, .map (some ai), .slice l9 l8 ma, .slice ko kn kq, .slice ks kr kt] 72 (0, 0)), .row 26 1 iO iN iP ou, .row 26 1 gW gV gX nA, .row 3 1 gA gz gB mK, .row 3 1 iR iQ iT ov, .row 26 1 g0 gY g5 nB, .row 39 2 g7 g6 g8 nC, .row 9 1 l9 l8 ma sY, .row 3 1 ko kn kq qS, .row 3 1 ks kr kt qT, .any (mapE (fun a : List UInt8 => Value.string (gstr a)) (fun a : Int => Value.int .i64 a) ai q128.number), .blk B2 (.cells #[.int .i64 (0 : Int), .bool false, .slice none 0 0, .slice none 0 0, .slice none 0 0, .slice none 0 0, .slice none 0 0, .slice none 0 0, .int .i64 (0 : Int)] 29 (0, 0))] := Stp.join Hg hN131 hF132
   replace hO := Fz.own
   have hca135 : Ch (bl [.blk eH (.cells #[.int .i64 q128.Enum.Points, .bool q128.Enum.Monoid, .slice iO iN iP, .slice gW gV gX, .slice gA gz gB, .slice iR iQ iT, .slice g0 gY g5, .slice g7 g6 g8, .int .i64 q128.Enum.Done, .map (some ai), .slice l9 l8 ma, .slice ko kn kq, .slice ks kr kt] 72 (0, 0)), .row 26 1 iO iN iP ou, .row 26 1 gW gV gX nA, .row 3 1 gA gz gB mK, .row 3 1 iR iQ iT ov, .row 26 1 g0 gY g5 nB, .row 39 2 g7 g6 g8 nC, .row 9 1 l9 l8 ma sY, .row 3 1 ko kn kq qS, .row 3 1 ks kr kt qT, .any (mapE (fun a : List UInt8 => Value.string (gstr a)) (fun a : Int => Value.int .i64 a) ai q128.number)] ++ (bl [.blk B2 (.cells #[.int .i64 (0 : Int), .bool false, .slice none 0 0, .slice none 0 0, .slice none 0 0, .slice none 0 0, .slice none 0 0, .slice none 0 0, .int .i64 (0 : Int)] 29 (0, 0))] ++ A)) EP (bl [.blk eH (.cells #[.int .i64 q128.Enum.Points, .bool q128.Enum.Monoid, .slice iO iN iP, .slice gW gV gX, .slice gA gz gB, .slice iR iQ iT, .slice g0 gY g5, .slice g7 g6 g8, .int .i64 q128.Enum.Done, .map (some ai), .slice l9 l8 ma, .slice ko kn kq, .slice ks kr kt] 72 (0, 0)), .row 26 1 iO iN iP ou, .row 26 1 gW gV gX nA, .row 3 1 gA gz gB mK, .row 3 1 iR iQ iT ov, .row 26 1 g0 gY g5 nB, .row 39 2 g7 g6 g8 nC, .row 9 1 l9 l8 ma sY, .row 3 1 ko kn kq qS, .row 3 1 ks kr kt qT, .any (mapE (fun a : List UInt8 => Value.string (gstr a)) (fun a : Int => Value.int .i64 a) ai q128.number), .blk B2 (.cells #[.int .i64 (0 : Int), .bool false, .slice none 0 0, .slice none 0 0, .slice none 0 0, .slice none 0 0, .slice none 0 0, .slice none 0 0, .int .i64 (0 : Int)] 29 (0, 0))] ++ A) EP := Ch.assoc [.blk eH (.cells #[.int .i64 q128.Enum.Points, .bool q128.Enum.Monoid, .slice iO iN iP, .slice gW gV gX, .slice gA gz gB, .slice iR iQ iT, .slice g0 gY g5, .slice g7 g6 g8, .int .i64 q128.Enum.Done, .map (some ai), .slice l9 l8 ma, .slice ko kn kq, .slice ks kr kt] 72 (0, 0)), .row 26 1 iO iN iP ou, .row 26 1 gW gV gX nA, .row 3 1 gA gz gB mK, .row 3 1 iR iQ iT ov, .row 26 1 g0 gY g5 nB, .row 39 2 g7 g6 g8 nC, .row 9 1 l9 l8 ma sY, .row 3 1 ko kn kq qS, .row 3 1 ks kr kt qT, .any (mapE (fun a : List UInt8 => Value.string (gstr a)) (fun a : Int => Value.int .i64 a) ai q128.number)] [.blk B2 (.cells #[.int .i64 (0 : Int), .bool false, .slice none 0 0, .slice none 0 0, .slice none 0 0, .slice none 0 0, .slice none 0 0, .slice none 0 0, .int .i64 (0 : Int)] 29 (0, 0))] A EP
   refine za rfl (zn (zq (zr (zm rfl ?_))))
   by_cases EQ : r127 = (0 : Int)
   ·replace H := ifp EQ H
    refine zo (fun w => opB (op_neq rfl rfl w) (ndT EQ)) (zn (zf rfl rfl (zk ?_)))
    refine Go1.inBlock ?_
    replace ow := ow.ch hca135
    replace nD := nD.ch hca135
    replace mM := mM.ch hca135
    replace oA := oA.ch hca135
    replace nE := nE.ch hca135
    replace nF := nF.ch hca135
    replace ta := ta.ch hca135
    replace qU := qU.ch hca135
    replace qV := qV.ch hca135
    replace hB := (hB.trans fm.fr).trans Fz.fr
    exact hX2 _ H _ _ ⟨iN, iO, iP, ou, gV, gW, gX, nA, gz, gA, gB, mK, iQ, iR, iT, ov, gY, g0, g5, nB, g6, g7, g8, nC, l8, l9, ma, sY, kn, ko, kq, qS, kr, ks, kt, qT, ⟨rfl, rfl, trivial⟩, hO, ow, nD, mM, oA, nE, nF, ta, qU, qV, hB⟩
   replace H := ifn EQ H
   refine zo (fun w => opB (op_neq rfl rfl w) (ndF EQ)) (zn (zt rfl rfl (zq (zr (zo (op_build Try.underlying29 ti29 (pl := [(0, 1), (1, 1), (2, 1), (3, 1), (4, 1), (5, 1), (6, 1), (7, 1), (8, 1)]) (vs := []) (cs := #[.int .i64 (0 : Int), .bool false, .slice none 0 0, .slice none 0 0, .slice none 0 0, .slice none 0 0, .slice none 0 0, .slice none 0 0, .int .i64 (0 : Int)]) (by kernel_rfl) rfl (by kernel_rfl)) ?_)))))
   refine zm rfl ?_
   have hobt := oblkStAgg (us := [.int .i64 (0 : Int), .bool false, .slice none 0 0, .slice none 0 0, .slice none 0 0, .slice none 0 0, .slice none 0 0, .slice none 0 0, .int .i64 (0 : Int)]) (o := 0) (cs' := #[.int .i64 (0 : Int), .bool false, .slice none 0 0, .slice none 0 0, .slice none 0 0, .slice none 0 0, .slice none 0 0, .slice none 0 0, .int .i64 (0 : Int)]) 11 hO rfl rfl (Nat.le_of_ble_eq_true rfl) rfl
   obtain ⟨V8, tc, JA⟩ := hobt
   dsimp only [sS, sZ] at tc
   refine zg (JA ti29 (by exact rfl) (by exact rfl) rfl) ?_
   replace hO := tc.own
   refine za rfl (zn ?_)
   refine Go1.retC2 Try.func17 rfl rfl (run_loadBlk (vs := [.int .i64 (0 : Int), .bool false, .slice none 0 0, .slice none 0 0, .slice none 0 0, .slice none 0 0, .slice none 0 0, .slice none 0 0, .int .i64 (0 : Int)]) 11 hO rfl rfl Try.underlying29 rfl ti29) ?_
   replace hB := ((hB.trans fm.fr).trans Fz.fr).trans tc.fr
   exact ⟨(⟨(0 : Int), false, ([] : List (List Int)), ([] : List (List Int)), ([] : List Int), ([] : List Int), ([] : List (List Int)), ([] : List Rule), (0 : Int)⟩ : Enum), r127, none, 0, none, 0, none, 0, none, 0, none, 0, none, 0, rfl, hB.same, (ISl.null _ _ _), (ISl.null _ _ _), (ISl.null _ _ _), (ISl.null _ _ _), (ISl.null _ _ _), (ISl.null _ _ _), H⟩
  replace H := ifn h38 H
  refine zo (fun w => opB (op_neq rfl rfl w) (ndF h38)) (zn (zt rfl rfl (zq (zr (zo (op_build Try.underlying29 ti29 (pl := [(0, 1), (1, 1), (2, 1), (3, 1), (4, 1), (5, 1), (6, 1), (7, 1), (8, 1)]) (vs := []) (cs := #[.int .i64 (0 : Int), .bool false, .slice none 0 0, .slice none 0 0, .slice none 0 0, .slice none 0 0, .slice none 0 0, .slice none 0 0, .int .i64 (0 : Int)]) (by kernel_rfl) rfl (by kernel_rfl)) ?_)))))
  refine zm rfl ?_
  have hobt := oblkStAgg (us := [.int .i64 (0 : Int), .bool false, .slice none 0 0, .slice none 0 0, .slice none 0 0, .slice none 0 0, .slice none 0 0, .slice none 0 0, .int .i64 (0 : Int)]) (o := 0) (cs' := #[.int .i64 (0 : Int), .bool false, .slice none 0 0, .slice none 0 0, .slice none 0 0, .slice none 0 0, .slice none 0 0, .slice none 0 0, .int .i64 (0 : Int)]) 11 hO rfl rfl (Nat.le_of_ble_eq_true rfl) rfl
  obtain ⟨V9, qW, JB⟩ := hobt
  dsimp only [sS, sZ] at qW
  refine zg (JB ti29 (by exact rfl) (by exact rfl) rfl) ?_
  replace hO := qW.own
  refine za rfl (zn ?_)
  refine Go1.retC2 Try.func17 rfl rfl (run_loadBlk (vs := [.int .i64 (0 : Int), .bool false, .slice none 0 0, .slice none 0 0, .slice none 0 0, .slice none 0 0, .slice none 0 0, .slice none 0 0, .int .i64 (0 : Int)]) 11 hO rfl rfl Try.underlying29 rfl ti29) ?_
  replace hB := ((hB.trans eF.fr).trans CV.fr).trans qW.fr
  exact ⟨(⟨(0 : Int), false, ([] : List (List Int)), ([] : List (List Int)), ([] : List Int), ([] : List Int), ([] : List (List Int)), ([] : List Rule), (0 : Int)⟩ : Enum), r8, none, 0, none, 0, none, 0, none, 0, none, 0, none, 0, rfl, hB.same, (ISl.null _ _ _), (ISl.null _ _ _), (ISl.null _ _ _), (ISl.null _ _ _), (ISl.null _ _ _), (ISl.null _ _ _), H⟩
theorem body70 : Body Try.prog 70 := ⟨Try.f70, Try.func70, rfl, by kernel_rfl⟩
theorem walk_slices_Equal_int {A : List Nat} {w0 : World} {qk : Option Addr} {ql : Nat} {qm : Option Addr} {qn : Nat} {s1 : List Int} {s2 : List Int} (hA : ∀ b ∈ A, b < w0.heap.size) (jq : ISl (Rp.int .i64) A w0 qk ql s1) (j7 : ISl (Rp.int .i64) A w0 qm qn s2) {K : Bool → Prop} (H : slices_Equal_int s1 s2 K) :
    CallsV Try.prog 70 #[.slice qk s1.length ql, .slice qm s2.length qn] w0 (fun v w' => ∃ (r0 : Bool), v = .bool r0 ∧ Same w0 w' ∧ K r0) := by
 refine CallsV.of (l := [.slice qk s1.length ql, .slice qm s2.length qn]) Try.func70 rfl Try.ntmps70 rfl ?_
 have hO := Owns.start hA
 have hB := Fr.refl (bl []) w0
 unfold slices_Equal_int at H
 refine zq (zr (za rfl (zn (zq (zq ?_)))))
 refine zr (zm rfl (zo (op_len Try.underlying26 rfl) ?_))
 replace jq := jq.ch (Ch.start A w0)
 replace H := H jq.bd
 refine zm rfl (zo (op_len Try.underlying26 rfl) ?_)
 replace j7 := j7.ch (Ch.start A w0)
 replace H := H j7.bd
 by_cases h1 : (s1.length : Int) = (s2.length : Int)
 ·replace H := ifp h1 H
  refine zo (fun w => opB (op_neq rfl rfl w) (ndT h1)) (zn (zf rfl rfl (zk (zq (zq ?_)))))
  refine zr (zm rfl (zo (op_len Try.underlying26 rfl) (zm rfl (zn (zb ?_)))))
  refine Go1.loopW (S := Nat) (fun s σ w => agrees σ [(0, .slice qk s1.length ql), (1, .slice qm s2.length qn), (12, .int .i64 (s1.length : Int)), (13, .int .i64 (s : Int))] ∧ Owns w0.heap.size w [] A ∧ ISl (Rp.int .i64) (bl [] ++ A) w qk ql s1 ∧ ISl (Rp.int .i64) (bl [] ++ A) w qm qn s2 ∧ Fr (bl []) w0 (bl []) w) H ⟨⟨rfl, rfl, rfl, rfl, trivial⟩, hO, jq, j7, hB⟩ ?_
  intro X1 k1_3
  intro H hX1 σ w2
  refine andE fun hag => andE fun hO => andE fun jq => andE fun j7 => fun hB => ?_
  refine Go1.keep [(0, .slice qk s1.length ql), (1, .slice qm s2.length qn), (12, .int .i64 (s1.length : Int)), (13, .int .i64 (k1_3 : Int))] hag ?_
  refine zq (zr ?_)
  by_cases h4 : (k1_3 : Int) < (s1.length : Int)
  ·replace H := ifp h4 H
   refine zo (fun w => opB (op_lss rfl rfl w) (decide_eq_true h4)) (zn (zq (zt rfl rfl (zk (zq ?_)))))
   refine zb (zq (zr (zm rfl (za rfl (zn ?_)))))
   refine zq ?_
   refine Go1.drawS 0 [(0, .pure), (1, .pure), (2, .pure), (3, .stable), (4, .pure), (5, .pure), (6, .pure), (7, .stable), (8, .pure)] mixed (by kernel_rfl) ?_
   intro w5 hs6
   have oG := Stp.same hO hs6
   replace hO := oG.own
   refine GoQ.pure rfl (op_move rfl) rfl rfl ?_
   refine GoQ.pure rfl (op_move rfl) rfl rfl ?_
   obtain ⟨h8, H⟩ := H
   obtain ⟨h9, H⟩ := H
   replace jq := jq.ch oG.ch
   refine GoQ.pure rfl (op_index Try.underlying26 ti3 rfl rfl h8 h9 (jq.some_ h8 h9)) rfl rfl ?_
   refine GoQ.stable rfl (ldInt jq h8 h9 Try.underlying3 rfl rfl) rfl rfl ?_
   refine GoQ.pure rfl (op_move rfl) rfl rfl ?_
   refine GoQ.pure rfl (op_move rfl) rfl rfl ?_
   obtain ⟨h10, H⟩ := H
   obtain ⟨h11, H⟩ := H
   replace j7 := j7.ch oG.ch
   refine GoQ.pure rfl (op_index Try.underlying26 ti3 rfl rfl h10 h11 (j7.some_ h10 h11)) rfl rfl ?_
   refine GoQ.stable rfl (ldInt j7 h10 h11 Try.underlying3 rfl rfl) rfl rfl ?_
   by_cases h12 : (ix s1 (k1_3 : Int)) = (ix s2 (k1_3 : Int))
   ·replace H := ifp h12 H
    refine GoQ.pure rfl (fun w => opB (op_neq rfl rfl w) (ndT h12)) rfl rfl ?_
    refine GoQ.nil ?_
    refine zf rfl rfl (zk ?_)
    refine Go1.inBlock ?_
    refine zr (zo (op_add rfl rfl (wrap_i64 (natbd h4 jq.bd))) (zm rfl (zn ?_)))
    replace hB := hB.trans oG.fr
    exact hX1 _ H _ _ ⟨⟨rfl, rfl, rfl, rfl, trivial⟩, hO, jq, j7, hB⟩
   replace H := ifn h12 H
   refine GoQ.pure rfl (fun w => opB (op_neq rfl rfl w) (ndF h12)) rfl rfl ?_
   refine GoQ.nil ?_
   refine zt rfl rfl (zq (zr (za rfl (zn ?_))))
   refine Go1.ret1 Try.func70 rfl ?_
   replace hB := hB.trans oG.fr
   exact ⟨false, rfl, hB.same, H⟩
  replace H := ifn h4 H
  refine zo (fun w => opB (op_lss rfl rfl w) (decide_eq_false h4)) (zn (zq (zf rfl rfl ?_)))
  refine Go1.exit rfl ?_
  refine zq (zr (za rfl (zn ?_)))
  refine Go1.ret1 Try.func70 rfl ?_
  exact ⟨true, rfl, hB.same, H⟩
 replace H := ifn h1 H
 refine zo (fun w => opB (op_neq rfl rfl w) (ndF h1)) (zn (zt rfl rfl (zq (zr (za rfl ?_)))))
 refine zn ?_
 refine Go1.ret1 Try.func70 rfl ?_
 exact ⟨false, rfl, hB.same, H⟩
theorem body69 : Body Try.prog 69 := ⟨Try.f69, Try.func69, rfl, by kernel_rfl⟩
theorem walk_slices_EqualFunc_int {A : List Nat} {w0 : World} {qk : Option Addr} {ql : Nat} {qm : Option Addr} {qn : Nat} {s1 : List (List Int)} {s2 : List (List Int)} (hA : ∀ b ∈ A, b < w0.heap.size) (jq : ISl (Rp.sl (Rp.int .i64)) A w0 qk ql s1) (j7 : ISl (Rp.sl (Rp.int .i64)) A w0 qm qn s2) {K : Bool → Prop} (H : slices_EqualFunc_int s1 s2 K) :
    CallsV Try.prog 69 #[.slice qk s1.length ql, .slice qm s2.length qn, .func (.func 70) #[] #[]] w0 (fun v w' => ∃ (r0 : Bool), v = .bool r0 ∧ Same w0 w' ∧ K r0) := by
 refine CallsV.of (l := [.slice qk s1.length ql, .slice qm s2.length qn, .func (.func 70) #[] #[]]) Try.func69 rfl Try.ntmps69 rfl ?_
 have hO := Owns.start hA
 have hB := Fr.refl (bl []) w0
 unfold slices_EqualFunc_int at H
 refine zq (zr (za rfl (zn (zq (zq ?_)))))
 refine zr (zm rfl (zo (op_len Try.underlying22 rfl) ?_))
 replace jq := jq.ch (Ch.start A w0)
 replace H := H jq.bd
 refine zm rfl (zo (op_len Try.underlying22 rfl) ?_)
 replace j7 := j7.ch (Ch.start A w0)
 replace H := H j7.bd
 by_cases h1 : (s1.length : Int) = (s2.length : Int)
 ·replace H := ifp h1 H
  refine zo (fun w => opB (op_neq rfl rfl w) (ndT h1)) (zn (zf rfl rfl (zk (zq (zq ?_)))))
  refine zr (zm rfl (zo (op_len Try.underlying22 rfl) (zm rfl (zn (zb ?_)))))
  refine Go1.loopW (S := Nat) (fun s σ w => agrees σ [(1, .slice qm s2.length qn), (2, .func (.func 70) #[] #[]), (15, .slice qk s1.length ql), (16, .int .i64 (s1.length : Int)), (17, .int .i64 (s : Int))] ∧ Owns w0.heap.size w [] A ∧ ISl (Rp.sl (Rp.int .i64)) (bl [] ++ A) w qk ql s1 ∧ ISl (Rp.sl (Rp.int .i64)) (bl [] ++ A) w qm qn s2 ∧ Fr (bl []) w0 (bl []) w) H ⟨⟨rfl, rfl, rfl, rfl, rfl, trivial⟩, hO, jq, j7, hB⟩ ?_
  intro X1 k1_3
  intro H hX1 σ w2
  refine andE fun hag => andE fun hO => andE fun jq => andE fun j7 => fun hB => ?_
  refine Go1.keep [(1, .slice qm s2.length qn), (2, .func (.func 70) #[] #[]), (15, .slice qk s1.length ql), (16, .int .i64 (s1.length : Int)), (17, .int .i64 (k1_3 : Int))] hag ?_
  refine zq (zr ?_)
  by_cases h4 : (k1_3 : Int) < (s1.length : Int)
  ·replace H := ifp h4 H
   refine zo (fun w => opB (op_lss rfl rfl w) (decide_eq_true h4)) (zn (zq (zt rfl rfl (zk (zq ?_)))))
   refine zb (zq (zr (zm rfl ?_)))
   obtain ⟨h5, H⟩ := H
   obtain ⟨h6, H⟩ := H
   refine zo (op_index Try.underlying22 ti26 rfl rfl h5 h6 (jq.some_ h5 h6)) ?_
   have hobt := ldSl jq h5 h6
   obtain ⟨p7, c8, hi9, Rs⟩ := hobt
   refine zs (Rs Try.underlying26 rfl rfl) (za rfl (za rfl (zn (zq (zr ?_)))))
   refine zm rfl (zm rfl ?_)
   obtain ⟨h11, H⟩ := H
   obtain ⟨h12, H⟩ := H
   refine zo (op_index Try.underlying22 ti26 rfl rfl h11 h12 (j7.some_ h11 h12)) ?_
   have hobt := ldSl j7 h11 h12
   obtain ⟨p13, c14, j8, GD⟩ := hobt
   refine zs (GD Try.underlying26 rfl rfl) (za rfl (zn (zq (zr (zm rfl ?_)))))
   refine zm rfl (zm rfl ?_)
   refine GoR.call (op_callV (caps := []) body70 rfl rfl (walk_slices_Equal_int hO.lt hi9 j8 H)) rfl rfl ?_
   rintro v21 w18 ⟨r17, rfl, Cw, H⟩
   have fH := Stp.same hO Cw
   replace hO := fH.own
   cases r17
   ·replace H := ifn Bool.false_ne_true H
    refine zo (op_not rfl) (zn (zt rfl rfl (zq (zr (za rfl ?_)))))
    refine zn ?_
    refine Go1.ret1 Try.func69 rfl ?_
    replace hB := hB.trans fH.fr
    exact ⟨false, rfl, hB.same, H⟩
   replace H := ifp rfl H
   refine zo (op_not rfl) (zn (zf rfl rfl (zk ?_)))
   refine Go1.inBlock ?_
   refine Go1.cut [(1, .slice qm s2.length qn), (2, .func (.func 70) #[] #[]), (15, .slice qk s1.length ql), (16, .int .i64 (s1.length : Int)), (17, .int .i64 (k1_3 : Int))] ⟨rfl, rfl, rfl, rfl, rfl, trivial⟩ ?_
   intro σ _
   refine zr ?_
   replace jq := jq.ch fH.ch
   refine zo (op_add rfl rfl (wrap_i64 (natbd h4 jq.bd))) (zm rfl (zn ?_))
   replace j7 := j7.ch fH.ch
   replace hB := hB.trans fH.fr
   exact hX1 _ H _ _ ⟨⟨rfl, rfl, rfl, rfl, rfl, trivial⟩, hO, jq, j7, hB⟩
  replace H := ifn h4 H
  refine zo (fun w => opB (op_lss rfl rfl w) (decide_eq_false h4)) (zn (zq (zf rfl rfl ?_)))
  refine Go1.exit rfl ?_
  refine zq (zr (za rfl (zn ?_)))
  refine Go1.ret1 Try.func69 rfl ?_
  exact ⟨true, rfl, hB.same, H⟩
 replace H := ifn h1 H
 refine zo (fun w => opB (op_neq rfl rfl w) (ndF h1)) (zn (zt rfl rfl (zq (zr (za rfl ?_)))))
 refine zn ?_
 refine Go1.ret1 Try.func69 rfl ?_
 exact ⟨false, rfl, hB.same, H⟩
theorem body71 : Body Try.prog 71 := ⟨Try.f71, Try.func71, rfl, by kernel_rfl⟩
theorem walk_slices_Equal_api_Rule {A : List Nat} {w0 : World} {qk : Option Addr} {ql : Nat} {qm : Option Addr} {qn : Nat} {s1 : List Rule} {s2 : List Rule} (hA : ∀ b ∈ A, b < w0.heap.size) (jq : ISl (rpRule) A w0 qk ql s1) (j7 : ISl (rpRule) A w0 qm qn s2) {K : Bool → Prop} (H : slices_Equal_api_Rule s1 s2 K) :
    CallsV Try.prog 71 #[.slice qk s1.length ql, .slice qm s2.length qn] w0 (fun v w' => ∃ (r0 : Bool), v = .bool r0 ∧ Same w0 w' ∧ K r0) := by
 refine CallsV.of (l := [.slice qk s1.length ql, .slice qm s2.length qn]) Try.func71 rfl Try.ntmps71 rfl ?_
 have hO := Owns.start hA
 have hB := Fr.refl (bl []) w0
 unfold slices_Equal_api_Rule at H
 refine zq (zr (za rfl (zn (zq (zq ?_)))))
 refine zr (zm rfl (zo (op_len Try.underlying27 rfl) ?_))
 replace jq := jq.ch (Ch.start A w0)
 replace H := H jq.bd
 refine zm rfl (zo (op_len Try.underlying27 rfl) ?_)
 replace j7 := j7.ch (Ch.start A w0)
 replace H := H j7.bd
 by_cases h1 : (s1.length : Int) = (s2.length : Int)
 ·replace H := ifp h1 H
  refine zo (fun w => opB (op_neq rfl rfl w) (ndT h1)) (zn (zf rfl rfl (zk (zq (zq ?_)))))
  refine zr (zm rfl (zo (op_len Try.underlying27 rfl) (zm rfl (zn (zb ?_)))))
  refine Go1.loopW (S := Nat) (fun s σ w => agrees σ [(0, .slice qk s1.length ql), (1, .slice qm s2.length qn), (12, .int .i64 (s1.length : Int)), (13, .int .i64 (s : Int))] ∧ Owns w0.heap.size w [] A ∧ ISl (rpRule) (bl [] ++ A) w qk ql s1 ∧ ISl (rpRule) (bl [] ++ A) w qm qn s2 ∧ Fr (bl []) w0 (bl []) w) H ⟨⟨rfl, rfl, rfl, rfl, trivial⟩, hO, jq, j7, hB⟩ ?_
  intro X1 k1_3
  intro H hX1 σ w2
  refine andE fun hag => andE fun hO => andE fun jq => andE fun j7 => fun hB => ?_
  refine Go1.keep [(0, .slice qk s1.length ql), (1, .slice qm s2.length qn), (12, .int .i64 (s1.length : Int)), (13, .int .i64 (k1_3 : Int))] hag ?_
  refine zq (zr ?_)
  by_cases h4 : (k1_3 : Int) < (s1.length : Int)
  ·replace H := ifp h4 H
   refine zo (fun w => opB (op_lss rfl rfl w) (decide_eq_true h4)) (zn (zq (zt rfl rfl (zk (zq ?_)))))
   refine zb (zq (zr (zm rfl (za rfl (zn ?_)))))
   refine zq ?_
   refine Go1.drawS 0 [(0, .pure), (1, .pure), (2, .pure), (3, .stable), (4, .pure), (5, .pure), (6, .pure), (7, .stable), (8, .pure)] mixed (by kernel_rfl) ?_
   intro w5 hs6
   have oG := Stp.same hO hs6
   replace hO := oG.own
   refine GoQ.pure rfl (op_move rfl) rfl rfl ?_
   refine GoQ.pure rfl (op_move rfl) rfl rfl ?_
   obtain ⟨h8, H⟩ := H
   obtain ⟨h9, H⟩ := H
   replace jq := jq.ch oG.ch
   refine GoQ.pure rfl (op_index Try.underlying27 ti39 rfl rfl h8 h9 (jq.some_ h8 h9)) rfl rfl ?_
   have hok10 := ldFlatOk jq h8 h9
   refine GoQ.stable rfl (ldFlat jq h8 h9 Try.underlying39 rfl ti39 rfl) rfl rfl ?_
   refine GoQ.pure rfl (op_move rfl) rfl rfl ?_
   refine GoQ.pure rfl (op_move rfl) rfl rfl ?_
   obtain ⟨h11, H⟩ := H
   obtain ⟨h12, H⟩ := H
   replace j7 := j7.ch oG.ch
   refine GoQ.pure rfl (op_index Try.underlying27 ti39 rfl rfl h11 h12 (j7.some_ h11 h12)) rfl rfl ?_
   have hok13 := ldFlatOk j7 h11 h12
   refine GoQ.stable rfl (ldFlat j7 h11 h12 Try.underlying39 rfl ti39 rfl) rfl rfl ?_
   by_cases h14 : (((ix s1 (k1_3 : Int)).Left) = ((ix s2 (k1_3 : Int)).Left) ∧ ((ix s1 (k1_3 : Int)).Right) = ((ix s2 (k1_3 : Int)).Right))
   ·replace H := ifp h14 H
    refine GoQ.pure rfl (fun w => opB (op_neqSS Try.underlying39 eqh39 eqg39 (by decide) (by decide) rfl rfl Try.underlying9 Try.underlying9 rfl rfl w) (ndT h14)) rfl rfl ?_
    refine GoQ.nil ?_
    refine zf rfl rfl (zk ?_)
    refine Go1.inBlock ?_
    refine zr (zo (op_add rfl rfl (wrap_i64 (natbd h4 jq.bd))) (zm rfl (zn ?_)))
    replace hB := hB.trans oG.fr
    exact hX1 _ H _ _ ⟨⟨rfl, rfl, rfl, rfl, trivial⟩, hO, jq, j7, hB⟩
   replace H := ifn h14 H
   refine GoQ.pure rfl (fun w => opB (op_neqSS Try.underlying39 eqh39 eqg39 (by decide) (by decide) rfl rfl Try.underlying9 Try.underlying9 rfl rfl w) (ndF h14)) rfl rfl ?_
   refine GoQ.nil ?_
   refine zt rfl rfl (zq (zr (za rfl (zn ?_))))
   refine Go1.ret1 Try.func71 rfl ?_
   replace hB := hB.trans oG.fr
   exact ⟨false, rfl, hB.same, H⟩
  replace H := ifn h4 H
  refine zo (fun w => opB (op_lss rfl rfl w) (decide_eq_false h4)) (zn (zq (zf rfl rfl ?_)))
  refine Go1.exit rfl ?_
  refine zq (zr (za rfl (zn ?_)))
  refine Go1.ret1 Try.func71 rfl ?_
  exact ⟨true, rfl, hB.same, H⟩
 replace H := ifn h1 H
 refine zo (fun w => opB (op_neq rfl rfl w) (ndF h1)) (zn (zt rfl rfl (zq (zr (za rfl ?_)))))
 refine zn ?_
 refine Go1.ret1 Try.func71 rfl ?_
 exact ⟨false, rfl, hB.same, H⟩
end Sg
