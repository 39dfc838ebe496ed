/- -/
import Derived.Test.YtlneebpmblkllaaVd
import Derived.Test.YtlneebpmblkllaaWSyntacticMonoids
namespace Sg
open Go Go.RowKit Go.Proofs Try
set_option linter.unusedVariables false
set_option linter.unusedSimpArgs false
set_option maxRecDepth 100000
set_option maxHeartbeats 4000000
variable {A : List Nat} {w0 : World}
theorem body159 : Body prog 159 := ⟨f159, func159, rfl, by kernel_rfl⟩
theorem body160 : Body prog 160 := ⟨f160, func160, rfl, by kernel_rfl⟩
theorem body133 : Body prog 133 := ⟨f133, func133, rfl, by kernel_rfl⟩
theorem J2M {A : List Nat} {n0 en bh bj aX a8 aP aR bn bu aS aU a9 bc ar cj co bW bY bN bP : Nat} {w0 : World} {bi aY aQ bo aT ba ck bX bO : Option Addr} {ci cq ca : List Value} {a0 : run} (hO : Owns n0 w0 [.blk en (.cells #[.int .i64 a0.Enum.Points, .bool a0.Enum.Monoid, .slice bi bh bj, .slice aY aX a8, .slice aQ aP aR, .slice bo bn bu, .slice aT aS aU, .slice ba a9 bc, .int .i64 a0.Enum.Done, .map (some ar), .slice ck cj co, .slice bX bW bY, .slice bO bN bP] 156 (0, 0)), .row 31 1 bi bh bj ci, .row 31 1 aY aX a8 cq, t1 Fl.i 3 aQ aP aR a0.Enum.Prefix, t1 Fl.i 3 bo bn bu a0.Enum.Last, .row 31 1 aT aS aU ca, t1 (id Fl.fl : Fl rpRule) 185 ba a9 bc a0.Enum.Rules, t1 Fl.str 9 ck cj co a0.words, t1 Fl.i 3 bX bW bY a0.behind, t1 Fl.i 3 bO bN bP a0.single, .any (mapE (fun a : List UInt8 => Value.string (gstr a)) (fun a : Int => Value.int .i64 a) ar a0.number)] A) (ad : Els (Rp.sl (Rp.int .i64)) (bl [.blk en (.cells #[.int .i64 a0.Enum.Points, .bool a0.Enum.Monoid, .slice bi bh bj, .slice aY aX a8, .slice aQ aP aR, .slice bo bn bu, .slice aT aS aU, .slice ba a9 bc, .int .i64 a0.Enum.Done, .map (some ar), .slice ck cj co, .slice bX bW bY, .slice bO bN bP] 156 (0, 0)), .row 31 1 bi bh bj ci, .row 31 1 aY aX a8 cq, t1 Fl.i 3 aQ aP aR a0.Enum.Prefix, t1 Fl.i 3 bo bn bu a0.Enum.Last, .row 31 1 aT aS aU ca, t1 (id Fl.fl : Fl rpRule) 185 ba a9 bc a0.Enum.Rules, t1 Fl.str 9 ck cj co a0.words, t1 Fl.i 3 bX bW bY a0.behind, t1 Fl.i 3 bO bN bP a0.single, .any (mapE (fun a : List UInt8 => Value.string (gstr a)) (fun a : Int => Value.int .i64 a) ar a0.number)] ++ A) w0 ci a0.Enum.Gens) (ju : Els (Rp.sl (Rp.int .i64)) (bl [.blk en (.cells #[.int .i64 a0.Enum.Points, .bool a0.Enum.Monoid, .slice bi bh bj, .slice aY aX a8, .slice aQ aP aR, .slice bo bn bu, .slice aT aS aU, .slice ba a9 bc, .int .i64 a0.Enum.Done, .map (some ar), .slice ck cj co, .slice bX bW bY, .slice bO bN bP] 156 (0, 0)), .row 31 1 bi bh bj ci, .row 31 1 aY aX a8 cq, t1 Fl.i 3 aQ aP aR a0.Enum.Prefix, t1 Fl.i 3 bo bn bu a0.Enum.Last, .row 31 1 aT aS aU ca, t1 (id Fl.fl : Fl rpRule) 185 ba a9 bc a0.Enum.Rules, t1 Fl.str 9 ck cj co a0.words, t1 Fl.i 3 bX bW bY a0.behind, t1 Fl.i 3 bO bN bP a0.single, .any (mapE (fun a : List UInt8 => Value.string (gstr a)) (fun a : Int => Value.int .i64 a) ar a0.number)] ++ A) w0 cq a0.Enum.Elems) (aj : Els (Rp.sl (Rp.int .i64)) (bl [.blk en (.cells #[.int .i64 a0.Enum.Points, .bool a0.Enum.Monoid, .slice bi bh bj, .slice aY aX a8, .slice aQ aP aR, .slice bo bn bu, .slice aT aS aU, .slice ba a9 bc, .int .i64 a0.Enum.Done, .map (some ar), .slice ck cj co, .slice bX bW bY, .slice bO bN bP] 156 (0, 0)), .row 31 1 bi bh bj ci, .row 31 1 aY aX a8 cq, t1 Fl.i 3 aQ aP aR a0.Enum.Prefix, t1 Fl.i 3 bo bn bu a0.Enum.Last, .row 31 1 aT aS aU ca, t1 (id Fl.fl : Fl rpRule) 185 ba a9 bc a0.Enum.Rules, t1 Fl.str 9 ck cj co a0.words, t1 Fl.i 3 bX bW bY a0.behind, t1 Fl.i 3 bO bN bP a0.single, .any (mapE (fun a : List UInt8 => Value.string (gstr a)) (fun a : Int => Value.int .i64 a) ar a0.number)] ++ A) w0 ca a0.Enum.Right) {K : Int → run → Prop} (H : J0n a0 K) :
    CallsV prog 133 #[.pointer (some ⟨en, 0, none⟩)] w0 (fun v w' => ∃ (r0 : Int), ∃ (q : run), ∃ (aH : Nat), ∃ (aI : Option Addr), ∃ (aJ : Nat), ∃ (bH : List Value), ∃ (av : Nat), ∃ (aw : Option Addr), ∃ (ax : Nat), ∃ (bE : List Value), ∃ (ao : Nat), ∃ (ap : Option Addr), ∃ (aq : Nat), ∃ (aK : Nat), ∃ (aL : Option Addr), ∃ (aM : Nat), ∃ (ay : Nat), ∃ (az : Option Addr), ∃ (aA : Nat), ∃ (bF : List Value), ∃ (aB : Nat), ∃ (aC : Option Addr), ∃ (aD : Nat), ∃ (bI : Nat), ∃ (bK : Option Addr), ∃ (bM : Nat), ∃ (bx : Nat), ∃ (bz : Option Addr), ∃ (bA : Nat), ∃ (bB : Nat), ∃ (bC : Option Addr), ∃ (bD : Nat), v = .int .i64 r0 ∧ Owns n0 w' [.blk en (.cells #[.int .i64 q.Enum.Points, .bool q.Enum.Monoid, .slice aI aH aJ, .slice aw av ax, .slice ap ao aq, .slice aL aK aM, .slice az ay aA, .slice aC aB aD, .int .i64 q.Enum.Done, .map (some ar), .slice bK bI bM, .slice bz bx bA, .slice bC bB bD] 156 (0, 0)), .row 31 1 aI aH aJ bH, .row 31 1 aw av ax bE, t1 Fl.i 3 ap ao aq q.Enum.Prefix, t1 Fl.i 3 aL aK aM q.Enum.Last, .row 31 1 az ay aA bF, t1 (id Fl.fl : Fl rpRule) 185 aC aB aD q.Enum.Rules, t1 Fl.str 9 bK bI bM q.words, t1 Fl.i 3 bz bx bA q.behind, t1 Fl.i 3 bC bB bD q.single, .any (mapE (fun a : List UInt8 => Value.string (gstr a)) (fun a : Int => Value.int .i64 a) ar q.number)] A ∧ Els (Rp.sl (Rp.int .i64)) (bl [.blk en (.cells #[.int .i64 q.Enum.Points, .bool q.Enum.Monoid, .slice aI aH aJ, .slice aw av ax, .slice ap ao aq, .slice aL aK aM, .slice az ay aA, .slice aC aB aD, .int .i64 q.Enum.Done, .map (some ar), .slice bK bI bM, .slice bz bx bA, .slice bC bB bD] 156 (0, 0)), .row 31 1 aI aH aJ bH, .row 31 1 aw av ax bE, t1 Fl.i 3 ap ao aq q.Enum.Prefix, t1 Fl.i 3 aL aK aM q.Enum.Last, .row 31 1 az ay aA bF, t1 (id Fl.fl : Fl rpRule) 185 aC aB aD q.Enum.Rules, t1 Fl.str 9 bK bI bM q.words, t1 Fl.i 3 bz bx bA q.behind, t1 Fl.i 3 bC bB bD q.single, .any (mapE (fun a : List UInt8 => Value.string (gstr a)) (fun a : Int => Value.int .i64 a) ar q.number)] ++ A) w' bH q.Enum.Gens ∧ Els (Rp.sl (Rp.int .i64)) (bl [.blk en (.cells #[.int .i64 q.Enum.Points, .bool q.Enum.Monoid, .slice aI aH aJ, .slice aw av ax, .slice ap ao aq, .slice aL aK aM, .slice az ay aA, .slice aC aB aD, .int .i64 q.Enum.Done, .map (some ar), .slice bK bI bM, .slice bz bx bA, .slice bC bB bD] 156 (0, 0)), .row 31 1 aI aH aJ bH, .row 31 1 aw av ax bE, t1 Fl.i 3 ap ao aq q.Enum.Prefix, t1 Fl.i 3 aL aK aM q.Enum.Last, .row 31 1 az ay aA bF, t1 (id Fl.fl : Fl rpRule) 185 aC aB aD q.Enum.Rules, t1 Fl.str 9 bK bI bM q.words, t1 Fl.i 3 bz bx bA q.behind, t1 Fl.i 3 bC bB bD q.single, .any (mapE (fun a : List UInt8 => Value.string (gstr a)) (fun a : Int => Value.int .i64 a) ar q.number)] ++ A) w' bE q.Enum.Elems ∧ Els (Rp.sl (Rp.int .i64)) (bl [.blk en (.cells #[.int .i64 q.Enum.Points, .bool q.Enum.Monoid, .slice aI aH aJ, .slice aw av ax, .slice ap ao aq, .slice aL aK aM, .slice az ay aA, .slice aC aB aD, .int .i64 q.Enum.Done, .map (some ar), .slice bK bI bM, .slice bz bx bA, .slice bC bB bD] 156 (0, 0)), .row 31 1 aI aH aJ bH, .row 31 1 aw av ax bE, t1 Fl.i 3 ap ao aq q.Enum.Prefix, t1 Fl.i 3 aL aK aM q.Enum.Last, .row 31 1 az ay aA bF, t1 (id Fl.fl : Fl rpRule) 185 aC aB aD q.Enum.Rules, t1 Fl.str 9 bK bI bM q.words, t1 Fl.i 3 bz bx bA q.behind, t1 Fl.i 3 bC bB bD q.single, .any (mapE (fun a : List UInt8 => Value.string (gstr a)) (fun a : Int => Value.int .i64 a) ar q.number)] ++ A) w' bF q.Enum.Right ∧ Fr (bl [.blk en (.cells #[.int .i64 a0.Enum.Points, .bool a0.Enum.Monoid, .slice bi bh bj, .slice aY aX a8, .slice aQ aP aR, .slice bo bn bu, .slice aT aS aU, .slice ba a9 bc, .int .i64 a0.Enum.Done, .map (some ar), .slice ck cj co, .slice bX bW bY, .slice bO bN bP] 156 (0, 0)), .row 31 1 bi bh bj ci, .row 31 1 aY aX a8 cq, t1 Fl.i 3 aQ aP aR a0.Enum.Prefix, t1 Fl.i 3 bo bn bu a0.Enum.Last, .row 31 1 aT aS aU ca, t1 (id Fl.fl : Fl rpRule) 185 ba a9 bc a0.Enum.Rules, t1 Fl.str 9 ck cj co a0.words, t1 Fl.i 3 bX bW bY a0.behind, t1 Fl.i 3 bO bN bP a0.single, .any (mapE (fun a : List UInt8 => Value.string (gstr a)) (fun a : Int => Value.int .i64 a) ar a0.number)]) w0 (bl [.blk en (.cells #[.int .i64 q.Enum.Points, .bool q.Enum.Monoid, .slice aI aH aJ, .slice aw av ax, .slice ap ao aq, .slice aL aK aM, .slice az ay aA, .slice aC aB aD, .int .i64 q.Enum.Done, .map (some ar), .slice bK bI bM, .slice bz bx bA, .slice bC bB bD] 156 (0, 0)), .row 31 1 aI aH aJ bH, .row 31 1 aw av ax bE, t1 Fl.i 3 ap ao aq q.Enum.Prefix, t1 Fl.i 3 aL aK aM q.Enum.Last, .row 31 1 az ay aA bF, t1 (id Fl.fl : Fl rpRule) 185 aC aB aD q.Enum.Rules, t1 Fl.str 9 bK bI bM q.words, t1 Fl.i 3 bz bx bA q.behind, t1 Fl.i 3 bC bB bD q.single, .any (mapE (fun a : List UInt8 => Value.string (gstr a)) (fun a : Int => Value.int .i64 a) ar q.number)]) w' ∧ K r0 q) := by
 refine CallsV.of (l := [.pointer (some ⟨en, 0, none⟩)]) func133 rfl ntmps133 rfl ?_
 have hB := Fr.refl (bl [.blk en (.cells #[.int .i64 a0.Enum.Points, .bool a0.Enum.Monoid, .slice bi bh bj, .slice aY aX a8, .slice aQ aP aR, .slice bo bn bu, .slice aT aS aU, .slice ba a9 bc, .int .i64 a0.Enum.Done, .map (some ar), .slice ck cj co, .slice bX bW bY, .slice bO bN bP] 156 (0, 0)), .row 31 1 bi bh bj ci, .row 31 1 aY aX a8 cq, t1 Fl.i 3 aQ aP aR a0.Enum.Prefix, t1 Fl.i 3 bo bn bu a0.Enum.Last, .row 31 1 aT aS aU ca, t1 (id Fl.fl : Fl rpRule) 185 ba a9 bc a0.Enum.Rules, t1 Fl.str 9 ck cj co a0.words, t1 Fl.i 3 bX bW bY a0.behind, t1 Fl.i 3 bO bN bP a0.single, .any (mapE (fun a : List UInt8 => Value.string (gstr a)) (fun a : Int => Value.int .i64 a) ar a0.number)]) w0
 unfold J0n at H
 refine au ?_
 refine zo (J0F underlying23 rfl (Els.neqW ad hO 1 rfl)) ?_
 refine smk Fl.i H hO fun w1 p4 s hO => ?_
 refine au ?_
 refine zo (J0F underlying23 rfl (Els.neqW ad.u hO 2 rfl)) ?_
 refine au ?_
 refine lv [0, 3, 4, 27, 28] hO H.2.2 (fun E (bw, d_8, d_9, jv, pF, iL, d_27, gE, dV) σ w => ∃ n14 p12 c13 fE n18 p16 c17 n22 p20 c21 n26 p24 c25 n30 p28 c29 n34 p32 c33, (fun Z => Lp n0 (bl [.blk en (.cells #[.int .i64 a0.Enum.Points, .bool a0.Enum.Monoid, .slice bi bh bj, .slice aY aX a8, .slice aQ aP aR, .slice bo bn bu, .slice aT aS aU, .slice ba a9 bc, .int .i64 a0.Enum.Done, .map (some ar), .slice ck cj co, .slice bX bW bY, .slice bO bN bP] 156 (0, 0)), .row 31 1 bi bh bj ci, .row 31 1 aY aX a8 cq, t1 Fl.i 3 aQ aP aR a0.Enum.Prefix, t1 Fl.i 3 bo bn bu a0.Enum.Last, .row 31 1 aT aS aU ca, t1 (id Fl.fl : Fl rpRule) 185 ba a9 bc a0.Enum.Rules, t1 Fl.str 9 ck cj co a0.words, t1 Fl.i 3 bX bW bY a0.behind, t1 Fl.i 3 bO bN bP a0.single, .any (mapE (fun a : List UInt8 => Value.string (gstr a)) (fun a : Int => Value.int .i64 a) ar a0.number)]) A w0 σ w [(29, .int .i64 (bw : Int))] Z ∧ Els (Rp.sl (Rp.int .i64)) (bl Z ++ A) w ci a0.Enum.Gens ∧ Els (Rp.sl (Rp.int .i64)) (bl Z ++ A) w fE d_9 ∧ Els (Rp.sl (Rp.int .i64)) (bl Z ++ A) w ca a0.Enum.Right) (esets E [(0, t1 Fl.i 3 p4 a0.Enum.Gens.length a0.Enum.Gens.length d_8), (1, .blk en (.cells #[.int .i64 a0.Enum.Points, .bool a0.Enum.Monoid, .slice bi bh bj, .slice p12 n14 c13, .slice p16 n18 c17, .slice p20 n22 c21, .slice aT aS aU, .slice p24 n26 c25, .int .i64 a0.Enum.Done, .map (some ar), .slice p28 n30 c29, .slice p32 n34 c33, .slice bO bN bP] 156 (0, 0))), (3, .row 31 1 p12 n14 c13 fE), (4, t1 Fl.i 3 p16 n18 c17 jv), (5, t1 Fl.i 3 p20 n22 c21 pF), (7, t1 (id Fl.fl : Fl rpRule) 185 p24 n26 c25 iL), (8, t1 Fl.str 9 p28 n30 c29 d_27), (9, t1 Fl.i 3 p32 n34 c33 gE), (11, .any (mapE (fun a : List UInt8 => Value.string (gstr a)) (fun a : Int => Value.int .i64 a) ar dV))])) ⟨_, _, _, _, _, _, _, _, _, _, _, _, _, _, _, _, _, _, _, ⟨agr, hO, fr⟩, ad.u, ju.u, aj.u⟩ ?_
 refine fun X1 => p1 fun bw => p1 fun d_8 => p1 fun d_9 => p1 fun jv => p1 fun pF => p3 fun iL d_27 gE dV => fun H hX1 σ w6 hk => e4 fun n14 p12 c13 fE => e4 fun n18 p16 c17 n22 => e4 fun p20 c21 n26 p24 => e4 fun c25 n30 p28 c29 => e3 fun n34 p32 c33 => d1 fun hL => d2 fun ad ce aj => d2 (fun hag hO hB => keep2 hk hag ?_) hL
 dsimp only [esets, sS, sZ] at hO hB ad ce aj
 dsimp only at H
 revert hO; repeat (rename Owns .. => q; clear q)
 intro hO; repeat (rename Sq .. => q; clear q)
 refine scm H (fun h36 H => ?_) fun h36 H => ?_
 ·refine au ?_
  obtain ⟨h37, H⟩ := H
  obtain ⟨h38, H⟩ := H
  refine zo (J0b underlying23 ti31 rfl rfl h37 (ltn (Els.neqW ad hO 2 rfl) h38) (Els.psomeW ad hO 2 rfl h37 h38)) ?_
  have zz := oldSl 2 hO rfl ad h37 h38
  obtain ⟨p39, c40, mI, Mn⟩ := zz
  refine zs (Mn underlying31 rfl rfl) ?_
  refine au ?_
  obtain ⟨h43, H⟩ := H
  obtain ⟨h44, H⟩ := H
  refine zo (J0b underlying23 ti31 rfl rfl h43 (ltn (Els.neqW ce hO 3 rfl) h44) (Els.psomeW ce hO 3 rfl h43 h44)) ?_
  have zz := oldSl 3 hO rfl ce h43 h44
  obtain ⟨p45, c46, Mo, Mp⟩ := zz
  refine zs (Mp underlying31 rfl rfl) ?_
  refine au ?_
  refine zcr (J01 body158 rfl (J53 hO.lt Mo mI H)) fun _ w50 => e3 fun r49 gQ gR => sc0 hO fun s hO => d1 fun jR H => ?_
  refine au ?_
  refine drs 0 [q0, q0, q0, q1, q0, q2, q1, q0, q0, q0, q0, q0] hO fun w51 s hO => ?_
  refine au ?_
  refine zcq rfl (J01 body157 rfl (J0g hO.lt jR.u H)) fun _ w53 => e1 fun r52 => sq0 hO fun s hO => d1 fun Rc H => ?_
  by_cases h54 : mhas dV r52 = true
  ·refine GoQ.stable rfl (olookT (a := r52) (MK.str underlying9) 11 hO rfl underlying154 rfl rfl h54) rfl rfl ?_
   refine sxl1 8 hO (ifp h54 H).1 (ifp h54 H).2.1 ?_
   have hle55 := t1le 8 hO (ifp h54 H).1 (ifp h54 H).2.1
   refine au ?_
   have h56 := (ifp h54 H).1
   have h57 := (ifp h54 H).2.1
   replace H := (ifp h54 H).2.2
   obtain ⟨h58, H⟩ := H
   refine zo (J06 rfl rfl (wrap_i64 h58)) ?_
   refine zo (J3o underlying3 underlying21 rfl rfl) ?_
   obtain ⟨h59, H⟩ := H
   obtain ⟨h60, H⟩ := H
   refine zo (J4H underlying21 underlying9 rfl h59 h60) ?_
   obtain ⟨h61, H⟩ := H
   refine zo (J0d rfl rfl h61) ?_
   refine sxl1 8 hO H.1 H.2.1 ?_
   have hle62 := t1le 8 hO H.1 H.2.1
   have h63 := H.1
   have h64 := H.2.1
   refine scm H.2.2 (fun h65 H => ?_) fun h65 H => ?_
   ·refine six1 0 hO H.1 H.2.1 ?_
    refine sst (u := (mgt dV r52)) 0 hO H.1 H.2.1 fun w66 s hO => ?_
    refine sinc (natbd h36 ad.bd) ?_
    refine au ?_
    exact hX1 _ H.2.2 _ _ agr ⟨_, _, _, _, _, _, _, _, _, _, _, _, _, _, _, _, _, _, _, ⟨agr, hO, fr⟩, ad.u, ce.u, aj.u⟩
   refine six1 9 hO H.1 H.2.1 ?_
   refine sld1 9 hO H.1 H.2.1 ?_
   refine au ?_
   refine GoR.inl (vs := [.pointer (some ⟨en, 0, none⟩), .int .i64 (ix gE a0.Enum.Done), .int .i64 (bw : Int)]) (caps := []) rfl rfl body160 func160 rfl ntmps160 rfl rfl rfl ?_
   intro RhR67 hR67
   refine au ?_
   refine GoR.inl (vs := [.pointer (some ⟨en, 0, none⟩), .int .i64 (ix gE a0.Enum.Done), .int .i64 (bw : Int)]) (caps := []) rfl rfl body159 func159 rfl ntmps159 rfl rfl rfl ?_
   intro RhR68 hR68
   refine scm H.2.2 (fun h69 H => ?_) fun h69 H => ?_
   ·refine sxl1 10 hO H.1 H.2.1 ?_
    refine au ?_
    refine Go1.ret1V func159 rfl (show _ = .int .i64 (ix a0.single (bw : Int)) from rfl) ?_
    refine hR68 _ _ ?_
    refine sxl1 4 hO H.2.2.1 H.2.2.2.1 ?_
    refine au ?_
    have h70 := H.2.2.1
    have h71 := H.2.2.2.1
    refine scm H.2.2.2.2 (fun h72 H => ?_) fun h72 H => ?_
    ·refine six1 5 hO H.1 H.2.1 ?_
     refine sld1 5 hO H.1 H.2.1 ?_
     refine au ?_
     have h73 := H.1
     have h74 := H.2.1
     refine scm H.2.2 (fun h75 H => ?_) fun h75 H => ?_
     ·refine au ?_
      refine Go1.ret1V func160 rfl (show _ = .bool true from rfl) ?_
      refine hR67 _ _ ?_
      refine au ?_
      refine drs 5 [q0, q0, q0, q0, q0, q1, q0, q0, q0, q0, q1, q0, q0, q1, q0, q2, q3, q0, q0, q0, q3] hO fun w76 s hO => ?_
      refine sxl1 8 hO H.1 H.2.1 ?_
      have hle77 := t1le 8 hO H.1 H.2.1
      refine GoQ.pure rfl (J0a underlying185 ti185 (pl := [(0, 1), (1, 1)]) (vs := [(0, .string (gstr ((ix d_27 a0.Enum.Done) ++ (chr (IntKind.i32.wrap ((97 : Int) + (bw : Int))))))), (1, .string (gstr (ix d_27 (mgt dV r52))))]) (cs := #[.string (gstr ((ix d_27 a0.Enum.Done) ++ (chr (IntKind.i32.wrap ((97 : Int) + (bw : Int)))))), .string (gstr (ix d_27 (mgt dV r52)))]) (by kernel_rfl) rfl (by kernel_rfl)) rfl rfl ?_
      refine sapF (⟨((ix d_27 a0.Enum.Done) ++ (chr (IntKind.i32.wrap ((97 : Int) + (bw : Int))))), ix d_27 (mgt dV r52)⟩ : Rule) 7 hO H.2.2 (fun _ w78 p79 c80 s hO => ?_) (hok := by exact ⟨(lenApp h61), hle77⟩)
      refine sbs 1 hO fun w81 s hO => ?_
      refine six1 0 hO H.2.2.2.1 H.2.2.2.2.1 ?_
      refine sst (u := (mgt dV r52)) 0 hO H.2.2.2.1 H.2.2.2.2.1 fun w82 s hO => ?_
      refine sinc (natbd h36 ad.bd) ?_
      refine au ?_
      exact hX1 _ H.2.2.2.2.2 _ _ agr ⟨_, _, _, _, _, _, _, _, _, _, _, _, _, _, _, _, _, _, _, ⟨agr, hO, fr⟩, ad.u, ce.u, aj.u⟩
     refine au ?_
     refine Go1.ret1V func160 rfl (show _ = .bool false from rfl) ?_
     refine hR67 _ _ ?_
     refine six1 0 hO H.1 H.2.1 ?_
     refine sst (u := (mgt dV r52)) 0 hO H.1 H.2.1 fun w83 s hO => ?_
     refine sinc (natbd h36 ad.bd) ?_
     refine au ?_
     exact hX1 _ H.2.2 _ _ agr ⟨_, _, _, _, _, _, _, _, _, _, _, _, _, _, _, _, _, _, _, ⟨agr, hO, fr⟩, ad.u, ce.u, aj.u⟩
    refine au ?_
    refine Go1.ret1V func160 rfl (show _ = .bool false from rfl) ?_
    refine hR67 _ _ ?_
    refine six1 0 hO H.1 H.2.1 ?_
    refine sst (u := (mgt dV r52)) 0 hO H.1 H.2.1 fun w84 s hO => ?_
    refine sinc (natbd h36 ad.bd) ?_
    refine au ?_
    exact hX1 _ H.2.2 _ _ agr ⟨_, _, _, _, _, _, _, _, _, _, _, _, _, _, _, _, _, _, _, ⟨agr, hO, fr⟩, ad.u, ce.u, aj.u⟩
   refine au ?_
   obtain ⟨h85, H⟩ := H
   obtain ⟨h86, H⟩ := H
   refine zo (J0b underlying23 ti31 rfl rfl h85 (ltn (Els.neqW aj.u hO 6 rfl) h86) (Els.psomeW aj.u hO 6 rfl h85 h86)) ?_
   have zz := oldSl 6 hO rfl aj.u h85 h86
   obtain ⟨p87, c88, tQ, Mq⟩ := zz
   refine zs (Mq underlying31 rfl rfl) ?_
   refine sxl hO tQ H.1 H.2.1 ?_
   refine au ?_
   refine Go1.ret1V func159 rfl (show _ = .int .i64 (ix (ix a0.Enum.Right (ix gE a0.Enum.Done)) (bw : Int)) from rfl) ?_
   refine hR68 _ _ ?_
   refine sxl1 4 hO H.2.2.1 H.2.2.2.1 ?_
   refine au ?_
   have h91 := H.2.2.1
   have h92 := H.2.2.2.1
   refine scm H.2.2.2.2 (fun h93 H => ?_) fun h93 H => ?_
   ·refine six1 5 hO H.1 H.2.1 ?_
    refine sld1 5 hO H.1 H.2.1 ?_
    refine au ?_
    have h94 := H.1
    have h95 := H.2.1
    refine scm H.2.2 (fun h96 H => ?_) fun h96 H => ?_
    ·refine au ?_
     refine Go1.ret1V func160 rfl (show _ = .bool true from rfl) ?_
     refine hR67 _ _ ?_
     refine au ?_
     refine drs 5 [q0, q0, q0, q0, q0, q1, q0, q0, q0, q0, q1, q0, q0, q1, q0, q2, q3, q0, q0, q0, q3] hO fun w97 s hO => ?_
     refine sxl1 8 hO H.1 H.2.1 ?_
     have hle98 := t1le 8 hO H.1 H.2.1
     refine GoQ.pure rfl (J0a underlying185 ti185 (pl := [(0, 1), (1, 1)]) (vs := [(0, .string (gstr ((ix d_27 a0.Enum.Done) ++ (chr (IntKind.i32.wrap ((97 : Int) + (bw : Int))))))), (1, .string (gstr (ix d_27 (mgt dV r52))))]) (cs := #[.string (gstr ((ix d_27 a0.Enum.Done) ++ (chr (IntKind.i32.wrap ((97 : Int) + (bw : Int)))))), .string (gstr (ix d_27 (mgt dV r52)))]) (by kernel_rfl) rfl (by kernel_rfl)) rfl rfl ?_
     refine sapF (⟨((ix d_27 a0.Enum.Done) ++ (chr (IntKind.i32.wrap ((97 : Int) + (bw : Int))))), ix d_27 (mgt dV r52)⟩ : Rule) 7 hO H.2.2 (fun _ w99 UJ UK s hO => ?_) (hok := by exact ⟨(lenApp h61), hle98⟩)
     refine sbs 1 hO fun uH s hO => ?_
     refine six1 0 hO H.2.2.2.1 H.2.2.2.2.1 ?_
     refine sst (u := (mgt dV r52)) 0 hO H.2.2.2.1 H.2.2.2.2.1 fun y6 s hO => ?_
     refine sinc (natbd h36 ad.bd) ?_
     refine au ?_
     exact hX1 _ H.2.2.2.2.2 _ _ agr ⟨_, _, _, _, _, _, _, _, _, _, _, _, _, _, _, _, _, _, _, ⟨agr, hO, fr⟩, ad.u, ce.u, aj.u⟩
    refine au ?_
    refine Go1.ret1V func160 rfl (show _ = .bool false from rfl) ?_
    refine hR67 _ _ ?_
    refine six1 0 hO H.1 H.2.1 ?_
    refine sst (u := (mgt dV r52)) 0 hO H.1 H.2.1 fun o7 s hO => ?_
    refine sinc (natbd h36 ad.bd) ?_
    refine au ?_
    exact hX1 _ H.2.2 _ _ agr ⟨_, _, _, _, _, _, _, _, _, _, _, _, _, _, _, _, _, _, _, ⟨agr, hO, fr⟩, ad.u, ce.u, aj.u⟩
   refine au ?_
   refine Go1.ret1V func160 rfl (show _ = .bool false from rfl) ?_
   refine hR67 _ _ ?_
   refine six1 0 hO H.1 H.2.1 ?_
   refine sst (u := (mgt dV r52)) 0 hO H.1 H.2.1 fun mj s hO => ?_
   refine sinc (natbd h36 ad.bd) ?_
   refine au ?_
   exact hX1 _ H.2.2 _ _ agr ⟨_, _, _, _, _, _, _, _, _, _, _, _, _, _, _, _, _, _, _, ⟨agr, hO, fr⟩, ad.u, ce.u, aj.u⟩
  refine GoQ.stable rfl (olookF (a := r52) (MK.str underlying9) 11 hO rfl underlying154 ti3 rfl rfl h54) rfl rfl ?_
  refine sxl1 8 hO (ifn h54 H).1 (ifn h54 H).2.1 ?_
  have hle106 := t1le 8 hO (ifn h54 H).1 (ifn h54 H).2.1
  refine au ?_
  have mm := (ifn h54 H).1
  have yF := (ifn h54 H).2.1
  replace H := (ifn h54 H).2.2
  obtain ⟨Mu, H⟩ := H
  refine zo (J06 rfl rfl (wrap_i64 Mu)) ?_
  refine zo (J3o underlying3 underlying21 rfl rfl) ?_
  obtain ⟨Mv, H⟩ := H
  obtain ⟨kD, H⟩ := H
  refine zo (J4H underlying21 underlying9 rfl Mv kD) ?_
  obtain ⟨iB, H⟩ := H
  refine zo (J0d rfl rfl iB) ?_
  refine au ?_
  refine zo (J0F underlying23 rfl (Els.neqW ce.u hO 3 rfl)) ?_
  refine scm H (fun jo H => ?_) fun jo H => ?_
  ·refine au ?_
   refine sdr [0] hO fun s hO => ?_
   refine Go1.ret1 func133 rfl ⟨_, (⟨(⟨a0.Enum.Points, a0.Enum.Monoid, a0.Enum.Gens, d_9, jv, pF, a0.Enum.Right, iL, a0.Enum.Done⟩ : Enum), dV, d_27, gE, a0.single⟩ : run), _, _, _, _, _, _, _, _, _, _, _, _, _, _, _, _, _, _, _, _, _, _, _, _, _, _, _, _, _, _, er, hO, ad.u, ce.u, aj.u, fr, H⟩
  refine sxl1 9 hO H.1 H.2.1 ?_
  refine au ?_
  refine GoR.inl (vs := [.pointer (some ⟨en, 0, none⟩), .int .i64 (ix gE a0.Enum.Done), .int .i64 (bw : Int)]) (caps := []) rfl rfl body159 func159 rfl ntmps159 rfl rfl rfl ?_
  intro RhR114 hR114
  refine scm H.2.2 (fun uI H => ?_) fun uI H => ?_
  ·refine sxl1 10 hO H.1 H.2.1 ?_
   refine au ?_
   refine Go1.ret1V func159 rfl (show _ = .int .i64 (ix a0.single (bw : Int)) from rfl) ?_
   refine hR114 _ _ ?_
   refine GoR.inl (vs := [.pointer (some ⟨en, 0, none⟩), .slice gQ r49.length gR, .int .i64 a0.Enum.Done, .int .i64 (bw : Int), .string (gstr ((ix d_27 a0.Enum.Done) ++ (chr (IntKind.i32.wrap ((97 : Int) + (bw : Int)))))), .int .i64 (ix a0.single (bw : Int))]) (caps := []) rfl rfl body155 func155 rfl ntmps155 rfl rfl rfl ?_
   intro RhR116 hR116
   refine au ?_
   refine zo (J0F underlying23 rfl (Els.neqW ce.u hO 3 rfl)) ?_
   refine au ?_
   refine drw 1 [(0, q0), (1, q0), (2, q0), (3, q1), (4, q0), (6, q0), (5, q2), (7, q3)] hO fun mC s hO => ?_
   refine au ?_
   refine zcq rfl (J01 body157 rfl (J0g hO.lt jR.u H.2.2)) fun _ tH => e1 fun kI => sq0 hO fun s hO => d1 fun Q9 H => ?_
   have zz := omapUpd (MK.str underlying9) 11 hO rfl underlying154 kI (d_9.length : Int)
   obtain ⟨mJ, mo, z7⟩ := zz
   refine GoQ.last rfl (z7 (by exact rfl) (by exact rfl) (by exact rfl)) rfl rfl ?_
   refine nst mo fun s hO => ?_
   refine au ?_
   have zz := J1u (r := Rp.sl (Rp.int .i64)) (n := 1) (parts := [(0, .slice gQ r49.length gR)]) (vs := [.slice gQ r49.length gR]) (xs := [r49]) rfl underlying23 ti31 hO (by decide) (by kernel_rfl) (Els.cons rfl ⟨gQ, gR, rfl, jR.u⟩ (Els.nil _ _ _) (by simp [mx])) rfl
   obtain ⟨Mw, jw, z8, jS, Ru, z9⟩ := zz
   refine zg (z9 rfl) ?_
   refine nst z8 fun s hO => ?_
   refine sfzR 0 hO jS fun s hO pG pI => ?_
   obtain ⟨Aa, H⟩ := H
   have zz := oapp underlying23 ti31 rfl 3 hO rfl ce.u pG pI Aa (by decide)
   obtain ⟨UL, UM, UO, Rv, Ab, jc, Ac⟩ := zz
   dsimp only [sS, sZ] at jc
   refine zg (Ac (by exact rfl) (by exact rfl)) ?_
   refine nst Ab fun s hO => ?_
   refine sbs 1 hO fun Mx s hO => ?_
   refine au ?_
   refine sap1 a0.Enum.Done 4 hO H fun _ UP UQ UR s hO => ?_
   refine sbs 1 hO fun zl s hO => ?_
   refine au ?_
   refine sap1 ((bw : Int)) 5 hO H.2 fun _ US UT UU s hO => ?_
   refine sbs 1 hO fun My s hO => ?_
   refine au ?_
   refine sap1 (((ix d_27 a0.Enum.Done) ++ (chr (IntKind.i32.wrap ((97 : Int) + (bw : Int)))))) 8 hO H.2.2 (fun _ Ad Mz UV s hO => ?_) (hR := by exact fun _ _ => ⟨rfl, (lenApp iB)⟩)
   refine sbs 1 hO fun yL s hO => ?_
   refine au ?_
   refine sap1 ((ix a0.single (bw : Int))) 9 hO H.2.2.2 fun _ uJ MA MB s hO => ?_
   refine sbs 1 hO fun Ae s hO => ?_
   refine au ?_
   refine Go1.ret1V func155 rfl (show _ = .int .i64 (d_9.length : Int) from rfl) ?_
   refine hR116 _ _ ?_
   refine six1 0 hO H.2.2.2.2.1 H.2.2.2.2.2.1 ?_
   refine sst (u := (d_9.length : Int)) 0 hO H.2.2.2.2.1 H.2.2.2.2.2.1 fun MC s hO => ?_
   refine sinc (natbd h36 ad.bd) ?_
   refine au ?_
   exact hX1 _ H.2.2.2.2.2.2 _ _ agr ⟨_, _, _, _, _, _, _, _, _, _, _, _, _, _, _, _, _, _, _, ⟨agr, hO, fr⟩, ad.u, jc.u, aj.u⟩
  refine au ?_
  obtain ⟨h159, H⟩ := H
  obtain ⟨uK, H⟩ := H
  refine zo (J0b underlying23 ti31 rfl rfl h159 (ltn (Els.neqW aj.u hO 6 rfl) uK) (Els.psomeW aj.u hO 6 rfl h159 uK)) ?_
  have zz := oldSl 6 hO rfl aj.u h159 uK
  obtain ⟨oH, UW, pK, EO⟩ := zz
  refine zs (EO underlying31 rfl rfl) ?_
  refine sxl hO pK H.1 H.2.1 ?_
  refine au ?_
  refine Go1.ret1V func159 rfl (show _ = .int .i64 (ix (ix a0.Enum.Right (ix gE a0.Enum.Done)) (bw : Int)) from rfl) ?_
  refine hR114 _ _ ?_
  refine GoR.inl (vs := [.pointer (some ⟨en, 0, none⟩), .slice gQ r49.length gR, .int .i64 a0.Enum.Done, .int .i64 (bw : Int), .string (gstr ((ix d_27 a0.Enum.Done) ++ (chr (IntKind.i32.wrap ((97 : Int) + (bw : Int)))))), .int .i64 (ix (ix a0.Enum.Right (ix gE a0.Enum.Done)) (bw : Int))]) (caps := []) rfl rfl body155 func155 rfl ntmps155 rfl rfl rfl ?_
  intro RhR165 hR165
  refine au ?_
  refine zo (J0F underlying23 rfl (Els.neqW ce.u hO 3 rfl)) ?_
  refine au ?_
  refine drw 1 [(0, q0), (1, q0), (2, q0), (3, q1), (4, q0), (6, q0), (5, q2), (7, q3)] hO fun UX s hO => ?_
  refine au ?_
  refine zcq rfl (J01 body157 rfl (J0g hO.lt jR.u H.2.2)) fun _ ug => e1 fun r167 => sq0 hO fun s hO => d1 fun Ra H => ?_
  have zz := omapUpd (MK.str underlying9) 11 hO rfl underlying154 r167 (d_9.length : Int)
  obtain ⟨MD, Af, Ag⟩ := zz
  refine GoQ.last rfl (Ag (by exact rfl) (by exact rfl) (by exact rfl)) rfl rfl ?_
  refine nst Af fun s hO => ?_
  refine au ?_
  have zz := J1u (r := Rp.sl (Rp.int .i64)) (n := 1) (parts := [(0, .slice gQ r49.length gR)]) (vs := [.slice gQ r49.length gR]) (xs := [r49]) rfl underlying23 ti31 hO (by decide) (by kernel_rfl) (Els.cons rfl ⟨gQ, gR, rfl, jR.u⟩ (Els.nil _ _ _) (by simp [mx])) rfl
  obtain ⟨zA, jr, Ah, EP, Rw, Ai⟩ := zz
  refine zg (Ai rfl) ?_
  refine nst Ah fun s hO => ?_
  refine sfzR 0 hO EP fun s hO oJ oK => ?_
  obtain ⟨ME, H⟩ := H
  have zz := oapp underlying23 ti31 rfl 3 hO rfl ce.u oJ oK ME (by decide)
  obtain ⟨MF, jx, jy, Rx, Aj, xB, Ak⟩ := zz
  dsimp only [sS, sZ] at xB
  refine zg (Ak (by exact rfl) (by exact rfl)) ?_
  refine nst Aj fun s hO => ?_
  refine sbs 1 hO fun LE s hO => ?_
  refine au ?_
  refine sap1 a0.Enum.Done 4 hO H fun _ tK MG UY s hO => ?_
  refine sbs 1 hO fun MH s hO => ?_
  refine au ?_
  refine sap1 ((bw : Int)) 5 hO H.2 fun _ yT U1 U3 s hO => ?_
  refine sbs 1 hO fun MJ s hO => ?_
  refine au ?_
  refine sap1 (((ix d_27 a0.Enum.Done) ++ (chr (IntKind.i32.wrap ((97 : Int) + (bw : Int)))))) 8 hO H.2.2 (fun _ tM U4 U5 s hO => ?_) (hR := by exact fun _ _ => ⟨rfl, (lenApp iB)⟩)
  refine sbs 1 hO fun ML s hO => ?_
  refine au ?_
  refine sap1 ((ix (ix a0.Enum.Right (ix gE a0.Enum.Done)) (bw : Int))) 9 hO H.2.2.2 fun _ yW U6 U7 s hO => ?_
  refine sbs 1 hO fun U8 s hO => ?_
  refine au ?_
  refine Go1.ret1V func155 rfl (show _ = .int .i64 (d_9.length : Int) from rfl) ?_
  refine hR165 _ _ ?_
  refine six1 0 hO H.2.2.2.2.1 H.2.2.2.2.2.1 ?_
  refine sst (u := (d_9.length : Int)) 0 hO H.2.2.2.2.1 H.2.2.2.2.2.1 fun MM s hO => ?_
  refine sinc (natbd h36 ad.bd) ?_
  refine au ?_
  exact hX1 _ H.2.2.2.2.2.2 _ _ agr ⟨_, _, _, _, _, _, _, _, _, _, _, _, _, _, _, _, _, _, _, ⟨agr, hO, fr⟩, ad.u, xB.u, aj.u⟩
 refine au ?_
 refine sfz 0 hO fun s hO pM pN => ?_
 have zz := J1u (r := Rp.sl (Rp.int .i64)) (n := 1) (parts := [(0, .slice p4 a0.Enum.Gens.length a0.Enum.Gens.length)]) (vs := [.slice p4 a0.Enum.Gens.length a0.Enum.Gens.length]) (xs := [d_8]) rfl underlying23 ti31 hO (by decide) (by kernel_rfl) (Els.cons rfl ⟨p4, a0.Enum.Gens.length, congrArg some (congrArg (fun nn => Value.slice p4 nn a0.Enum.Gens.length) pN), pM⟩ (Els.nil _ _ _) (by simp [mx])) rfl
 obtain ⟨MO, U9, Am, EQ, Ry, mE⟩ := zz
 refine zg (mE rfl) ?_
 refine nst Am fun s hO => ?_
 refine sfzR 0 hO EQ fun s hO ER ES => ?_
 obtain ⟨MP, H⟩ := H
 have zz := oapp underlying23 ti31 rfl 5 hO rfl aj.u ER ES MP (by decide)
 obtain ⟨Ao, MQ, Ve, Rz, Ap, d9, Aq⟩ := zz
 dsimp only [sS, sZ] at d9
 refine zg (Aq (by exact rfl) (by exact rfl)) ?_
 refine nst Ap fun s hO => ?_
 refine sbs 0 hO fun Vf s hO => ?_
 refine au ?_
 obtain ⟨io, H⟩ := H
 refine zo (J06 rfl rfl (wrap_i64 io)) ?_
 refine sbs 0 hO fun uL s hO => ?_
 refine au ?_
 refine Go1.ret1 func133 rfl ⟨_, (⟨(⟨a0.Enum.Points, a0.Enum.Monoid, a0.Enum.Gens, d_9, jv, pF, a0.Enum.Right ++ ([d_8]), iL, (a0.Enum.Done + (1 : Int))⟩ : Enum), dV, d_27, gE, a0.single⟩ : run), _, _, _, _, _, _, _, _, _, _, _, _, _, _, _, _, _, _, _, _, _, _, _, _, _, _, _, _, _, _, er, hO, ad.u, ce.u, d9.u, fr, H⟩
theorem body132 : Body prog 132 := ⟨f132, func132, rfl, by kernel_rfl⟩
theorem body101 : Body prog 101 := ⟨f101, func101, rfl, by kernel_rfl⟩
theorem J4a {eO : Option Addr} {eP : Nat} {gens : List (List Int)} {monoid : Bool} (hA : HA0 A w0) (eQ : ISs A w0 eO eP gens) {K : Enum → Int → Prop} (H : J0R gens monoid K) :
    CallsV prog 101 #[.slice eO gens.length eP, .bool monoid] w0 (fun v w' => ∃ (r0 : Enum), ∃ (r1 : Int), ∃ (dr : Option Addr), ∃ (dt : Nat), ∃ (cP : Option Addr), ∃ (cQ : Nat), ∃ (cB : Option Addr), ∃ (cC : Nat), ∃ (du : Option Addr), ∃ (dw : Nat), ∃ (cR : Option Addr), ∃ (cS : Nat), ∃ (cU : Option Addr), ∃ (cV : Nat), v = .tuple #[.agg #[.int .i64 r0.Points, .bool r0.Monoid, .slice dr r0.Gens.length dt, .slice cP r0.Elems.length cQ, .slice cB r0.Prefix.length cC, .slice du r0.Last.length dw, .slice cR r0.Right.length cS, .slice cU r0.Rules.length cV, .int .i64 r0.Done], .int .i64 r1] ∧ Same w0 w' ∧ ISs A w' dr dt r0.Gens ∧ ISs A w' cP cQ r0.Elems ∧ ISi A w' cB cC r0.Prefix ∧ ISi A w' du dw r0.Last ∧ ISs A w' cR cS r0.Right ∧ ISl (rpRule) A w' cU cV r0.Rules ∧ K r0 r1) := by
 refine cal hA func101 ntmps101 fun hO hB => ?_
 unfold J0R at H
 refine sal hO fun w1 B2 s hO => ?_
 refine au ?_
 refine zcr (J01 body131 rfl (J4c hO.lt eQ.u H)) fun _ w6 hc => Or.elim hc ?_ ?_
 ·refine e1 fun r5 => d2 fun hv hs H => ?_
  subst hv; clear hc
  replace H := oElimN H
  refine sm hO hs fun s hO => ?_
  refine scm H (fun h7 H => ?_) fun h7 H => ?_
  ·refine au ?_
   refine lv [4, 6] hO H (fun E _ σ w => Lo A w0 σ w [] E) ⟨agr, hO, fr⟩ ?_
   refine fun X1 => fun _ => fun H hX1 σ w8 hk => d2 fun hag hO hB => keep2 hk hag ?_
   revert hO; repeat (rename Owns .. => q; clear q)
   intro hO; repeat (rename Sq .. => q; clear q)
   refine au ?_
   refine GoR.inl (vs := [.pointer none]) (caps := []) rfl rfl body132 func132 rfl ntmps132 rfl rfl rfl ?_
   intro RhR9 hR9
   refine au ?_
   refine drs 0 [q0, q0, q0, q0, q1, q0, q0, q0, q0, q1, q0, q0, q0] hO fun w10 s hO => ?_
   refine au ?_
   exact (H).elim
  refine au ?_
  refine zo (J0a underlying123 ti123 (pl := [(0, 1), (1, 1), (2, 1), (3, 1), (4, 1), (5, 1), (6, 1), (7, 1), (8, 1)]) (vs := []) (cs := #[.int .i64 (0 : Int), .bool false, .slice none 0 0, .slice none 0 0, .slice none 0 0, .slice none 0 0, .slice none 0 0, .slice none 0 0, .int .i64 (0 : Int)]) (by kernel_rfl) rfl (by kernel_rfl)) ?_
  refine sba 0 hO fun w11 s hO => ?_
  refine au ?_
  refine Go1.retC2 func101 rfl rfl (rlb 0 hO) ⟨((⟨(0 : Int), false, ([] : List (List Int)), ([] : List (List Int)), ([] : List Int), ([] : List Int), ([] : List (List Int)), ([] : List Rule), (0 : Int)⟩ : Enum)), _, _, _, _, _, _, _, _, _, _, _, _, _, er, frs, (ISl.null _ _ _), (ISl.null _ _ _), (ISl.null _ _ _), (ISl.null _ _ _), (ISl.null _ _ _), (ISl.null _ _ _), H⟩
 refine e4 fun r4 r5 Ar yk => e4 fun yl ym xC xD => e4 fun xE xF uM uN => e4 fun uO uP yo yr => e4 fun yu xG xH xI => e4 fun uR xJ xK xL => e4 fun jj ET EU EV => e4 fun C0 C1 C2 C3 => e2 fun C4 C5 => d1 fun hv => d1 fun hs => d4 fun hN fF fw fx H => ?_
 subst hv; clear hc
 refine smr hO hs hN fun s hO c => ?_
 replace H := oElimS H
 replace fF := fF.ch c
 replace fw := fw.ch c
 replace fx := fx.ch c
 refine scm H (fun h23 H => ?_) fun h23 H => ?_
 ·refine au ?_
  refine lv [4, 6] hO H (fun E (jT, jU, k2_27, d_28, d_34, d_40, d_44, d_48, pO, d_58, uS, uT, pP) σ w => ∃ n33 p31 c32 uU n39 p37 c38 mK n43 p41 c42 n47 p45 c46 n53 p51 c52 uV n57 p55 c56 n61 p59 c60 n65 p63 c64 n69 p67 c68, (fun Z => Lo A w0 σ w [] Z ∧ Els (Rp.sl (Rp.int .i64)) (bl Z ++ A) w uU d_28 ∧ Els (Rp.sl (Rp.int .i64)) (bl Z ++ A) w mK d_34 ∧ Els (Rp.sl (Rp.int .i64)) (bl Z ++ A) w uV d_48) (esets E [(0, .blk Ar (.cells #[.int .i64 jT, .bool jU, .slice p31 n33 c32, .slice p37 n39 c38, .slice p41 n43 c42, .slice p45 n47 c46, .slice p51 n53 c52, .slice p55 n57 c56, .int .i64 k2_27, .map (some jj), .slice p59 n61 c60, .slice p63 n65 c64, .slice p67 n69 c68] 156 (0, 0))), (1, .row 31 1 p31 n33 c32 uU), (2, .row 31 1 p37 n39 c38 mK), (3, t1 Fl.i 3 p41 n43 c42 d_40), (4, t1 Fl.i 3 p45 n47 c46 d_44), (5, .row 31 1 p51 n53 c52 uV), (6, t1 (id Fl.fl : Fl rpRule) 185 p55 n57 c56 pO), (7, t1 Fl.str 9 p59 n61 c60 d_58), (8, t1 Fl.i 3 p63 n65 c64 uS), (9, t1 Fl.i 3 p67 n69 c68 uT), (10, .any (mapE (fun a : List UInt8 => Value.string (gstr a)) (fun a : Int => Value.int .i64 a) jj pP))])) ⟨_, _, _, _, _, _, _, _, _, _, _, _, _, _, _, _, _, _, _, _, _, _, _, _, _, _, _, _, _, _, ⟨agr, hO, fr⟩, fF.u, fw.u, fx.u⟩ ?_
  refine fun X2 => p1 fun jT => p1 fun jU => p1 fun k2_27 => p1 fun d_28 => p1 fun d_34 => p1 fun d_40 => p1 fun d_44 => p1 fun d_48 => p1 fun pO => p3 fun d_58 uS uT pP => fun H hX2 σ w24 hk => e4 fun n33 p31 c32 uU => e4 fun n39 p37 c38 mK => e4 fun n43 p41 c42 n47 => e4 fun p45 c46 n53 p51 => e4 fun c52 uV n57 p55 => e4 fun c56 n61 p59 c60 => e4 fun n65 p63 c64 n69 => e2 fun p67 c68 => d1 fun hL => d2 fun fy pQ uW => d2 (fun hag hO hB => keep2 hk hag ?_) hL
  dsimp only [esets, sS, sZ] at hO hB fy pQ uW
  dsimp only at H
  revert hO; repeat (rename Owns .. => q; clear q)
  intro hO; repeat (rename Sq .. => q; clear q)
  refine au ?_
  refine GoR.inl (vs := [.pointer (some ⟨Ar, 0, none⟩)]) (caps := []) rfl rfl body132 func132 rfl ntmps132 rfl rfl rfl ?_
  intro RhR71 hR71
  refine au ?_
  refine drs 0 [q0, q0, q0, q0, q1, q0, q0, q0, q0, q1, q0, q0, q0] hO fun w72 s hO => ?_
  refine au ?_
  refine GoQ.pure rfl (J0F underlying23 rfl (Els.neqW pQ.u hO 2 rfl)) rfl rfl ?_
  refine scm H (fun h73 H => ?_) fun h73 H => ?_
  ·refine au ?_
   refine Go1.ret1V func132 rfl (show _ = .bool true from rfl) ?_
   refine hR71 _ _ ?_
   refine au ?_
   refine zs (J5R (vs := [.int .i64 jT, .bool jU, .slice p31 n33 c32, .slice p37 n39 c38, .slice p41 n43 c42, .slice p45 n47 c46, .slice p51 n53 c52, .slice p55 n57 c56, .int .i64 k2_27]) (i := 0) 0 hO rfl rfl underlying123 rfl ti123 rfl) ?_
   refine sba 11 hO fun w74 s hO => ?_
   refine au ?_
   refine sfzR 1 hO fy.u fun s hO MR MS => ?_
   refine sfzR 1 hO pQ.u fun s hO MT MU => ?_
   refine sfz 1 hO fun s hO my o3 => ?_
   refine sfz 1 hO fun s hO tW tX => ?_
   refine sfzR 1 hO uW.u fun s hO MV MW => ?_
   refine sfz 1 hO fun s hO uX mM => ?_
   refine Go1.retC2 func101 rfl rfl (rlb 5 hO) ⟨((⟨jT, jU, d_28, d_34, d_40, d_44, d_48, pO, k2_27⟩ : Enum)), _, _, _, _, _, _, _, _, _, _, _, _, _, ?_, frs, MR.r, MT.r, my.r, tW.r, MV.r, uX.r, H⟩
   exact (congrArg (fun l => Value.tuple (List.toArray l)) (J02 (congrArg (fun l => Value.agg (List.toArray l)) (J02 rfl (J02 rfl (J02 (congrArg (fun nn => Value.slice p31 nn c32) MS) (J02 (congrArg (fun nn => Value.slice p37 nn c38) MU) (J02 (congrArg (fun nn => Value.slice p41 nn c42) o3) (J02 (congrArg (fun nn => Value.slice p45 nn c46) tX) (J02 (congrArg (fun nn => Value.slice p51 nn c52) MW) (J02 (congrArg (fun nn => Value.slice p55 nn c56) mM) (J02 rfl rfl)))))))))) (J02 rfl rfl)))
  refine au ?_
  refine Go1.ret1V func132 rfl (show _ = .bool false from rfl) ?_
  refine hR71 _ _ ?_
  refine au ?_
  refine sob 11 hO fun sg hO1 => ?_
  refine zcr (J01 body133 rfl (J2M (a0 := (⟨(⟨jT, jU, d_28, d_34, d_40, d_44, d_48, pO, k2_27⟩ : Enum), pP, d_58, uS, uT⟩ : run)) hO1 fy.u pQ.u uW.u H)) fun _ w89 => e4 fun r87 q88 xM xN => e4 fun xO uY u0 u4 => e4 fun u5 tz tA tB => e4 fun tC xP xQ xR => e4 fun u6 u7 u9 tD => e4 fun vb vc vd C6 => e4 fun C7 C8 At Au => e4 fun Aw Ax Ay Az => d1 fun hv => d1 fun hN90 => d4 fun fA eY e8 hF91 H => ?_
  subst hv; clear sg hO1
  refine sjn hO hN90 hF91 fun s hO c => ?_
  replace fA := fA.ch c
  replace eY := eY.ch c
  replace e8 := e8.ch c
  refine scm H (fun h92 H => ?_) fun h92 H => ?_
  ·refine au ?_
   exact hX2 _ H _ _ agr ⟨_, _, _, _, _, _, _, _, _, _, _, _, _, _, _, _, _, _, _, _, _, _, _, _, _, _, _, _, _, _, ⟨agr, hO, fr⟩, fA, eY, e8⟩
  refine au ?_
  refine zo (J0a underlying123 ti123 (pl := [(0, 1), (1, 1), (2, 1), (3, 1), (4, 1), (5, 1), (6, 1), (7, 1), (8, 1)]) (vs := []) (cs := #[.int .i64 (0 : Int), .bool false, .slice none 0 0, .slice none 0 0, .slice none 0 0, .slice none 0 0, .slice none 0 0, .slice none 0 0, .int .i64 (0 : Int)]) (by kernel_rfl) rfl (by kernel_rfl)) ?_
  refine sba 11 hO fun w93 s hO => ?_
  refine au ?_
  refine Go1.retC2 func101 rfl rfl (rlb 11 hO) ⟨((⟨(0 : Int), false, ([] : List (List Int)), ([] : List (List Int)), ([] : List Int), ([] : List Int), ([] : List (List Int)), ([] : List Rule), (0 : Int)⟩ : Enum)), _, _, _, _, _, _, _, _, _, _, _, _, _, er, frs, (ISl.null _ _ _), (ISl.null _ _ _), (ISl.null _ _ _), (ISl.null _ _ _), (ISl.null _ _ _), (ISl.null _ _ _), H⟩
 refine au ?_
 refine zo (J0a underlying123 ti123 (pl := [(0, 1), (1, 1), (2, 1), (3, 1), (4, 1), (5, 1), (6, 1), (7, 1), (8, 1)]) (vs := []) (cs := #[.int .i64 (0 : Int), .bool false, .slice none 0 0, .slice none 0 0, .slice none 0 0, .slice none 0 0, .slice none 0 0, .slice none 0 0, .int .i64 (0 : Int)]) (by kernel_rfl) rfl (by kernel_rfl)) ?_
 refine sba 11 hO fun w94 s hO => ?_
 refine au ?_
 refine Go1.retC2 func101 rfl rfl (rlb 11 hO) ⟨((⟨(0 : Int), false, ([] : List (List Int)), ([] : List (List Int)), ([] : List Int), ([] : List Int), ([] : List (List Int)), ([] : List Rule), (0 : Int)⟩ : Enum)), _, _, _, _, _, _, _, _, _, _, _, _, _, er, frs, (ISl.null _ _ _), (ISl.null _ _ _), (ISl.null _ _ _), (ISl.null _ _ _), (ISl.null _ _ _), (ISl.null _ _ _), H⟩
theorem body134 : Body prog 134 := ⟨f134, func134, rfl, by kernel_rfl⟩
theorem J40 {ft : Option Addr} {gA : Nat} {s_ : List Int} {v : Int} (hA : HA0 A w0) (gB : ISi A w0 ft gA s_) {K : Int → Prop} (H : J16 s_ v K) :
    CallsV prog 134 #[.slice ft s_.length gA, .int .i64 v] w0 (fun v w' => ∃ (r0 : Int), v = .int .i64 r0 ∧ Same w0 w' ∧ K r0) := by
 refine cal hA func134 ntmps134 fun hO hB => ?_
 unfold J16 at H
 refine sln0 ?_
 refine au ?_
 refine lv [0, 1, 7] hO (H gB.bd) (fun E k1_2 σ w => Lo A w0 σ w [(8, .int .i64 (k1_2 : Int))] []) ⟨agr, hO, fr⟩ ?_
 refine fun X1 => fun k1_2 => fun H hX1 σ w1 hk => d2 fun hag hO hB => keep2 hk hag ?_
 refine scm H (fun h3 H => ?_) fun h3 H => ?_
 ·refine sxl hO gB.u H.1 H.2.1 ?_
  have h4 := H.1
  have h5 := H.2.1
  refine scm H.2.2 (fun h6 H => ?_) fun h6 H => ?_
  ·refine au ?_
   refine Go1.ret1 func134 rfl ⟨_, er, frs, H⟩
  refine sinc (natbd h3 gB.bd) ?_
  refine au ?_
  exact hX1 _ H _ _ agr ⟨agr, hO, fr⟩
 refine au ?_
 refine Go1.ret1 func134 rfl ⟨_, er, frs, H⟩
theorem body102 : Body prog 102 := ⟨f102, func102, rfl, by kernel_rfl⟩
theorem J35 {ft : Option Addr} {gA : Nat} {s_ : List Int} {v : Int} (hA : HA0 A w0) (gB : ISi A w0 ft gA s_) {K : Bool → Prop} (H : J0p s_ v K) :
    CallsV prog 102 #[.slice ft s_.length gA, .int .i64 v] w0 (fun v w' => ∃ (r0 : Bool), v = .bool r0 ∧ Same w0 w' ∧ K r0) := by
 refine cal hA func102 ntmps102 fun hO hB => ?_
 unfold J0p at H
 refine au ?_
 refine zcr (J01 body134 rfl (J40 hO.lt gB.u H)) fun _ w2 => e1 fun r1 => sc0 hO fun s hO => fun H => ?_
 refine scm H (fun h3 H => ?_) fun h3 H => ?_
 ·refine au ?_
  refine Go1.ret1 func102 rfl ⟨_, er, frs, H⟩
 refine au ?_
 refine Go1.ret1 func102 rfl ⟨_, er, frs, H⟩
theorem body103 : Body prog 103 := ⟨f103, func103, rfl, by kernel_rfl⟩
theorem J2N {k9 p_f : Option Addr} {ld c_f : Nat} {p : part} {f : List Int} (hA : HA0 A w0) (sT : ISb A w0 k9 ld p.final) (h_f : ISi A w0 p_f c_f f) {K : Bool → Prop} (H : J0w p f K) :
    CallsV prog 103 #[.agg #[.int .i64 p.start, .slice k9 p.final.length ld, .int .i64 p.shift], .slice p_f f.length c_f] w0 (fun v w' => ∃ (r0 : Bool), v = .bool r0 ∧ Same w0 w' ∧ K r0) := by
 refine cal hA func103 ntmps103 fun hO hB => ?_
 unfold J0w at H
 refine sbx hO fun w1 B2 s hO => ?_
 refine au ?_
 refine drs 0 [q0, q1, q0, q0, q1, q0, q1, q0, q1, q0, q0, q1, q0] hO fun w4 s hO => ?_
 refine sxl hO h_f.u H.1 H.2.1 ?_
 refine au ?_
 have h5 := H.1
 have h6 := H.2.1
 replace H := H.2.2
 obtain ⟨h7, H⟩ := H
 refine GoQ.pure rfl (J9c rfl rfl (wrap_i64 h7)) rfl rfl ?_
 refine sxl hO sT.u H.1 H.2.1 ?_
 refine au ?_
 refine Go1.ret1 func103 rfl ⟨_, er, frs, H.2.2⟩
end Sg
