/- -/
import Derived.Test.YtlneebpmblkllaaVd
import Derived.Test.YtlneebpmblkllaaWSyntacticMonoids
namespace Sg
open Go Go.RowKit Go.Proofs Try
set_option linter.unusedVariables false
set_option linter.unusedSimpArgs false
set_option maxRecDepth 100000
set_option maxHeartbeats 4000000
variable {A : List Nat} {w0 : World}
theorem body159 : Body prog 159 := ⟨f159, func159, rfl, by kernel_rfl⟩
theorem body160 : Body prog 160 := ⟨f160, func160, rfl, by kernel_rfl⟩
theorem body133 : Body prog 133 := ⟨f133, func133, rfl, by kernel_rfl⟩
theorem J37 {A : List Nat} {n0 d9 bo bw bg bi aV aX bx bA aY a9 bj bm ay co cq bY b8 bQ bT : Nat} {w0 : World} {bu bh aW bz a8 bk cp b7 bS : Option Addr} {ck cy cg : List Value} {a0 : run} (hO : Owns n0 w0 [.blk d9 (.cells #[.int .i64 a0.Enum.Points, .bool a0.Enum.Monoid, .slice bu bo bw, .slice bh bg bi, .slice aW aV aX, .slice bz bx bA, .slice a8 aY a9, .slice bk bj bm, .int .i64 a0.Enum.Done, .map (some ay), .slice cp co cq, .slice b7 bY b8, .slice bS bQ bT] 156 (0, 0)), .row 31 1 bu bo bw ck, .row 31 1 bh bg bi cy, t1 Fl.i 3 aW aV aX a0.Enum.Prefix, t1 Fl.i 3 bz bx bA a0.Enum.Last, .row 31 1 a8 aY a9 cg, t1 (id Fl.fl : Fl rpRule) 185 bk bj bm a0.Enum.Rules, t1 Fl.str 9 cp co cq a0.words, t1 Fl.i 3 b7 bY b8 a0.behind, t1 Fl.i 3 bS bQ bT a0.single, .any (mapE (fun a : List UInt8 => Value.string (gstr a)) (fun a : Int => Value.int .i64 a) ay a0.number)] A) (ad : Els (Rp.sl (Rp.int .i64)) (bl [.blk d9 (.cells #[.int .i64 a0.Enum.Points, .bool a0.Enum.Monoid, .slice bu bo bw, .slice bh bg bi, .slice aW aV aX, .slice bz bx bA, .slice a8 aY a9, .slice bk bj bm, .int .i64 a0.Enum.Done, .map (some ay), .slice cp co cq, .slice b7 bY b8, .slice bS bQ bT] 156 (0, 0)), .row 31 1 bu bo bw ck, .row 31 1 bh bg bi cy, t1 Fl.i 3 aW aV aX a0.Enum.Prefix, t1 Fl.i 3 bz bx bA a0.Enum.Last, .row 31 1 a8 aY a9 cg, t1 (id Fl.fl : Fl rpRule) 185 bk bj bm a0.Enum.Rules, t1 Fl.str 9 cp co cq a0.words, t1 Fl.i 3 b7 bY b8 a0.behind, t1 Fl.i 3 bS bQ bT a0.single, .any (mapE (fun a : List UInt8 => Value.string (gstr a)) (fun a : Int => Value.int .i64 a) ay a0.number)] ++ A) w0 ck a0.Enum.Gens) (j8 : Els (Rp.sl (Rp.int .i64)) (bl [.blk d9 (.cells #[.int .i64 a0.Enum.Points, .bool a0.Enum.Monoid, .slice bu bo bw, .slice bh bg bi, .slice aW aV aX, .slice bz bx bA, .slice a8 aY a9, .slice bk bj bm, .int .i64 a0.Enum.Done, .map (some ay), .slice cp co cq, .slice b7 bY b8, .slice bS bQ bT] 156 (0, 0)), .row 31 1 bu bo bw ck, .row 31 1 bh bg bi cy, t1 Fl.i 3 aW aV aX a0.Enum.Prefix, t1 Fl.i 3 bz bx bA a0.Enum.Last, .row 31 1 a8 aY a9 cg, t1 (id Fl.fl : Fl rpRule) 185 bk bj bm a0.Enum.Rules, t1 Fl.str 9 cp co cq a0.words, t1 Fl.i 3 b7 bY b8 a0.behind, t1 Fl.i 3 bS bQ bT a0.single, .any (mapE (fun a : List UInt8 => Value.string (gstr a)) (fun a : Int => Value.int .i64 a) ay a0.number)] ++ A) w0 cy a0.Enum.Elems) (ak : Els (Rp.sl (Rp.int .i64)) (bl [.blk d9 (.cells #[.int .i64 a0.Enum.Points, .bool a0.Enum.Monoid, .slice bu bo bw, .slice bh bg bi, .slice aW aV aX, .slice bz bx bA, .slice a8 aY a9, .slice bk bj bm, .int .i64 a0.Enum.Done, .map (some ay), .slice cp co cq, .slice b7 bY b8, .slice bS bQ bT] 156 (0, 0)), .row 31 1 bu bo bw ck, .row 31 1 bh bg bi cy, t1 Fl.i 3 aW aV aX a0.Enum.Prefix, t1 Fl.i 3 bz bx bA a0.Enum.Last, .row 31 1 a8 aY a9 cg, t1 (id Fl.fl : Fl rpRule) 185 bk bj bm a0.Enum.Rules, t1 Fl.str 9 cp co cq a0.words, t1 Fl.i 3 b7 bY b8 a0.behind, t1 Fl.i 3 bS bQ bT a0.single, .any (mapE (fun a : List UInt8 => Value.string (gstr a)) (fun a : Int => Value.int .i64 a) ay a0.number)] ++ A) w0 cg a0.Enum.Right) {K : Int → run → Prop} (H : J0l a0 K) :
    CallsV prog 133 #[.pointer (some ⟨d9, 0, none⟩)] w0 (fun v w' => ∃ (r0 : Int), ∃ (q : run), ∃ (aN : Nat), ∃ (aO : Option Addr), ∃ (aP : Nat), ∃ (bM : List Value), ∃ (az : Nat), ∃ (aA : Option Addr), ∃ (aB : Nat), ∃ (bI : List Value), ∃ (av : Nat), ∃ (aw : Option Addr), ∃ (ax : Nat), ∃ (aQ : Nat), ∃ (aR : Option Addr), ∃ (aS : Nat), ∃ (aC : Nat), ∃ (aD : Option Addr), ∃ (aE : Nat), ∃ (bK : List Value), ∃ (aF : Nat), ∃ (aG : Option Addr), ∃ (aH : Nat), ∃ (bN : Nat), ∃ (bO : Option Addr), ∃ (bP : Nat), ∃ (bC : Nat), ∃ (bD : Option Addr), ∃ (bE : Nat), ∃ (bF : Nat), ∃ (bG : Option Addr), ∃ (bH : Nat), v = .int .i64 r0 ∧ Owns n0 w' [.blk d9 (.cells #[.int .i64 q.Enum.Points, .bool q.Enum.Monoid, .slice aO aN aP, .slice aA az aB, .slice aw av ax, .slice aR aQ aS, .slice aD aC aE, .slice aG aF aH, .int .i64 q.Enum.Done, .map (some ay), .slice bO bN bP, .slice bD bC bE, .slice bG bF bH] 156 (0, 0)), .row 31 1 aO aN aP bM, .row 31 1 aA az aB bI, t1 Fl.i 3 aw av ax q.Enum.Prefix, t1 Fl.i 3 aR aQ aS q.Enum.Last, .row 31 1 aD aC aE bK, t1 (id Fl.fl : Fl rpRule) 185 aG aF aH q.Enum.Rules, t1 Fl.str 9 bO bN bP q.words, t1 Fl.i 3 bD bC bE q.behind, t1 Fl.i 3 bG bF bH q.single, .any (mapE (fun a : List UInt8 => Value.string (gstr a)) (fun a : Int => Value.int .i64 a) ay q.number)] A ∧ Els (Rp.sl (Rp.int .i64)) (bl [.blk d9 (.cells #[.int .i64 q.Enum.Points, .bool q.Enum.Monoid, .slice aO aN aP, .slice aA az aB, .slice aw av ax, .slice aR aQ aS, .slice aD aC aE, .slice aG aF aH, .int .i64 q.Enum.Done, .map (some ay), .slice bO bN bP, .slice bD bC bE, .slice bG bF bH] 156 (0, 0)), .row 31 1 aO aN aP bM, .row 31 1 aA az aB bI, t1 Fl.i 3 aw av ax q.Enum.Prefix, t1 Fl.i 3 aR aQ aS q.Enum.Last, .row 31 1 aD aC aE bK, t1 (id Fl.fl : Fl rpRule) 185 aG aF aH q.Enum.Rules, t1 Fl.str 9 bO bN bP q.words, t1 Fl.i 3 bD bC bE q.behind, t1 Fl.i 3 bG bF bH q.single, .any (mapE (fun a : List UInt8 => Value.string (gstr a)) (fun a : Int => Value.int .i64 a) ay q.number)] ++ A) w' bM q.Enum.Gens ∧ Els (Rp.sl (Rp.int .i64)) (bl [.blk d9 (.cells #[.int .i64 q.Enum.Points, .bool q.Enum.Monoid, .slice aO aN aP, .slice aA az aB, .slice aw av ax, .slice aR aQ aS, .slice aD aC aE, .slice aG aF aH, .int .i64 q.Enum.Done, .map (some ay), .slice bO bN bP, .slice bD bC bE, .slice bG bF bH] 156 (0, 0)), .row 31 1 aO aN aP bM, .row 31 1 aA az aB bI, t1 Fl.i 3 aw av ax q.Enum.Prefix, t1 Fl.i 3 aR aQ aS q.Enum.Last, .row 31 1 aD aC aE bK, t1 (id Fl.fl : Fl rpRule) 185 aG aF aH q.Enum.Rules, t1 Fl.str 9 bO bN bP q.words, t1 Fl.i 3 bD bC bE q.behind, t1 Fl.i 3 bG bF bH q.single, .any (mapE (fun a : List UInt8 => Value.string (gstr a)) (fun a : Int => Value.int .i64 a) ay q.number)] ++ A) w' bI q.Enum.Elems ∧ Els (Rp.sl (Rp.int .i64)) (bl [.blk d9 (.cells #[.int .i64 q.Enum.Points, .bool q.Enum.Monoid, .slice aO aN aP, .slice aA az aB, .slice aw av ax, .slice aR aQ aS, .slice aD aC aE, .slice aG aF aH, .int .i64 q.Enum.Done, .map (some ay), .slice bO bN bP, .slice bD bC bE, .slice bG bF bH] 156 (0, 0)), .row 31 1 aO aN aP bM, .row 31 1 aA az aB bI, t1 Fl.i 3 aw av ax q.Enum.Prefix, t1 Fl.i 3 aR aQ aS q.Enum.Last, .row 31 1 aD aC aE bK, t1 (id Fl.fl : Fl rpRule) 185 aG aF aH q.Enum.Rules, t1 Fl.str 9 bO bN bP q.words, t1 Fl.i 3 bD bC bE q.behind, t1 Fl.i 3 bG bF bH q.single, .any (mapE (fun a : List UInt8 => Value.string (gstr a)) (fun a : Int => Value.int .i64 a) ay q.number)] ++ A) w' bK q.Enum.Right ∧ Fr (bl [.blk d9 (.cells #[.int .i64 a0.Enum.Points, .bool a0.Enum.Monoid, .slice bu bo bw, .slice bh bg bi, .slice aW aV aX, .slice bz bx bA, .slice a8 aY a9, .slice bk bj bm, .int .i64 a0.Enum.Done, .map (some ay), .slice cp co cq, .slice b7 bY b8, .slice bS bQ bT] 156 (0, 0)), .row 31 1 bu bo bw ck, .row 31 1 bh bg bi cy, t1 Fl.i 3 aW aV aX a0.Enum.Prefix, t1 Fl.i 3 bz bx bA a0.Enum.Last, .row 31 1 a8 aY a9 cg, t1 (id Fl.fl : Fl rpRule) 185 bk bj bm a0.Enum.Rules, t1 Fl.str 9 cp co cq a0.words, t1 Fl.i 3 b7 bY b8 a0.behind, t1 Fl.i 3 bS bQ bT a0.single, .any (mapE (fun a : List UInt8 => Value.string (gstr a)) (fun a : Int => Value.int .i64 a) ay a0.number)]) w0 (bl [.blk d9 (.cells #[.int .i64 q.Enum.Points, .bool q.Enum.Monoid, .slice aO aN aP, .slice aA az aB, .slice aw av ax, .slice aR aQ aS, .slice aD aC aE, .slice aG aF aH, .int .i64 q.Enum.Done, .map (some ay), .slice bO bN bP, .slice bD bC bE, .slice bG bF bH] 156 (0, 0)), .row 31 1 aO aN aP bM, .row 31 1 aA az aB bI, t1 Fl.i 3 aw av ax q.Enum.Prefix, t1 Fl.i 3 aR aQ aS q.Enum.Last, .row 31 1 aD aC aE bK, t1 (id Fl.fl : Fl rpRule) 185 aG aF aH q.Enum.Rules, t1 Fl.str 9 bO bN bP q.words, t1 Fl.i 3 bD bC bE q.behind, t1 Fl.i 3 bG bF bH q.single, .any (mapE (fun a : List UInt8 => Value.string (gstr a)) (fun a : Int => Value.int .i64 a) ay q.number)]) w' ∧ K r0 q) := by
 refine CallsV.of (l := [.pointer (some ⟨d9, 0, none⟩)]) func133 rfl ntmps133 rfl ?_
 have hB := Fr.refl (bl [.blk d9 (.cells #[.int .i64 a0.Enum.Points, .bool a0.Enum.Monoid, .slice bu bo bw, .slice bh bg bi, .slice aW aV aX, .slice bz bx bA, .slice a8 aY a9, .slice bk bj bm, .int .i64 a0.Enum.Done, .map (some ay), .slice cp co cq, .slice b7 bY b8, .slice bS bQ bT] 156 (0, 0)), .row 31 1 bu bo bw ck, .row 31 1 bh bg bi cy, t1 Fl.i 3 aW aV aX a0.Enum.Prefix, t1 Fl.i 3 bz bx bA a0.Enum.Last, .row 31 1 a8 aY a9 cg, t1 (id Fl.fl : Fl rpRule) 185 bk bj bm a0.Enum.Rules, t1 Fl.str 9 cp co cq a0.words, t1 Fl.i 3 b7 bY b8 a0.behind, t1 Fl.i 3 bS bQ bT a0.single, .any (mapE (fun a : List UInt8 => Value.string (gstr a)) (fun a : Int => Value.int .i64 a) ay a0.number)]) w0
 unfold J0l at H
 refine au ?_
 refine zo (J0M underlying23 rfl (Els.neqW ad hO 1 rfl)) ?_
 refine smk Fl.i H hO fun w1 p4 s hO => ?_
 refine au ?_
 refine zo (J0M underlying23 rfl (Els.neqW ad.u hO 2 rfl)) ?_
 refine au ?_
 refine lv [0, 3, 4, 27, 28] hO H.2.2 (fun E (bB, d_8, d_9, j9, qC, i4, d_27, gL, dK) σ w => ∃ n14 p12 c13 fE n18 p16 c17 n22 p20 c21 n26 p24 c25 n30 p28 c29 n34 p32 c33, (fun Z => Lp n0 (bl [.blk d9 (.cells #[.int .i64 a0.Enum.Points, .bool a0.Enum.Monoid, .slice bu bo bw, .slice bh bg bi, .slice aW aV aX, .slice bz bx bA, .slice a8 aY a9, .slice bk bj bm, .int .i64 a0.Enum.Done, .map (some ay), .slice cp co cq, .slice b7 bY b8, .slice bS bQ bT] 156 (0, 0)), .row 31 1 bu bo bw ck, .row 31 1 bh bg bi cy, t1 Fl.i 3 aW aV aX a0.Enum.Prefix, t1 Fl.i 3 bz bx bA a0.Enum.Last, .row 31 1 a8 aY a9 cg, t1 (id Fl.fl : Fl rpRule) 185 bk bj bm a0.Enum.Rules, t1 Fl.str 9 cp co cq a0.words, t1 Fl.i 3 b7 bY b8 a0.behind, t1 Fl.i 3 bS bQ bT a0.single, .any (mapE (fun a : List UInt8 => Value.string (gstr a)) (fun a : Int => Value.int .i64 a) ay a0.number)]) A w0 σ w [(29, .int .i64 (bB : Int))] Z ∧ Els (Rp.sl (Rp.int .i64)) (bl Z ++ A) w ck a0.Enum.Gens ∧ Els (Rp.sl (Rp.int .i64)) (bl Z ++ A) w fE d_9 ∧ Els (Rp.sl (Rp.int .i64)) (bl Z ++ A) w cg a0.Enum.Right) (esets E [(0, t1 Fl.i 3 p4 a0.Enum.Gens.length a0.Enum.Gens.length d_8), (1, .blk d9 (.cells #[.int .i64 a0.Enum.Points, .bool a0.Enum.Monoid, .slice bu bo bw, .slice p12 n14 c13, .slice p16 n18 c17, .slice p20 n22 c21, .slice a8 aY a9, .slice p24 n26 c25, .int .i64 a0.Enum.Done, .map (some ay), .slice p28 n30 c29, .slice p32 n34 c33, .slice bS bQ bT] 156 (0, 0))), (3, .row 31 1 p12 n14 c13 fE), (4, t1 Fl.i 3 p16 n18 c17 j9), (5, t1 Fl.i 3 p20 n22 c21 qC), (7, t1 (id Fl.fl : Fl rpRule) 185 p24 n26 c25 i4), (8, t1 Fl.str 9 p28 n30 c29 d_27), (9, t1 Fl.i 3 p32 n34 c33 gL), (11, .any (mapE (fun a : List UInt8 => Value.string (gstr a)) (fun a : Int => Value.int .i64 a) ay dK))])) ⟨_, _, _, _, _, _, _, _, _, _, _, _, _, _, _, _, _, _, _, ⟨agr, hO, fr⟩, ad.u, j8.u, ak.u⟩ ?_
 refine fun X1 => p1 fun bB => p1 fun d_8 => p1 fun d_9 => p1 fun j9 => p1 fun qC => p3 fun i4 d_27 gL dK => fun H hX1 σ w6 hk => e4 fun n14 p12 c13 fE => e4 fun n18 p16 c17 n22 => e4 fun p20 c21 n26 p24 => e4 fun c25 n30 p28 c29 => e3 fun n34 p32 c33 => d1 fun hL => d2 fun ad ci ak => d2 (fun hag hO hB => keep2 hk hag ?_) hL
 dsimp only [esets, sS, sZ] at hO hB ad ci ak
 dsimp only at H
 revert hO; repeat (rename Owns .. => q; clear q)
 intro hO; repeat (rename Sq .. => q; clear q)
 refine scm H (fun h36 H => ?_) fun h36 H => ?_
 ·refine au ?_
  obtain ⟨h37, H⟩ := H
  obtain ⟨h38, H⟩ := H
  refine zo (J05 underlying23 ti31 rfl rfl h37 (ltn (Els.neqW ad hO 2 rfl) h38) (Els.psomeW ad hO 2 rfl h37 h38)) ?_
  have zz := oldSl 2 hO rfl ad h37 h38
  obtain ⟨p39, c40, lM, Nf⟩ := zz
  refine zs (Nf underlying31 rfl rfl) ?_
  refine au ?_
  obtain ⟨h43, H⟩ := H
  obtain ⟨h44, H⟩ := H
  refine zo (J05 underlying23 ti31 rfl rfl h43 (ltn (Els.neqW ci hO 3 rfl) h44) (Els.psomeW ci hO 3 rfl h43 h44)) ?_
  have zz := oldSl 3 hO rfl ci h43 h44
  obtain ⟨p45, c46, Ng, Nh⟩ := zz
  refine zs (Nh underlying31 rfl rfl) ?_
  refine au ?_
  refine zcr (J01 body158 rfl (J5r hO.lt Ng lM H)) fun _ w50 => e3 fun r49 g6 g7 => sc0 hO fun s hO => d1 fun kS H => ?_
  refine au ?_
  refine drs 0 [q0, q0, q0, q1, q0, q2, q1, q0, q0, q0, q0, q0] hO fun w51 s hO => ?_
  refine au ?_
  refine zcq rfl (J01 body157 rfl (J09 hO.lt kS.u H)) fun _ w53 => e1 fun r52 => sq0 hO fun s hO => d1 fun Ru H => ?_
  by_cases h54 : mhas dK r52 = true
  ·refine GoQ.stable rfl (olookT (a := r52) (MK.str underlying9) 11 hO rfl underlying154 rfl rfl h54) rfl rfl ?_
   refine sxl1 8 hO (ifp h54 H).1 (ifp h54 H).2.1 ?_
   have hle55 := t1le 8 hO (ifp h54 H).1 (ifp h54 H).2.1
   refine au ?_
   have h56 := (ifp h54 H).1
   have h57 := (ifp h54 H).2.1
   replace H := (ifp h54 H).2.2
   obtain ⟨h58, H⟩ := H
   refine zo (J03 rfl rfl (wrap_i64 h58)) ?_
   refine zo (J3M underlying3 underlying21 rfl rfl) ?_
   obtain ⟨h59, H⟩ := H
   obtain ⟨h60, H⟩ := H
   refine zo (J5o underlying21 underlying9 rfl h59 h60) ?_
   obtain ⟨h61, H⟩ := H
   refine zo (J0a rfl rfl h61) ?_
   refine sxl1 8 hO H.1 H.2.1 ?_
   have hle62 := t1le 8 hO H.1 H.2.1
   have h63 := H.1
   have h64 := H.2.1
   refine scm H.2.2 (fun h65 H => ?_) fun h65 H => ?_
   ·refine six1 0 hO H.1 H.2.1 ?_
    refine sst (u := (mgt dK r52)) 0 hO H.1 H.2.1 fun w66 s hO => ?_
    refine sinc (natbd h36 ad.bd) ?_
    refine au ?_
    exact hX1 _ H.2.2 _ _ agr ⟨_, _, _, _, _, _, _, _, _, _, _, _, _, _, _, _, _, _, _, ⟨agr, hO, fr⟩, ad.u, ci.u, ak.u⟩
   refine six1 9 hO H.1 H.2.1 ?_
   refine sld1 9 hO H.1 H.2.1 ?_
   refine au ?_
   refine GoR.inl (vs := [.pointer (some ⟨d9, 0, none⟩), .int .i64 (ix gL a0.Enum.Done), .int .i64 (bB : Int)]) (caps := []) rfl rfl body160 func160 rfl ntmps160 rfl rfl rfl ?_
   intro RhR67 hR67
   refine au ?_
   refine GoR.inl (vs := [.pointer (some ⟨d9, 0, none⟩), .int .i64 (ix gL a0.Enum.Done), .int .i64 (bB : Int)]) (caps := []) rfl rfl body159 func159 rfl ntmps159 rfl rfl rfl ?_
   intro RhR68 hR68
   refine scm H.2.2 (fun h69 H => ?_) fun h69 H => ?_
   ·refine sxl1 10 hO H.1 H.2.1 ?_
    refine au ?_
    refine Go1.ret1V func159 rfl (show _ = .int .i64 (ix a0.single (bB : Int)) from rfl) ?_
    refine hR68 _ _ ?_
    refine sxl1 4 hO H.2.2.1 H.2.2.2.1 ?_
    refine au ?_
    have h70 := H.2.2.1
    have h71 := H.2.2.2.1
    refine scm H.2.2.2.2 (fun h72 H => ?_) fun h72 H => ?_
    ·refine six1 5 hO H.1 H.2.1 ?_
     refine sld1 5 hO H.1 H.2.1 ?_
     refine au ?_
     have h73 := H.1
     have h74 := H.2.1
     refine scm H.2.2 (fun h75 H => ?_) fun h75 H => ?_
     ·refine au ?_
      refine Go1.ret1V func160 rfl (show _ = .bool true from rfl) ?_
      refine hR67 _ _ ?_
      refine au ?_
      refine drs 5 [q0, q0, q0, q0, q0, q1, q0, q0, q0, q0, q1, q0, q0, q1, q0, q2, q3, q0, q0, q0, q3] hO fun w76 s hO => ?_
      refine sxl1 8 hO H.1 H.2.1 ?_
      have hle77 := t1le 8 hO H.1 H.2.1
      refine GoQ.pure rfl (J04 underlying185 ti185 (pl := [(0, 1), (1, 1)]) (vs := [(0, .string (gstr ((ix d_27 a0.Enum.Done) ++ (chr (IntKind.i32.wrap ((97 : Int) + (bB : Int))))))), (1, .string (gstr (ix d_27 (mgt dK r52))))]) (cs := #[.string (gstr ((ix d_27 a0.Enum.Done) ++ (chr (IntKind.i32.wrap ((97 : Int) + (bB : Int)))))), .string (gstr (ix d_27 (mgt dK r52)))]) (by kernel_rfl) rfl (by kernel_rfl)) rfl rfl ?_
      refine sapF (⟨((ix d_27 a0.Enum.Done) ++ (chr (IntKind.i32.wrap ((97 : Int) + (bB : Int))))), ix d_27 (mgt dK r52)⟩ : Rule) 7 hO H.2.2 (fun _ w78 p79 c80 s hO => ?_) (hok := by exact ⟨(lenApp h61), hle77⟩)
      refine sbs 1 hO fun w81 s hO => ?_
      refine six1 0 hO H.2.2.2.1 H.2.2.2.2.1 ?_
      refine sst (u := (mgt dK r52)) 0 hO H.2.2.2.1 H.2.2.2.2.1 fun w82 s hO => ?_
      refine sinc (natbd h36 ad.bd) ?_
      refine au ?_
      exact hX1 _ H.2.2.2.2.2 _ _ agr ⟨_, _, _, _, _, _, _, _, _, _, _, _, _, _, _, _, _, _, _, ⟨agr, hO, fr⟩, ad.u, ci.u, ak.u⟩
     refine au ?_
     refine Go1.ret1V func160 rfl (show _ = .bool false from rfl) ?_
     refine hR67 _ _ ?_
     refine six1 0 hO H.1 H.2.1 ?_
     refine sst (u := (mgt dK r52)) 0 hO H.1 H.2.1 fun w83 s hO => ?_
     refine sinc (natbd h36 ad.bd) ?_
     refine au ?_
     exact hX1 _ H.2.2 _ _ agr ⟨_, _, _, _, _, _, _, _, _, _, _, _, _, _, _, _, _, _, _, ⟨agr, hO, fr⟩, ad.u, ci.u, ak.u⟩
    refine au ?_
    refine Go1.ret1V func160 rfl (show _ = .bool false from rfl) ?_
    refine hR67 _ _ ?_
    refine six1 0 hO H.1 H.2.1 ?_
    refine sst (u := (mgt dK r52)) 0 hO H.1 H.2.1 fun w84 s hO => ?_
    refine sinc (natbd h36 ad.bd) ?_
    refine au ?_
    exact hX1 _ H.2.2 _ _ agr ⟨_, _, _, _, _, _, _, _, _, _, _, _, _, _, _, _, _, _, _, ⟨agr, hO, fr⟩, ad.u, ci.u, ak.u⟩
   refine au ?_
   obtain ⟨h85, H⟩ := H
   obtain ⟨h86, H⟩ := H
   refine zo (J05 underlying23 ti31 rfl rfl h85 (ltn (Els.neqW ak.u hO 6 rfl) h86) (Els.psomeW ak.u hO 6 rfl h85 h86)) ?_
   have zz := oldSl 6 hO rfl ak.u h85 h86
   obtain ⟨p87, c88, uE, Ni⟩ := zz
   refine zs (Ni underlying31 rfl rfl) ?_
   refine sxl hO uE H.1 H.2.1 ?_
   refine au ?_
   refine Go1.ret1V func159 rfl (show _ = .int .i64 (ix (ix a0.Enum.Right (ix gL a0.Enum.Done)) (bB : Int)) from rfl) ?_
   refine hR68 _ _ ?_
   refine sxl1 4 hO H.2.2.1 H.2.2.2.1 ?_
   refine au ?_
   have h91 := H.2.2.1
   have h92 := H.2.2.2.1
   refine scm H.2.2.2.2 (fun h93 H => ?_) fun h93 H => ?_
   ·refine six1 5 hO H.1 H.2.1 ?_
    refine sld1 5 hO H.1 H.2.1 ?_
    refine au ?_
    have h94 := H.1
    have h95 := H.2.1
    refine scm H.2.2 (fun h96 H => ?_) fun h96 H => ?_
    ·refine au ?_
     refine Go1.ret1V func160 rfl (show _ = .bool true from rfl) ?_
     refine hR67 _ _ ?_
     refine au ?_
     refine drs 5 [q0, q0, q0, q0, q0, q1, q0, q0, q0, q0, q1, q0, q0, q1, q0, q2, q3, q0, q0, q0, q3] hO fun w97 s hO => ?_
     refine sxl1 8 hO H.1 H.2.1 ?_
     have hle98 := t1le 8 hO H.1 H.2.1
     refine GoQ.pure rfl (J04 underlying185 ti185 (pl := [(0, 1), (1, 1)]) (vs := [(0, .string (gstr ((ix d_27 a0.Enum.Done) ++ (chr (IntKind.i32.wrap ((97 : Int) + (bB : Int))))))), (1, .string (gstr (ix d_27 (mgt dK r52))))]) (cs := #[.string (gstr ((ix d_27 a0.Enum.Done) ++ (chr (IntKind.i32.wrap ((97 : Int) + (bB : Int)))))), .string (gstr (ix d_27 (mgt dK r52)))]) (by kernel_rfl) rfl (by kernel_rfl)) rfl rfl ?_
     refine sapF (⟨((ix d_27 a0.Enum.Done) ++ (chr (IntKind.i32.wrap ((97 : Int) + (bB : Int))))), ix d_27 (mgt dK r52)⟩ : Rule) 7 hO H.2.2 (fun _ w99 VD VE s hO => ?_) (hok := by exact ⟨(lenApp h61), hle98⟩)
     refine sbs 1 hO fun vC s hO => ?_
     refine six1 0 hO H.2.2.2.1 H.2.2.2.2.1 ?_
     refine sst (u := (mgt dK r52)) 0 hO H.2.2.2.1 H.2.2.2.2.1 fun Mc s hO => ?_
     refine sinc (natbd h36 ad.bd) ?_
     refine au ?_
     exact hX1 _ H.2.2.2.2.2 _ _ agr ⟨_, _, _, _, _, _, _, _, _, _, _, _, _, _, _, _, _, _, _, ⟨agr, hO, fr⟩, ad.u, ci.u, ak.u⟩
    refine au ?_
    refine Go1.ret1V func160 rfl (show _ = .bool false from rfl) ?_
    refine hR67 _ _ ?_
    refine six1 0 hO H.1 H.2.1 ?_
    refine sst (u := (mgt dK r52)) 0 hO H.1 H.2.1 fun uM s hO => ?_
    refine sinc (natbd h36 ad.bd) ?_
    refine au ?_
    exact hX1 _ H.2.2 _ _ agr ⟨_, _, _, _, _, _, _, _, _, _, _, _, _, _, _, _, _, _, _, ⟨agr, hO, fr⟩, ad.u, ci.u, ak.u⟩
   refine au ?_
   refine Go1.ret1V func160 rfl (show _ = .bool false from rfl) ?_
   refine hR67 _ _ ?_
   refine six1 0 hO H.1 H.2.1 ?_
   refine sst (u := (mgt dK r52)) 0 hO H.1 H.2.1 fun pK s hO => ?_
   refine sinc (natbd h36 ad.bd) ?_
   refine au ?_
   exact hX1 _ H.2.2 _ _ agr ⟨_, _, _, _, _, _, _, _, _, _, _, _, _, _, _, _, _, _, _, ⟨agr, hO, fr⟩, ad.u, ci.u, ak.u⟩
  refine GoQ.stable rfl (olookF (a := r52) (MK.str underlying9) 11 hO rfl underlying154 ti3 rfl rfl h54) rfl rfl ?_
  refine sxl1 8 hO (ifn h54 H).1 (ifn h54 H).2.1 ?_
  have hle106 := t1le 8 hO (ifn h54 H).1 (ifn h54 H).2.1
  refine au ?_
  have jQ := (ifn h54 H).1
  have zN := (ifn h54 H).2.1
  replace H := (ifn h54 H).2.2
  obtain ⟨Nj, H⟩ := H
  refine zo (J03 rfl rfl (wrap_i64 Nj)) ?_
  refine zo (J3M underlying3 underlying21 rfl rfl) ?_
  obtain ⟨Nk, H⟩ := H
  obtain ⟨ns, H⟩ := H
  refine zo (J5o underlying21 underlying9 rfl Nk ns) ?_
  obtain ⟨jS, H⟩ := H
  refine zo (J0a rfl rfl jS) ?_
  refine au ?_
  refine zo (J0M underlying23 rfl (Els.neqW ci.u hO 3 rfl)) ?_
  refine scm H (fun jT H => ?_) fun jT H => ?_
  ·refine au ?_
   refine sdr [0] hO fun s hO => ?_
   refine Go1.ret1 func133 rfl ⟨_, (⟨(⟨a0.Enum.Points, a0.Enum.Monoid, a0.Enum.Gens, d_9, j9, qC, a0.Enum.Right, i4, a0.Enum.Done⟩ : Enum), dK, d_27, gL, a0.single⟩ : run), _, _, _, _, _, _, _, _, _, _, _, _, _, _, _, _, _, _, _, _, _, _, _, _, _, _, _, _, _, _, er, hO, ad.u, ci.u, ak.u, fr, H⟩
  refine sxl1 9 hO H.1 H.2.1 ?_
  refine au ?_
  refine GoR.inl (vs := [.pointer (some ⟨d9, 0, none⟩), .int .i64 (ix gL a0.Enum.Done), .int .i64 (bB : Int)]) (caps := []) rfl rfl body159 func159 rfl ntmps159 rfl rfl rfl ?_
  intro RhR114 hR114
  refine scm H.2.2 (fun vD H => ?_) fun vD H => ?_
  ·refine sxl1 10 hO H.1 H.2.1 ?_
   refine au ?_
   refine Go1.ret1V func159 rfl (show _ = .int .i64 (ix a0.single (bB : Int)) from rfl) ?_
   refine hR114 _ _ ?_
   refine GoR.inl (vs := [.pointer (some ⟨d9, 0, none⟩), .slice g6 r49.length g7, .int .i64 a0.Enum.Done, .int .i64 (bB : Int), .string (gstr ((ix d_27 a0.Enum.Done) ++ (chr (IntKind.i32.wrap ((97 : Int) + (bB : Int)))))), .int .i64 (ix a0.single (bB : Int))]) (caps := []) rfl rfl body155 func155 rfl ntmps155 rfl rfl rfl ?_
   intro RhR116 hR116
   refine au ?_
   refine zo (J0M underlying23 rfl (Els.neqW ci.u hO 3 rfl)) ?_
   refine au ?_
   refine drw 1 [(0, q0), (1, q0), (2, q0), (3, q1), (4, q0), (6, q0), (5, q2), (7, q3)] hO fun ql s hO => ?_
   refine au ?_
   refine zcq rfl (J01 body157 rfl (J09 hO.lt kS.u H.2.2)) fun _ uy => e1 fun lQ => sq0 hO fun s hO => d1 fun Rm H => ?_
   have zz := omapUpd (MK.str underlying9) 11 hO rfl underlying154 lQ (d_9.length : Int)
   obtain ⟨qD, nt, AO⟩ := zz
   refine GoQ.last rfl (AO (by exact rfl) (by exact rfl) (by exact rfl)) rfl rfl ?_
   refine nst nt fun s hO => ?_
   refine au ?_
   have zz := J1P (r := Rp.sl (Rp.int .i64)) (n := 1) (parts := [(0, .slice g6 r49.length g7)]) (vs := [.slice g6 r49.length g7]) (xs := [r49]) rfl underlying23 ti31 hO (by decide) (by kernel_rfl) (Els.cons rfl ⟨g6, g7, rfl, kS.u⟩ (Els.nil _ _ _) (by simp [mx])) rfl
   obtain ⟨Nl, kc, AP, kT, RW, AQ⟩ := zz
   refine zg (AQ rfl) ?_
   refine nst AP fun s hO => ?_
   refine sfzR 0 hO kT fun s hO qE qF => ?_
   obtain ⟨zA, H⟩ := H
   have zz := oapp underlying23 ti31 rfl 3 hO rfl ci.u qE qF zA (by decide)
   obtain ⟨VG, VH, VI, RX, AR, jq, AT⟩ := zz
   dsimp only [sS, sZ] at jq
   refine zg (AT (by exact rfl) (by exact rfl)) ?_
   refine nst AR fun s hO => ?_
   refine sbs 1 hO fun zB s hO => ?_
   refine au ?_
   refine sap1 a0.Enum.Done 4 hO H fun _ VJ VK VL s hO => ?_
   refine sbs 1 hO fun Ah s hO => ?_
   refine au ?_
   refine sap1 ((bB : Int)) 5 hO H.2 fun _ Ln VM VN s hO => ?_
   refine sbs 1 hO fun Nm s hO => ?_
   refine au ?_
   refine sap1 (((ix d_27 a0.Enum.Done) ++ (chr (IntKind.i32.wrap ((97 : Int) + (bB : Int)))))) 8 hO H.2.2 (fun _ zC Nn VO s hO => ?_) (hR := by exact fun _ _ => ⟨rfl, (lenApp jS)⟩)
   refine sbs 1 hO fun zQ s hO => ?_
   refine au ?_
   refine sap1 ((ix a0.single (bB : Int))) 9 hO H.2.2.2 fun _ uu VP VQ s hO => ?_
   refine sbs 1 hO fun Np s hO => ?_
   refine au ?_
   refine Go1.ret1V func155 rfl (show _ = .int .i64 (d_9.length : Int) from rfl) ?_
   refine hR116 _ _ ?_
   refine six1 0 hO H.2.2.2.2.1 H.2.2.2.2.2.1 ?_
   refine sst (u := (d_9.length : Int)) 0 hO H.2.2.2.2.1 H.2.2.2.2.2.1 fun VR s hO => ?_
   refine sinc (natbd h36 ad.bd) ?_
   refine au ?_
   exact hX1 _ H.2.2.2.2.2.2 _ _ agr ⟨_, _, _, _, _, _, _, _, _, _, _, _, _, _, _, _, _, _, _, ⟨agr, hO, fr⟩, ad.u, jq.u, ak.u⟩
  refine au ?_
  obtain ⟨h159, H⟩ := H
  obtain ⟨nr, H⟩ := H
  refine zo (J05 underlying23 ti31 rfl rfl h159 (ltn (Els.neqW ak.u hO 6 rfl) nr) (Els.psomeW ak.u hO 6 rfl h159 nr)) ?_
  have zz := oldSl 6 hO rfl ak.u h159 nr
  obtain ⟨pQ, VU, qG, FH⟩ := zz
  refine zs (FH underlying31 rfl rfl) ?_
  refine sxl hO qG H.1 H.2.1 ?_
  refine au ?_
  refine Go1.ret1V func159 rfl (show _ = .int .i64 (ix (ix a0.Enum.Right (ix gL a0.Enum.Done)) (bB : Int)) from rfl) ?_
  refine hR114 _ _ ?_
  refine GoR.inl (vs := [.pointer (some ⟨d9, 0, none⟩), .slice g6 r49.length g7, .int .i64 a0.Enum.Done, .int .i64 (bB : Int), .string (gstr ((ix d_27 a0.Enum.Done) ++ (chr (IntKind.i32.wrap ((97 : Int) + (bB : Int)))))), .int .i64 (ix (ix a0.Enum.Right (ix gL a0.Enum.Done)) (bB : Int))]) (caps := []) rfl rfl body155 func155 rfl ntmps155 rfl rfl rfl ?_
  intro RhR165 hR165
  refine au ?_
  refine zo (J0M underlying23 rfl (Els.neqW ci.u hO 3 rfl)) ?_
  refine au ?_
  refine drw 1 [(0, q0), (1, q0), (2, q0), (3, q1), (4, q0), (6, q0), (5, q2), (7, q3)] hO fun VV s hO => ?_
  refine au ?_
  refine zcq rfl (J01 body157 rfl (J09 hO.lt kS.u H.2.2)) fun _ u0 => e1 fun r167 => sq0 hO fun s hO => d1 fun Rn H => ?_
  have zz := omapUpd (MK.str underlying9) 11 hO rfl underlying154 r167 (d_9.length : Int)
  obtain ⟨Nq, AU, AV⟩ := zz
  refine GoQ.last rfl (AV (by exact rfl) (by exact rfl) (by exact rfl)) rfl rfl ?_
  refine nst AU fun s hO => ?_
  refine au ?_
  have zz := J1P (r := Rp.sl (Rp.int .i64)) (n := 1) (parts := [(0, .slice g6 r49.length g7)]) (vs := [.slice g6 r49.length g7]) (xs := [r49]) rfl underlying23 ti31 hO (by decide) (by kernel_rfl) (Els.cons rfl ⟨g6, g7, rfl, kS.u⟩ (Els.nil _ _ _) (by simp [mx])) rfl
  obtain ⟨Ao, jX, AW, FI, RY, AX⟩ := zz
  refine zg (AX rfl) ?_
  refine nst AW fun s hO => ?_
  refine sfzR 0 hO FI fun s hO pS pT => ?_
  obtain ⟨Nr, H⟩ := H
  have zz := oapp underlying23 ti31 rfl 3 hO rfl ci.u pS pT Nr (by decide)
  obtain ⟨Nt, ke, kg, R2, AY, ym, A4⟩ := zz
  dsimp only [sS, sZ] at ym
  refine zg (A4 (by exact rfl) (by exact rfl)) ?_
  refine nst AY fun s hO => ?_
  refine sbs 1 hO fun My s hO => ?_
  refine au ?_
  refine sap1 a0.Enum.Done 4 hO H fun _ uA Nu VW s hO => ?_
  refine sbs 1 hO fun Nv s hO => ?_
  refine au ?_
  refine sap1 ((bB : Int)) 5 hO H.2 fun _ zX VX VY s hO => ?_
  refine sbs 1 hO fun Nw s hO => ?_
  refine au ?_
  refine sap1 (((ix d_27 a0.Enum.Done) ++ (chr (IntKind.i32.wrap ((97 : Int) + (bB : Int)))))) 8 hO H.2.2 (fun _ z4 V0 V1 s hO => ?_) (hR := by exact fun _ _ => ⟨rfl, (lenApp jS)⟩)
  refine sbs 1 hO fun Ny s hO => ?_
  refine au ?_
  refine sap1 ((ix (ix a0.Enum.Right (ix gL a0.Enum.Done)) (bB : Int))) 9 hO H.2.2.2 fun _ z6 V2 V3 s hO => ?_
  refine sbs 1 hO fun V4 s hO => ?_
  refine au ?_
  refine Go1.ret1V func155 rfl (show _ = .int .i64 (d_9.length : Int) from rfl) ?_
  refine hR165 _ _ ?_
  refine six1 0 hO H.2.2.2.2.1 H.2.2.2.2.2.1 ?_
  refine sst (u := (d_9.length : Int)) 0 hO H.2.2.2.2.1 H.2.2.2.2.2.1 fun Nz s hO => ?_
  refine sinc (natbd h36 ad.bd) ?_
  refine au ?_
  exact hX1 _ H.2.2.2.2.2.2 _ _ agr ⟨_, _, _, _, _, _, _, _, _, _, _, _, _, _, _, _, _, _, _, ⟨agr, hO, fr⟩, ad.u, ym.u, ak.u⟩
 refine au ?_
 refine sfz 0 hO fun s hO qH qI => ?_
 have zz := J1P (r := Rp.sl (Rp.int .i64)) (n := 1) (parts := [(0, .slice p4 a0.Enum.Gens.length a0.Enum.Gens.length)]) (vs := [.slice p4 a0.Enum.Gens.length a0.Enum.Gens.length]) (xs := [d_8]) rfl underlying23 ti31 hO (by decide) (by kernel_rfl) (Els.cons rfl ⟨p4, a0.Enum.Gens.length, congrArg some (congrArg (fun nn => Value.slice p4 nn a0.Enum.Gens.length) qI), qH⟩ (Els.nil _ _ _) (by simp [mx])) rfl
 obtain ⟨V5, V6, A5, FJ, R3, nH⟩ := zz
 refine zg (nH rfl) ?_
 refine nst A5 fun s hO => ?_
 refine sfzR 0 hO FJ fun s hO FK FL => ?_
 obtain ⟨NA, H⟩ := H
 have zz := oapp underlying23 ti31 rfl 5 hO rfl ak.u FK FL NA (by decide)
 obtain ⟨NB, NC, V7, R4, A6, d5, A7⟩ := zz
 dsimp only [sS, sZ] at d5
 refine zg (A7 (by exact rfl) (by exact rfl)) ?_
 refine nst A6 fun s hO => ?_
 refine sbs 0 hO fun V8 s hO => ?_
 refine au ?_
 obtain ⟨i5, H⟩ := H
 refine zo (J03 rfl rfl (wrap_i64 i5)) ?_
 refine sbs 0 hO fun vE s hO => ?_
 refine au ?_
 refine Go1.ret1 func133 rfl ⟨_, (⟨(⟨a0.Enum.Points, a0.Enum.Monoid, a0.Enum.Gens, d_9, j9, qC, a0.Enum.Right ++ ([d_8]), i4, (a0.Enum.Done + (1 : Int))⟩ : Enum), dK, d_27, gL, a0.single⟩ : run), _, _, _, _, _, _, _, _, _, _, _, _, _, _, _, _, _, _, _, _, _, _, _, _, _, _, _, _, _, _, er, hO, ad.u, ci.u, d5.u, fr, H⟩
theorem body132 : Body prog 132 := ⟨f132, func132, rfl, by kernel_rfl⟩
theorem body101 : Body prog 101 := ⟨f101, func101, rfl, by kernel_rfl⟩
theorem J4F {eN : Option Addr} {eO : Nat} {gens : List (List Int)} {monoid : Bool} (hA : HA0 A w0) (eP : ISs A w0 eN eO gens) {K : Enum → Int → Prop} (H : J12 gens monoid K) :
    CallsV prog 101 #[.slice eN gens.length eO, .bool monoid] w0 (fun v w' => ∃ (r0 : Enum), ∃ (r1 : Int), ∃ (cY : Option Addr), ∃ (c8 : Nat), ∃ (cJ : Option Addr), ∃ (cK : Nat), ∃ (cB : Option Addr), ∃ (cC : Nat), ∃ (db : Option Addr), ∃ (de : Nat), ∃ (cL : Option Addr), ∃ (cM : Nat), ∃ (cN : Option Addr), ∃ (cO : Nat), v = .tuple #[.agg #[.int .i64 r0.Points, .bool r0.Monoid, .slice cY r0.Gens.length c8, .slice cJ r0.Elems.length cK, .slice cB r0.Prefix.length cC, .slice db r0.Last.length de, .slice cL r0.Right.length cM, .slice cN r0.Rules.length cO, .int .i64 r0.Done], .int .i64 r1] ∧ Same w0 w' ∧ ISs A w' cY c8 r0.Gens ∧ ISs A w' cJ cK r0.Elems ∧ ISi A w' cB cC r0.Prefix ∧ ISi A w' db de r0.Last ∧ ISs A w' cL cM r0.Right ∧ ISl (rpRule) A w' cN cO r0.Rules ∧ K r0 r1) := by
 refine cal hA func101 ntmps101 fun hO hB => ?_
 unfold J12 at H
 refine sal hO fun w1 B2 s hO => ?_
 refine au ?_
 refine zcr (J01 body131 rfl (J4D hO.lt eP.u H)) fun _ w6 hc => Or.elim hc ?_ ?_
 ·refine e1 fun r5 => d2 fun hv hs H => ?_
  subst hv; clear hc
  replace H := oElimN H
  refine sm hO hs fun s hO => ?_
  refine scm H (fun h7 H => ?_) fun h7 H => ?_
  ·refine au ?_
   refine lv [4, 6] hO H (fun E _ σ w => Lo A w0 σ w [] E) ⟨agr, hO, fr⟩ ?_
   refine fun X1 => fun _ => fun H hX1 σ w8 hk => d2 fun hag hO hB => keep2 hk hag ?_
   revert hO; repeat (rename Owns .. => q; clear q)
   intro hO; repeat (rename Sq .. => q; clear q)
   refine au ?_
   refine GoR.inl (vs := [.pointer none]) (caps := []) rfl rfl body132 func132 rfl ntmps132 rfl rfl rfl ?_
   intro RhR9 hR9
   refine au ?_
   refine drs 0 [q0, q0, q0, q0, q1, q0, q0, q0, q0, q1, q0, q0, q0] hO fun w10 s hO => ?_
   refine au ?_
   exact (H).elim
  refine au ?_
  refine zo (J04 underlying123 ti123 (pl := [(0, 1), (1, 1), (2, 1), (3, 1), (4, 1), (5, 1), (6, 1), (7, 1), (8, 1)]) (vs := []) (cs := #[.int .i64 (0 : Int), .bool false, .slice none 0 0, .slice none 0 0, .slice none 0 0, .slice none 0 0, .slice none 0 0, .slice none 0 0, .int .i64 (0 : Int)]) (by kernel_rfl) rfl (by kernel_rfl)) ?_
  refine sba 0 hO fun w11 s hO => ?_
  refine au ?_
  refine Go1.retC2 func101 rfl rfl (rlb 0 hO) ⟨((⟨(0 : Int), false, ([] : List (List Int)), ([] : List (List Int)), ([] : List Int), ([] : List Int), ([] : List (List Int)), ([] : List Rule), (0 : Int)⟩ : Enum)), _, _, _, _, _, _, _, _, _, _, _, _, _, er, frs, (ISl.null _ _ _), (ISl.null _ _ _), (ISl.null _ _ _), (ISl.null _ _ _), (ISl.null _ _ _), (ISl.null _ _ _), H⟩
 refine e4 fun r4 r5 A8 y7 => e4 fun y8 y9 yo yr => e4 fun yu yv vF vG => e4 fun vH vI zc zd => e4 fun zh yw yz yA => e4 fun vJ yB yC yD => e4 fun jN FM FN FO => e4 fun DE DF DG DH => e2 fun DJ DK => d1 fun hv => d1 fun hs => d4 fun hN fF fu fv H => ?_
 subst hv; clear hc
 refine smr hO hs hN fun s hO c => ?_
 replace H := oElimS H
 replace fF := fF.ch c
 replace fu := fu.ch c
 replace fv := fv.ch c
 refine scm H (fun h23 H => ?_) fun h23 H => ?_
 ·refine au ?_
  refine lv [4, 6] hO H (fun E (gW, kU, k2_27, d_28, d_34, d_40, d_44, d_48, qJ, d_58, vK, vL, qK) σ w => ∃ n33 p31 c32 vM n39 p37 c38 nK n43 p41 c42 n47 p45 c46 n53 p51 c52 vN n57 p55 c56 n61 p59 c60 n65 p63 c64 n69 p67 c68, (fun Z => Lo A w0 σ w [] Z ∧ Els (Rp.sl (Rp.int .i64)) (bl Z ++ A) w vM d_28 ∧ Els (Rp.sl (Rp.int .i64)) (bl Z ++ A) w nK d_34 ∧ Els (Rp.sl (Rp.int .i64)) (bl Z ++ A) w vN d_48) (esets E [(0, .blk A8 (.cells #[.int .i64 gW, .bool kU, .slice p31 n33 c32, .slice p37 n39 c38, .slice p41 n43 c42, .slice p45 n47 c46, .slice p51 n53 c52, .slice p55 n57 c56, .int .i64 k2_27, .map (some jN), .slice p59 n61 c60, .slice p63 n65 c64, .slice p67 n69 c68] 156 (0, 0))), (1, .row 31 1 p31 n33 c32 vM), (2, .row 31 1 p37 n39 c38 nK), (3, t1 Fl.i 3 p41 n43 c42 d_40), (4, t1 Fl.i 3 p45 n47 c46 d_44), (5, .row 31 1 p51 n53 c52 vN), (6, t1 (id Fl.fl : Fl rpRule) 185 p55 n57 c56 qJ), (7, t1 Fl.str 9 p59 n61 c60 d_58), (8, t1 Fl.i 3 p63 n65 c64 vK), (9, t1 Fl.i 3 p67 n69 c68 vL), (10, .any (mapE (fun a : List UInt8 => Value.string (gstr a)) (fun a : Int => Value.int .i64 a) jN qK))])) ⟨_, _, _, _, _, _, _, _, _, _, _, _, _, _, _, _, _, _, _, _, _, _, _, _, _, _, _, _, _, _, ⟨agr, hO, fr⟩, fF.u, fu.u, fv.u⟩ ?_
  refine fun X2 => p1 fun gW => p1 fun kU => p1 fun k2_27 => p1 fun d_28 => p1 fun d_34 => p1 fun d_40 => p1 fun d_44 => p1 fun d_48 => p1 fun qJ => p3 fun d_58 vK vL qK => fun H hX2 σ w24 hk => e4 fun n33 p31 c32 vM => e4 fun n39 p37 c38 nK => e4 fun n43 p41 c42 n47 => e4 fun p45 c46 n53 p51 => e4 fun c52 vN n57 p55 => e4 fun c56 n61 p59 c60 => e4 fun n65 p63 c64 n69 => e2 fun p67 c68 => d1 fun hL => d2 fun fw qL vO => d2 (fun hag hO hB => keep2 hk hag ?_) hL
  dsimp only [esets, sS, sZ] at hO hB fw qL vO
  dsimp only at H
  revert hO; repeat (rename Owns .. => q; clear q)
  intro hO; repeat (rename Sq .. => q; clear q)
  refine au ?_
  refine GoR.inl (vs := [.pointer (some ⟨A8, 0, none⟩)]) (caps := []) rfl rfl body132 func132 rfl ntmps132 rfl rfl rfl ?_
  intro RhR71 hR71
  refine au ?_
  refine drs 0 [q0, q0, q0, q0, q1, q0, q0, q0, q0, q1, q0, q0, q0] hO fun w72 s hO => ?_
  refine au ?_
  refine GoQ.pure rfl (J0M underlying23 rfl (Els.neqW qL.u hO 2 rfl)) rfl rfl ?_
  refine scm H (fun h73 H => ?_) fun h73 H => ?_
  ·refine au ?_
   refine Go1.ret1V func132 rfl (show _ = .bool true from rfl) ?_
   refine hR71 _ _ ?_
   refine au ?_
   refine zs (J6E (vs := [.int .i64 gW, .bool kU, .slice p31 n33 c32, .slice p37 n39 c38, .slice p41 n43 c42, .slice p45 n47 c46, .slice p51 n53 c52, .slice p55 n57 c56, .int .i64 k2_27]) (i := 0) 0 hO rfl rfl underlying123 rfl ti123 rfl) ?_
   refine sba 11 hO fun w74 s hO => ?_
   refine au ?_
   refine sfzR 1 hO fw.u fun s hO ND NE => ?_
   refine sfzR 1 hO qL.u fun s hO NF NG => ?_
   refine sfz 1 hO fun s hO nC qh => ?_
   refine sfz 1 hO fun s hO uJ uK => ?_
   refine sfzR 1 hO vO.u fun s hO NH NI => ?_
   refine sfz 1 hO fun s hO vP nM => ?_
   refine Go1.retC2 func101 rfl rfl (rlb 5 hO) ⟨((⟨gW, kU, d_28, d_34, d_40, d_44, d_48, qJ, k2_27⟩ : Enum)), _, _, _, _, _, _, _, _, _, _, _, _, _, ?_, frs, ND.r, NF.r, nC.r, uJ.r, NH.r, vP.r, H⟩
   exact (congrArg (fun l => Value.tuple (List.toArray l)) (J02 (congrArg (fun l => Value.agg (List.toArray l)) (J02 rfl (J02 rfl (J02 (congrArg (fun nn => Value.slice p31 nn c32) NE) (J02 (congrArg (fun nn => Value.slice p37 nn c38) NG) (J02 (congrArg (fun nn => Value.slice p41 nn c42) qh) (J02 (congrArg (fun nn => Value.slice p45 nn c46) uK) (J02 (congrArg (fun nn => Value.slice p51 nn c52) NI) (J02 (congrArg (fun nn => Value.slice p55 nn c56) nM) (J02 rfl rfl)))))))))) (J02 rfl rfl)))
  refine au ?_
  refine Go1.ret1V func132 rfl (show _ = .bool false from rfl) ?_
  refine hR71 _ _ ?_
  refine au ?_
  refine sob 11 hO fun sg hO1 => ?_
  refine zcr (J01 body133 rfl (J37 (a0 := (⟨(⟨gW, kU, d_28, d_34, d_40, d_44, d_48, qJ, k2_27⟩ : Enum), qK, d_58, vK, vL⟩ : run)) hO1 fw.u qL.u vO.u H)) fun _ w89 => e4 fun r87 q88 yE yF => e4 fun yG vQ vR vS => e4 fun vT ud ue uf => e4 fun ug yH yI yJ => e4 fun vU vV vW uh => e4 fun vX vY v5 DL => e4 fun DN DO A9 Ba => e4 fun Bb Bc Bd Be => d1 fun hv => d1 fun hN90 => d4 fun fx eX eY hF91 H => ?_
  subst hv; clear sg hO1
  refine sjn hO hN90 hF91 fun s hO c => ?_
  replace fx := fx.ch c
  replace eX := eX.ch c
  replace eY := eY.ch c
  refine scm H (fun h92 H => ?_) fun h92 H => ?_
  ·refine au ?_
   exact hX2 _ H _ _ agr ⟨_, _, _, _, _, _, _, _, _, _, _, _, _, _, _, _, _, _, _, _, _, _, _, _, _, _, _, _, _, _, ⟨agr, hO, fr⟩, fx, eX, eY⟩
  refine au ?_
  refine zo (J04 underlying123 ti123 (pl := [(0, 1), (1, 1), (2, 1), (3, 1), (4, 1), (5, 1), (6, 1), (7, 1), (8, 1)]) (vs := []) (cs := #[.int .i64 (0 : Int), .bool false, .slice none 0 0, .slice none 0 0, .slice none 0 0, .slice none 0 0, .slice none 0 0, .slice none 0 0, .int .i64 (0 : Int)]) (by kernel_rfl) rfl (by kernel_rfl)) ?_
  refine sba 11 hO fun w93 s hO => ?_
  refine au ?_
  refine Go1.retC2 func101 rfl rfl (rlb 11 hO) ⟨((⟨(0 : Int), false, ([] : List (List Int)), ([] : List (List Int)), ([] : List Int), ([] : List Int), ([] : List (List Int)), ([] : List Rule), (0 : Int)⟩ : Enum)), _, _, _, _, _, _, _, _, _, _, _, _, _, er, frs, (ISl.null _ _ _), (ISl.null _ _ _), (ISl.null _ _ _), (ISl.null _ _ _), (ISl.null _ _ _), (ISl.null _ _ _), H⟩
 refine au ?_
 refine zo (J04 underlying123 ti123 (pl := [(0, 1), (1, 1), (2, 1), (3, 1), (4, 1), (5, 1), (6, 1), (7, 1), (8, 1)]) (vs := []) (cs := #[.int .i64 (0 : Int), .bool false, .slice none 0 0, .slice none 0 0, .slice none 0 0, .slice none 0 0, .slice none 0 0, .slice none 0 0, .int .i64 (0 : Int)]) (by kernel_rfl) rfl (by kernel_rfl)) ?_
 refine sba 11 hO fun w94 s hO => ?_
 refine au ?_
 refine Go1.retC2 func101 rfl rfl (rlb 11 hO) ⟨((⟨(0 : Int), false, ([] : List (List Int)), ([] : List (List Int)), ([] : List Int), ([] : List Int), ([] : List (List Int)), ([] : List Rule), (0 : Int)⟩ : Enum)), _, _, _, _, _, _, _, _, _, _, _, _, _, er, frs, (ISl.null _ _ _), (ISl.null _ _ _), (ISl.null _ _ _), (ISl.null _ _ _), (ISl.null _ _ _), (ISl.null _ _ _), H⟩
theorem body134 : Body prog 134 := ⟨f134, func134, rfl, by kernel_rfl⟩
theorem J4a {fo : Option Addr} {gI : Nat} {s_ : List Int} {v : Int} (hA : HA0 A w0) (gJ : ISi A w0 fo gI s_) {K : Int → Prop} (H : J1h s_ v K) :
    CallsV prog 134 #[.slice fo s_.length gI, .int .i64 v] w0 (fun v w' => ∃ (r0 : Int), v = .int .i64 r0 ∧ Same w0 w' ∧ K r0) := by
 refine cal hA func134 ntmps134 fun hO hB => ?_
 unfold J1h at H
 refine sln0 ?_
 refine au ?_
 refine lv [0, 1, 7] hO (H gJ.bd) (fun E k1_2 σ w => Lo A w0 σ w [(8, .int .i64 (k1_2 : Int))] []) ⟨agr, hO, fr⟩ ?_
 refine fun X1 => fun k1_2 => fun H hX1 σ w1 hk => d2 fun hag hO hB => keep2 hk hag ?_
 refine scm H (fun h3 H => ?_) fun h3 H => ?_
 ·refine sxl hO gJ.u H.1 H.2.1 ?_
  have h4 := H.1
  have h5 := H.2.1
  refine scm H.2.2 (fun h6 H => ?_) fun h6 H => ?_
  ·refine au ?_
   refine Go1.ret1 func134 rfl ⟨_, er, frs, H⟩
  refine sinc (natbd h3 gJ.bd) ?_
  refine au ?_
  exact hX1 _ H _ _ agr ⟨agr, hO, fr⟩
 refine au ?_
 refine Go1.ret1 func134 rfl ⟨_, er, frs, H⟩
theorem body102 : Body prog 102 := ⟨f102, func102, rfl, by kernel_rfl⟩
theorem J3v {fo : Option Addr} {gI : Nat} {s_ : List Int} {v : Int} (hA : HA0 A w0) (gJ : ISi A w0 fo gI s_) {K : Bool → Prop} (H : J0s s_ v K) :
    CallsV prog 102 #[.slice fo s_.length gI, .int .i64 v] w0 (fun v w' => ∃ (r0 : Bool), v = .bool r0 ∧ Same w0 w' ∧ K r0) := by
 refine cal hA func102 ntmps102 fun hO hB => ?_
 unfold J0s at H
 refine au ?_
 refine zcr (J01 body134 rfl (J4a hO.lt gJ.u H)) fun _ w2 => e1 fun r1 => sc0 hO fun s hO => fun H => ?_
 refine scm H (fun h3 H => ?_) fun h3 H => ?_
 ·refine au ?_
  refine Go1.ret1 func102 rfl ⟨_, er, frs, H⟩
 refine au ?_
 refine Go1.ret1 func102 rfl ⟨_, er, frs, H⟩
theorem body103 : Body prog 103 := ⟨f103, func103, rfl, by kernel_rfl⟩
theorem J36 {mh p_f : Option Addr} {mj c_f : Nat} {p : part} {f : List Int} (hA : HA0 A w0) (tM : ISb A w0 mh mj p.final) (h_f : ISi A w0 p_f c_f f) {K : Bool → Prop} (H : J0A p f K) :
    CallsV prog 103 #[.agg #[.int .i64 p.start, .slice mh p.final.length mj, .int .i64 p.shift], .slice p_f f.length c_f] w0 (fun v w' => ∃ (r0 : Bool), v = .bool r0 ∧ Same w0 w' ∧ K r0) := by
 refine cal hA func103 ntmps103 fun hO hB => ?_
 unfold J0A at H
 refine sbx hO fun w1 B2 s hO => ?_
 refine au ?_
 refine drs 0 [q0, q1, q0, q0, q1, q0, q1, q0, q1, q0, q0, q1, q0] hO fun w4 s hO => ?_
 refine sxl hO h_f.u H.1 H.2.1 ?_
 refine au ?_
 have h5 := H.1
 have h6 := H.2.1
 replace H := H.2.2
 obtain ⟨h7, H⟩ := H
 refine GoQ.pure rfl (J9z rfl rfl (wrap_i64 h7)) rfl rfl ?_
 refine sxl hO tM.u H.1 H.2.1 ?_
 refine au ?_
 refine Go1.ret1 func103 rfl ⟨_, er, frs, H.2.2⟩
end Sg
