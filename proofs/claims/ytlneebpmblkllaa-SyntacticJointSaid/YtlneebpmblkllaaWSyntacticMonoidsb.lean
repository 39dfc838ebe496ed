/- -/
import Derived.Test.YtlneebpmblkllaaVd
import Derived.Test.YtlneebpmblkllaaWSyntacticMonoids
namespace Sg
open Go Go.RowKit Go.Proofs Try
set_option linter.unusedVariables false
set_option linter.unusedSimpArgs false
set_option maxRecDepth 100000
set_option maxHeartbeats 4000000
variable {A : List Nat} {w0 : World}
theorem body159 : Body prog 159 := ⟨f159, func159, rfl, by kernel_rfl⟩
theorem body160 : Body prog 160 := ⟨f160, func160, rfl, by kernel_rfl⟩
theorem body133 : Body prog 133 := ⟨f133, func133, rfl, by kernel_rfl⟩
theorem J2C {A : List Nat} {n0 eF bx bA bD bF bc bh bO bQ a8 ba bG bI aJ cK cM cp cv ce cg : Nat} {w0 : World} {bz bE bg bP a9 bH cL cq cf : Option Addr} {cz cQ co : List Value} {a0 : run} (hO : Owns n0 w0 [.blk eF (.cells #[.int .i64 a0.Enum.Points, .bool a0.Enum.Monoid, .slice bz bx bA, .slice bE bD bF, .slice bg bc bh, .slice bP bO bQ, .slice a9 a8 ba, .slice bH bG bI, .int .i64 a0.Enum.Done, .map (some aJ), .slice cL cK cM, .slice cq cp cv, .slice cf ce cg] 156 (0, 0)), .row 31 1 bz bx bA cz, .row 31 1 bE bD bF cQ, t1 Fl.i 3 bg bc bh a0.Enum.Prefix, t1 Fl.i 3 bP bO bQ a0.Enum.Last, .row 31 1 a9 a8 ba co, t1 (id Fl.fl : Fl rpRule) 185 bH bG bI a0.Enum.Rules, t1 Fl.str 9 cL cK cM a0.words, t1 Fl.i 3 cq cp cv a0.behind, t1 Fl.i 3 cf ce cg a0.single, .any (mapE (fun a : List UInt8 => Value.string (gstr a)) (fun a : Int => Value.int .i64 a) aJ a0.number)] A) (aa : Els (Rp.sl (Rp.int .i64)) (bl [.blk eF (.cells #[.int .i64 a0.Enum.Points, .bool a0.Enum.Monoid, .slice bz bx bA, .slice bE bD bF, .slice bg bc bh, .slice bP bO bQ, .slice a9 a8 ba, .slice bH bG bI, .int .i64 a0.Enum.Done, .map (some aJ), .slice cL cK cM, .slice cq cp cv, .slice cf ce cg] 156 (0, 0)), .row 31 1 bz bx bA cz, .row 31 1 bE bD bF cQ, t1 Fl.i 3 bg bc bh a0.Enum.Prefix, t1 Fl.i 3 bP bO bQ a0.Enum.Last, .row 31 1 a9 a8 ba co, t1 (id Fl.fl : Fl rpRule) 185 bH bG bI a0.Enum.Rules, t1 Fl.str 9 cL cK cM a0.words, t1 Fl.i 3 cq cp cv a0.behind, t1 Fl.i 3 cf ce cg a0.single, .any (mapE (fun a : List UInt8 => Value.string (gstr a)) (fun a : Int => Value.int .i64 a) aJ a0.number)] ++ A) w0 cz a0.Enum.Gens) (kl : Els (Rp.sl (Rp.int .i64)) (bl [.blk eF (.cells #[.int .i64 a0.Enum.Points, .bool a0.Enum.Monoid, .slice bz bx bA, .slice bE bD bF, .slice bg bc bh, .slice bP bO bQ, .slice a9 a8 ba, .slice bH bG bI, .int .i64 a0.Enum.Done, .map (some aJ), .slice cL cK cM, .slice cq cp cv, .slice cf ce cg] 156 (0, 0)), .row 31 1 bz bx bA cz, .row 31 1 bE bD bF cQ, t1 Fl.i 3 bg bc bh a0.Enum.Prefix, t1 Fl.i 3 bP bO bQ a0.Enum.Last, .row 31 1 a9 a8 ba co, t1 (id Fl.fl : Fl rpRule) 185 bH bG bI a0.Enum.Rules, t1 Fl.str 9 cL cK cM a0.words, t1 Fl.i 3 cq cp cv a0.behind, t1 Fl.i 3 cf ce cg a0.single, .any (mapE (fun a : List UInt8 => Value.string (gstr a)) (fun a : Int => Value.int .i64 a) aJ a0.number)] ++ A) w0 cQ a0.Enum.Elems) (ao : Els (Rp.sl (Rp.int .i64)) (bl [.blk eF (.cells #[.int .i64 a0.Enum.Points, .bool a0.Enum.Monoid, .slice bz bx bA, .slice bE bD bF, .slice bg bc bh, .slice bP bO bQ, .slice a9 a8 ba, .slice bH bG bI, .int .i64 a0.Enum.Done, .map (some aJ), .slice cL cK cM, .slice cq cp cv, .slice cf ce cg] 156 (0, 0)), .row 31 1 bz bx bA cz, .row 31 1 bE bD bF cQ, t1 Fl.i 3 bg bc bh a0.Enum.Prefix, t1 Fl.i 3 bP bO bQ a0.Enum.Last, .row 31 1 a9 a8 ba co, t1 (id Fl.fl : Fl rpRule) 185 bH bG bI a0.Enum.Rules, t1 Fl.str 9 cL cK cM a0.words, t1 Fl.i 3 cq cp cv a0.behind, t1 Fl.i 3 cf ce cg a0.single, .any (mapE (fun a : List UInt8 => Value.string (gstr a)) (fun a : Int => Value.int .i64 a) aJ a0.number)] ++ A) w0 co a0.Enum.Right) {K : Int → run → Prop} (H : J0l a0 K) :
    CallsV prog 133 #[.pointer (some ⟨eF, 0, none⟩)] w0 (fun v w' => ∃ (r0 : Int), ∃ (q : run), ∃ (aL : Nat), ∃ (aM : Option Addr), ∃ (aN : Nat), ∃ (bN : List Value), ∃ (aA : Nat), ∃ (aB : Option Addr), ∃ (aC : Nat), ∃ (bB : List Value), ∃ (aw : Nat), ∃ (ax : Option Addr), ∃ (ay : Nat), ∃ (aO : Nat), ∃ (aP : Option Addr), ∃ (aQ : Nat), ∃ (aD : Nat), ∃ (aE : Option Addr), ∃ (aF : Nat), ∃ (bC : List Value), ∃ (aG : Nat), ∃ (aH : Option Addr), ∃ (aI : Nat), ∃ (bS : Nat), ∃ (bT : Option Addr), ∃ (bU : Nat), ∃ (bi : Nat), ∃ (bj : Option Addr), ∃ (bk : Nat), ∃ (bm : Nat), ∃ (bn : Option Addr), ∃ (bo : Nat), v = .int .i64 r0 ∧ Owns n0 w' [.blk eF (.cells #[.int .i64 q.Enum.Points, .bool q.Enum.Monoid, .slice aM aL aN, .slice aB aA aC, .slice ax aw ay, .slice aP aO aQ, .slice aE aD aF, .slice aH aG aI, .int .i64 q.Enum.Done, .map (some aJ), .slice bT bS bU, .slice bj bi bk, .slice bn bm bo] 156 (0, 0)), .row 31 1 aM aL aN bN, .row 31 1 aB aA aC bB, t1 Fl.i 3 ax aw ay q.Enum.Prefix, t1 Fl.i 3 aP aO aQ q.Enum.Last, .row 31 1 aE aD aF bC, t1 (id Fl.fl : Fl rpRule) 185 aH aG aI q.Enum.Rules, t1 Fl.str 9 bT bS bU q.words, t1 Fl.i 3 bj bi bk q.behind, t1 Fl.i 3 bn bm bo q.single, .any (mapE (fun a : List UInt8 => Value.string (gstr a)) (fun a : Int => Value.int .i64 a) aJ q.number)] A ∧ Els (Rp.sl (Rp.int .i64)) (bl [.blk eF (.cells #[.int .i64 q.Enum.Points, .bool q.Enum.Monoid, .slice aM aL aN, .slice aB aA aC, .slice ax aw ay, .slice aP aO aQ, .slice aE aD aF, .slice aH aG aI, .int .i64 q.Enum.Done, .map (some aJ), .slice bT bS bU, .slice bj bi bk, .slice bn bm bo] 156 (0, 0)), .row 31 1 aM aL aN bN, .row 31 1 aB aA aC bB, t1 Fl.i 3 ax aw ay q.Enum.Prefix, t1 Fl.i 3 aP aO aQ q.Enum.Last, .row 31 1 aE aD aF bC, t1 (id Fl.fl : Fl rpRule) 185 aH aG aI q.Enum.Rules, t1 Fl.str 9 bT bS bU q.words, t1 Fl.i 3 bj bi bk q.behind, t1 Fl.i 3 bn bm bo q.single, .any (mapE (fun a : List UInt8 => Value.string (gstr a)) (fun a : Int => Value.int .i64 a) aJ q.number)] ++ A) w' bN q.Enum.Gens ∧ Els (Rp.sl (Rp.int .i64)) (bl [.blk eF (.cells #[.int .i64 q.Enum.Points, .bool q.Enum.Monoid, .slice aM aL aN, .slice aB aA aC, .slice ax aw ay, .slice aP aO aQ, .slice aE aD aF, .slice aH aG aI, .int .i64 q.Enum.Done, .map (some aJ), .slice bT bS bU, .slice bj bi bk, .slice bn bm bo] 156 (0, 0)), .row 31 1 aM aL aN bN, .row 31 1 aB aA aC bB, t1 Fl.i 3 ax aw ay q.Enum.Prefix, t1 Fl.i 3 aP aO aQ q.Enum.Last, .row 31 1 aE aD aF bC, t1 (id Fl.fl : Fl rpRule) 185 aH aG aI q.Enum.Rules, t1 Fl.str 9 bT bS bU q.words, t1 Fl.i 3 bj bi bk q.behind, t1 Fl.i 3 bn bm bo q.single, .any (mapE (fun a : List UInt8 => Value.string (gstr a)) (fun a : Int => Value.int .i64 a) aJ q.number)] ++ A) w' bB q.Enum.Elems ∧ Els (Rp.sl (Rp.int .i64)) (bl [.blk eF (.cells #[.int .i64 q.Enum.Points, .bool q.Enum.Monoid, .slice aM aL aN, .slice aB aA aC, .slice ax aw ay, .slice aP aO aQ, .slice aE aD aF, .slice aH aG aI, .int .i64 q.Enum.Done, .map (some aJ), .slice bT bS bU, .slice bj bi bk, .slice bn bm bo] 156 (0, 0)), .row 31 1 aM aL aN bN, .row 31 1 aB aA aC bB, t1 Fl.i 3 ax aw ay q.Enum.Prefix, t1 Fl.i 3 aP aO aQ q.Enum.Last, .row 31 1 aE aD aF bC, t1 (id Fl.fl : Fl rpRule) 185 aH aG aI q.Enum.Rules, t1 Fl.str 9 bT bS bU q.words, t1 Fl.i 3 bj bi bk q.behind, t1 Fl.i 3 bn bm bo q.single, .any (mapE (fun a : List UInt8 => Value.string (gstr a)) (fun a : Int => Value.int .i64 a) aJ q.number)] ++ A) w' bC q.Enum.Right ∧ Fr (bl [.blk eF (.cells #[.int .i64 a0.Enum.Points, .bool a0.Enum.Monoid, .slice bz bx bA, .slice bE bD bF, .slice bg bc bh, .slice bP bO bQ, .slice a9 a8 ba, .slice bH bG bI, .int .i64 a0.Enum.Done, .map (some aJ), .slice cL cK cM, .slice cq cp cv, .slice cf ce cg] 156 (0, 0)), .row 31 1 bz bx bA cz, .row 31 1 bE bD bF cQ, t1 Fl.i 3 bg bc bh a0.Enum.Prefix, t1 Fl.i 3 bP bO bQ a0.Enum.Last, .row 31 1 a9 a8 ba co, t1 (id Fl.fl : Fl rpRule) 185 bH bG bI a0.Enum.Rules, t1 Fl.str 9 cL cK cM a0.words, t1 Fl.i 3 cq cp cv a0.behind, t1 Fl.i 3 cf ce cg a0.single, .any (mapE (fun a : List UInt8 => Value.string (gstr a)) (fun a : Int => Value.int .i64 a) aJ a0.number)]) w0 (bl [.blk eF (.cells #[.int .i64 q.Enum.Points, .bool q.Enum.Monoid, .slice aM aL aN, .slice aB aA aC, .slice ax aw ay, .slice aP aO aQ, .slice aE aD aF, .slice aH aG aI, .int .i64 q.Enum.Done, .map (some aJ), .slice bT bS bU, .slice bj bi bk, .slice bn bm bo] 156 (0, 0)), .row 31 1 aM aL aN bN, .row 31 1 aB aA aC bB, t1 Fl.i 3 ax aw ay q.Enum.Prefix, t1 Fl.i 3 aP aO aQ q.Enum.Last, .row 31 1 aE aD aF bC, t1 (id Fl.fl : Fl rpRule) 185 aH aG aI q.Enum.Rules, t1 Fl.str 9 bT bS bU q.words, t1 Fl.i 3 bj bi bk q.behind, t1 Fl.i 3 bn bm bo q.single, .any (mapE (fun a : List UInt8 => Value.string (gstr a)) (fun a : Int => Value.int .i64 a) aJ q.number)]) w' ∧ K r0 q) := by
 refine CallsV.of (l := [.pointer (some ⟨eF, 0, none⟩)]) func133 rfl ntmps133 rfl ?_
 have hB := hO.frR
 unfold J0l at H
 refine au ?_
 refine zo (J0t underlying23 rfl (Els.neqW aa hO 1 rfl)) ?_
 refine smk Fl.i H hO fun w1 p4 s hO => ?_
 refine au ?_
 refine zo (J0t underlying23 rfl (Els.neqW aa.u hO 2 rfl)) ?_
 refine au ?_
 refine lv [0, 3, 4, 27, 28] hO H.2.2 (fun E (aK, d_8, d_9, km, iQ, jd, d_27, gO, dK) σ w => ∃ n14 p12 c13 iE n18 p16 c17 n22 p20 c21 n26 p24 c25 n30 p28 c29 n34 p32 c33, (fun Z => Lp n0 (bl [.blk eF (.cells #[.int .i64 a0.Enum.Points, .bool a0.Enum.Monoid, .slice bz bx bA, .slice bE bD bF, .slice bg bc bh, .slice bP bO bQ, .slice a9 a8 ba, .slice bH bG bI, .int .i64 a0.Enum.Done, .map (some aJ), .slice cL cK cM, .slice cq cp cv, .slice cf ce cg] 156 (0, 0)), .row 31 1 bz bx bA cz, .row 31 1 bE bD bF cQ, t1 Fl.i 3 bg bc bh a0.Enum.Prefix, t1 Fl.i 3 bP bO bQ a0.Enum.Last, .row 31 1 a9 a8 ba co, t1 (id Fl.fl : Fl rpRule) 185 bH bG bI a0.Enum.Rules, t1 Fl.str 9 cL cK cM a0.words, t1 Fl.i 3 cq cp cv a0.behind, t1 Fl.i 3 cf ce cg a0.single, .any (mapE (fun a : List UInt8 => Value.string (gstr a)) (fun a : Int => Value.int .i64 a) aJ a0.number)]) A w0 σ w [(29, .int .i64 (aK : Int))] Z ∧ Els (Rp.sl (Rp.int .i64)) (bl Z ++ A) w cz a0.Enum.Gens ∧ Els (Rp.sl (Rp.int .i64)) (bl Z ++ A) w iE d_9 ∧ Els (Rp.sl (Rp.int .i64)) (bl Z ++ A) w co a0.Enum.Right) (esets E [(0, t1 Fl.i 3 p4 a0.Enum.Gens.length a0.Enum.Gens.length d_8), (1, .blk eF (.cells #[.int .i64 a0.Enum.Points, .bool a0.Enum.Monoid, .slice bz bx bA, .slice p12 n14 c13, .slice p16 n18 c17, .slice p20 n22 c21, .slice a9 a8 ba, .slice p24 n26 c25, .int .i64 a0.Enum.Done, .map (some aJ), .slice p28 n30 c29, .slice p32 n34 c33, .slice cf ce cg] 156 (0, 0))), (3, .row 31 1 p12 n14 c13 iE), (4, t1 Fl.i 3 p16 n18 c17 km), (5, t1 Fl.i 3 p20 n22 c21 iQ), (7, t1 (id Fl.fl : Fl rpRule) 185 p24 n26 c25 jd), (8, t1 Fl.str 9 p28 n30 c29 d_27), (9, t1 Fl.i 3 p32 n34 c33 gO), (11, .any (mapE (fun a : List UInt8 => Value.string (gstr a)) (fun a : Int => Value.int .i64 a) aJ dK))])) ⟨_, _, _, _, _, _, _, _, _, _, _, _, _, _, _, _, _, _, _, ⟨agr, hO, fr⟩, aa.u, kl.u, ao.u⟩ ?_
 refine fun X1 => p1 fun aK => p1 fun d_8 => p1 fun d_9 => p1 fun km => p1 fun iQ => p3 fun jd d_27 gO dK => fun H hX1 σ w6 hk => e4 fun n14 p12 c13 iE => e4 fun n18 p16 c17 n22 => e4 fun p20 c21 n26 p24 => e4 fun c25 n30 p28 c29 => e3 fun n34 p32 c33 => d1 fun hL => d2 fun aa cY ao => lh hk (fun hO hB => ?_) hL
 dsimp only [esets, sS, sZ] at hO hB aa cY ao
 dsimp only at H
 revert hO; repeat (rename Owns .. => q; clear q)
 intro hO; repeat (rename Sq .. => q; clear q)
 refine scm H (fun h36 H => ?_) fun h36 H => ?_
 ·refine au ?_
  obtain ⟨h37, H⟩ := H
  obtain ⟨h38, H⟩ := H
  refine zo (J04 underlying23 ti31 rfl rfl h37 (ltn (Els.neqW aa hO 2 rfl) h38) (Els.psomeW aa hO 2 rfl h37 h38)) ?_
  have zz := oldSl 2 hO rfl aa h37 h38
  obtain ⟨p39, c40, l5, X0⟩ := zz
  refine zs (X0 underlying31 rfl rfl) ?_
  refine au ?_
  obtain ⟨h43, H⟩ := H
  obtain ⟨h44, H⟩ := H
  refine zo (J04 underlying23 ti31 rfl rfl h43 (ltn (Els.neqW cY hO 3 rfl) h44) (Els.psomeW cY hO 3 rfl h43 h44)) ?_
  have zz := oldSl 3 hO rfl cY h43 h44
  obtain ⟨p45, c46, Ei, Ya⟩ := zz
  refine zs (Ya underlying31 rfl rfl) ?_
  refine au ?_
  refine zcr (J02 body158 rfl (J4t hO.lt Ei l5 H)) fun _ w50 => e3 fun r49 Bo Bp => sc0 hO fun s hO => d1 fun kY H => ?_
  refine au ?_
  refine drs 0 [q0, q0, q0, q1, q0, q2, q1, q0, q0, q0, q0, q0] hO fun w51 s hO => ?_
  refine au ?_
  refine zcq rfl (J02 body157 rfl (J0a hO.lt kY.u H)) fun _ w53 => e1 fun r52 => sq0 hO fun s hO => d1 fun acp H => ?_
  by_cases h54 : mhas dK r52 = true
  ·refine GoQ.stable rfl (olookT (a := r52) (MK.str underlying9) 11 hO rfl underlying154 rfl rfl h54) rfl rfl ?_
   refine sxl1 8 hO (ifp h54 H).1 (ifp h54 H).2.1 ?_
   have hle55 := t1le 8 hO (ifp h54 H).1 (ifp h54 H).2.1
   refine au ?_
   have h56 := (ifp h54 H).1
   have h57 := (ifp h54 H).2.1
   replace H := (ifp h54 H).2.2
   obtain ⟨h58, H⟩ := H
   refine zo (J03 rfl rfl (wrap_i64 h58)) ?_
   refine zo (J1Y underlying3 underlying21 rfl rfl) ?_
   obtain ⟨h59, H⟩ := H
   obtain ⟨h60, H⟩ := H
   refine zo (J4m underlying21 underlying9 rfl h59 h60) ?_
   obtain ⟨h61, H⟩ := H
   refine zo (J08 rfl rfl h61) ?_
   refine sxl1 8 hO H.1 H.2.1 ?_
   have hle62 := t1le 8 hO H.1 H.2.1
   have h63 := H.1
   have h64 := H.2.1
   refine scm H.2.2 (fun h65 H => ?_) fun h65 H => ?_
   ·refine six1 0 hO H.1 H.2.1 ?_
    refine sst (u := (mgt dK r52)) 0 hO H.1 H.2.1 fun w66 s hO => ?_
    refine sinc (natbd h36 aa.bd) ?_
    refine au ?_
    exact hX1 _ H.2.2 _ _ agr ⟨_, _, _, _, _, _, _, _, _, _, _, _, _, _, _, _, _, _, _, ⟨agr, hO, fr⟩, aa.u, cY.u, ao.u⟩
   refine six1 9 hO H.1 H.2.1 ?_
   refine sld1 9 hO H.1 H.2.1 ?_
   refine au ?_
   refine GoR.inl (vs := [.pointer (some ⟨eF, 0, none⟩), .int .i64 (ix gO a0.Enum.Done), .int .i64 (aK : Int)]) (caps := []) rfl rfl body160 func160 rfl ntmps160 rfl rfl rfl ?_
   intro RhR67 hR67
   refine au ?_
   refine GoR.inl (vs := [.pointer (some ⟨eF, 0, none⟩), .int .i64 (ix gO a0.Enum.Done), .int .i64 (aK : Int)]) (caps := []) rfl rfl body159 func159 rfl ntmps159 rfl rfl rfl ?_
   intro RhR68 hR68
   refine scm H.2.2 (fun h69 H => ?_) fun h69 H => ?_
   ·refine sxl1 10 hO H.1 H.2.1 ?_
    refine au ?_
    refine Go1.ret1V func159 rfl (show _ = .int .i64 (ix a0.single (aK : Int)) from rfl) ?_
    refine hR68 _ _ ?_
    refine sxl1 4 hO H.2.2.1 H.2.2.2.1 ?_
    refine au ?_
    have h70 := H.2.2.1
    have h71 := H.2.2.2.1
    refine scm H.2.2.2.2 (fun h72 H => ?_) fun h72 H => ?_
    ·refine six1 5 hO H.1 H.2.1 ?_
     refine sld1 5 hO H.1 H.2.1 ?_
     refine au ?_
     have h73 := H.1
     have h74 := H.2.1
     refine scm H.2.2 (fun h75 H => ?_) fun h75 H => ?_
     ·refine au ?_
      refine Go1.ret1V func160 rfl (show _ = .bool true from rfl) ?_
      refine hR67 _ _ ?_
      refine au ?_
      refine drs 5 [q0, q0, q0, q0, q0, q1, q0, q0, q0, q0, q1, q0, q0, q1, q0, q2, q3, q0, q0, q0, q3] hO fun w76 s hO => ?_
      refine sxl1 8 hO H.1 H.2.1 ?_
      have hle77 := t1le 8 hO H.1 H.2.1
      refine GoQ.pure rfl (J05 underlying185 ti185 (pl := [(0, 1), (1, 1)]) (vs := [(0, .string (gstr ((ix d_27 a0.Enum.Done) ++ (chr (IntKind.i32.wrap ((97 : Int) + (aK : Int))))))), (1, .string (gstr (ix d_27 (mgt dK r52))))]) (cs := #[.string (gstr ((ix d_27 a0.Enum.Done) ++ (chr (IntKind.i32.wrap ((97 : Int) + (aK : Int)))))), .string (gstr (ix d_27 (mgt dK r52)))]) (by kernel_rfl) rfl (by kernel_rfl)) rfl rfl ?_
      refine sapF (⟨((ix d_27 a0.Enum.Done) ++ (chr (IntKind.i32.wrap ((97 : Int) + (aK : Int))))), ix d_27 (mgt dK r52)⟩ : Rule) 7 hO H.2.2 (fun _ w78 p79 c80 s hO => ?_) (hok := by exact ⟨(lenApp h61), hle77⟩)
      refine sbs 1 hO fun w81 s hO => ?_
      refine six1 0 hO H.2.2.2.1 H.2.2.2.2.1 ?_
      refine sst (u := (mgt dK r52)) 0 hO H.2.2.2.1 H.2.2.2.2.1 fun w82 s hO => ?_
      refine sinc (natbd h36 aa.bd) ?_
      refine au ?_
      exact hX1 _ H.2.2.2.2.2 _ _ agr ⟨_, _, _, _, _, _, _, _, _, _, _, _, _, _, _, _, _, _, _, ⟨agr, hO, fr⟩, aa.u, cY.u, ao.u⟩
     refine au ?_
     refine Go1.ret1V func160 rfl (show _ = .bool false from rfl) ?_
     refine hR67 _ _ ?_
     refine six1 0 hO H.1 H.2.1 ?_
     refine sst (u := (mgt dK r52)) 0 hO H.1 H.2.1 fun w83 s hO => ?_
     refine sinc (natbd h36 aa.bd) ?_
     refine au ?_
     exact hX1 _ H.2.2 _ _ agr ⟨_, _, _, _, _, _, _, _, _, _, _, _, _, _, _, _, _, _, _, ⟨agr, hO, fr⟩, aa.u, cY.u, ao.u⟩
    refine au ?_
    refine Go1.ret1V func160 rfl (show _ = .bool false from rfl) ?_
    refine hR67 _ _ ?_
    refine six1 0 hO H.1 H.2.1 ?_
    refine sst (u := (mgt dK r52)) 0 hO H.1 H.2.1 fun w84 s hO => ?_
    refine sinc (natbd h36 aa.bd) ?_
    refine au ?_
    exact hX1 _ H.2.2 _ _ agr ⟨_, _, _, _, _, _, _, _, _, _, _, _, _, _, _, _, _, _, _, ⟨agr, hO, fr⟩, aa.u, cY.u, ao.u⟩
   refine au ?_
   obtain ⟨h85, H⟩ := H
   obtain ⟨h86, H⟩ := H
   refine zo (J04 underlying23 ti31 rfl rfl h85 (ltn (Els.neqW ao.u hO 6 rfl) h86) (Els.psomeW ao.u hO 6 rfl h85 h86)) ?_
   have zz := oldSl 6 hO rfl ao.u h85 h86
   obtain ⟨p87, c88, xg, Yb⟩ := zz
   refine zs (Yb underlying31 rfl rfl) ?_
   refine sxl hO xg H.1 H.2.1 ?_
   refine au ?_
   refine Go1.ret1V func159 rfl (show _ = .int .i64 (ix (ix a0.Enum.Right (ix gO a0.Enum.Done)) (aK : Int)) from rfl) ?_
   refine hR68 _ _ ?_
   refine sxl1 4 hO H.2.2.1 H.2.2.2.1 ?_
   refine au ?_
   have h91 := H.2.2.1
   have h92 := H.2.2.2.1
   refine scm H.2.2.2.2 (fun h93 H => ?_) fun h93 H => ?_
   ·refine six1 5 hO H.1 H.2.1 ?_
    refine sld1 5 hO H.1 H.2.1 ?_
    refine au ?_
    have h94 := H.1
    have h95 := H.2.1
    refine scm H.2.2 (fun h96 H => ?_) fun h96 H => ?_
    ·refine au ?_
     refine Go1.ret1V func160 rfl (show _ = .bool true from rfl) ?_
     refine hR67 _ _ ?_
     refine au ?_
     refine drs 5 [q0, q0, q0, q0, q0, q1, q0, q0, q0, q0, q1, q0, q0, q1, q0, q2, q3, q0, q0, q0, q3] hO fun w97 s hO => ?_
     refine sxl1 8 hO H.1 H.2.1 ?_
     have hle98 := t1le 8 hO H.1 H.2.1
     refine GoQ.pure rfl (J05 underlying185 ti185 (pl := [(0, 1), (1, 1)]) (vs := [(0, .string (gstr ((ix d_27 a0.Enum.Done) ++ (chr (IntKind.i32.wrap ((97 : Int) + (aK : Int))))))), (1, .string (gstr (ix d_27 (mgt dK r52))))]) (cs := #[.string (gstr ((ix d_27 a0.Enum.Done) ++ (chr (IntKind.i32.wrap ((97 : Int) + (aK : Int)))))), .string (gstr (ix d_27 (mgt dK r52)))]) (by kernel_rfl) rfl (by kernel_rfl)) rfl rfl ?_
     refine sapF (⟨((ix d_27 a0.Enum.Done) ++ (chr (IntKind.i32.wrap ((97 : Int) + (aK : Int))))), ix d_27 (mgt dK r52)⟩ : Rule) 7 hO H.2.2 (fun _ w99 TG akA s hO => ?_) (hok := by exact ⟨(lenApp h61), hle98⟩)
     refine sbs 1 hO fun xW s hO => ?_
     refine six1 0 hO H.2.2.2.1 H.2.2.2.2.1 ?_
     refine sst (u := (mgt dK r52)) 0 hO H.2.2.2.1 H.2.2.2.2.1 fun Xe s hO => ?_
     refine sinc (natbd h36 aa.bd) ?_
     refine au ?_
     exact hX1 _ H.2.2.2.2.2 _ _ agr ⟨_, _, _, _, _, _, _, _, _, _, _, _, _, _, _, _, _, _, _, ⟨agr, hO, fr⟩, aa.u, cY.u, ao.u⟩
    refine au ?_
    refine Go1.ret1V func160 rfl (show _ = .bool false from rfl) ?_
    refine hR67 _ _ ?_
    refine six1 0 hO H.1 H.2.1 ?_
    refine sst (u := (mgt dK r52)) 0 hO H.1 H.2.1 fun xm s hO => ?_
    refine sinc (natbd h36 aa.bd) ?_
    refine au ?_
    exact hX1 _ H.2.2 _ _ agr ⟨_, _, _, _, _, _, _, _, _, _, _, _, _, _, _, _, _, _, _, ⟨agr, hO, fr⟩, aa.u, cY.u, ao.u⟩
   refine au ?_
   refine Go1.ret1V func160 rfl (show _ = .bool false from rfl) ?_
   refine hR67 _ _ ?_
   refine six1 0 hO H.1 H.2.1 ?_
   refine sst (u := (mgt dK r52)) 0 hO H.1 H.2.1 fun rX s hO => ?_
   refine sinc (natbd h36 aa.bd) ?_
   refine au ?_
   exact hX1 _ H.2.2 _ _ agr ⟨_, _, _, _, _, _, _, _, _, _, _, _, _, _, _, _, _, _, _, ⟨agr, hO, fr⟩, aa.u, cY.u, ao.u⟩
  refine GoQ.stable rfl (olookF (a := r52) (MK.str underlying9) 11 hO rfl underlying154 ti3 rfl rfl h54) rfl rfl ?_
  refine sxl1 8 hO (ifn h54 H).1 (ifn h54 H).2.1 ?_
  have hle106 := t1le 8 hO (ifn h54 H).1 (ifn h54 H).2.1
  refine au ?_
  have oW := (ifn h54 H).1
  have F6 := (ifn h54 H).2.1
  replace H := (ifn h54 H).2.2
  obtain ⟨Yc, H⟩ := H
  refine zo (J03 rfl rfl (wrap_i64 Yc)) ?_
  refine zo (J1Y underlying3 underlying21 rfl rfl) ?_
  obtain ⟨Yd, H⟩ := H
  obtain ⟨jY, H⟩ := H
  refine zo (J4m underlying21 underlying9 rfl Yd jY) ?_
  obtain ⟨kc, H⟩ := H
  refine zo (J08 rfl rfl kc) ?_
  refine au ?_
  refine zo (J0t underlying23 rfl (Els.neqW cY.u hO 3 rfl)) ?_
  refine scm H (fun iu H => ?_) fun iu H => ?_
  ·refine au ?_
   refine sdr [0] hO fun s hO => ?_
   refine Go1.ret1 func133 rfl ⟨_, (⟨(⟨a0.Enum.Points, a0.Enum.Monoid, a0.Enum.Gens, d_9, km, iQ, a0.Enum.Right, jd, a0.Enum.Done⟩ : Enum), dK, d_27, gO, a0.single⟩ : run), _, _, _, _, _, _, _, _, _, _, _, _, _, _, _, _, _, _, _, _, _, _, _, _, _, _, _, _, _, _, er, hO, aa.u, cY.u, ao.u, fr, H⟩
  refine sxl1 9 hO H.1 H.2.1 ?_
  refine au ?_
  refine GoR.inl (vs := [.pointer (some ⟨eF, 0, none⟩), .int .i64 (ix gO a0.Enum.Done), .int .i64 (aK : Int)]) (caps := []) rfl rfl body159 func159 rfl ntmps159 rfl rfl rfl ?_
  intro RhR114 hR114
  refine scm H.2.2 (fun xX H => ?_) fun xX H => ?_
  ·refine sxl1 10 hO H.1 H.2.1 ?_
   refine au ?_
   refine Go1.ret1V func159 rfl (show _ = .int .i64 (ix a0.single (aK : Int)) from rfl) ?_
   refine hR114 _ _ ?_
   refine GoR.inl (vs := [.pointer (some ⟨eF, 0, none⟩), .slice Bo r49.length Bp, .int .i64 a0.Enum.Done, .int .i64 (aK : Int), .string (gstr ((ix d_27 a0.Enum.Done) ++ (chr (IntKind.i32.wrap ((97 : Int) + (aK : Int)))))), .int .i64 (ix a0.single (aK : Int))]) (caps := []) rfl rfl body155 func155 rfl ntmps155 rfl rfl rfl ?_
   intro RhR116 hR116
   refine au ?_
   refine zo (J0t underlying23 rfl (Els.neqW cY.u hO 3 rfl)) ?_
   refine au ?_
   refine drw 1 [(0, q0), (1, q0), (2, q0), (3, q1), (4, q0), (6, q0), (5, q2), (7, q3)] hO fun sI s hO => ?_
   refine au ?_
   refine zcq rfl (J02 body157 rfl (J0a hO.lt kY.u H.2.2)) fun _ xa => e1 fun l9 => sq0 hO fun s hO => d1 fun acj H => ?_
   have zz := omapUpd (MK.str underlying9) 11 hO rfl underlying154 l9 (d_9.length : Int)
   obtain ⟨nT, oX, G8⟩ := zz
   refine GoQ.last rfl (G8 (by exact rfl) (by exact rfl) (by exact rfl)) rfl rfl ?_
   refine nst oX fun s hO => ?_
   refine au ?_
   have zz := obu underlying23 ti31 hO (kY.u) rfl
   obtain ⟨vz, kn, G9, k8, adL, Ha⟩ := zz
   refine zg (Ha rfl) ?_
   refine nst G9 fun s hO => ?_
   refine sfzR 0 hO k8 fun s hO kz mH => ?_
   obtain ⟨l7, H⟩ := H
   have zz := oapp underlying23 ti31 rfl 3 hO rfl cY.u kz mH l7 (by decide)
   obtain ⟨akB, akC, akD, adM, Hb, jA, Hc⟩ := zz
   dsimp only [sS, sZ] at jA
   refine zg (Hc (by exact rfl) (by exact rfl)) ?_
   refine nst Hb fun s hO => ?_
   refine sbs 1 hO fun Ye s hO => ?_
   refine au ?_
   refine sap1 a0.Enum.Done 4 hO H fun _ akE akF akG s hO => ?_
   refine sbs 1 hO fun Gz s hO => ?_
   refine au ?_
   refine sap1 ((aK : Int)) 5 hO H.2 fun _ WA WB WC s hO => ?_
   refine sbs 1 hO fun Yf s hO => ?_
   refine au ?_
   refine sap1 (((ix d_27 a0.Enum.Done) ++ (chr (IntKind.i32.wrap ((97 : Int) + (aK : Int)))))) 8 hO H.2.2 (fun _ Yg Yh akH s hO => ?_) (hR := by exact fun _ _ => ⟨rfl, (lenApp kc)⟩)
   refine sbs 1 hO fun Gb s hO => ?_
   refine au ?_
   refine sap1 ((ix a0.single (aK : Int))) 9 hO H.2.2.2 fun _ vU Vz VA s hO => ?_
   refine sbs 1 hO fun Yi s hO => ?_
   refine au ?_
   refine Go1.ret1V func155 rfl (show _ = .int .i64 (d_9.length : Int) from rfl) ?_
   refine hR116 _ _ ?_
   refine six1 0 hO H.2.2.2.2.1 H.2.2.2.2.2.1 ?_
   refine sst (u := (d_9.length : Int)) 0 hO H.2.2.2.2.1 H.2.2.2.2.2.1 fun akI s hO => ?_
   refine sinc (natbd h36 aa.bd) ?_
   refine au ?_
   exact hX1 _ H.2.2.2.2.2.2 _ _ agr ⟨_, _, _, _, _, _, _, _, _, _, _, _, _, _, _, _, _, _, _, ⟨agr, hO, fr⟩, aa.u, jA.u, ao.u⟩
  refine au ?_
  obtain ⟨h159, H⟩ := H
  obtain ⟨xY, H⟩ := H
  refine zo (J04 underlying23 ti31 rfl rfl h159 (ltn (Els.neqW ao.u hO 6 rfl) xY) (Els.psomeW ao.u hO 6 rfl h159 xY)) ?_
  have zz := oldSl 6 hO rfl ao.u h159 xY
  obtain ⟨sf, akJ, sP, OJ⟩ := zz
  refine zs (OJ underlying31 rfl rfl) ?_
  refine sxl hO sP H.1 H.2.1 ?_
  refine au ?_
  refine Go1.ret1V func159 rfl (show _ = .int .i64 (ix (ix a0.Enum.Right (ix gO a0.Enum.Done)) (aK : Int)) from rfl) ?_
  refine hR114 _ _ ?_
  refine GoR.inl (vs := [.pointer (some ⟨eF, 0, none⟩), .slice Bo r49.length Bp, .int .i64 a0.Enum.Done, .int .i64 (aK : Int), .string (gstr ((ix d_27 a0.Enum.Done) ++ (chr (IntKind.i32.wrap ((97 : Int) + (aK : Int)))))), .int .i64 (ix (ix a0.Enum.Right (ix gO a0.Enum.Done)) (aK : Int))]) (caps := []) rfl rfl body155 func155 rfl ntmps155 rfl rfl rfl ?_
  intro RhR165 hR165
  refine au ?_
  refine zo (J0t underlying23 rfl (Els.neqW cY.u hO 3 rfl)) ?_
  refine au ?_
  refine drw 1 [(0, q0), (1, q0), (2, q0), (3, q1), (4, q0), (6, q0), (5, q2), (7, q3)] hO fun akK s hO => ?_
  refine au ?_
  refine zcq rfl (J02 body157 rfl (J0a hO.lt kY.u H.2.2)) fun _ qv => e1 fun r167 => sq0 hO fun s hO => d1 fun ack H => ?_
  have zz := omapUpd (MK.str underlying9) 11 hO rfl underlying154 r167 (d_9.length : Int)
  obtain ⟨Yj, He, Hf⟩ := zz
  refine GoQ.last rfl (Hf (by exact rfl) (by exact rfl) (by exact rfl)) rfl rfl ?_
  refine nst He fun s hO => ?_
  refine au ?_
  have zz := obu underlying23 ti31 hO (kY.u) rfl
  obtain ⟨GD, ki, Hg, OK, adN, Hh⟩ := zz
  refine zg (Hh rfl) ?_
  refine nst Hg fun s hO => ?_
  refine sfzR 0 hO OK fun s hO sj sk => ?_
  obtain ⟨Yk, H⟩ := H
  have zz := oapp underlying23 ti31 rfl 3 hO rfl cY.u sj sk Yk (by decide)
  obtain ⟨vD, ko, kq, kS, Hi, Bq, Hj⟩ := zz
  dsimp only [sS, sZ] at Bq
  refine zg (Hj (by exact rfl) (by exact rfl)) ?_
  refine nst Hi fun s hO => ?_
  refine sbs 1 hO fun Xz s hO => ?_
  refine au ?_
  refine sap1 a0.Enum.Done 4 hO H fun _ xd Yl akL s hO => ?_
  refine sbs 1 hO fun Ym s hO => ?_
  refine au ?_
  refine sap1 ((aK : Int)) 5 hO H.2 fun _ Gd akM akN s hO => ?_
  refine sbs 1 hO fun Cy s hO => ?_
  refine au ?_
  refine sap1 (((ix d_27 a0.Enum.Done) ++ (chr (IntKind.i32.wrap ((97 : Int) + (aK : Int)))))) 8 hO H.2.2 (fun _ vY VC VD s hO => ?_) (hR := by exact fun _ _ => ⟨rfl, (lenApp kc)⟩)
  refine sbs 1 hO fun Yn s hO => ?_
  refine au ?_
  refine sap1 ((ix (ix a0.Enum.Right (ix gO a0.Enum.Done)) (aK : Int))) 9 hO H.2.2.2 fun _ Gg akO akP s hO => ?_
  refine sbs 1 hO fun akQ s hO => ?_
  refine au ?_
  refine Go1.ret1V func155 rfl (show _ = .int .i64 (d_9.length : Int) from rfl) ?_
  refine hR165 _ _ ?_
  refine six1 0 hO H.2.2.2.2.1 H.2.2.2.2.2.1 ?_
  refine sst (u := (d_9.length : Int)) 0 hO H.2.2.2.2.1 H.2.2.2.2.2.1 fun Yo s hO => ?_
  refine sinc (natbd h36 aa.bd) ?_
  refine au ?_
  exact hX1 _ H.2.2.2.2.2.2 _ _ agr ⟨_, _, _, _, _, _, _, _, _, _, _, _, _, _, _, _, _, _, _, ⟨agr, hO, fr⟩, aa.u, Bq.u, ao.u⟩
 refine au ?_
 refine sfz 0 hO fun s hO sQ sR => ?_
 have zz := obu underlying23 ti31 hO (sQ) sR
 obtain ⟨akR, akS, Hk, OL, adO, o6⟩ := zz
 refine zg (o6 rfl) ?_
 refine nst Hk fun s hO => ?_
 refine sfzR 0 hO OL fun s hO qA Ak => ?_
 obtain ⟨Yp, H⟩ := H
 have zz := oapp underlying23 ti31 rfl 5 hO rfl ao.u qA Ak Yp (by decide)
 obtain ⟨Yq, Yr, akT, adP, Hl, dV, Hm⟩ := zz
 dsimp only [sS, sZ] at dV
 refine zg (Hm (by exact rfl) (by exact rfl)) ?_
 refine nst Hl fun s hO => ?_
 refine sbs 0 hO fun akU s hO => ?_
 refine au ?_
 obtain ⟨je, H⟩ := H
 refine zo (J03 rfl rfl (wrap_i64 je)) ?_
 refine sbs 0 hO fun rP s hO => ?_
 refine au ?_
 refine Go1.ret1 func133 rfl ⟨_, (⟨(⟨a0.Enum.Points, a0.Enum.Monoid, a0.Enum.Gens, d_9, km, iQ, a0.Enum.Right ++ ([d_8]), jd, (a0.Enum.Done + (1 : Int))⟩ : Enum), dK, d_27, gO, a0.single⟩ : run), _, _, _, _, _, _, _, _, _, _, _, _, _, _, _, _, _, _, _, _, _, _, _, _, _, _, _, _, _, _, er, hO, aa.u, cY.u, dV.u, fr, H⟩
theorem body132 : Body prog 132 := ⟨f132, func132, rfl, by kernel_rfl⟩
theorem body101 : Body prog 101 := ⟨f101, func101, rfl, by kernel_rfl⟩
theorem J20 {dQ : Option Addr} {dR : Nat} {gens : List (List Int)} {monoid : Bool} (hA : HA0 A w0) (dI : ISs A w0 dQ dR gens) {K : Enum → Int → Prop} (H : J0r gens monoid K) :
    CallsV prog 101 #[.slice dQ gens.length dR, .bool monoid] w0 (fun v w' => ∃ (r0 : Enum), ∃ (r1 : Int), ∃ (dA : Option Addr), ∃ (dB : Nat), ∃ (c8 : Option Addr), ∃ (db : Nat), ∃ (cE : Option Addr), ∃ (cG : Nat), ∃ (dC : Option Addr), ∃ (dD : Nat), ∃ (de : Option Addr), ∃ (dg : Nat), ∃ (dh : Option Addr), ∃ (di : Nat), v = .tuple #[.agg #[.int .i64 r0.Points, .bool r0.Monoid, .slice dA r0.Gens.length dB, .slice c8 r0.Elems.length db, .slice cE r0.Prefix.length cG, .slice dC r0.Last.length dD, .slice de r0.Right.length dg, .slice dh r0.Rules.length di, .int .i64 r0.Done], .int .i64 r1] ∧ Same w0 w' ∧ ISs A w' dA dB r0.Gens ∧ ISs A w' c8 db r0.Elems ∧ ISi A w' cE cG r0.Prefix ∧ ISi A w' dC dD r0.Last ∧ ISs A w' de dg r0.Right ∧ ISl (rpRule) A w' dh di r0.Rules ∧ K r0 r1) := by
 refine cal hA func101 ntmps101 fun hO hB => ?_
 unfold J0r at H
 refine sal hO fun w1 B2 s hO => ?_
 refine au ?_
 refine zcr (J02 body131 rfl (J3O hO.lt dI.u H)) fun _ w6 hc => Or.elim hc ?_ ?_
 ·refine e1 fun r5 => d2 fun hv hs H => ?_
  subst hv; clear hc
  replace H := oElimN H
  refine sm hO hs fun s hO => ?_
  refine scm H (fun h7 H => ?_) fun h7 H => ?_
  ·refine au ?_
   refine lv [4, 6] hO H (fun E _ σ w => Lo A w0 σ w [] E) ⟨agr, hO, fr⟩ ?_
   refine fun X1 => fun _ => fun H hX1 σ w8 hk => lh hk fun hO hB => ?_
   revert hO; repeat (rename Owns .. => q; clear q)
   intro hO; repeat (rename Sq .. => q; clear q)
   refine au ?_
   refine GoR.inl (vs := [.pointer none]) (caps := []) rfl rfl body132 func132 rfl ntmps132 rfl rfl rfl ?_
   intro RhR9 hR9
   refine au ?_
   refine drs 0 [q0, q0, q0, q0, q1, q0, q0, q0, q0, q1, q0, q0, q0] hO fun w10 s hO => ?_
   refine au ?_
   exact (H).elim
  refine au ?_
  refine zo (J05 underlying123 ti123 (pl := [(0, 1), (1, 1), (2, 1), (3, 1), (4, 1), (5, 1), (6, 1), (7, 1), (8, 1)]) (vs := []) (cs := #[.int .i64 (0 : Int), .bool false, .slice none 0 0, .slice none 0 0, .slice none 0 0, .slice none 0 0, .slice none 0 0, .slice none 0 0, .int .i64 (0 : Int)]) (by kernel_rfl) rfl (by kernel_rfl)) ?_
  refine sba 0 hO fun w11 s hO => ?_
  refine au ?_
  refine Go1.retC2 func101 rfl rfl (rlb 0 hO) ⟨((⟨(0 : Int), false, ([] : List (List Int)), ([] : List (List Int)), ([] : List Int), ([] : List Int), ([] : List (List Int)), ([] : List Rule), (0 : Int)⟩ : Enum)), _, _, _, _, _, _, _, _, _, _, _, _, _, er, frs, (ISl.null _ _ _), (ISl.null _ _ _), (ISl.null _ _ _), (ISl.null _ _ _), (ISl.null _ _ _), (ISl.null _ _ _), H⟩
 refine e4 fun r4 r5 Hn B1 => e4 fun B3 B6 Br Bs => e4 fun Bt Bu x4 x5 => e4 fun x6 x7 B9 Ca => e4 fun Cb Bv Bw Bx => e4 fun x8 By Bz BA => e4 fun jK OM ON OO => e4 fun I5 I6 I7 I8 => e2 fun I9 Ja => d1 fun hv => d1 fun hs => d4 fun hN fN fF fG H => ?_
 subst hv; clear hc
 refine smr hO hs hN fun s hO c => ?_
 replace H := oElimS H
 replace fN := fN.ch c
 replace fF := fF.ch c
 replace fG := fG.ch c
 refine scm H (fun h23 H => ?_) fun h23 H => ?_
 ·refine au ?_
  refine lv [4, 6] hO H (fun E (k9, ld, k2_27, d_28, d_34, d_40, d_44, d_48, sT, d_58, x9, ya, sU) σ w => ∃ n33 p31 c32 yb n39 p37 c38 o8 n43 p41 c42 n47 p45 c46 n53 p51 c52 yc n57 p55 c56 n61 p59 c60 n65 p63 c64 n69 p67 c68, (fun Z => Lo A w0 σ w [] Z ∧ Els (Rp.sl (Rp.int .i64)) (bl Z ++ A) w yb d_28 ∧ Els (Rp.sl (Rp.int .i64)) (bl Z ++ A) w o8 d_34 ∧ Els (Rp.sl (Rp.int .i64)) (bl Z ++ A) w yc d_48) (esets E [(0, .blk Hn (.cells #[.int .i64 k9, .bool ld, .slice p31 n33 c32, .slice p37 n39 c38, .slice p41 n43 c42, .slice p45 n47 c46, .slice p51 n53 c52, .slice p55 n57 c56, .int .i64 k2_27, .map (some jK), .slice p59 n61 c60, .slice p63 n65 c64, .slice p67 n69 c68] 156 (0, 0))), (1, .row 31 1 p31 n33 c32 yb), (2, .row 31 1 p37 n39 c38 o8), (3, t1 Fl.i 3 p41 n43 c42 d_40), (4, t1 Fl.i 3 p45 n47 c46 d_44), (5, .row 31 1 p51 n53 c52 yc), (6, t1 (id Fl.fl : Fl rpRule) 185 p55 n57 c56 sT), (7, t1 Fl.str 9 p59 n61 c60 d_58), (8, t1 Fl.i 3 p63 n65 c64 x9), (9, t1 Fl.i 3 p67 n69 c68 ya), (10, .any (mapE (fun a : List UInt8 => Value.string (gstr a)) (fun a : Int => Value.int .i64 a) jK sU))])) ⟨_, _, _, _, _, _, _, _, _, _, _, _, _, _, _, _, _, _, _, _, _, _, _, _, _, _, _, _, _, _, ⟨agr, hO, fr⟩, fN.u, fF.u, fG.u⟩ ?_
  refine fun X2 => p1 fun k9 => p1 fun ld => p1 fun k2_27 => p1 fun d_28 => p1 fun d_34 => p1 fun d_40 => p1 fun d_44 => p1 fun d_48 => p1 fun sT => p3 fun d_58 x9 ya sU => fun H hX2 σ w24 hk => e4 fun n33 p31 c32 yb => e4 fun n39 p37 c38 o8 => e4 fun n43 p41 c42 n47 => e4 fun p45 c46 n53 p51 => e4 fun c52 yc n57 p55 => e4 fun c56 n61 p59 c60 => e4 fun n65 p63 c64 n69 => e2 fun p67 c68 => d1 fun hL => d2 fun fH sV nB => lh hk (fun hO hB => ?_) hL
  dsimp only [esets, sS, sZ] at hO hB fH sV nB
  dsimp only at H
  revert hO; repeat (rename Owns .. => q; clear q)
  intro hO; repeat (rename Sq .. => q; clear q)
  refine au ?_
  refine GoR.inl (vs := [.pointer (some ⟨Hn, 0, none⟩)]) (caps := []) rfl rfl body132 func132 rfl ntmps132 rfl rfl rfl ?_
  intro RhR71 hR71
  refine au ?_
  refine drs 0 [q0, q0, q0, q0, q1, q0, q0, q0, q0, q1, q0, q0, q0] hO fun w72 s hO => ?_
  refine au ?_
  refine GoQ.pure rfl (J0t underlying23 rfl (Els.neqW sV.u hO 2 rfl)) rfl rfl ?_
  refine scm H (fun h73 H => ?_) fun h73 H => ?_
  ·refine au ?_
   refine Go1.ret1V func132 rfl (show _ = .bool true from rfl) ?_
   refine hR71 _ _ ?_
   refine au ?_
   refine zs (J5P (vs := [.int .i64 k9, .bool ld, .slice p31 n33 c32, .slice p37 n39 c38, .slice p41 n43 c42, .slice p45 n47 c46, .slice p51 n53 c52, .slice p55 n57 c56, .int .i64 k2_27]) (i := 0) 0 hO rfl rfl underlying123 rfl ti123 rfl) ?_
   refine sba 11 hO fun w74 s hO => ?_
   refine au ?_
   refine sfzR 1 hO fH.u fun s hO vn vo => ?_
   refine sfzR 1 hO sV.u fun s hO Ys Yt => ?_
   refine sfz 1 hO fun s hO o5 sD => ?_
   refine sfz 1 hO fun s hO oM xl => ?_
   refine sfzR 1 hO nB.u fun s hO Yu Yv => ?_
   refine sfz 1 hO fun s hO Yw yd => ?_
   refine Go1.retC2 func101 rfl rfl (rlb 5 hO) ⟨((⟨k9, ld, d_28, d_34, d_40, d_44, d_48, sT, k2_27⟩ : Enum)), _, _, _, _, _, _, _, _, _, _, _, _, _, ?_, frs, vn.r, Ys.r, o5.r, oM.r, Yu.r, Yw.r, H⟩
   exact (congrArg (fun l => Value.tuple (List.toArray l)) (J01 (congrArg (fun l => Value.agg (List.toArray l)) (J01 rfl (J01 rfl (J01 (congrArg (fun nn => Value.slice p31 nn c32) vo) (J01 (congrArg (fun nn => Value.slice p37 nn c38) Yt) (J01 (congrArg (fun nn => Value.slice p41 nn c42) sD) (J01 (congrArg (fun nn => Value.slice p45 nn c46) xl) (J01 (congrArg (fun nn => Value.slice p51 nn c52) Yv) (J01 (congrArg (fun nn => Value.slice p55 nn c56) yd) (J01 rfl rfl)))))))))) (J01 rfl rfl)))
  refine au ?_
  refine Go1.ret1V func132 rfl (show _ = .bool false from rfl) ?_
  refine hR71 _ _ ?_
  refine au ?_
  refine sob 11 hO fun sg hO1 => ?_
  refine zcr (J02 body133 rfl (J2C (a0 := (⟨(⟨k9, ld, d_28, d_34, d_40, d_44, d_48, sT, k2_27⟩ : Enum), sU, d_58, x9, ya⟩ : run)) hO1 fH.u sV.u nB.u H)) fun _ w89 => e4 fun r87 q88 BB BC => e4 fun BD ye yf yg => e4 fun yh vg vh vi => e4 fun vj BE BG BH => e4 fun yj yk yl vk => e4 fun ym yo yr Jb => e4 fun Jc Jd Ho Hp => e4 fun Hq Hr Hs Ht => d1 fun hv => d1 fun hN90 => d4 fun fI ft fu hF91 H => ?_
  subst hv; clear sg hO1
  refine sjn hO hN90 hF91 fun s hO c => ?_
  replace fI := fI.ch c
  replace ft := ft.ch c
  replace fu := fu.ch c
  refine scm H (fun h92 H => ?_) fun h92 H => ?_
  ·refine au ?_
   exact hX2 _ H _ _ agr ⟨_, _, _, _, _, _, _, _, _, _, _, _, _, _, _, _, _, _, _, _, _, _, _, _, _, _, _, _, _, _, ⟨agr, hO, fr⟩, fI, ft, fu⟩
  refine au ?_
  refine zo (J05 underlying123 ti123 (pl := [(0, 1), (1, 1), (2, 1), (3, 1), (4, 1), (5, 1), (6, 1), (7, 1), (8, 1)]) (vs := []) (cs := #[.int .i64 (0 : Int), .bool false, .slice none 0 0, .slice none 0 0, .slice none 0 0, .slice none 0 0, .slice none 0 0, .slice none 0 0, .int .i64 (0 : Int)]) (by kernel_rfl) rfl (by kernel_rfl)) ?_
  refine sba 11 hO fun w93 s hO => ?_
  refine au ?_
  refine Go1.retC2 func101 rfl rfl (rlb 11 hO) ⟨((⟨(0 : Int), false, ([] : List (List Int)), ([] : List (List Int)), ([] : List Int), ([] : List Int), ([] : List (List Int)), ([] : List Rule), (0 : Int)⟩ : Enum)), _, _, _, _, _, _, _, _, _, _, _, _, _, er, frs, (ISl.null _ _ _), (ISl.null _ _ _), (ISl.null _ _ _), (ISl.null _ _ _), (ISl.null _ _ _), (ISl.null _ _ _), H⟩
 refine au ?_
 refine zo (J05 underlying123 ti123 (pl := [(0, 1), (1, 1), (2, 1), (3, 1), (4, 1), (5, 1), (6, 1), (7, 1), (8, 1)]) (vs := []) (cs := #[.int .i64 (0 : Int), .bool false, .slice none 0 0, .slice none 0 0, .slice none 0 0, .slice none 0 0, .slice none 0 0, .slice none 0 0, .int .i64 (0 : Int)]) (by kernel_rfl) rfl (by kernel_rfl)) ?_
 refine sba 11 hO fun w94 s hO => ?_
 refine au ?_
 refine Go1.retC2 func101 rfl rfl (rlb 11 hO) ⟨((⟨(0 : Int), false, ([] : List (List Int)), ([] : List (List Int)), ([] : List Int), ([] : List Int), ([] : List (List Int)), ([] : List Rule), (0 : Int)⟩ : Enum)), _, _, _, _, _, _, _, _, _, _, _, _, _, er, frs, (ISl.null _ _ _), (ISl.null _ _ _), (ISl.null _ _ _), (ISl.null _ _ _), (ISl.null _ _ _), (ISl.null _ _ _), H⟩
theorem body134 : Body prog 134 := ⟨f134, func134, rfl, by kernel_rfl⟩
theorem J3t {fD : Option Addr} {gJ : Nat} {s_ : List Int} {v : Int} (hA : HA0 A w0) (gK : ISi A w0 fD gJ s_) {K : Int → Prop} (H : J0X s_ v K) :
    CallsV prog 134 #[.slice fD s_.length gJ, .int .i64 v] w0 (fun v w' => ∃ (r0 : Int), v = .int .i64 r0 ∧ Same w0 w' ∧ K r0) := by
 refine cal hA func134 ntmps134 fun hO hB => ?_
 unfold J0X at H
 refine sln0 ?_
 refine au ?_
 refine lv [0, 1, 7] hO (H gK.bd) (fun E k1_2 σ w => Lo A w0 σ w [(8, .int .i64 (k1_2 : Int))] []) ⟨agr, hO, fr⟩ ?_
 refine fun X1 => fun k1_2 => fun H hX1 σ w1 hk => lh hk fun hO hB => ?_
 refine scm H (fun h3 H => ?_) fun h3 H => ?_
 ·refine sxl hO gK.u H.1 H.2.1 ?_
  have h4 := H.1
  have h5 := H.2.1
  refine scm H.2.2 (fun h6 H => ?_) fun h6 H => ?_
  ·refine au ?_
   refine Go1.ret1 func134 rfl ⟨_, er, frs, H⟩
  refine sinc (natbd h3 gK.bd) ?_
  refine au ?_
  exact hX1 _ H _ _ agr ⟨agr, hO, fr⟩
 refine au ?_
 refine Go1.ret1 func134 rfl ⟨_, er, frs, H⟩
theorem body102 : Body prog 102 := ⟨f102, func102, rfl, by kernel_rfl⟩
theorem J17 {fD : Option Addr} {gJ : Nat} {s_ : List Int} {v : Int} (hA : HA0 A w0) (gK : ISi A w0 fD gJ s_) {K : Bool → Prop} (H : J0k s_ v K) :
    CallsV prog 102 #[.slice fD s_.length gJ, .int .i64 v] w0 (fun v w' => ∃ (r0 : Bool), v = .bool r0 ∧ Same w0 w' ∧ K r0) := by
 refine cal hA func102 ntmps102 fun hO hB => ?_
 unfold J0k at H
 refine au ?_
 refine zcr (J02 body134 rfl (J3t hO.lt gK.u H)) fun _ w2 => e1 fun r1 => sc0 hO fun s hO => fun H => ?_
 refine scm H (fun h3 H => ?_) fun h3 H => ?_
 ·refine au ?_
  refine Go1.ret1 func102 rfl ⟨_, er, frs, H⟩
 refine au ?_
 refine Go1.ret1 func102 rfl ⟨_, er, frs, H⟩
theorem body103 : Body prog 103 := ⟨f103, func103, rfl, by kernel_rfl⟩
theorem J0R {mr p_f : Option Addr} {mt c_f : Nat} {p : part} {f : List Int} (hA : HA0 A w0) (uS : ISb A w0 mr mt p.final) (h_f : ISi A w0 p_f c_f f) {K : Bool → Prop} (H : J0i p f K) :
    CallsV prog 103 #[.agg #[.int .i64 p.start, .slice mr p.final.length mt, .int .i64 p.shift], .slice p_f f.length c_f] w0 (fun v w' => ∃ (r0 : Bool), v = .bool r0 ∧ Same w0 w' ∧ K r0) := by
 refine cal hA func103 ntmps103 fun hO hB => ?_
 unfold J0i at H
 refine sbx hO fun w1 B2 s hO => ?_
 refine au ?_
 refine drs 0 [q0, q1, q0, q0, q1, q0, q1, q0, q1, q0, q0, q1, q0] hO fun w4 s hO => ?_
 refine sxl hO h_f.u H.1 H.2.1 ?_
 refine au ?_
 have h5 := H.1
 have h6 := H.2.1
 replace H := H.2.2
 obtain ⟨h7, H⟩ := H
 refine GoQ.pure rfl (J73 rfl rfl (wrap_i64 h7)) rfl rfl ?_
 refine sxl hO uS.u H.1 H.2.1 ?_
 refine au ?_
 refine Go1.ret1 func103 rfl ⟨_, er, frs, H.2.2⟩
end Sg
