/- -/
import Derived.Test.YtlneebpmblkllaaVd
namespace Sg
open Go Go.RowKit Go.Proofs
set_option linter.unusedVariables false
set_option linter.unusedSimpArgs false
set_option maxRecDepth 100000
set_option maxHeartbeats 4000000
theorem body125 : Body Try.prog 125 := ⟨Try.f125, Try.func125, rfl, by kernel_rfl⟩
theorem J1F {A : List Nat} {w0 : World} {p_l : Option Addr} {c_l : Nat} {l : List Int} (hA : ∀ b ∈ A, b < w0.heap.size) (h_l : ISl (Rp.int .i64) A w0 p_l c_l l) {K : List Int → Prop} (H : J0f l K) :
    CallsV Try.prog 125 #[.slice p_l l.length c_l] w0 (fun v w' => ∃ (r0 : List Int), ∃ (cC : Option Addr), ∃ (cD : Nat), v = .slice cC r0.length cD ∧ Same w0 w' ∧ ISl (Rp.int .i64) A w' cC cD r0 ∧ K r0) := by
 refine CallsV.of (l := [.slice p_l l.length c_l]) Try.func125 rfl Try.ntmps125 rfl ?_
 have hO := Owns.start hA
 have hB := Fr.refl (bl []) w0
 unfold J0f at H
 refine au ?_
 refine sln0 ?_
 refine smk Fl.i (H h_l.bd) hO fun w1 p4 s hO => ?_
 refine au ?_
 have zz := omakeMap (fun a : Int => Value.int .i64 a) (fun a : Int => Value.int .i64 a) hO
 obtain ⟨w6, B7, wc, hs9, sO⟩ := zz
 refine zg sO ?_
 refine nst wc fun s hO => ?_
 refine au ?_
 refine sln0 ?_
 refine au ?_
 refine lw (H h_l.bd).2.2 (fun (fy, fT, nK) σ w => (fun Z => agrees σ [(3, .slice p4 l.length l.length), (4, .map (some B7)), (13, .slice p_l l.length c_l), (14, .int .i64 (l.length : Int)), (15, .int .i64 (fy : Int))] ∧ Owns w0.heap.size w Z A ∧ Fr (bl []) w0 (bl Z) w) [.any (mapE (fun a : Int => Value.int .i64 a) (fun a : Int => Value.int .i64 a) B7 fT), t1 Fl.i 3 p4 l.length l.length nK]) ⟨agr, hO, fr⟩ ?_
 refine fun X1 => p2 fun fy fT nK => fun H hX1 σ w12 => d2 fun hag hO hB => ?_
 dsimp only at H
 refine Go1.keep _ hag ?_
 revert hO; repeat (rename Owns _ _ _ _ => q; clear q)
 intro hO; repeat (rename Sq _ _ _ _ _ _ => q; clear q)
 refine au ?_
 refine scm H (fun h16 H => ?_) fun h16 H => ?_
 ·refine au ?_
  refine sxl hO h_l.u H.1 H.2.1 ?_
  refine au ?_
  have h17 := H.1
  have h18 := H.2.1
  replace H := H.2.2
  by_cases h19 : mhas fT ((ix l (fy : Int))) = true
  ·refine zs (olookT (a := (ix l (fy : Int))) (MK.int Try.underlying3) 0 hO rfl Try.underlying168 rfl rfl h19) ?_
   refine au ?_
   refine six1 1 hO (ifp h19 H).1 (ifp h19 H).2.1 ?_
   refine sst (u := (mgt fT ((ix l (fy : Int))))) 1 hO (ifp h19 H).1 (ifp h19 H).2.1 fun w20 s hO => ?_
   refine au ?_
   refine sinc (natbd h16 h_l.bd) ?_
   refine au ?_
   exact hX1 _ (ifp h19 H).2.2 _ _ ⟨agr, hO, fr⟩
  refine zs (olookF (a := (ix l (fy : Int))) (MK.int Try.underlying3) 0 hO rfl Try.underlying168 ti3 rfl rfl h19) ?_
  refine au ?_
  refine zs (omapLen 0 hO rfl Try.underlying168 rfl) ?_
  refine au ?_
  have zz := omapUpd (MK.int Try.underlying3) 0 hO rfl Try.underlying168 (ix l (fy : Int)) (fT.length : Int)
  obtain ⟨w21, ki, sP⟩ := zz
  refine zg (sP (by exact rfl) (by exact rfl) (by exact rfl)) ?_
  refine nst ki fun s hO => ?_
  refine au ?_
  refine six1 1 hO (ifn h19 H).1 (ifn h19 H).2.1 ?_
  refine sst (u := (fT.length : Int)) 1 hO (ifn h19 H).1 (ifn h19 H).2.1 fun w24 s hO => ?_
  refine au ?_
  refine sinc (natbd h16 h_l.bd) ?_
  refine au ?_
  exact hX1 _ (ifn h19 H).2.2 _ _ ⟨agr, hO, fr⟩
 refine au ?_
 refine sfz 1 hO fun s hO we wg => ?_
 refine Go1.ret1 Try.func125 rfl ⟨_, _, _, ?_, frs, we.r, H⟩
 exact (congrArg (fun nn => Value.slice p4 nn l.length) wg)
theorem body88 : Body Try.prog 88 := ⟨Try.f88, Try.func88, rfl, by kernel_rfl⟩
theorem J2m {A : List Nat} {w0 : World} {p_l : Option Addr} {c_l : Nat} {l : List Int} (hA : ∀ b ∈ A, b < w0.heap.size) (h_l : ISl (Rp.int .i64) A w0 p_l c_l l) {K : List Int → Prop} (H : J0n l K) :
    CallsV Try.prog 88 #[.slice p_l l.length c_l] w0 (fun v w' => ∃ (r0 : List Int), ∃ (cC : Option Addr), ∃ (cD : Nat), v = .slice cC r0.length cD ∧ Same w0 w' ∧ ISl (Rp.int .i64) A w' cC cD r0 ∧ K r0) := by
 refine CallsV.of (l := [.slice p_l l.length c_l]) Try.func88 rfl Try.ntmps88 rfl ?_
 have hO := Owns.start hA
 have hB := Fr.refl (bl []) w0
 unfold J0n at H
 refine au ?_
 refine sln0 ?_
 refine scm (H h_l.bd) (fun h1 H => ?_) fun h1 H => ?_
 ·refine au ?_
  refine Go1.ret1 Try.func88 rfl ⟨_, _, _, ?_, frs, (ISl.null _ _ _), H⟩
  exact rfl
 refine au ?_
 refine zcr (J00 body125 rfl (J1F hO.lt h_l.u H)) fun _ w3 => e3 fun r2 AB AC => sc0 hO fun s hO => d1 fun wh H => ?_
 refine au ?_
 refine Go1.ret1 Try.func88 rfl ⟨_, _, _, ?_, frs, wh.r, H⟩
 exact rfl
end Sg
