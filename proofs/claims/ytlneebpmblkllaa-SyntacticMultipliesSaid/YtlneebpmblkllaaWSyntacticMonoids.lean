/- -/
import Derived.Test.YtlneebpmblkllaaVd
namespace Sg
open Go Go.RowKit Go.Proofs
set_option linter.unusedVariables false
set_option linter.unusedSimpArgs false
set_option maxRecDepth 100000
set_option maxHeartbeats 4000000
theorem body59 : Body Try.prog 59 := ⟨Try.f59, Try.func59, rfl, by kernel_rfl⟩
theorem J1B {A : List Nat} {w0 : World} {letters : Int} (hA : ∀ b ∈ A, b < w0.heap.size) {K : Bool → Prop} (H : J0l letters K) :
    CallsV Try.prog 59 #[.int .i64 letters] w0 (fun v w' => ∃ (r0 : Bool), v = .bool r0 ∧ Same w0 w' ∧ K r0) := by
 refine CallsV.of (l := [.int .i64 letters]) Try.func59 rfl Try.ntmps59 rfl ?_
 have hO := Owns.start hA
 have hB := Fr.refl (bl []) w0
 unfold J0l at H
 refine scm H (fun h1 H => ?_) fun h1 H => ?_
 ·refine scm H (fun h2 H => ?_) fun h2 H => ?_
  ·refine au ?_
   refine Go1.ret1 Try.func59 rfl ⟨_, ?_, frs, H⟩
   exact rfl
  refine au ?_
  refine Go1.ret1 Try.func59 rfl ⟨_, ?_, frs, H⟩
  exact rfl
 refine au ?_
 refine Go1.ret1 Try.func59 rfl ⟨_, ?_, frs, H⟩
 exact rfl
theorem body16 : Body Try.prog 16 := ⟨Try.f16, Try.func16, rfl, by kernel_rfl⟩
theorem J3I {A : List Nat} {w0 : World} {am ap : Option Addr} {ao aq : Nat} {d : DFA} (hA : ∀ b ∈ A, b < w0.heap.size) (bz : ISl (Rp.bool) A w0 am ao d.Final) (co : ISl (Rp.sl (Rp.int .i64)) A w0 ap aq d.Next) {K : Int → Prop} (H : J0V d K) :
    CallsV Try.prog 16 #[.agg #[.int .i64 d.Letters, .int .i64 d.Start, .slice am d.Final.length ao, .slice ap d.Next.length aq]] w0 (fun v w' => ∃ (r0 : Int), v = .int .i64 r0 ∧ Same w0 w' ∧ K r0) := by
 refine CallsV.of (l := [.agg #[.int .i64 d.Letters, .int .i64 d.Start, .slice am d.Final.length ao, .slice ap d.Next.length aq]]) Try.func16 rfl Try.ntmps16 rfl ?_
 have hO := Owns.start hA
 have hB := Fr.refl (bl []) w0
 unfold J0V at H
 refine sbx hO fun w1 B2 s hO => ?_
 refine sln0 ?_
 refine au ?_
 refine zcr (J00 body59 rfl (J1B hO.lt (H bz.bd))) fun _ w5 => e1 fun r4 => sc0 hO fun s hO => fun H => ?_
 cases r4
 ·refine au ?_
  refine Go1.ret1 Try.func16 rfl ⟨_, ?_, frs, (iF H)⟩
  exact rfl
 refine scm (iT H) (fun h6 H => ?_) fun h6 H => ?_
 ·refine au ?_
  refine Go1.ret1 Try.func16 rfl ⟨_, ?_, frs, H⟩
  exact rfl
 refine scm H (fun h7 H => ?_) fun h7 H => ?_
 ·refine au ?_
  refine Go1.ret1 Try.func16 rfl ⟨_, ?_, frs, H⟩
  exact rfl
 refine sln0 ?_
 refine scm (H co.bd) (fun h8 H => ?_) fun h8 H => ?_
 ·refine scm H (fun h9 H => ?_) fun h9 H => ?_
  ·refine au ?_
   refine Go1.ret1 Try.func16 rfl ⟨_, ?_, frs, H⟩
   exact rfl
  refine scm H (fun h10 H => ?_) fun h10 H => ?_
  ·refine au ?_
   refine Go1.ret1 Try.func16 rfl ⟨_, ?_, frs, H⟩
   exact rfl
  refine sln0 ?_
  refine au ?_
  refine lw H (fun k1_12 σ w => (fun Z => agrees σ [(1, .pointer (some ⟨B2, 0, none⟩)), (3, .int .i64 (d.Final.length : Int)), (38, .slice ap d.Next.length aq), (39, .int .i64 (d.Next.length : Int)), (40, .int .i64 (k1_12 : Int))] ∧ Owns w0.heap.size w Z A ∧ Fr (bl []) w0 (bl Z) w) [.blk B2 (.cells #[.int .i64 d.Letters, .int .i64 d.Start, .slice am d.Final.length ao, .slice ap d.Next.length aq] 25 (0, 0))]) ⟨agr, hO, fr⟩ ?_
  refine fun X1 => fun k1_12 => fun H hX1 σ w11 => d2 fun hag hO hB => ?_
  refine Go1.keep _ hag ?_
  revert hO; repeat (rename Owns _ _ _ _ => q; clear q)
  intro hO; repeat (rename Sq _ _ _ _ _ _ => q; clear q)
  refine scm H (fun h13 H => ?_) fun h13 H => ?_
  ·refine sxls hO co.u H.1 H.2.1 fun p14 c15 fY => ?_
   refine sln0 ?_
   refine au ?_
   have h17 := H.1
   have h18 := H.2.1
   refine scm (H.2.2 fY.bd) (fun h19 H => ?_) fun h19 H => ?_
   ·refine sln0 ?_
    refine au ?_
    refine lw H (fun nQ σ w => (fun Z => agrees σ [(1, .pointer (some ⟨B2, 0, none⟩)), (3, .int .i64 (d.Final.length : Int)), (38, .slice ap d.Next.length aq), (39, .int .i64 (d.Next.length : Int)), (40, .int .i64 (k1_12 : Int)), (49, .slice p14 ((ix d.Next (k1_12 : Int)).length) c15), (50, .int .i64 ((ix d.Next (k1_12 : Int)).length : Int)), (51, .int .i64 (nQ : Int))] ∧ Owns w0.heap.size w Z A ∧ ISl (Rp.int .i64) (bl Z ++ A) w p14 c15 (ix d.Next (k1_12 : Int)) ∧ Fr (bl []) w0 (bl Z) w) [.blk B2 (.cells #[.int .i64 d.Letters, .int .i64 d.Start, .slice am d.Final.length ao, .slice ap d.Next.length aq] 25 (0, 0))]) ⟨agr, hO, fY.u, fr⟩ ?_
    refine fun X2 => fun nQ => fun H hX2 σ w20 => d3 fun hag hO fY hB => ?_
    refine Go1.keep _ hag ?_
    revert hO; repeat (rename Owns _ _ _ _ => q; clear q)
    intro hO; repeat (rename Sq _ _ _ _ _ _ => q; clear q)
    refine scm H (fun h22 H => ?_) fun h22 H => ?_
    ·refine sxl hO fY H.1 H.2.1 ?_
     refine au ?_
     have h23 := H.1
     have h24 := H.2.1
     refine scm H.2.2 (fun h25 H => ?_) fun h25 H => ?_
     ·refine au ?_
      refine Go1.ret1 Try.func16 rfl ⟨_, ?_, frs, H⟩
      exact rfl
     refine scm H (fun h26 H => ?_) fun h26 H => ?_
     ·refine au ?_
      refine Go1.ret1 Try.func16 rfl ⟨_, ?_, frs, H⟩
      exact rfl
     refine sinc (natbd h22 fY.bd) ?_
     refine au ?_
     exact hX2 _ H _ _ ⟨agr, hO, fY, fr⟩
    refine sinc (natbd h13 co.bd) ?_
    refine au ?_
    exact hX1 _ H _ _ ⟨agr, hO, fr⟩
   refine au ?_
   refine Go1.ret1 Try.func16 rfl ⟨_, ?_, frs, H⟩
   exact rfl
  refine au ?_
  refine Go1.ret1 Try.func16 rfl ⟨_, ?_, frs, H⟩
  exact rfl
 refine au ?_
 refine Go1.ret1 Try.func16 rfl ⟨_, ?_, frs, H⟩
 exact rfl
theorem body17 : Body Try.prog 17 := ⟨Try.f17, Try.func17, rfl, by kernel_rfl⟩
theorem J4F {A : List Nat} {w0 : World} {am ap : Option Addr} {ao aq : Nat} {d : DFA} {most : Int} (hA : ∀ b ∈ A, b < w0.heap.size) (bz : ISl (Rp.bool) A w0 am ao d.Final) (co : ISl (Rp.sl (Rp.int .i64)) A w0 ap aq d.Next) {K : Bool → Prop} (H : law21_small d most K) :
    CallsV Try.prog 17 #[.agg #[.int .i64 d.Letters, .int .i64 d.Start, .slice am d.Final.length ao, .slice ap d.Next.length aq], .int .i64 most] w0 (fun v w' => ∃ (r0 : Bool), v = .bool r0 ∧ Same w0 w' ∧ K r0) := by
 refine CallsV.of (l := [.agg #[.int .i64 d.Letters, .int .i64 d.Start, .slice am d.Final.length ao, .slice ap d.Next.length aq], .int .i64 most]) Try.func17 rfl Try.ntmps17 rfl ?_
 have hO := Owns.start hA
 have hB := Fr.refl (bl []) w0
 unfold law21_small at H
 refine sbx hO fun w1 B2 s hO => ?_
 refine sln0 ?_
 refine scm (H bz.bd) (fun h4 H => ?_) fun h4 H => ?_
 ·refine scm H (fun h5 H => ?_) fun h5 H => ?_
  ·refine sag 0 hO ?_
   refine zcr (J00 body16 rfl (J3I hO.lt bz.u co.u H)) fun _ w7 => e1 fun r6 => sc0 hO fun s hO => fun H => ?_
   refine scm H (fun h8 H => ?_) fun h8 H => ?_
   ·refine au ?_
    refine Go1.ret1 Try.func17 rfl ⟨_, ?_, frs, H⟩
    exact rfl
   refine au ?_
   refine Go1.ret1 Try.func17 rfl ⟨_, ?_, frs, H⟩
   exact rfl
  refine au ?_
  refine Go1.ret1 Try.func17 rfl ⟨_, ?_, frs, H⟩
  exact rfl
 refine au ?_
 refine Go1.ret1 Try.func17 rfl ⟨_, ?_, frs, H⟩
 exact rfl
theorem body60 : Body Try.prog 60 := ⟨Try.f60, Try.func60, rfl, by kernel_rfl⟩
theorem J5t {A : List Nat} {w0 : World} (hA : ∀ b ∈ A, b < w0.heap.size) {K : DFA → Prop} (H : law21_ab  K) :
    CallsV Try.prog 60 #[] w0 (fun v w' => ∃ (r0 : DFA) (cp : Option Addr) (cq : Nat) (cA : Option Addr) (cB : Nat), v = .agg #[.int .i64 r0.Letters, .int .i64 r0.Start, .slice cp r0.Final.length cq, .slice cA r0.Next.length cB] ∧ Same w0 w' ∧ ISl (Rp.bool) A w' cp cq r0.Final ∧ ISl (Rp.sl (Rp.int .i64)) A w' cA cB r0.Next ∧ K r0) := by
 refine CallsV.of (l := []) Try.func60 rfl Try.ntmps60 rfl ?_
 have hO := Owns.start hA
 have hB := Fr.refl (bl []) w0
 unfold law21_ab at H
 refine sal hO fun w1 B2 s hO => ?_
 refine sbu Fl.bool 4 [true, false, false] hO fun w4 p5 s hO => ?_
 refine sbu Fl.i 3 [(1 : Int), (2 : Int)] hO fun w7 p8 s hO => ?_
 refine sbu Fl.i 3 [(2 : Int), (0 : Int)] hO fun w10 p11 s hO => ?_
 refine sbu Fl.i 3 [(2 : Int), (2 : Int)] hO fun w13 p14 s hO => ?_
 refine sfz 2 hO fun s hO fY vT => ?_
 refine sfz 1 hO fun s hO vU vV => ?_
 refine sfz 0 hO fun s hO lB vW => ?_
 have zz := J2B (r := Rp.sl (Rp.int .i64)) (n := 3) (parts := [(0, .slice p8 2 2), (1, .slice p11 2 2), (2, .slice p14 2 2)]) (vs := [.slice p8 2 2, .slice p11 2 2, .slice p14 2 2]) (xs := [[(1 : Int), (2 : Int)], [(2 : Int), (0 : Int)], [(2 : Int), (2 : Int)]]) rfl Try.underlying23 ti31 hO (by decide) (by kernel_rfl) (Els.cons rfl ⟨p8, 2, congrArg some (congrArg (fun nn => Value.slice p8 nn 2) vT), fY.u⟩ (Els.cons rfl ⟨p11, 2, congrArg some (congrArg (fun nn => Value.slice p11 nn 2) vV), vU.u⟩ (Els.cons rfl ⟨p14, 2, congrArg some (congrArg (fun nn => Value.slice p14 nn 2) vW), lB⟩ (Els.nil _ _ _) (by simp [mx])) (by simp [mx])) (by simp [mx])) rfl
 obtain ⟨w22, p23, sA, vX, zU, jR⟩ := zz
 refine zg (jR rfl) ?_
 refine nst sA fun s hO => ?_
 refine zo (J09 Try.underlying25 ti25 (pl := [(0, 1), (1, 1), (2, 1), (3, 1)]) (vs := [(0, .int .i64 (2 : Int)), (2, .slice p5 3 3), (3, .slice p23 3 3)]) (cs := #[.int .i64 (2 : Int), .int .i64 (0 : Int), .slice p5 3 3, .slice p23 3 3]) (by kernel_rfl) rfl (by kernel_rfl)) ?_
 refine sba 2 hO fun w29 s hO => ?_
 refine au ?_
 refine sfz 1 hO fun s hO vY v5 => ?_
 refine sfzR 0 hO vX.u fun s hO eF v6 => ?_
 refine Go1.retC1 Try.func60 rfl rfl (rlb 0 hO) ⟨((⟨(2 : Int), (0 : Int), [true, false, false], [[(1 : Int), (2 : Int)], [(2 : Int), (0 : Int)], [(2 : Int), (2 : Int)]]⟩ : DFA)), _, _, _, _, ?_, frs, vY.r, eF.r, H⟩
 exact (congrArg (fun l => Value.agg (List.toArray l)) (J02 rfl (J02 rfl (J02 (congrArg (fun nn => Value.slice p5 nn 3) v5) (J02 (congrArg (fun nn => Value.slice p23 nn 3) v6) rfl)))))
theorem body61 : Body Try.prog 61 := ⟨Try.f61, Try.func61, rfl, by kernel_rfl⟩
theorem J0R {A : List Nat} {w0 : World} {am ap : Option Addr} {ao aq : Nat} {d : DFA} (hA : ∀ b ∈ A, b < w0.heap.size) (bz : ISl (Rp.bool) A w0 am ao d.Final) (co : ISl (Rp.sl (Rp.int .i64)) A w0 ap aq d.Next) {K : Int → Prop} (H : J0t d K) :
    CallsV Try.prog 61 #[.agg #[.int .i64 d.Letters, .int .i64 d.Start, .slice am d.Final.length ao, .slice ap d.Next.length aq]] w0 (fun v w' => ∃ (r0 : Int), v = .int .i64 r0 ∧ Same w0 w' ∧ K r0) := by
 refine CallsV.of (l := [.agg #[.int .i64 d.Letters, .int .i64 d.Start, .slice am d.Final.length ao, .slice ap d.Next.length aq]]) Try.func61 rfl Try.ntmps61 rfl ?_
 have hO := Owns.start hA
 have hB := Fr.refl (bl []) w0
 unfold J0t at H
 refine sbx hO fun w1 B2 s hO => ?_
 refine scm H (fun h4 H => ?_) fun h4 H => ?_
 ·refine au ?_
  refine Go1.ret1 Try.func61 rfl ⟨_, ?_, frs, H⟩
  exact rfl
 refine scm H (fun h5 H => ?_) fun h5 H => ?_
 ·refine au ?_
  refine Go1.ret1 Try.func61 rfl ⟨_, ?_, frs, H⟩
  exact rfl
 refine sln0 ?_
 refine scm (H bz.bd) (fun h6 H => ?_) fun h6 H => ?_
 ·refine au ?_
  refine Go1.ret1 Try.func61 rfl ⟨_, ?_, frs, H⟩
  exact rfl
 refine sln0 ?_
 refine scm (H co.bd) (fun h7 H => ?_) fun h7 H => ?_
 ·refine scm H (fun h8 H => ?_) fun h8 H => ?_
  ·refine au ?_
   refine Go1.ret1 Try.func61 rfl ⟨_, ?_, frs, H⟩
   exact rfl
  refine scm H (fun h9 H => ?_) fun h9 H => ?_
  ·refine au ?_
   refine Go1.ret1 Try.func61 rfl ⟨_, ?_, frs, H⟩
   exact rfl
  refine sln0 ?_
  refine au ?_
  refine lw H (fun k1_11 σ w => (fun Z => agrees σ [(1, .pointer (some ⟨B2, 0, none⟩)), (3, .int .i64 (d.Final.length : Int)), (38, .slice ap d.Next.length aq), (39, .int .i64 (d.Next.length : Int)), (40, .int .i64 (k1_11 : Int))] ∧ Owns w0.heap.size w Z A ∧ Fr (bl []) w0 (bl Z) w) [.blk B2 (.cells #[.int .i64 d.Letters, .int .i64 d.Start, .slice am d.Final.length ao, .slice ap d.Next.length aq] 25 (0, 0))]) ⟨agr, hO, fr⟩ ?_
  refine fun X1 => fun k1_11 => fun H hX1 σ w10 => d2 fun hag hO hB => ?_
  refine Go1.keep _ hag ?_
  revert hO; repeat (rename Owns _ _ _ _ => q; clear q)
  intro hO; repeat (rename Sq _ _ _ _ _ _ => q; clear q)
  refine scm H (fun h12 H => ?_) fun h12 H => ?_
  ·refine sxls hO co.u H.1 H.2.1 fun p13 c14 iH => ?_
   refine sln0 ?_
   refine au ?_
   have h16 := H.1
   have h17 := H.2.1
   refine scm (H.2.2 iH.bd) (fun h18 H => ?_) fun h18 H => ?_
   ·refine sln0 ?_
    refine au ?_
    refine lw H (fun nS σ w => (fun Z => agrees σ [(1, .pointer (some ⟨B2, 0, none⟩)), (3, .int .i64 (d.Final.length : Int)), (38, .slice ap d.Next.length aq), (39, .int .i64 (d.Next.length : Int)), (40, .int .i64 (k1_11 : Int)), (49, .slice p13 ((ix d.Next (k1_11 : Int)).length) c14), (50, .int .i64 ((ix d.Next (k1_11 : Int)).length : Int)), (51, .int .i64 (nS : Int))] ∧ Owns w0.heap.size w Z A ∧ ISl (Rp.int .i64) (bl Z ++ A) w p13 c14 (ix d.Next (k1_11 : Int)) ∧ Fr (bl []) w0 (bl Z) w) [.blk B2 (.cells #[.int .i64 d.Letters, .int .i64 d.Start, .slice am d.Final.length ao, .slice ap d.Next.length aq] 25 (0, 0))]) ⟨agr, hO, iH.u, fr⟩ ?_
    refine fun X2 => fun nS => fun H hX2 σ w19 => d3 fun hag hO iH hB => ?_
    refine Go1.keep _ hag ?_
    revert hO; repeat (rename Owns _ _ _ _ => q; clear q)
    intro hO; repeat (rename Sq _ _ _ _ _ _ => q; clear q)
    refine scm H (fun h21 H => ?_) fun h21 H => ?_
    ·refine sxl hO iH H.1 H.2.1 ?_
     refine au ?_
     have h22 := H.1
     have h23 := H.2.1
     refine scm H.2.2 (fun h24 H => ?_) fun h24 H => ?_
     ·refine au ?_
      refine Go1.ret1 Try.func61 rfl ⟨_, ?_, frs, H⟩
      exact rfl
     refine scm H (fun h25 H => ?_) fun h25 H => ?_
     ·refine au ?_
      refine Go1.ret1 Try.func61 rfl ⟨_, ?_, frs, H⟩
      exact rfl
     refine sinc (natbd h21 iH.bd) ?_
     refine au ?_
     exact hX2 _ H _ _ ⟨agr, hO, iH, fr⟩
    refine sinc (natbd h12 co.bd) ?_
    refine au ?_
    exact hX1 _ H _ _ ⟨agr, hO, fr⟩
   refine au ?_
   refine Go1.ret1 Try.func61 rfl ⟨_, ?_, frs, H⟩
   exact rfl
  refine au ?_
  refine Go1.ret1 Try.func61 rfl ⟨_, ?_, frs, H⟩
  exact rfl
 refine au ?_
 refine Go1.ret1 Try.func61 rfl ⟨_, ?_, frs, H⟩
 exact rfl
theorem body141 : Body Try.prog 141 := ⟨Try.f141, Try.func141, rfl, by kernel_rfl⟩
theorem body140 : Body Try.prog 140 := ⟨Try.f140, Try.func140, rfl, by kernel_rfl⟩
theorem body163 : Body Try.prog 163 := ⟨Try.f163, Try.func163, rfl, by kernel_rfl⟩
theorem body139 : Body Try.prog 139 := ⟨Try.f139, Try.func139, rfl, by kernel_rfl⟩
theorem body109 : Body Try.prog 109 := ⟨Try.f109, Try.func109, rfl, by kernel_rfl⟩
theorem J40 {A : List Nat} {w0 : World} {am ap : Option Addr} {ao aq : Nat} {d : DFA} (hA : ∀ b ∈ A, b < w0.heap.size) (bz : ISl (Rp.bool) A w0 am ao d.Final) (co : ISl (Rp.sl (Rp.int .i64)) A w0 ap aq d.Next) {K : DFA → List Int → Prop} (H : J3t d K) :
    CallsV Try.prog 109 #[.agg #[.int .i64 d.Letters, .int .i64 d.Start, .slice am d.Final.length ao, .slice ap d.Next.length aq]] w0 (fun v w' => ∃ (r0 : DFA) (r1 : List Int) (cp : Option Addr) (cq : Nat) (cA : Option Addr) (cB : Nat) (jd : Option Addr) (je : Nat), v = .tuple #[.agg #[.int .i64 r0.Letters, .int .i64 r0.Start, .slice cp r0.Final.length cq, .slice cA r0.Next.length cB], .slice jd r1.length je] ∧ Same w0 w' ∧ ISl (Rp.bool) A w' cp cq r0.Final ∧ ISl (Rp.sl (Rp.int .i64)) A w' cA cB r0.Next ∧ ISl (Rp.int .i64) A w' jd je r1 ∧ K r0 r1) := by
 refine CallsV.of (l := [.agg #[.int .i64 d.Letters, .int .i64 d.Start, .slice am d.Final.length ao, .slice ap d.Next.length aq]]) Try.func109 rfl Try.ntmps109 rfl ?_
 have hO := Owns.start hA
 have hB := Fr.refl (bl []) w0
 unfold J3t at H
 refine sbx hO fun w1 B2 s hO => ?_
 refine sal hO fun w4 B5 s hO => ?_
 refine sag 1 hO ?_
 refine zcr (J00 body61 rfl (J0R hO.lt bz.u co.u H)) fun _ w8 => e1 fun r7 => sc0 hO fun s hO => fun H => ?_
 refine scm H (fun h9 H => ?_) fun h9 H => ?_
 ·refine au ?_
  refine zo (J2P (vs := [.pointer (some ⟨B2, 0, none⟩)]) rfl) ?_
  refine zo (J2P (vs := [.pointer (some ⟨B2, 0, none⟩)]) rfl) ?_
  refine GoR.inl (vs := [.int .i64 d.Letters, .int .i64 d.Start, .func (.func 140) #[] #[.pointer (some ⟨B2, 0, none⟩)], .func (.func 141) #[] #[.pointer (some ⟨B2, 0, none⟩)]]) (caps := []) rfl rfl body139 Try.func139 rfl Try.ntmps139 rfl rfl rfl ?_
  intro RhR10 hR10
  refine sal hO fun w11 B12 s hO => ?_
  refine sal hO fun w14 B15 s hO => ?_
  refine au ?_
  refine GoR.inl (vs := [.pointer (some ⟨B15, 0, none⟩), .int .i64 d.Start]) (caps := []) rfl rfl body163 Try.func163 rfl Try.ntmps163 rfl rfl rfl ?_
  intro RhR17 hR17
  refine au ?_
  refine zs (fun w _ => olookN (a := d.Start) (MK.int Try.underlying3) Try.underlying168 ti3 rfl rfl w) ?_
  refine au ?_
  refine zo (fun w => opB (J68 Try.underlying168 rfl rfl w) rfl) ?_
  refine au ?_
  have zz := omakeMap (fun a : Int => Value.int .i64 a) (fun a : Int => Value.int .i64 a) hO
  obtain ⟨w18, B19, sB, zV, sC⟩ := zz
  refine zg sC ?_
  refine nst sB fun s hO => ?_
  refine sbs 1 hO fun w24 s hO => ?_
  refine sln0 ?_
  refine au ?_
  have zz := omapUpd (MK.int Try.underlying3) 0 hO rfl Try.underlying168 d.Start (0 : Int)
  obtain ⟨w25, sD, jR⟩ := zz
  refine zg (jR (by exact rfl) (by exact rfl) (by exact rfl)) ?_
  refine nst sD fun s hO => ?_
  refine au ?_
  refine snil Fl.i 3 hO fun s hO => ?_
  refine sap1 d.Start 0 hO H fun _ w29 p30 c31 s hO => ?_
  refine sbs 2 hO fun w32 s hO => ?_
  refine au ?_
  refine Go1.ret1V Try.func163 rfl (show _ = .int .i64 (0 : Int) from rfl) ?_
  refine hR17 _ _ ?_
  refine au ?_
  refine zo (J09 Try.underlying25 ti25 (pl := [(0, 1), (1, 1), (2, 1), (3, 1)]) (vs := [(0, .int .i64 d.Letters)]) (cs := #[.int .i64 d.Letters, .int .i64 (0 : Int), .slice none 0 0, .slice none 0 0]) (by kernel_rfl) rfl (by kernel_rfl)) ?_
  refine sal hO fun w33 B34 s hO => ?_
  refine sba 0 hO fun w36 s hO => ?_
  refine au ?_
  refine snil Fl.bool 4 hO fun s hO => ?_
  have sE := Stp.nil (e := 31) (r := 1) hO
  refine nst sE fun s hO => ?_
  have v7 := elN (Rp.sl (Rp.int .i64)) hO
  refine lw H.2 (fun (dm, d_43, d_49, dk, nT) σ w => ∃ n48 p46 c47 eG n52 p50 c51 n56 p54 c55, (fun Z => agrees σ [(0, .int .i64 d.Letters), (2, .func (.func 140) #[] #[.pointer (some ⟨B2, 0, none⟩)]), (3, .func (.func 141) #[] #[.pointer (some ⟨B2, 0, none⟩)]), (8, .pointer (some ⟨B12, 0, none⟩)), (11, .pointer (some ⟨B15, 0, none⟩)), (12, .pointer (some ⟨B34, 0, none⟩)), (13, .int .i64 (dm : Int))] ∧ Owns w0.heap.size w Z A ∧ Els (Rp.sl (Rp.int .i64)) (bl Z ++ A) w eG d_43 ∧ Fr (bl []) w0 (bl Z) w) [.row 31 1 p46 n48 c47 eG, t1 Fl.bool 4 p50 n52 c51 d_49, .blk B34 (.cells #[.int .i64 d.Letters, .int .i64 (0 : Int), .slice p50 n52 c51, .slice p46 n48 c47] 25 (0, 0)), t1 Fl.i 3 p54 n56 c55 dk, .any (mapE (fun a : Int => Value.int .i64 a) (fun a : Int => Value.int .i64 a) B19 nT), .blk B15 (.cells #[.slice p54 n56 c55, .map (some B19)] 188 (0, 0)), .blk B12 (.cells #[.int .i64 (0 : Int), .int .i64 (0 : Int), .slice none 0 0, .slice none 0 0] 25 (0, 0)), .blk B5 (.cells #[.int .i64 (0 : Int), .int .i64 (0 : Int), .slice none 0 0, .slice none 0 0] 25 (0, 0)), .blk B2 (.cells #[.int .i64 d.Letters, .int .i64 d.Start, .slice am d.Final.length ao, .slice ap d.Next.length aq] 25 (0, 0))]) ⟨_, _, _, _, _, _, _, _, _, _, agr, hO, v7.u, fr⟩ ?_
  refine fun X1 => p1 fun dm => p3 fun d_43 d_49 dk nT => fun H hX1 σ w41 => e4 fun n48 p46 c47 eG => e4 fun n52 p50 c51 n56 => e2 fun p54 c55 => d3 fun hag hO dB hB => ?_
  dsimp only at H
  refine Go1.keep _ hag ?_
  revert hO; repeat (rename Owns _ _ _ _ => q; clear q)
  intro hO; repeat (rename Sq _ _ _ _ _ _ => q; clear q)
  refine sln1 3 hO ?_
  refine scm H (fun h58 H => ?_) fun h58 H => ?_
  ·refine sxl1 3 hO H.1 H.2.1 ?_
   refine smk Fl.i H.2.2 hO fun w59 p60 s hO => ?_
   refine sln1 0 hO ?_
   refine au ?_
   refine lw H.2.2.2.2 (fun (dW, lC, d_65, fR) σ w => ∃ n68 p66 c67, (fun Z => agrees σ [(0, .int .i64 d.Letters), (2, .func (.func 140) #[] #[.pointer (some ⟨B2, 0, none⟩)]), (3, .func (.func 141) #[] #[.pointer (some ⟨B2, 0, none⟩)]), (8, .pointer (some ⟨B12, 0, none⟩)), (11, .pointer (some ⟨B15, 0, none⟩)), (12, .pointer (some ⟨B34, 0, none⟩)), (13, .int .i64 (dm : Int)), (14, .int .i64 (ix dk (dm : Int))), (15, .slice p60 d.Letters.toNat d.Letters.toNat), (36, .int .i64 ((List.replicate d.Letters.toNat ((0 : Int))).length : Int)), (37, .int .i64 (dW : Int))] ∧ Owns w0.heap.size w Z A ∧ Els (Rp.sl (Rp.int .i64)) (bl Z ++ A) w eG d_43 ∧ Fr (bl []) w0 (bl Z) w) [t1 Fl.i 3 p60 d.Letters.toNat d.Letters.toNat lC, .row 31 1 p46 n48 c47 eG, t1 Fl.bool 4 p50 n52 c51 d_49, .blk B34 (.cells #[.int .i64 d.Letters, .int .i64 (0 : Int), .slice p50 n52 c51, .slice p46 n48 c47] 25 (0, 0)), t1 Fl.i 3 p66 n68 c67 d_65, .any (mapE (fun a : Int => Value.int .i64 a) (fun a : Int => Value.int .i64 a) B19 fR), .blk B15 (.cells #[.slice p66 n68 c67, .map (some B19)] 188 (0, 0)), .blk B12 (.cells #[.int .i64 (0 : Int), .int .i64 (0 : Int), .slice none 0 0, .slice none 0 0] 25 (0, 0)), .blk B5 (.cells #[.int .i64 (0 : Int), .int .i64 (0 : Int), .slice none 0 0, .slice none 0 0] 25 (0, 0)), .blk B2 (.cells #[.int .i64 d.Letters, .int .i64 d.Start, .slice am d.Final.length ao, .slice ap d.Next.length aq] 25 (0, 0))]) ⟨_, _, _, agr, hO, dB.u, fr⟩ ?_
   refine fun X2 => p3 fun dW lC d_65 fR => fun H hX2 σ w62 => e3 fun n68 p66 c67 => d3 fun hag hO dB hB => ?_
   dsimp only at H
   refine Go1.keep _ hag ?_
   revert hO; repeat (rename Owns _ _ _ _ => q; clear q)
   intro hO; repeat (rename Sq _ _ _ _ _ _ => q; clear q)
   refine scm H (fun h70 H => ?_) fun h70 H => ?_
   ·refine au ?_
    refine GoR.inl (vs := [.int .i64 (ix dk (dm : Int)), .int .i64 (dW : Int)]) (caps := [.pointer (some ⟨B2, 0, none⟩)]) rfl rfl body140 Try.func140 rfl Try.ntmps140 rfl rfl rfl ?_
    intro RhR71 hR71
    refine sxls hO co.u H.1 H.2.1 fun p72 c73 lD => ?_
    refine sxl hO lD.u H.2.2.1 H.2.2.2.1 ?_
    refine au ?_
    refine Go1.ret1V Try.func140 rfl (show _ = .int .i64 (ix (ix d.Next (ix dk (dm : Int))) (dW : Int)) from rfl) ?_
    refine hR71 _ _ ?_
    refine GoR.inl (vs := [.pointer (some ⟨B15, 0, none⟩), .int .i64 (ix (ix d.Next (ix dk (dm : Int))) (dW : Int))]) (caps := []) rfl rfl body163 Try.func163 rfl Try.ntmps163 rfl rfl rfl ?_
    intro RhR75 hR75
    refine au ?_
    replace H := H.2.2.2.2
    by_cases h76 : mhas fR ((ix (ix d.Next (ix dk (dm : Int))) (dW : Int))) = true
    ·refine zs (olookT (a := (ix (ix d.Next (ix dk (dm : Int))) (dW : Int))) (MK.int Try.underlying3) 5 hO rfl Try.underlying168 rfl rfl h76) ?_
     refine au ?_
     refine Go1.ret1V Try.func163 rfl (show _ = .int .i64 (mgt fR ((ix (ix d.Next (ix dk (dm : Int))) (dW : Int)))) from rfl) ?_
     refine hR75 _ _ ?_
     refine six1 0 hO (ifp h76 H).1 (ifp h76 H).2.1 ?_
     refine sst (u := (mgt fR ((ix (ix d.Next (ix dk (dm : Int))) (dW : Int))))) 0 hO (ifp h76 H).1 (ifp h76 H).2.1 fun w77 s hO => ?_
     refine au ?_
     have h78 := (ifp h76 H).1
     have h79 := (ifp h76 H).2.1
     replace H := (ifp h76 H).2.2
     obtain ⟨h80, H⟩ := H
     refine zo (J0p rfl rfl (wrap_i64 h80)) ?_
     refine au ?_
     exact hX2 _ H _ _ ⟨_, _, _, agr, hO, dB.u, fr⟩
    refine zs (olookF (a := (ix (ix d.Next (ix dk (dm : Int))) (dW : Int))) (MK.int Try.underlying3) 5 hO rfl Try.underlying168 ti3 rfl rfl h76) ?_
    refine au ?_
    refine zo (fun w => opB (J68 Try.underlying168 rfl rfl w) rfl) ?_
    refine sln1 4 hO ?_
    refine au ?_
    have zz := omapUpd (MK.int Try.underlying3) 5 hO rfl Try.underlying168 (ix (ix d.Next (ix dk (dm : Int))) (dW : Int)) (d_65.length : Int)
    obtain ⟨w81, jS, jT⟩ := zz
    refine zg (jT (by exact rfl) (by exact rfl) (by exact rfl)) ?_
    refine nst jS fun s hO => ?_
    refine au ?_
    refine sap1 ((ix (ix d.Next (ix dk (dm : Int))) (dW : Int))) 4 hO (ifn h76 H) fun _ w84 p85 c86 s hO => ?_
    refine sbs 6 hO fun w87 s hO => ?_
    refine au ?_
    refine Go1.ret1V Try.func163 rfl (show _ = .int .i64 (d_65.length : Int) from rfl) ?_
    refine hR75 _ _ ?_
    refine six1 0 hO (ifn h76 H).2.1 (ifn h76 H).2.2.1 ?_
    refine sst (u := (d_65.length : Int)) 0 hO (ifn h76 H).2.1 (ifn h76 H).2.2.1 fun w88 s hO => ?_
    refine au ?_
    have h89 := (ifn h76 H).2.1
    have h90 := (ifn h76 H).2.2.1
    replace H := (ifn h76 H).2.2.2
    obtain ⟨h91, H⟩ := H
    refine zo (J0p rfl rfl (wrap_i64 h91)) ?_
    refine au ?_
    exact hX2 _ H _ _ ⟨_, _, _, agr, hO, dB.u, fr⟩
   refine sln1 4 hO ?_
   refine scm H (fun h92 H => ?_) fun h92 H => ?_
   ·refine au ?_
    refine zo (J09 Try.underlying25 ti25 (pl := [(0, 1), (1, 1), (2, 1), (3, 1)]) (vs := []) (cs := #[.int .i64 (0 : Int), .int .i64 (0 : Int), .slice none 0 0, .slice none 0 0]) (by kernel_rfl) rfl (by kernel_rfl)) ?_
    refine sba 7 hO fun w93 s hO => ?_
    refine au ?_
    refine Go1.retC3V Try.func139 rfl rfl (rlb 7 hO) (show _ = .slice none 0 0 from rfl) (show _ = .int .i64 (3 : Int) from rfl) ?_
    refine hR10 _ _ ?_
    refine sal hO fun w94 B95 s hO => ?_
    refine sba 0 hO fun w97 s hO => ?_
    refine sln0 ?_
    refine smk Fl.i (H bz.bd) hO fun w98 p99 s hO => ?_
    refine sln1 0 hO ?_
    refine au ?_
    refine sdr [2, 2, 2, 2, 2, 2, 2, 2, 3] hO fun s hO => ?_
    refine lw (H bz.bd).2.2 (fun (kV, number3_103) σ w => (fun Z => agrees σ [(2, .pointer (some ⟨B5, 0, none⟩)), (4, .pointer (some ⟨B95, 0, none⟩)), (5, .slice none 0 0), (7, .slice p99 d.Final.length d.Final.length), (31, .int .i64 ((List.replicate d.Final.length ((0 : Int))).length : Int)), (32, .int .i64 (kV : Int))] ∧ Owns w0.heap.size w Z A ∧ Fr (bl []) w0 (bl Z) w) [t1 Fl.i 3 p99 d.Final.length d.Final.length number3_103, .blk B95 (.cells #[.int .i64 (0 : Int), .int .i64 (0 : Int), .slice none 0 0, .slice none 0 0] 25 (0, 0)), .blk B5 (.cells #[.int .i64 (0 : Int), .int .i64 (0 : Int), .slice none 0 0, .slice none 0 0] 25 (0, 0))]) ⟨agr, hO, fr⟩ ?_
    refine fun X3 => p1 fun kV number3_103 => fun H hX3 σ o4 => d2 fun hag hO hB => ?_
    dsimp only at H
    refine Go1.keep _ hag ?_
    revert hO; repeat (rename Owns _ _ _ _ => q; clear q)
    intro hO; repeat (rename Sq _ _ _ _ _ _ => q; clear q)
    refine scm H (fun v8 H => ?_) fun v8 H => ?_
    ·refine six1 0 hO H.1 H.2.1 ?_
     refine sst (u := (-1 : Int)) 0 hO H.1 H.2.1 fun v9 s hO => ?_
     refine au ?_
     have jf := H.1
     have gG := H.2.1
     replace H := H.2.2
     obtain ⟨o5, H⟩ := H
     refine zo (J0p rfl rfl (wrap_i64 o5)) ?_
     refine au ?_
     exact hX3 _ H _ _ ⟨agr, hO, fr⟩
    refine sln0 ?_
    refine au ?_
    refine lw H (fun kW σ w => (fun Z => agrees σ [(2, .pointer (some ⟨B5, 0, none⟩)), (4, .pointer (some ⟨B95, 0, none⟩)), (7, .slice p99 d.Final.length d.Final.length), (39, .slice none 0 0), (40, .int .i64 (0 : Int)), (41, .int .i64 (kW : Int))] ∧ Owns w0.heap.size w Z A ∧ Fr (bl []) w0 (bl Z) w) [t1 Fl.i 3 p99 d.Final.length d.Final.length number3_103, .blk B95 (.cells #[.int .i64 (0 : Int), .int .i64 (0 : Int), .slice none 0 0, .slice none 0 0] 25 (0, 0)), .blk B5 (.cells #[.int .i64 (0 : Int), .int .i64 (0 : Int), .slice none 0 0, .slice none 0 0] 25 (0, 0))]) ⟨agr, hO, fr⟩ ?_
    refine fun X4 => fun kW => fun H hX4 σ zW => d2 fun hag hO hB => ?_
    refine Go1.keep _ hag ?_
    revert hO; repeat (rename Owns _ _ _ _ => q; clear q)
    intro hO; repeat (rename Sq _ _ _ _ _ _ => q; clear q)
    refine scm H (fun jg H => ?_) fun jg H => ?_
    ·refine au ?_
     obtain ⟨gH, H⟩ := H
     obtain ⟨gI, H⟩ := H
     refine zo (J01 Try.underlying31 ti3 rfl rfl gH gI (absurd gI (by omega))) ?_
     exact absurd gI (by omega)
    refine sag 1 hO ?_
    refine sba 2 hO fun zX s hO => ?_
    refine au ?_
    refine sfz 0 hO fun s hO sF sG => ?_
    refine Go1.retC2 Try.func109 rfl rfl (rlb 1 hO) ⟨((⟨(0 : Int), (0 : Int), ([] : List Bool), ([] : List (List Int))⟩ : DFA)), _, _, _, _, _, _, _, ?_, frs, (ISl.null _ _ _), (ISl.null _ _ _), sF.r, H⟩
    exact (congrArg (fun l => Value.tuple (List.toArray l)) (J02 rfl (J02 (congrArg (fun nn => Value.slice p99 nn d.Final.length) sG) rfl)))
   refine au ?_
   refine sfz 0 hO fun s hO sH sI => ?_
   have zz := J2B (r := Rp.sl (Rp.int .i64)) (n := 1) (parts := [(0, .slice p60 d.Letters.toNat d.Letters.toNat)]) (vs := [.slice p60 d.Letters.toNat d.Letters.toNat]) (xs := [lC]) rfl Try.underlying23 ti31 hO (by decide) (by kernel_rfl) (Els.cons rfl ⟨p60, d.Letters.toNat, congrArg some (congrArg (fun nn => Value.slice p60 nn d.Letters.toNat) sI), sH⟩ (Els.nil _ _ _) (by simp [mx])) rfl
   obtain ⟨o6, zY, jh, sJ, zh, ji⟩ := zz
   refine zg (ji rfl) ?_
   refine nst jh fun s hO => ?_
   refine sfzR 0 hO sJ.u fun s hO sK sL => ?_
   obtain ⟨wa, H⟩ := H
   have zz := oapp Try.underlying23 ti31 rfl 0 hO rfl dB.u sK sL wa (by decide)
   obtain ⟨z3, jU, jV, nU, o7, nV, o8⟩ := zz
   dsimp only [sS, sZ] at nV
   refine zg (o8 (by exact rfl) (by exact rfl)) ?_
   refine nst o7 fun s hO => ?_
   refine sbs 2 hO fun z4 s hO => ?_
   refine au ?_
   refine Go1.drawT (ok := fun _ => True) (CSv.tr [(some ⟨B34, 2, none⟩)]) [6, 8] 9 (.qp 0 (.qs 1 (.qp 2 (.qp 3 (.alt 4 (.alt 5 (.alt 6 (.qp 7 (.alt 8 .nil .fin)) .fin) .fin) .fin))))) mixed (by kernel_rfl) ?_
   intro jW sM
   refine sm hO sM fun s hO => ?_
   refine au ?_
   refine GoT.stable rfl (loadV (.head _) rfl (J55 2 hO rfl rfl) Try.underlying22 rfl rfl) rfl rfl ?_
   refine au ?_
   skip
   refine GoT.inl (vs := [.int .i64 (ix dk (dm : Int))]) (caps := [.pointer (some ⟨B2, 0, none⟩)]) rfl rfl rfl body141 Try.func141 rfl Try.ntmps141 rfl rfl rfl ?_
   intro RhR140 hR140
   have hOs141 := hO
   have hBs142 := (fr : Fr (bl []) w0 _ jW)
   have hB := Fr.refl (bl [.row 31 1 jU (n48 + 1) jV nU, t1 Fl.bool 4 p50 n52 c51 d_49, .blk B34 (.cells #[.int .i64 d.Letters, .int .i64 (0 : Int), .slice p50 n52 c51, .slice jU (n48 + 1) jV] 25 (0, 0)), t1 Fl.i 3 p66 n68 c67 d_65, .any (mapE (fun a : Int => Value.int .i64 a) (fun a : Int => Value.int .i64 a) B19 fR), .blk B15 (.cells #[.slice p66 n68 c67, .map (some B19)] 188 (0, 0)), .blk B12 (.cells #[.int .i64 (0 : Int), .int .i64 (0 : Int), .slice none 0 0, .slice none 0 0] 25 (0, 0)), .blk B5 (.cells #[.int .i64 (0 : Int), .int .i64 (0 : Int), .slice none 0 0, .slice none 0 0] 25 (0, 0)), .blk B2 (.cells #[.int .i64 d.Letters, .int .i64 d.Start, .slice am d.Final.length ao, .slice ap d.Next.length aq] 25 (0, 0))]) jW
   refine sxl hO bz.u H.1 H.2.1 ?_
   refine au ?_
   refine Go1.ret1V Try.func141 rfl (show _ = .bool (ix d.Final (ix dk (dm : Int))) from rfl) ?_
   refine hR140 _ _ (CSv.cons (cs_eq (J55 2 hOs141 rfl rfl) (J55 2 hO rfl rfl)) (CSv.nil _ _)) ?_
   replace hB := hBs142.trans (fr : Fr (bl [.row 31 1 jU (n48 + 1) jV nU, t1 Fl.bool 4 p50 n52 c51 d_49, .blk B34 (.cells #[.int .i64 d.Letters, .int .i64 (0 : Int), .slice p50 n52 c51, .slice jU (n48 + 1) jV] 25 (0, 0)), t1 Fl.i 3 p66 n68 c67 d_65, .any (mapE (fun a : Int => Value.int .i64 a) (fun a : Int => Value.int .i64 a) B19 fR), .blk B15 (.cells #[.slice p66 n68 c67, .map (some B19)] 188 (0, 0)), .blk B12 (.cells #[.int .i64 (0 : Int), .int .i64 (0 : Int), .slice none 0 0, .slice none 0 0] 25 (0, 0)), .blk B5 (.cells #[.int .i64 (0 : Int), .int .i64 (0 : Int), .slice none 0 0, .slice none 0 0] 25 (0, 0)), .blk B2 (.cells #[.int .i64 d.Letters, .int .i64 d.Start, .slice am d.Final.length ao, .slice ap d.Next.length aq] 25 (0, 0))]) jW _ jW)
   replace H := H.2.2
   skip
   refine sbuQ Fl.bool 4 [ix d.Final (ix dk (dm : Int))] hO (fun z5 z6 s hO => ?_) (g := fun _ _ _ hv _ hst h => GoT.step rfl hv (CSv.cons (cs_eq (J55 2 hO rfl rfl) (J55 3 hst.own rfl rfl)) (CSv.nil _ _)) rfl rfl h)
   skip
   refine sfz 0 hO fun s hO sN zj => ?_
   refine sap 1 hO sN H fun z7 z8 z9 s hO => ?_
   refine au ?_
   replace H := H.2
   skip
   refine sbs 2 hO fun wc s hO => ?_
   refine au ?_
   obtain ⟨we, H⟩ := H
   refine zo (J0p rfl rfl (wrap_i64 we)) ?_
   refine au ?_
   exact hX1 _ H _ _ ⟨_, _, _, _, _, _, _, _, _, _, agr, hO, nV.u, fr⟩
  refine au ?_
  refine Go1.drawT (ok := fun _ => True) Same.tr [3] 6 (.qs 0 (.qp 1 (.alt 2 (.alt 3 (.qp 4 (.qp 5 .nil)) .fin) (.alt 3 (.alt 2 (.qp 4 (.qp 5 .nil)) .fin) .fin)))) mixed (by kernel_rfl) ?_
  intro o9 sO
  refine sm hO sO fun s hO => ?_
  refine GoT.stable rfl (J5v (vs := [.int .i64 d.Letters, .int .i64 (0 : Int), .slice p50 n52 c51, .slice p46 n48 c47]) (i := 0) 2 hO rfl rfl Try.underlying25 rfl ti25 rfl) rfl rfl ?_
  refine au ?_
  refine GoT.both ?_ ?_
  ·skip
   replace H := H.1
   refine sbl 5 ?_
   skip
   refine sba 6 hO fun wg s hO => ?_
   refine au ?_
   refine Go1.retC3V Try.func139 rfl rfl (rlb 6 hO) (show _ = .slice p54 n56 c55 from rfl) (show _ = .int .i64 (0 : Int) from rfl) ?_
   refine hR10 _ _ ?_
   refine sal hO fun Aa B157 s hO => ?_
   refine sba 0 hO fun Ab s hO => ?_
   refine sln0 ?_
   refine smk Fl.i (H bz.bd) hO fun wh iI s hO => ?_
   refine sln1 0 hO ?_
   refine au ?_
   refine sdr [4, 5, 5, 5, 6] hO fun s hO => ?_
   refine lw (H bz.bd).2.2 (fun (kX, number5_165) σ w => (fun Z => agrees σ [(2, .pointer (some ⟨B5, 0, none⟩)), (4, .pointer (some ⟨B157, 0, none⟩)), (5, .slice p54 n56 c55), (7, .slice iI d.Final.length d.Final.length), (31, .int .i64 ((List.replicate d.Final.length ((0 : Int))).length : Int)), (32, .int .i64 (kX : Int))] ∧ Owns w0.heap.size w Z A ∧ Els (Rp.sl (Rp.int .i64)) (bl Z ++ A) w eG d_43 ∧ Fr (bl []) w0 (bl Z) w) [t1 Fl.i 3 iI d.Final.length d.Final.length number5_165, .blk B157 (.cells #[.int .i64 d.Letters, .int .i64 (0 : Int), .slice p50 n52 c51, .slice p46 n48 c47] 25 (0, 0)), .row 31 1 p46 n48 c47 eG, t1 Fl.bool 4 p50 n52 c51 d_49, t1 Fl.i 3 p54 n56 c55 dk, .blk B5 (.cells #[.int .i64 (0 : Int), .int .i64 (0 : Int), .slice none 0 0, .slice none 0 0] 25 (0, 0))]) ⟨agr, hO, dB.u, fr⟩ ?_
   refine fun X5 => p1 fun kX number5_165 => fun H hX5 σ wi => d3 fun hag hO dB hB => ?_
   dsimp only at H
   refine Go1.keep _ hag ?_
   revert hO; repeat (rename Owns _ _ _ _ => q; clear q)
   intro hO; repeat (rename Sq _ _ _ _ _ _ => q; clear q)
   refine scm H (fun lE H => ?_) fun lE H => ?_
   ·refine six1 0 hO H.1 H.2.1 ?_
    refine sst (u := (-1 : Int)) 0 hO H.1 H.2.1 fun pc s hO => ?_
    refine au ?_
    have Ac := H.1
    have Ad := H.2.1
    replace H := H.2.2
    obtain ⟨wj, H⟩ := H
    refine zo (J0p rfl rfl (wrap_i64 wj)) ?_
    refine au ?_
    exact hX5 _ H _ _ ⟨agr, hO, dB.u, fr⟩
   refine sln1 4 hO ?_
   refine au ?_
   refine lw H (fun (jj, number6_173) σ w => (fun Z => agrees σ [(2, .pointer (some ⟨B5, 0, none⟩)), (4, .pointer (some ⟨B157, 0, none⟩)), (7, .slice iI d.Final.length d.Final.length), (39, .slice p54 n56 c55), (40, .int .i64 (dk.length : Int)), (41, .int .i64 (jj : Int))] ∧ Owns w0.heap.size w Z A ∧ Els (Rp.sl (Rp.int .i64)) (bl Z ++ A) w eG d_43 ∧ Fr (bl []) w0 (bl Z) w) [t1 Fl.i 3 iI d.Final.length d.Final.length number6_173, .blk B157 (.cells #[.int .i64 d.Letters, .int .i64 (0 : Int), .slice p50 n52 c51, .slice p46 n48 c47] 25 (0, 0)), .row 31 1 p46 n48 c47 eG, t1 Fl.bool 4 p50 n52 c51 d_49, t1 Fl.i 3 p54 n56 c55 dk, .blk B5 (.cells #[.int .i64 (0 : Int), .int .i64 (0 : Int), .slice none 0 0, .slice none 0 0] 25 (0, 0))]) ⟨agr, hO, dB.u, fr⟩ ?_
   refine fun X6 => p1 fun jj number6_173 => fun H hX6 σ pe => d3 fun hag hO dB hB => ?_
   dsimp only at H
   refine Go1.keep _ hag ?_
   revert hO; repeat (rename Owns _ _ _ _ => q; clear q)
   intro hO; repeat (rename Sq _ _ _ _ _ _ => q; clear q)
   refine scm H (fun pg H => ?_) fun pg H => ?_
   ·refine sxl1 4 hO H.1 H.2.1 ?_
    refine six1 0 hO H.2.2.1 H.2.2.2.1 ?_
    refine sst (u := (jj : Int)) 0 hO H.2.2.1 H.2.2.2.1 fun wk s hO => ?_
    refine sinc (natbd pg (t1b 4 hO)) ?_
    refine au ?_
    exact hX6 _ H.2.2.2.2 _ _ ⟨agr, hO, dB.u, fr⟩
   refine sag 1 hO ?_
   refine sba 5 hO fun wm s hO => ?_
   refine au ?_
   refine sfz 3 hO fun s hO sP sQ => ?_
   refine sfzR 2 hO dB.u fun s hO jX jY => ?_
   refine sfz 0 hO fun s hO sR sT => ?_
   refine Go1.retC2 Try.func109 rfl rfl (rlb 2 hO) ⟨((⟨d.Letters, (0 : Int), d_49, d_43⟩ : DFA)), _, _, _, _, _, _, _, ?_, frs, sP.r, jX.r, sR.r, H⟩
   exact (congrArg (fun l => Value.tuple (List.toArray l)) (J02 (congrArg (fun l => Value.agg (List.toArray l)) (J02 rfl (J02 rfl (J02 (congrArg (fun nn => Value.slice p50 nn c51) sQ) (J02 (congrArg (fun nn => Value.slice p46 nn c47) jY) rfl))))) (J02 (congrArg (fun nn => Value.slice iI nn d.Final.length) sT) rfl)))
  replace H := H.2
  refine sba 6 hO fun wn s hO => ?_
  skip
  refine sbl 5 ?_
  refine au ?_
  refine Go1.retC3V Try.func139 rfl rfl (rlb 6 hO) (show _ = .slice p54 n56 c55 from rfl) (show _ = .int .i64 (0 : Int) from rfl) ?_
  refine hR10 _ _ ?_
  refine sal hO fun wo B185 s hO => ?_
  refine sba 0 hO fun Ae s hO => ?_
  refine sln0 ?_
  refine smk Fl.i (H bz.bd) hO fun wq jk s hO => ?_
  refine sln1 0 hO ?_
  refine au ?_
  refine sdr [4, 5, 5, 5, 6] hO fun s hO => ?_
  refine lw (H bz.bd).2.2 (fun (kY, number7_193) σ w => (fun Z => agrees σ [(2, .pointer (some ⟨B5, 0, none⟩)), (4, .pointer (some ⟨B185, 0, none⟩)), (5, .slice p54 n56 c55), (7, .slice jk d.Final.length d.Final.length), (31, .int .i64 ((List.replicate d.Final.length ((0 : Int))).length : Int)), (32, .int .i64 (kY : Int))] ∧ Owns w0.heap.size w Z A ∧ Els (Rp.sl (Rp.int .i64)) (bl Z ++ A) w eG d_43 ∧ Fr (bl []) w0 (bl Z) w) [t1 Fl.i 3 jk d.Final.length d.Final.length number7_193, .blk B185 (.cells #[.int .i64 d.Letters, .int .i64 (0 : Int), .slice p50 n52 c51, .slice p46 n48 c47] 25 (0, 0)), .row 31 1 p46 n48 c47 eG, t1 Fl.bool 4 p50 n52 c51 d_49, t1 Fl.i 3 p54 n56 c55 dk, .blk B5 (.cells #[.int .i64 (0 : Int), .int .i64 (0 : Int), .slice none 0 0, .slice none 0 0] 25 (0, 0))]) ⟨agr, hO, dB.u, fr⟩ ?_
  refine fun X7 => p1 fun kY number7_193 => fun H hX7 σ wr => d3 fun hag hO dB hB => ?_
  dsimp only at H
  refine Go1.keep _ hag ?_
  revert hO; repeat (rename Owns _ _ _ _ => q; clear q)
  intro hO; repeat (rename Sq _ _ _ _ _ _ => q; clear q)
  refine scm H (fun ws H => ?_) fun ws H => ?_
  ·refine six1 0 hO H.1 H.2.1 ?_
   refine sst (u := (-1 : Int)) 0 hO H.1 H.2.1 fun wt s hO => ?_
   refine au ?_
   have Af := H.1
   have Ag := H.2.1
   replace H := H.2.2
   obtain ⟨lF, H⟩ := H
   refine zo (J0p rfl rfl (wrap_i64 lF)) ?_
   refine au ?_
   exact hX7 _ H _ _ ⟨agr, hO, dB.u, fr⟩
  refine sln1 4 hO ?_
  refine au ?_
  refine lw H (fun (jl, number8_201) σ w => (fun Z => agrees σ [(2, .pointer (some ⟨B5, 0, none⟩)), (4, .pointer (some ⟨B185, 0, none⟩)), (7, .slice jk d.Final.length d.Final.length), (39, .slice p54 n56 c55), (40, .int .i64 (dk.length : Int)), (41, .int .i64 (jl : Int))] ∧ Owns w0.heap.size w Z A ∧ Els (Rp.sl (Rp.int .i64)) (bl Z ++ A) w eG d_43 ∧ Fr (bl []) w0 (bl Z) w) [t1 Fl.i 3 jk d.Final.length d.Final.length number8_201, .blk B185 (.cells #[.int .i64 d.Letters, .int .i64 (0 : Int), .slice p50 n52 c51, .slice p46 n48 c47] 25 (0, 0)), .row 31 1 p46 n48 c47 eG, t1 Fl.bool 4 p50 n52 c51 d_49, t1 Fl.i 3 p54 n56 c55 dk, .blk B5 (.cells #[.int .i64 (0 : Int), .int .i64 (0 : Int), .slice none 0 0, .slice none 0 0] 25 (0, 0))]) ⟨agr, hO, dB.u, fr⟩ ?_
  refine fun X8 => p1 fun jl number8_201 => fun H hX8 σ wu => d3 fun hag hO dB hB => ?_
  dsimp only at H
  refine Go1.keep _ hag ?_
  revert hO; repeat (rename Owns _ _ _ _ => q; clear q)
  intro hO; repeat (rename Sq _ _ _ _ _ _ => q; clear q)
  refine scm H (fun ph H => ?_) fun ph H => ?_
  ·refine sxl1 4 hO H.1 H.2.1 ?_
   refine six1 0 hO H.2.2.1 H.2.2.2.1 ?_
   refine sst (u := (jl : Int)) 0 hO H.2.2.1 H.2.2.2.1 fun ww s hO => ?_
   refine sinc (natbd ph (t1b 4 hO)) ?_
   refine au ?_
   exact hX8 _ H.2.2.2.2 _ _ ⟨agr, hO, dB.u, fr⟩
  refine sag 1 hO ?_
  refine sba 5 hO fun Ah s hO => ?_
  refine au ?_
  refine sfz 3 hO fun s hO sU sV => ?_
  refine sfzR 2 hO dB.u fun s hO sW sX => ?_
  refine sfz 0 hO fun s hO sY ta => ?_
  refine Go1.retC2 Try.func109 rfl rfl (rlb 2 hO) ⟨((⟨d.Letters, (0 : Int), d_49, d_43⟩ : DFA)), _, _, _, _, _, _, _, ?_, frs, sU.r, sW.r, sY.r, H⟩
  exact (congrArg (fun l => Value.tuple (List.toArray l)) (J02 (congrArg (fun l => Value.agg (List.toArray l)) (J02 rfl (J02 rfl (J02 (congrArg (fun nn => Value.slice p50 nn c51) sV) (J02 (congrArg (fun nn => Value.slice p46 nn c47) sX) rfl))))) (J02 (congrArg (fun nn => Value.slice jk nn d.Final.length) ta) rfl)))
 refine au ?_
 refine zo (J09 Try.underlying25 ti25 (pl := [(0, 1), (1, 1), (2, 1), (3, 1)]) (vs := []) (cs := #[.int .i64 (0 : Int), .int .i64 (0 : Int), .slice none 0 0, .slice none 0 0]) (by kernel_rfl) rfl (by kernel_rfl)) ?_
 refine sba 0 hO fun Ai s hO => ?_
 refine au ?_
 refine Go1.retC2 Try.func109 rfl rfl (rlb 0 hO) ⟨((⟨(0 : Int), (0 : Int), ([] : List Bool), ([] : List (List Int))⟩ : DFA)), _, _, _, _, _, _, _, ?_, frs, (ISl.null _ _ _), (ISl.null _ _ _), (ISl.null _ _ _), H⟩
 exact rfl
theorem body110 : Body Try.prog 110 := ⟨Try.f110, Try.func110, rfl, by kernel_rfl⟩
theorem J3h {A : List Nat} {w0 : World} {bG bS : Option Addr} {bH bT : Nat} {a0 : DFA} (hA : ∀ b ∈ A, b < w0.heap.size) (cj : ISl (Rp.bool) A w0 bG bH a0.Final) (db : ISl (Rp.sl (Rp.int .i64)) A w0 bS bT a0.Next) {K : List Int → Prop} (H : J0w a0 K) :
    CallsV Try.prog 110 #[.agg #[.int .i64 a0.Letters, .int .i64 a0.Start, .slice bG a0.Final.length bH, .slice bS a0.Next.length bT]] w0 (fun v w' => ∃ (r0 : List Int) (p_r0 : Option Addr) (c_r0 : Nat), v = .slice p_r0 r0.length c_r0 ∧ Same w0 w' ∧ ISl (Rp.int .i64) A w' p_r0 c_r0 r0 ∧ K r0) := by
 refine CallsV.of (l := [.agg #[.int .i64 a0.Letters, .int .i64 a0.Start, .slice bG a0.Final.length bH, .slice bS a0.Next.length bT]]) Try.func110 rfl Try.ntmps110 rfl ?_
 have hO := Owns.start hA
 have hB := Fr.refl (bl []) w0
 unfold J0w at H
 refine sbx hO fun w1 B2 s hO => ?_
 refine sag 0 hO ?_
 refine zcr (J00 body61 rfl (J0R hO.lt cj.u db.u H)) fun _ w5 => e1 fun r4 => sc0 hO fun s hO => fun H => ?_
 refine scm H (fun h6 H => ?_) fun h6 H => ?_
 ·refine sln0 ?_
  refine smk Fl.i (H cj.bd) hO fun w7 p8 s hO => ?_
  refine sln0 ?_
  refine au ?_
  refine lw (H cj.bd).2.2 (fun (k1_11, k1_12, d_13) σ w => (fun Z => agrees σ [(1, .pointer (some ⟨B2, 0, none⟩)), (3, .slice p8 a0.Final.length a0.Final.length), (4, .int .i64 k1_11), (24, .slice bG a0.Final.length bH), (25, .int .i64 (a0.Final.length : Int)), (26, .int .i64 (k1_12 : Int))] ∧ Owns w0.heap.size w Z A ∧ Fr (bl []) w0 (bl Z) w) [t1 Fl.i 3 p8 a0.Final.length a0.Final.length d_13, .blk B2 (.cells #[.int .i64 a0.Letters, .int .i64 a0.Start, .slice bG a0.Final.length bH, .slice bS a0.Next.length bT] 25 (0, 0))]) ⟨agr, hO, fr⟩ ?_
  refine fun X1 => p2 fun k1_11 k1_12 d_13 => fun H hX1 σ w10 => d2 fun hag hO hB => ?_
  dsimp only at H
  refine Go1.keep _ hag ?_
  revert hO; repeat (rename Owns _ _ _ _ => q; clear q)
  intro hO; repeat (rename Sq _ _ _ _ _ _ => q; clear q)
  refine scm H (fun h14 H => ?_) fun h14 H => ?_
  ·refine au ?_
   have h15 := H.1
   have h16 := H.2.1
   refine sxb hO cj.u H.1 H.2.1 H.2.2 (fun h17 H => ?_) fun h17 H => ?_
   ·refine au ?_
    have h18 := H.1
    have h19 := H.2.1
    refine sxb hO cj.u H.1 H.2.1 H.2.2 (fun h20 H => ?_) fun h20 H => ?_
    ·refine zo (J3q Try.underlying4 rfl rfl) ?_
     refine sinc (natbd h14 cj.bd) ?_
     refine au ?_
     exact hX1 _ H _ _ ⟨agr, hO, fr⟩
    refine zo (J3q Try.underlying4 rfl rfl) ?_
    refine six1 0 hO H.1 H.2.1 ?_
    refine sst (u := (1 : Int)) 0 hO H.1 H.2.1 fun w21 s hO => ?_
    refine sinc (natbd h14 cj.bd) ?_
    refine au ?_
    exact hX1 _ H.2.2 _ _ ⟨agr, hO, fr⟩
   refine au ?_
   have h22 := H.1
   have h23 := H.2.1
   refine sxb hO cj.u H.1 H.2.1 H.2.2 (fun h24 H => ?_) fun h24 H => ?_
   ·refine zo (J3q Try.underlying4 rfl rfl) ?_
    refine six1 0 hO H.1 H.2.1 ?_
    refine sst (u := (1 : Int)) 0 hO H.1 H.2.1 fun w25 s hO => ?_
    refine sinc (natbd h14 cj.bd) ?_
    refine au ?_
    exact hX1 _ H.2.2 _ _ ⟨agr, hO, fr⟩
   refine zo (J3q Try.underlying4 rfl rfl) ?_
   refine sinc (natbd h14 cj.bd) ?_
   refine au ?_
   exact hX1 _ H _ _ ⟨agr, hO, fr⟩
  refine au ?_
  refine sfz 0 hO fun s hO iJ wz => ?_
  refine lw H (fun (cG, k2_33) σ w => ∃ p30 c31, (fun Z => agrees σ [(1, .pointer (some ⟨B2, 0, none⟩)), (3, .slice p30 cG.length c31), (4, .int .i64 k2_33)] ∧ Owns w0.heap.size w Z A ∧ ISl (Rp.int .i64) (bl Z ++ A) w p30 c31 cG ∧ Fr (bl []) w0 (bl Z) w) [.blk B2 (.cells #[.int .i64 a0.Letters, .int .i64 a0.Start, .slice bG a0.Final.length bH, .slice bS a0.Next.length bT] 25 (0, 0))]) ⟨_, _, ⟨rfl, (congrArg (fun nn => Value.slice p8 nn a0.Final.length) wz), rfl, trivial⟩, hO, iJ, fr⟩ ?_
  refine fun X2 => p1 fun cG k2_33 => fun H hX2 σ w28 => e2 fun p30 c31 => d3 fun hag hO eF hB => ?_
  dsimp only at H
  refine Go1.keep _ hag ?_
  revert hO; repeat (rename Owns _ _ _ _ => q; clear q)
  intro hO; repeat (rename Sq _ _ _ _ _ _ => q; clear q)
  refine au ?_
  have zz := omakeMap (fun a : AN 7 => Value.agg (icells .i64 a.1).toArray) (fun a : Int => Value.int .i64 a) hO
  obtain ⟨w34, B35, tc, lG, te⟩ := zz
  refine zg te ?_
  refine nst tc fun s hO => ?_
  refine sln0 ?_
  refine smk Fl.i (H eF.bd) hO fun w40 p41 s hO => ?_
  refine sln0 ?_
  refine au ?_
  refine lw ((H eF.bd).2.2 db.bd) (fun (d7, lH, fS) σ w => (fun Z => agrees σ [(1, .pointer (some ⟨B2, 0, none⟩)), (3, .slice p30 cG.length c31), (4, .int .i64 k2_33), (7, .map (some B35)), (8, .slice p41 cG.length cG.length), (46, .slice bS a0.Next.length bT), (47, .int .i64 (a0.Next.length : Int)), (48, .int .i64 (d7 : Int))] ∧ Owns w0.heap.size w Z A ∧ ISl (Rp.int .i64) (bl Z ++ A) w p30 c31 cG ∧ Fr (bl []) w0 (bl Z) w) [t1 Fl.i 3 p41 cG.length cG.length lH, .any (mapE (fun a : AN 7 => Value.agg (icells .i64 a.1).toArray) (fun a : Int => Value.int .i64 a) B35 fS), .blk B2 (.cells #[.int .i64 a0.Letters, .int .i64 a0.Start, .slice bG a0.Final.length bH, .slice bS a0.Next.length bT] 25 (0, 0))]) ⟨agr, hO, eF.u, fr⟩ ?_
  refine fun X3 => p2 fun d7 lH fS => fun H hX3 σ w43 => d3 fun hag hO eF hB => ?_
  dsimp only at H
  refine Go1.keep _ hag ?_
  revert hO; repeat (rename Owns _ _ _ _ => q; clear q)
  intro hO; repeat (rename Sq _ _ _ _ _ _ => q; clear q)
  refine scm H (fun h47 H => ?_) fun h47 H => ?_
  ·refine sxls hO db.u H.1 H.2.1 fun p48 c49 fK => ?_
   refine sxl hO eF H.2.2.1 H.2.2.2.1 ?_
   refine zo (J6s Try.underlying166 ti166 ti3 (vs := [(0, .int .i64 (ix cG (d7 : Int)))]) (cs := #[.int .i64 (ix cG (d7 : Int)), .int .i64 (0 : Int), .int .i64 (0 : Int), .int .i64 (0 : Int), .int .i64 (0 : Int), .int .i64 (0 : Int), .int .i64 (0 : Int)]) rfl (by kernel_rfl)) ?_
   have zz := oalloc (t := 166) (cs := (icells .i64 (([(0 : Int), (0 : Int), (0 : Int), (0 : Int), (0 : Int), (0 : Int), (0 : Int)] : List Int))).toArray) ti166 hO rfl
   obtain ⟨w51, B52, tf, Aj, tg⟩ := zz
   refine zg tg ?_
   refine nst tf fun s hO => ?_
   have h60 := H.1
   have h61 := H.2.1
   have h62 := H.2.2.1
   have h63 := H.2.2.2.1
   replace H := H.2.2.2.2
   obtain ⟨h64, H⟩ := H
   have zz := oarrStA (M := [(ix cG (d7 : Int)), (0 : Int), (0 : Int), (0 : Int), (0 : Int), (0 : Int), (0 : Int)]) 0 hO rfl (by rw [h64]; rfl)
   obtain ⟨w57, j8, tj⟩ := zz
   refine zg (tj ti166 (by exact rfl) (by exact rfl)) ?_
   refine nst j8 fun s hO => ?_
   refine sln0 ?_
   refine au ?_
   refine lw (H fK.bd) (fun (j9, y4_67) σ w => (fun Z => agrees σ [(1, .pointer (some ⟨B2, 0, none⟩)), (3, .slice p30 cG.length c31), (4, .int .i64 k2_33), (7, .map (some B35)), (8, .slice p41 cG.length cG.length), (9, .int .i64 (d7 : Int)), (11, .pointer (some ⟨B52, 0, none⟩)), (46, .slice bS a0.Next.length bT), (47, .int .i64 (a0.Next.length : Int)), (48, .int .i64 (d7 : Int)), (58, .slice p48 ((ix a0.Next (d7 : Int)).length) c49), (59, .int .i64 ((ix a0.Next (d7 : Int)).length : Int)), (60, .int .i64 (j9 : Int))] ∧ Owns w0.heap.size w Z A ∧ ISl (Rp.int .i64) (bl Z ++ A) w p30 c31 cG ∧ ISl (Rp.int .i64) (bl Z ++ A) w p48 c49 (ix a0.Next (d7 : Int)) ∧ Fr (bl []) w0 (bl Z) w) [.blk B52 (.cells (icells .i64 y4_67).toArray 166 (0, 0)), t1 Fl.i 3 p41 cG.length cG.length lH, .any (mapE (fun a : AN 7 => Value.agg (icells .i64 a.1).toArray) (fun a : Int => Value.int .i64 a) B35 fS), .blk B2 (.cells #[.int .i64 a0.Letters, .int .i64 a0.Start, .slice bG a0.Final.length bH, .slice bS a0.Next.length bT] 25 (0, 0))]) ⟨agr, hO, eF.u, fK.u, fr⟩ ?_
   refine fun X4 => p1 fun j9 y4_67 => fun H hX4 σ w65 => d4 fun hag hO eF fK hB => ?_
   dsimp only at H
   refine Go1.keep _ hag ?_
   revert hO; repeat (rename Owns _ _ _ _ => q; clear q)
   intro hO; repeat (rename Sq _ _ _ _ _ _ => q; clear q)
   refine scm H (fun h68 H => ?_) fun h68 H => ?_
   ·refine sxl hO fK H.1 H.2.1 ?_
    refine au ?_
    have h69 := H.1
    have h70 := H.2.1
    replace H := H.2.2
    obtain ⟨h71, H⟩ := H
    refine zo (J0p rfl rfl (wrap_i64 h71)) ?_
    refine sxl hO eF H.1 H.2.1 ?_
    have h72 := H.1
    have h73 := H.2.1
    replace H := H.2.2
    obtain ⟨h74, H⟩ := H
    obtain ⟨h75, H⟩ := H
    obtain ⟨h76, H⟩ := H
    refine zo (J6E (n := 7) Try.underlying166 ti3 rfl rfl h75 h76) ?_
    have zz := oarrSt (v := (ix cG (ix (ix a0.Next (d7 : Int)) (j9 : Int)))) 0 hO rfl h75 (arrLt h74 h76)
    obtain ⟨w77, kc, ke⟩ := zz
    refine zg (ke Try.underlying3 rfl ti3 (by exact rfl) (by exact rfl)) ?_
    refine nst kc fun s hO => ?_
    refine sinc (natbd h68 fK.bd) ?_
    refine au ?_
    exact hX4 _ H _ _ ⟨agr, hO, eF.u, fK.u, fr⟩
   refine au ?_
   obtain ⟨h80, H⟩ := H
   refine zs (oarrLd 0 hO rfl h80 Try.underlying166 rfl ti166 rfl) ?_
   by_cases h81 : mhas fS ((toAN 7 y4_67)) = true
   ·refine zs (olookT (a := (toAN 7 y4_67)) (MK.arrN Try.underlying166 Try.underlying3 ti3) 2 hO rfl Try.underlying164 rfl rfl h81) ?_
    refine six1 1 hO (ifp h81 H).1 (ifp h81 H).2.1 ?_
    refine sst (u := (mgt fS ((toAN 7 y4_67)))) 1 hO (ifp h81 H).1 (ifp h81 H).2.1 fun w82 s hO => ?_
    refine sinc (natbd h47 db.bd) ?_
    refine au ?_
    refine sdr [0] hO fun s hO => ?_
    exact hX3 _ (ifp h81 H).2.2 _ _ ⟨agr, hO, eF.u, fr⟩
   refine zs (olookF (a := (toAN 7 y4_67)) (MK.arrN Try.underlying166 Try.underlying3 ti3) 2 hO rfl Try.underlying164 ti3 rfl rfl h81) ?_
   refine au ?_
   refine zs (omapLen 2 hO rfl Try.underlying164 rfl) ?_
   refine au ?_
   replace H := (ifn h81 H)
   obtain ⟨h83, H⟩ := H
   refine zs (oarrLd 0 hO rfl h83 Try.underlying166 rfl ti166 rfl) ?_
   refine au ?_
   have zz := omapUpd (MK.arrN Try.underlying166 Try.underlying3 ti3) 2 hO rfl Try.underlying164 (toAN 7 y4_67) (fS.length : Int)
   obtain ⟨w84, tm, tn⟩ := zz
   refine zg (tn (by exact rfl) (by exact rfl) (by exact rfl)) ?_
   refine nst tm fun s hO => ?_
   refine six1 1 hO H.1 H.2.1 ?_
   refine sst (u := (fS.length : Int)) 1 hO H.1 H.2.1 fun w87 s hO => ?_
   refine sinc (natbd h47 db.bd) ?_
   refine au ?_
   refine sdr [0] hO fun s hO => ?_
   exact hX3 _ H.2.2 _ _ ⟨agr, hO, eF.u, fr⟩
  refine au ?_
  refine zs (omapLen 1 hO rfl Try.underlying164 rfl) ?_
  refine scm H (fun h88 H => ?_) fun h88 H => ?_
  ·refine au ?_
   refine sfz 0 hO fun s hO lI wA => ?_
   refine Go1.ret1 Try.func110 rfl ⟨_, _, _, ?_, frs, lI.r, H⟩
   exact (congrArg (fun nn => Value.slice p41 nn cG.length) wA)
  refine au ?_
  refine zs (omapLen 1 hO rfl Try.underlying164 rfl) ?_
  refine au ?_
  refine sfz 0 hO fun s hO lJ lK => ?_
  refine sdr [0] hO fun s hO => ?_
  exact hX2 _ H _ _ ⟨_, _, ⟨rfl, (congrArg (fun nn => Value.slice p41 nn cG.length) lK), rfl, trivial⟩, hO, lJ.u, fr⟩
 refine au ?_
 refine Go1.ret1 Try.func110 rfl ⟨_, _, _, ?_, frs, (ISl.null _ _ _), H⟩
 exact rfl
theorem body66 : Body Try.prog 66 := ⟨Try.f66, Try.func66, rfl, by kernel_rfl⟩
theorem J34 {A : List Nat} {w0 : World} {bG bS : Option Addr} {bH bT : Nat} {a0 : DFA} (hA : ∀ b ∈ A, b < w0.heap.size) (cj : ISl (Rp.bool) A w0 bG bH a0.Final) (db : ISl (Rp.sl (Rp.int .i64)) A w0 bS bT a0.Next) {K : DFA → List Int → Prop} (H : J0A a0 K) :
    CallsV Try.prog 66 #[.agg #[.int .i64 a0.Letters, .int .i64 a0.Start, .slice bG a0.Final.length bH, .slice bS a0.Next.length bT]] w0 (fun v w' => ∃ (r0 : DFA) (r1 : List Int) (cp : Option Addr) (cq : Nat) (cA : Option Addr) (cB : Nat) (jd : Option Addr) (je : Nat), v = .tuple #[.agg #[.int .i64 r0.Letters, .int .i64 r0.Start, .slice cp r0.Final.length cq, .slice cA r0.Next.length cB], .slice jd r1.length je] ∧ Same w0 w' ∧ ISl (Rp.bool) A w' cp cq r0.Final ∧ ISl (Rp.sl (Rp.int .i64)) A w' cA cB r0.Next ∧ ISl (Rp.int .i64) A w' jd je r1 ∧ K r0 r1) := by
 refine CallsV.of (l := [.agg #[.int .i64 a0.Letters, .int .i64 a0.Start, .slice bG a0.Final.length bH, .slice bS a0.Next.length bT]]) Try.func66 rfl Try.ntmps66 rfl ?_
 have hO := Owns.start hA
 have hB := Fr.refl (bl []) w0
 unfold J0A at H
 refine sbx hO fun w1 B2 s hO => ?_
 refine sal hO fun w4 B5 s hO => ?_
 refine sag 1 hO ?_
 refine zcr (J00 body109 rfl (J40 hO.lt cj.u db.u H)) fun _ w9 => e4 fun r7 r8 eY e8 => e4 fun fC fD iK iL => sc0 hO fun s hO => d3 fun cW dp dM H => ?_
 refine sal hO fun w10 B11 s hO => ?_
 refine sba 0 hO fun w13 s hO => ?_
 refine sag 0 hO ?_
 refine zcr (J00 body110 rfl (J3h hO.lt cW.u dp.u H)) fun _ w15 => e3 fun r14 fE fF => sc0 hO fun s hO => d1 fun dq H => ?_
 refine au ?_
 refine zo (J09 Try.underlying25 ti25 (pl := [(0, 1), (1, 1), (2, 1), (3, 1)]) (vs := [(0, .int .i64 a0.Letters)]) (cs := #[.int .i64 a0.Letters, .int .i64 (0 : Int), .slice none 0 0, .slice none 0 0]) (by kernel_rfl) rfl (by kernel_rfl)) ?_
 refine sal hO fun w16 B17 s hO => ?_
 refine sba 0 hO fun w19 s hO => ?_
 refine sln0 ?_
 refine au ?_
 refine snil Fl.bool 4 hO fun s hO => ?_
 have tp := Stp.nil (e := 31) (r := 1) hO
 refine nst tp fun s hO => ?_
 have wB := elN (Rp.sl (Rp.int .i64)) hO
 refine lw (H dq.bd) (fun (k1_25, jm, d_32) σ w => ∃ n31 p29 c30 jo n35 p33 c34, (fun Z => agrees σ [(1, .pointer (some ⟨B2, 0, none⟩)), (2, .pointer (some ⟨B5, 0, none⟩)), (4, .pointer (some ⟨B11, 0, none⟩)), (5, .slice iK r8.length iL), (6, .slice fE r14.length fF), (7, .pointer (some ⟨B17, 0, none⟩)), (28, .slice fE r14.length fF), (29, .int .i64 (r14.length : Int)), (30, .int .i64 (k1_25 : Int))] ∧ Owns w0.heap.size w Z A ∧ Els (Rp.sl (Rp.int .i64)) (bl Z ++ A) w jo jm ∧ ISl (Rp.bool) (bl Z ++ A) w eY e8 r7.Final ∧ ISl (Rp.sl (Rp.int .i64)) (bl Z ++ A) w fC fD r7.Next ∧ ISl (Rp.int .i64) (bl Z ++ A) w iK iL r8 ∧ ISl (Rp.int .i64) (bl Z ++ A) w fE fF r14 ∧ Fr (bl []) w0 (bl Z) w) [.row 31 1 p29 n31 c30 jo, t1 Fl.bool 4 p33 n35 c34 d_32, .blk B17 (.cells #[.int .i64 a0.Letters, .int .i64 (0 : Int), .slice p33 n35 c34, .slice p29 n31 c30] 25 (0, 0)), .blk B11 (.cells #[.int .i64 r7.Letters, .int .i64 r7.Start, .slice eY r7.Final.length e8, .slice fC r7.Next.length fD] 25 (0, 0)), .blk B5 (.cells #[.int .i64 (0 : Int), .int .i64 (0 : Int), .slice none 0 0, .slice none 0 0] 25 (0, 0)), .blk B2 (.cells #[.int .i64 a0.Letters, .int .i64 a0.Start, .slice bG a0.Final.length bH, .slice bS a0.Next.length bT] 25 (0, 0))]) ⟨_, _, _, _, _, _, _, agr, hO, wB.u, cW.u, dp.u, dM.u, dq.u, fr⟩ ?_
 refine fun X1 => p2 fun k1_25 jm d_32 => fun H hX1 σ w24 => e4 fun n31 p29 c30 jo => e3 fun n35 p33 c34 => d1 fun hag => d1 fun hO => d1 fun iM => d4 fun cW dp dM dq hB => ?_
 dsimp only at H
 refine Go1.keep _ hag ?_
 revert hO; repeat (rename Owns _ _ _ _ => q; clear q)
 intro hO; repeat (rename Sq _ _ _ _ _ _ => q; clear q)
 refine scm H (fun h36 H => ?_) fun h36 H => ?_
 ·refine sxl hO dq H.1 H.2.1 ?_
  refine sln1 1 hO ?_
  have h37 := H.1
  have h38 := H.2.1
  refine scm H.2.2 (fun h39 H => ?_) fun h39 H => ?_
  ·refine sinc (natbd h36 dq.bd) ?_
   refine au ?_
   exact hX1 _ H _ _ ⟨_, _, _, _, _, _, _, agr, hO, iM, cW, dp, dM, dq, fr⟩
  refine smk Fl.i H hO fun w40 p41 s hO => ?_
  refine sxls hO dp.u H.2.2.1 H.2.2.2.1 fun p43 c44 iN => ?_
  refine sln0 ?_
  refine au ?_
  refine lw (H.2.2.2.2 iN.bd) (fun (kg, d_48) σ w => (fun Z => agrees σ [(1, .pointer (some ⟨B2, 0, none⟩)), (2, .pointer (some ⟨B5, 0, none⟩)), (4, .pointer (some ⟨B11, 0, none⟩)), (5, .slice iK r8.length iL), (6, .slice fE r14.length fF), (7, .pointer (some ⟨B17, 0, none⟩)), (8, .int .i64 (k1_25 : Int)), (10, .slice p41 a0.Letters.toNat a0.Letters.toNat), (28, .slice fE r14.length fF), (29, .int .i64 (r14.length : Int)), (30, .int .i64 (k1_25 : Int)), (47, .slice p43 ((ix r7.Next (k1_25 : Int)).length) c44), (48, .int .i64 ((ix r7.Next (k1_25 : Int)).length : Int)), (49, .int .i64 (kg : Int))] ∧ Owns w0.heap.size w Z A ∧ Els (Rp.sl (Rp.int .i64)) (bl Z ++ A) w jo jm ∧ ISl (Rp.bool) (bl Z ++ A) w eY e8 r7.Final ∧ ISl (Rp.sl (Rp.int .i64)) (bl Z ++ A) w fC fD r7.Next ∧ ISl (Rp.int .i64) (bl Z ++ A) w iK iL r8 ∧ ISl (Rp.int .i64) (bl Z ++ A) w fE fF r14 ∧ ISl (Rp.int .i64) (bl Z ++ A) w p43 c44 (ix r7.Next (k1_25 : Int)) ∧ Fr (bl []) w0 (bl Z) w) [t1 Fl.i 3 p41 a0.Letters.toNat a0.Letters.toNat d_48, .row 31 1 p29 n31 c30 jo, t1 Fl.bool 4 p33 n35 c34 d_32, .blk B17 (.cells #[.int .i64 a0.Letters, .int .i64 (0 : Int), .slice p33 n35 c34, .slice p29 n31 c30] 25 (0, 0)), .blk B11 (.cells #[.int .i64 r7.Letters, .int .i64 r7.Start, .slice eY r7.Final.length e8, .slice fC r7.Next.length fD] 25 (0, 0)), .blk B5 (.cells #[.int .i64 (0 : Int), .int .i64 (0 : Int), .slice none 0 0, .slice none 0 0] 25 (0, 0)), .blk B2 (.cells #[.int .i64 a0.Letters, .int .i64 a0.Start, .slice bG a0.Final.length bH, .slice bS a0.Next.length bT] 25 (0, 0))]) ⟨agr, hO, iM.u, cW.u, dp.u, dM.u, dq.u, iN.u, fr⟩ ?_
  refine fun X2 => p1 fun kg d_48 => fun H hX2 σ w46 => d1 fun hag => d1 fun hO => d1 fun iM => d1 fun cW => d4 fun dp dM dq iN hB => ?_
  dsimp only at H
  refine Go1.keep _ hag ?_
  revert hO; repeat (rename Owns _ _ _ _ => q; clear q)
  intro hO; repeat (rename Sq _ _ _ _ _ _ => q; clear q)
  refine scm H (fun h49 H => ?_) fun h49 H => ?_
  ·refine sxl hO iN H.1 H.2.1 ?_
   refine sxl hO dq H.2.2.1 H.2.2.2.1 ?_
   refine six1 0 hO H.2.2.2.2.1 H.2.2.2.2.2.1 ?_
   refine sst (u := (ix r14 (ix (ix r7.Next (k1_25 : Int)) (kg : Int)))) 0 hO H.2.2.2.2.1 H.2.2.2.2.2.1 fun w50 s hO => ?_
   refine sinc (natbd h49 iN.bd) ?_
   refine au ?_
   exact hX2 _ H.2.2.2.2.2.2 _ _ ⟨agr, hO, iM.u, cW.u, dp.u, dM.u, dq.u, iN.u, fr⟩
  refine au ?_
  refine drw 4 [(0, .pure), (1, .stable), (2, .pure), (3, .stable), (4, .pure), (5, .pure), (6, .stable), (7, .loud), (8, .last), (9, .pure), (10, .last)] hO fun w51 s hO => ?_
  refine sxl hO cW.u H.1 H.2.1 ?_
  refine sap1 (ix r7.Final (k1_25 : Int)) 2 hO H.2.2 fun _ w52 p53 c54 s hO => ?_
  refine sbs 3 hO fun w55 s hO => ?_
  refine au ?_
  refine sfz 0 hO fun s hO wC wD => ?_
  have zz := J2B (r := Rp.sl (Rp.int .i64)) (n := 1) (parts := [(0, .slice p41 a0.Letters.toNat a0.Letters.toNat)]) (vs := [.slice p41 a0.Letters.toNat a0.Letters.toNat]) (xs := [d_48]) rfl Try.underlying23 ti31 hO (by decide) (by kernel_rfl) (Els.cons rfl ⟨p41, a0.Letters.toNat, congrArg some (congrArg (fun nn => Value.slice p41 nn a0.Letters.toNat) wD), wC.u⟩ (Els.nil _ _ _) (by simp [mx])) rfl
  obtain ⟨w58, p59, kh, lL, Ak, tq⟩ := zz
  refine zg (tq rfl) ?_
  refine nst kh fun s hO => ?_
  refine sfzR 0 hO lL fun s hO wE wF => ?_
  have h67 := H.1
  have h68 := H.2.1
  replace H := H.2.2.2
  obtain ⟨h69, H⟩ := H
  have zz := oapp Try.underlying23 ti31 rfl 0 hO rfl iM.u wE wF h69 (by decide)
  obtain ⟨w70, p71, c72, Am, tt, pk, tu⟩ := zz
  dsimp only [sS, sZ] at pk
  refine zg (tu (by exact rfl) (by exact rfl)) ?_
  refine nst tt fun s hO => ?_
  refine sbs 2 hO fun w78 s hO => ?_
  refine sinc (natbd h36 dq.bd) ?_
  refine au ?_
  exact hX1 _ H _ _ ⟨_, _, _, _, _, _, _, agr, hO, pk.u, cW.u, dp.u, dM.u, dq.u, fr⟩
 refine sag 2 hO ?_
 refine sfz 1 hO fun s hO lM lN => ?_
 refine sfzR 0 hO iM.u fun s hO lO jp => ?_
 refine zcr (J00 body109 (show ([.agg #[.int .i64 a0.Letters, .int .i64 (0 : Int), .slice p33 n35 c34, .slice p29 n31 c30]] : List Value) = [.agg #[.int .i64 a0.Letters, .int .i64 (0 : Int), .slice p33 d_32.length c34, .slice p29 jm.length c30]] from by rw [← lN, ← jp]) (J40 (d := (⟨a0.Letters, (0 : Int), d_32, jm⟩ : DFA)) hO.lt lM.u lO H)) fun _ w85 => e4 fun r83 r84 gn gq => e4 fun gO gP nW nX => sc0 hO fun s hO => d3 fun dT d8 gQ H => ?_
 refine sal hO fun w86 B87 s hO => ?_
 refine sba 0 hO fun w89 s hO => ?_
 refine sln0 ?_
 refine smk Fl.i (H dM.bd) hO fun w90 p91 s hO => ?_
 refine sln0 ?_
 refine au ?_
 refine sdr [2, 2, 3] hO fun s hO => ?_
 refine lw (H dM.bd).2.2 (fun (ki, po) σ w => (fun Z => agrees σ [(2, .pointer (some ⟨B5, 0, none⟩)), (6, .slice fE r14.length fF), (13, .pointer (some ⟨B87, 0, none⟩)), (14, .slice nW r84.length nX), (15, .slice p91 r8.length r8.length), (87, .slice iK r8.length iL), (88, .int .i64 (r8.length : Int)), (89, .int .i64 (ki : Int))] ∧ Owns w0.heap.size w Z A ∧ ISl (Rp.int .i64) (bl Z ++ A) w iK iL r8 ∧ ISl (Rp.int .i64) (bl Z ++ A) w fE fF r14 ∧ ISl (Rp.bool) (bl Z ++ A) w gn gq r83.Final ∧ ISl (Rp.sl (Rp.int .i64)) (bl Z ++ A) w gO gP r83.Next ∧ ISl (Rp.int .i64) (bl Z ++ A) w nW nX r84 ∧ Fr (bl []) w0 (bl Z) w) [t1 Fl.i 3 p91 r8.length r8.length po, .blk B87 (.cells #[.int .i64 r83.Letters, .int .i64 r83.Start, .slice gn r83.Final.length gq, .slice gO r83.Next.length gP] 25 (0, 0)), .blk B5 (.cells #[.int .i64 (0 : Int), .int .i64 (0 : Int), .slice none 0 0, .slice none 0 0] 25 (0, 0))]) ⟨agr, hO, dM.u, dq.u, dT.u, d8.u, gQ.u, fr⟩ ?_
 refine fun X3 => p1 fun ki po => fun H hX3 σ w93 => d1 fun hag => d1 fun hO => d1 fun dM => d4 fun dq dT d8 gQ hB => ?_
 dsimp only at H
 refine Go1.keep _ hag ?_
 revert hO; repeat (rename Owns _ _ _ _ => q; clear q)
 intro hO; repeat (rename Sq _ _ _ _ _ _ => q; clear q)
 refine scm H (fun h96 H => ?_) fun h96 H => ?_
 ·refine sxl hO dM H.1 H.2.1 ?_
  refine six1 0 hO H.2.2.1 H.2.2.2.1 ?_
  refine sst (u := (-1 : Int)) 0 hO H.2.2.1 H.2.2.2.1 fun w97 s hO => ?_
  refine au ?_
  have h98 := H.1
  have h99 := H.2.1
  have kj := H.2.2.1
  have Ao := H.2.2.2.1
  refine scm H.2.2.2.2 (fun wG H => ?_) fun wG H => ?_
  ·refine sxl hO dq.u H.1 H.2.1 ?_
   refine sxl hO gQ.u H.2.2.1 H.2.2.2.1 ?_
   refine six1 0 hO H.2.2.2.2.1 H.2.2.2.2.2.1 ?_
   refine sst (u := (ix r84 (ix r14 (ix r8 (ki : Int))))) 0 hO H.2.2.2.2.1 H.2.2.2.2.2.1 fun wH s hO => ?_
   refine sinc (natbd h96 dM.bd) ?_
   refine au ?_
   exact hX3 _ H.2.2.2.2.2.2 _ _ ⟨agr, hO, dM.u, dq.u, dT.u, d8.u, gQ.u, fr⟩
  refine sinc (natbd h96 dM.bd) ?_
  refine au ?_
  exact hX3 _ H _ _ ⟨agr, hO, dM.u, dq.u, dT.u, d8.u, gQ.u, fr⟩
 refine sag 1 hO ?_
 refine sba 2 hO fun wI s hO => ?_
 refine au ?_
 refine sfz 0 hO fun s hO tv tw => ?_
 refine Go1.retC2 Try.func66 rfl rfl (rlb 1 hO) ⟨((⟨r83.Letters, r83.Start, r83.Final, r83.Next⟩ : DFA)), _, _, _, _, _, _, _, ?_, frs, dT.r, d8.r, tv.r, H⟩
 exact (congrArg (fun l => Value.tuple (List.toArray l)) (J02 rfl (J02 (congrArg (fun nn => Value.slice p91 nn r8.length) tw) rfl)))
theorem body22 : Body Try.prog 22 := ⟨Try.f22, Try.func22, rfl, by kernel_rfl⟩
theorem J3k {A : List Nat} {w0 : World} {am ap : Option Addr} {ao aq : Nat} {d : DFA} (hA : ∀ b ∈ A, b < w0.heap.size) (bz : ISl (Rp.bool) A w0 am ao d.Final) (co : ISl (Rp.sl (Rp.int .i64)) A w0 ap aq d.Next) {K : DFA → Prop} (H : J0z d K) :
    CallsV Try.prog 22 #[.agg #[.int .i64 d.Letters, .int .i64 d.Start, .slice am d.Final.length ao, .slice ap d.Next.length aq]] w0 (fun v w' => ∃ (r0 : DFA) (cp : Option Addr) (cq : Nat) (cA : Option Addr) (cB : Nat), v = .agg #[.int .i64 r0.Letters, .int .i64 r0.Start, .slice cp r0.Final.length cq, .slice cA r0.Next.length cB] ∧ Same w0 w' ∧ ISl (Rp.bool) A w' cp cq r0.Final ∧ ISl (Rp.sl (Rp.int .i64)) A w' cA cB r0.Next ∧ K r0) := by
 refine CallsV.of (l := [.agg #[.int .i64 d.Letters, .int .i64 d.Start, .slice am d.Final.length ao, .slice ap d.Next.length aq]]) Try.func22 rfl Try.ntmps22 rfl ?_
 have hO := Owns.start hA
 have hB := Fr.refl (bl []) w0
 unfold J0z at H
 refine sbx hO fun w1 B2 s hO => ?_
 refine sal hO fun w4 B5 s hO => ?_
 refine sag 1 hO ?_
 refine zcr (J00 body61 rfl (J0R hO.lt bz.u co.u H)) fun _ w8 => e1 fun r7 => sc0 hO fun s hO => fun H => ?_
 refine scm H (fun h9 H => ?_) fun h9 H => ?_
 ·refine sag 1 hO ?_
  refine zcr (J00 body66 rfl (J34 hO.lt bz.u co.u H)) fun _ w12 => e4 fun r10 r11 rY sb => e4 fun tx tz zl zu => sc0 hO fun s hO => d3 fun jN kl zw H => ?_
  refine sal hO fun w13 B14 s hO => ?_
  refine sba 0 hO fun w16 s hO => ?_
  refine sag 0 hO ?_
  refine sba 1 hO fun w17 s hO => ?_
  refine au ?_
  refine Go1.retC1 Try.func22 rfl rfl (rlb 1 hO) ⟨((⟨r10.Letters, r10.Start, r10.Final, r10.Next⟩ : DFA)), _, _, _, _, ?_, frs, jN.r, kl.r, H⟩
  exact rfl
 refine au ?_
 refine zo (J09 Try.underlying25 ti25 (pl := [(0, 1), (1, 1), (2, 1), (3, 1)]) (vs := []) (cs := #[.int .i64 (0 : Int), .int .i64 (0 : Int), .slice none 0 0, .slice none 0 0]) (by kernel_rfl) rfl (by kernel_rfl)) ?_
 refine sba 0 hO fun w18 s hO => ?_
 refine au ?_
 refine Go1.retC1 Try.func22 rfl rfl (rlb 0 hO) ⟨((⟨(0 : Int), (0 : Int), ([] : List Bool), ([] : List (List Int))⟩ : DFA)), _, _, _, _, ?_, frs, (ISl.null _ _ _), (ISl.null _ _ _), H⟩
 exact rfl
theorem body154 : Body Try.prog 154 := ⟨Try.f154, Try.func154, rfl, by kernel_rfl⟩
theorem J1O {A : List Nat} {w0 : World} {p_f : Option Addr} {c_f : Nat} {f : List Int} (hA : ∀ b ∈ A, b < w0.heap.size) (h_f : ISl (Rp.int .i64) A w0 p_f c_f f) {K : Bool → Prop} (H : J1v f K) :
    CallsV Try.prog 154 #[.slice p_f f.length c_f] w0 (fun v w' => ∃ (r0 : Bool), v = .bool r0 ∧ Same w0 w' ∧ K r0) := by
 refine CallsV.of (l := [.slice p_f f.length c_f]) Try.func154 rfl Try.ntmps154 rfl ?_
 have hO := Owns.start hA
 have hB := Fr.refl (bl []) w0
 unfold J1v at H
 refine sln0 ?_
 refine scm (H h_f.bd) (fun h1 H => ?_) fun h1 H => ?_
 ·refine au ?_
  refine Go1.ret1 Try.func154 rfl ⟨_, ?_, frs, H⟩
  exact rfl
 refine sln0 ?_
 refine scm H (fun h2 H => ?_) fun h2 H => ?_
 ·refine au ?_
  refine Go1.ret1 Try.func154 rfl ⟨_, ?_, frs, H⟩
  exact rfl
 refine sln0 ?_
 refine au ?_
 refine lw H (fun k1_4 σ w => (fun Z => agrees σ [(0, .slice p_f f.length c_f), (13, .slice p_f f.length c_f), (14, .int .i64 (f.length : Int)), (15, .int .i64 (k1_4 : Int))] ∧ Owns w0.heap.size w Z A ∧ Fr (bl []) w0 (bl Z) w) []) ⟨agr, hO, fr⟩ ?_
 refine fun X1 => fun k1_4 => fun H hX1 σ w3 => d2 fun hag hO hB => ?_
 refine Go1.keep _ hag ?_
 refine scm H (fun h5 H => ?_) fun h5 H => ?_
 ·refine sxl hO h_f.u H.1 H.2.1 ?_
  refine au ?_
  have h6 := H.1
  have h7 := H.2.1
  refine scm H.2.2 (fun h8 H => ?_) fun h8 H => ?_
  ·refine au ?_
   refine Go1.ret1 Try.func154 rfl ⟨_, ?_, frs, H⟩
   exact rfl
  refine sln0 ?_
  refine scm H (fun h9 H => ?_) fun h9 H => ?_
  ·refine au ?_
   refine Go1.ret1 Try.func154 rfl ⟨_, ?_, frs, H⟩
   exact rfl
  refine sinc (natbd h5 h_f.bd) ?_
  refine au ?_
  exact hX1 _ H _ _ ⟨agr, hO, fr⟩
 refine au ?_
 refine Go1.ret1 Try.func154 rfl ⟨_, ?_, frs, H⟩
 exact rfl
theorem body86 : Body Try.prog 86 := ⟨Try.f86, Try.func86, rfl, by kernel_rfl⟩
theorem J0n {A : List Nat} {w0 : World} {dy : Option Addr} {dK : Nat} {s_ : List Int} (hA : ∀ b ∈ A, b < w0.heap.size) (fo : ISl (Rp.int .i64) A w0 dy dK s_) {K : List Int → Prop} (H : J0b s_ K) :
    CallsV Try.prog 86 #[.slice dy s_.length dK] w0 (fun v w' => ∃ (r0 : List Int) (fm : Nat) (p_r0 : Option Addr) (c_r0 : Nat), v = .slice p_r0 fm c_r0 ∧ Same w0 w' ∧ Owns w0.heap.size w' [t1 Fl.i 3 p_r0 fm c_r0 r0] A ∧ K r0) := by
 refine CallsV.of (l := [.slice dy s_.length dK]) Try.func86 rfl Try.ntmps86 rfl ?_
 have hO := Owns.start hA
 have hB := Fr.refl (bl []) w0
 unfold J0b at H
 refine au ?_
 replace H := H dy.isNone (fun h => fo.nilD h)
 by_cases hz2 : dy.isNone = true
 ·replace H := ifp hz2 H
  refine zo (fun w => opB (J2h Try.underlying31 rfl rfl w) (hz2)) ?_
  refine au ?_
  refine snil Fl.i 3 hO fun s hO => ?_
  refine Go1.ret1 Try.func86 rfl ⟨_, _, _, _, ?_, frs, hO, H⟩
  exact rfl
 ·replace H := ifn hz2 H
  refine zo (fun w => opB (J2h Try.underlying31 rfl rfl w) (Bool.eq_false_iff.2 hz2)) ?_
  refine sbu Fl.i 3 ([] : List Int) hO fun w4 p5 s hO => ?_
  refine sap 0 hO fo.u H fun w7 p8 c9 s hO => ?_
  refine au ?_
  refine Go1.ret1 Try.func86 rfl ⟨_, _, _, _, ?_, frs, hO, H.2⟩
  exact rfl
theorem body156 : Body Try.prog 156 := ⟨Try.f156, Try.func156, rfl, by kernel_rfl⟩
theorem J3T {A : List Nat} {w0 : World} {n : Int} (hA : ∀ b ∈ A, b < w0.heap.size) {K : List Int → Prop} (H : J0T n K) :
    CallsV Try.prog 156 #[.int .i64 n] w0 (fun v w' => ∃ (r0 : List Int) (p_r0 : Option Addr) (c_r0 : Nat), v = .slice p_r0 r0.length c_r0 ∧ Same w0 w' ∧ ISl (Rp.int .i64) A w' p_r0 c_r0 r0 ∧ K r0) := by
 refine CallsV.of (l := [.int .i64 n]) Try.func156 rfl Try.ntmps156 rfl ?_
 have hO := Owns.start hA
 have hB := Fr.refl (bl []) w0
 unfold J0T at H
 refine scm H (fun h1 H => ?_) fun h1 H => ?_
 ·refine au ?_
  refine Go1.ret1 Try.func156 rfl ⟨_, _, _, ?_, frs, (ISl.null _ _ _), H⟩
  exact rfl
 refine scm H (fun h2 H => ?_) fun h2 H => ?_
 ·refine au ?_
  refine Go1.ret1 Try.func156 rfl ⟨_, _, _, ?_, frs, (ISl.null _ _ _), H⟩
  exact rfl
 refine smk Fl.i H hO fun w3 p4 s hO => ?_
 refine sln1 0 hO ?_
 refine au ?_
 refine lw H.2.2 (fun (bc, f1_8) σ w => (fun Z => agrees σ [(3, .slice p4 n.toNat n.toNat), (14, .int .i64 ((List.replicate n.toNat ((0 : Int))).length : Int)), (15, .int .i64 (bc : Int))] ∧ Owns w0.heap.size w Z A ∧ Fr (bl []) w0 (bl Z) w) [t1 Fl.i 3 p4 n.toNat n.toNat f1_8]) ⟨agr, hO, fr⟩ ?_
 refine fun X1 => p1 fun bc f1_8 => fun H hX1 σ w6 => d2 fun hag hO hB => ?_
 dsimp only at H
 refine Go1.keep _ hag ?_
 revert hO; repeat (rename Owns _ _ _ _ => q; clear q)
 intro hO; repeat (rename Sq _ _ _ _ _ _ => q; clear q)
 refine scm H (fun h9 H => ?_) fun h9 H => ?_
 ·refine six1 0 hO H.1 H.2.1 ?_
  refine sst (u := (bc : Int)) 0 hO H.1 H.2.1 fun w10 s hO => ?_
  refine au ?_
  have h11 := H.1
  have h12 := H.2.1
  replace H := H.2.2
  obtain ⟨h13, H⟩ := H
  refine zo (J0p rfl rfl (wrap_i64 h13)) ?_
  refine au ?_
  exact hX1 _ H _ _ ⟨agr, hO, fr⟩
 refine au ?_
 refine sfz 0 hO fun s hO jq jr => ?_
 refine Go1.ret1 Try.func156 rfl ⟨_, _, _, ?_, frs, jq.r, H⟩
 exact (congrArg (fun nn => Value.slice p4 nn n.toNat) jr)
theorem body157 : Body Try.prog 157 := ⟨Try.f157, Try.func157, rfl, by kernel_rfl⟩
theorem J05 {A : List Nat} {w0 : World} {p_f : Option Addr} {c_f : Nat} {f : List Int} (hA : ∀ b ∈ A, b < w0.heap.size) (h_f : ISl (Rp.int .i64) A w0 p_f c_f f) {K : Str → Prop} (H : J06 f K) :
    CallsV Try.prog 157 #[.slice p_f f.length c_f] w0 (fun v w' => ∃ (r0 : Str), v = .string (gstr r0) ∧ Same w0 w' ∧ r0.length ≤ mx ∧ K r0) := by
 refine CallsV.of (l := [.slice p_f f.length c_f]) Try.func157 rfl Try.ntmps157 rfl ?_
 have hO := Owns.start hA
 have hB := Fr.refl (bl []) w0
 unfold J06 at H
 refine sln0 ?_
 refine smk (Fl.int .u8) (H h_f.bd) hO fun w1 p4 s hO => ?_
 refine sln0 ?_
 refine au ?_
 refine lw (H h_f.bd).2.2 (fun (bc, pp) σ w => (fun Z => agrees σ [(3, .slice p4 f.length f.length), (9, .slice p_f f.length c_f), (10, .int .i64 (f.length : Int)), (11, .int .i64 (bc : Int))] ∧ Owns w0.heap.size w Z A ∧ Fr (bl []) w0 (bl Z) w) [t1 (Fl.int .u8) 5 p4 f.length f.length pp]) ⟨agr, hO, fr⟩ ?_
 refine fun X1 => p1 fun bc pp => fun H hX1 σ w6 => d2 fun hag hO hB => ?_
 dsimp only at H
 refine Go1.keep _ hag ?_
 revert hO; repeat (rename Owns _ _ _ _ => q; clear q)
 intro hO; repeat (rename Sq _ _ _ _ _ _ => q; clear q)
 refine scm H (fun h9 H => ?_) fun h9 H => ?_
 ·refine sxl hO h_f.u H.1 H.2.1 ?_
  refine au ?_
  refine zo (J3e Try.underlying3 Try.underlying5 rfl rfl) ?_
  refine six1 0 hO H.2.2.1 H.2.2.2.1 ?_
  refine sst (u := (IntKind.u8.wrap (ix f (bc : Int)))) 0 hO H.2.2.1 H.2.2.2.1 fun w10 s hO => ?_
  refine sinc (natbd h9 h_f.bd) ?_
  refine au ?_
  exact hX1 _ H.2.2.2.2 _ _ ⟨agr, hO, fr⟩
 refine au ?_
 refine op1 0 hO fun Ap s hO pq => ?_
 have hle13 := J8k pq.bd
 refine zs (oldBytes 0 hO rfl pq.u Try.underlying126 Try.underlying5 Try.underlying9 rfl) ?_
 refine au ?_
 refine Go1.ret1 Try.func157 rfl ⟨_, ?_, frs, hle13, H⟩
 exact rfl
end Sg
