/- -/
import Derived.Test.YtlneebpmblkllaaVd
namespace Sg
open Go Go.RowKit Go.Proofs
set_option linter.unusedVariables false
set_option linter.unusedSimpArgs false
set_option maxRecDepth 100000
set_option maxHeartbeats 4000000
theorem body59 : Body Try.prog 59 := ⟨Try.f59, Try.func59, rfl, by kernel_rfl⟩
theorem J1S {A : List Nat} {w0 : World} {letters : Int} (hA : ∀ b ∈ A, b < w0.heap.size) {K : Bool → Prop} (H : J0x letters K) :
    CallsV Try.prog 59 #[.int .i64 letters] w0 (fun v w' => ∃ (r0 : Bool), v = .bool r0 ∧ Same w0 w' ∧ K r0) := by
 refine CallsV.of (l := [.int .i64 letters]) Try.func59 rfl Try.ntmps59 rfl ?_
 have hO := Owns.start hA
 have hB := Fr.refl (bl []) w0
 unfold J0x at H
 refine scm H (fun h1 H => ?_) fun h1 H => ?_
 ·refine scm H (fun h2 H => ?_) fun h2 H => ?_
  ·refine au ?_
   refine Go1.ret1 Try.func59 rfl ⟨_, ?_, frs, H⟩
   exact rfl
  refine au ?_
  refine Go1.ret1 Try.func59 rfl ⟨_, ?_, frs, H⟩
  exact rfl
 refine au ?_
 refine Go1.ret1 Try.func59 rfl ⟨_, ?_, frs, H⟩
 exact rfl
theorem body16 : Body Try.prog 16 := ⟨Try.f16, Try.func16, rfl, by kernel_rfl⟩
theorem J4b {A : List Nat} {w0 : World} {ad af : Option Addr} {ae ag : Nat} {d : DFA} (hA : ∀ b ∈ A, b < w0.heap.size) (aM : ISl (Rp.bool) A w0 ad ae d.Final) (b9 : ISl (Rp.sl (Rp.int .i64)) A w0 af ag d.Next) {K : Int → Prop} (H : J11 d K) :
    CallsV Try.prog 16 #[.agg #[.int .i64 d.Letters, .int .i64 d.Start, .slice ad d.Final.length ae, .slice af d.Next.length ag]] w0 (fun v w' => ∃ (r0 : Int), v = .int .i64 r0 ∧ Same w0 w' ∧ K r0) := by
 refine CallsV.of (l := [.agg #[.int .i64 d.Letters, .int .i64 d.Start, .slice ad d.Final.length ae, .slice af d.Next.length ag]]) Try.func16 rfl Try.ntmps16 rfl ?_
 have hO := Owns.start hA
 have hB := Fr.refl (bl []) w0
 unfold J11 at H
 refine sbx hO fun w1 B2 s hO => ?_
 refine sln0 ?_
 refine au ?_
 refine zcr (J00 body59 rfl (J1S hO.lt (H aM.bd))) fun _ w5 => e1 fun r4 => sc0 hO fun s hO => fun H => ?_
 cases r4
 ·refine au ?_
  refine Go1.ret1 Try.func16 rfl ⟨_, ?_, frs, (iF H)⟩
  exact rfl
 refine scm (iT H) (fun h6 H => ?_) fun h6 H => ?_
 ·refine au ?_
  refine Go1.ret1 Try.func16 rfl ⟨_, ?_, frs, H⟩
  exact rfl
 refine scm H (fun h7 H => ?_) fun h7 H => ?_
 ·refine au ?_
  refine Go1.ret1 Try.func16 rfl ⟨_, ?_, frs, H⟩
  exact rfl
 refine sln0 ?_
 refine scm (H b9.bd) (fun h8 H => ?_) fun h8 H => ?_
 ·refine scm H (fun h9 H => ?_) fun h9 H => ?_
  ·refine au ?_
   refine Go1.ret1 Try.func16 rfl ⟨_, ?_, frs, H⟩
   exact rfl
  refine scm H (fun h10 H => ?_) fun h10 H => ?_
  ·refine au ?_
   refine Go1.ret1 Try.func16 rfl ⟨_, ?_, frs, H⟩
   exact rfl
  refine sln0 ?_
  refine au ?_
  refine lw H (fun k1_12 σ w => (fun Z => agrees σ [(1, .pointer (some ⟨B2, 0, none⟩)), (3, .int .i64 (d.Final.length : Int)), (38, .slice af d.Next.length ag), (39, .int .i64 (d.Next.length : Int)), (40, .int .i64 (k1_12 : Int))] ∧ Owns w0.heap.size w Z A ∧ Fr (bl []) w0 (bl Z) w) [.blk B2 (.cells #[.int .i64 d.Letters, .int .i64 d.Start, .slice ad d.Final.length ae, .slice af d.Next.length ag] 25 (0, 0))]) ⟨agr, hO, fr⟩ ?_
  refine fun X1 => fun k1_12 => fun H hX1 σ w11 => d2 fun hag hO hB => ?_
  refine Go1.keep _ hag ?_
  revert hO; repeat (rename Owns _ _ _ _ => q; clear q)
  intro hO; repeat (rename Sq _ _ _ _ _ _ => q; clear q)
  refine scm H (fun h13 H => ?_) fun h13 H => ?_
  ·refine sxls hO b9.u H.1 H.2.1 fun p14 c15 iR => ?_
   refine sln0 ?_
   refine au ?_
   have h17 := H.1
   have h18 := H.2.1
   refine scm (H.2.2 iR.bd) (fun h19 H => ?_) fun h19 H => ?_
   ·refine sln0 ?_
    refine au ?_
    refine lw H (fun rS σ w => (fun Z => agrees σ [(1, .pointer (some ⟨B2, 0, none⟩)), (3, .int .i64 (d.Final.length : Int)), (38, .slice af d.Next.length ag), (39, .int .i64 (d.Next.length : Int)), (40, .int .i64 (k1_12 : Int)), (49, .slice p14 ((ix d.Next (k1_12 : Int)).length) c15), (50, .int .i64 ((ix d.Next (k1_12 : Int)).length : Int)), (51, .int .i64 (rS : Int))] ∧ Owns w0.heap.size w Z A ∧ ISl (Rp.int .i64) (bl Z ++ A) w p14 c15 (ix d.Next (k1_12 : Int)) ∧ Fr (bl []) w0 (bl Z) w) [.blk B2 (.cells #[.int .i64 d.Letters, .int .i64 d.Start, .slice ad d.Final.length ae, .slice af d.Next.length ag] 25 (0, 0))]) ⟨agr, hO, iR.u, fr⟩ ?_
    refine fun X2 => fun rS => fun H hX2 σ w20 => d3 fun hag hO iR hB => ?_
    refine Go1.keep _ hag ?_
    revert hO; repeat (rename Owns _ _ _ _ => q; clear q)
    intro hO; repeat (rename Sq _ _ _ _ _ _ => q; clear q)
    refine scm H (fun h22 H => ?_) fun h22 H => ?_
    ·refine sxl hO iR H.1 H.2.1 ?_
     refine au ?_
     have h23 := H.1
     have h24 := H.2.1
     refine scm H.2.2 (fun h25 H => ?_) fun h25 H => ?_
     ·refine au ?_
      refine Go1.ret1 Try.func16 rfl ⟨_, ?_, frs, H⟩
      exact rfl
     refine scm H (fun h26 H => ?_) fun h26 H => ?_
     ·refine au ?_
      refine Go1.ret1 Try.func16 rfl ⟨_, ?_, frs, H⟩
      exact rfl
     refine sinc (natbd h22 iR.bd) ?_
     refine au ?_
     exact hX2 _ H _ _ ⟨agr, hO, iR, fr⟩
    refine sinc (natbd h13 b9.bd) ?_
    refine au ?_
    exact hX1 _ H _ _ ⟨agr, hO, fr⟩
   refine au ?_
   refine Go1.ret1 Try.func16 rfl ⟨_, ?_, frs, H⟩
   exact rfl
  refine au ?_
  refine Go1.ret1 Try.func16 rfl ⟨_, ?_, frs, H⟩
  exact rfl
 refine au ?_
 refine Go1.ret1 Try.func16 rfl ⟨_, ?_, frs, H⟩
 exact rfl
theorem body17 : Body Try.prog 17 := ⟨Try.f17, Try.func17, rfl, by kernel_rfl⟩
theorem J3f {A : List Nat} {w0 : World} {ad af : Option Addr} {ae ag : Nat} {d : DFA} {most : Int} (hA : ∀ b ∈ A, b < w0.heap.size) (aM : ISl (Rp.bool) A w0 ad ae d.Final) (b9 : ISl (Rp.sl (Rp.int .i64)) A w0 af ag d.Next) {K : Bool → Prop} (H : law21_small d most K) :
    CallsV Try.prog 17 #[.agg #[.int .i64 d.Letters, .int .i64 d.Start, .slice ad d.Final.length ae, .slice af d.Next.length ag], .int .i64 most] w0 (fun v w' => ∃ (r0 : Bool), v = .bool r0 ∧ Same w0 w' ∧ K r0) := by
 refine CallsV.of (l := [.agg #[.int .i64 d.Letters, .int .i64 d.Start, .slice ad d.Final.length ae, .slice af d.Next.length ag], .int .i64 most]) Try.func17 rfl Try.ntmps17 rfl ?_
 have hO := Owns.start hA
 have hB := Fr.refl (bl []) w0
 unfold law21_small at H
 refine sbx hO fun w1 B2 s hO => ?_
 refine sln0 ?_
 refine scm (H aM.bd) (fun h4 H => ?_) fun h4 H => ?_
 ·refine scm H (fun h5 H => ?_) fun h5 H => ?_
  ·refine sag 0 hO ?_
   refine zcr (J00 body16 rfl (J4b hO.lt aM.u b9.u H)) fun _ w7 => e1 fun r6 => sc0 hO fun s hO => fun H => ?_
   refine scm H (fun h8 H => ?_) fun h8 H => ?_
   ·refine au ?_
    refine Go1.ret1 Try.func17 rfl ⟨_, ?_, frs, H⟩
    exact rfl
   refine au ?_
   refine Go1.ret1 Try.func17 rfl ⟨_, ?_, frs, H⟩
   exact rfl
  refine au ?_
  refine Go1.ret1 Try.func17 rfl ⟨_, ?_, frs, H⟩
  exact rfl
 refine au ?_
 refine Go1.ret1 Try.func17 rfl ⟨_, ?_, frs, H⟩
 exact rfl
theorem body60 : Body Try.prog 60 := ⟨Try.f60, Try.func60, rfl, by kernel_rfl⟩
theorem J62 {A : List Nat} {w0 : World} (hA : ∀ b ∈ A, b < w0.heap.size) {K : DFA → Prop} (H : law21_ab  K) :
    CallsV Try.prog 60 #[] w0 (fun v w' => ∃ (r0 : DFA) (cR : Option Addr) (cS : Nat) (c6 : Option Addr) (c8 : Nat), v = .agg #[.int .i64 r0.Letters, .int .i64 r0.Start, .slice cR r0.Final.length cS, .slice c6 r0.Next.length c8] ∧ Same w0 w' ∧ ISl (Rp.bool) A w' cR cS r0.Final ∧ ISl (Rp.sl (Rp.int .i64)) A w' c6 c8 r0.Next ∧ K r0) := by
 refine CallsV.of (l := []) Try.func60 rfl Try.ntmps60 rfl ?_
 have hO := Owns.start hA
 have hB := Fr.refl (bl []) w0
 unfold law21_ab at H
 refine sal hO fun w1 B2 s hO => ?_
 refine sbu Fl.bool 4 [true, false, false] hO fun w4 p5 s hO => ?_
 refine sbu Fl.i 3 [(1 : Int), (2 : Int)] hO fun w7 p8 s hO => ?_
 refine sbu Fl.i 3 [(2 : Int), (0 : Int)] hO fun w10 p11 s hO => ?_
 refine sbu Fl.i 3 [(2 : Int), (2 : Int)] hO fun w13 p14 s hO => ?_
 refine sfz 2 hO fun s hO iR EH => ?_
 refine sfz 1 hO fun s hO o5 EI => ?_
 refine sfz 0 hO fun s hO kP EJ => ?_
 have zz := J2Y (r := Rp.sl (Rp.int .i64)) (n := 3) (parts := [(0, .slice p8 2 2), (1, .slice p11 2 2), (2, .slice p14 2 2)]) (vs := [.slice p8 2 2, .slice p11 2 2, .slice p14 2 2]) (xs := [[(1 : Int), (2 : Int)], [(2 : Int), (0 : Int)], [(2 : Int), (2 : Int)]]) rfl Try.underlying23 ti31 hO (by decide) (by kernel_rfl) (Els.cons rfl ⟨p8, 2, congrArg some (congrArg (fun nn => Value.slice p8 nn 2) EH), iR.u⟩ (Els.cons rfl ⟨p11, 2, congrArg some (congrArg (fun nn => Value.slice p11 nn 2) EI), o5.u⟩ (Els.cons rfl ⟨p14, 2, congrArg some (congrArg (fun nn => Value.slice p14 nn 2) EJ), kP⟩ (Els.nil _ _ _) (by simp [mx])) (by simp [mx])) (by simp [mx])) rfl
 obtain ⟨w22, p23, z8, EK, KS, mH⟩ := zz
 refine zg (mH rfl) ?_
 refine nst z8 fun s hO => ?_
 refine zo (J06 Try.underlying25 ti25 (pl := [(0, 1), (1, 1), (2, 1), (3, 1)]) (vs := [(0, .int .i64 (2 : Int)), (2, .slice p5 3 3), (3, .slice p23 3 3)]) (cs := #[.int .i64 (2 : Int), .int .i64 (0 : Int), .slice p5 3 3, .slice p23 3 3]) (by kernel_rfl) rfl (by kernel_rfl)) ?_
 refine sba 2 hO fun w29 s hO => ?_
 refine au ?_
 refine sfz 1 hO fun s hO EL EM => ?_
 refine sfzR 0 hO EK.u fun s hO gi EO => ?_
 refine Go1.retC1 Try.func60 rfl rfl (rlb 0 hO) ⟨((⟨(2 : Int), (0 : Int), [true, false, false], [[(1 : Int), (2 : Int)], [(2 : Int), (0 : Int)], [(2 : Int), (2 : Int)]]⟩ : DFA)), _, _, _, _, ?_, frs, EL.r, gi.r, H⟩
 exact (congrArg (fun l => Value.agg (List.toArray l)) (J05 rfl (J05 rfl (J05 (congrArg (fun nn => Value.slice p5 nn 3) EM) (J05 (congrArg (fun nn => Value.slice p23 nn 3) EO) rfl)))))
theorem body61 : Body Try.prog 61 := ⟨Try.f61, Try.func61, rfl, by kernel_rfl⟩
theorem J0s {A : List Nat} {w0 : World} {ad af : Option Addr} {ae ag : Nat} {d : DFA} (hA : ∀ b ∈ A, b < w0.heap.size) (aM : ISl (Rp.bool) A w0 ad ae d.Final) (b9 : ISl (Rp.sl (Rp.int .i64)) A w0 af ag d.Next) {K : Int → Prop} (H : J0l d K) :
    CallsV Try.prog 61 #[.agg #[.int .i64 d.Letters, .int .i64 d.Start, .slice ad d.Final.length ae, .slice af d.Next.length ag]] w0 (fun v w' => ∃ (r0 : Int), v = .int .i64 r0 ∧ Same w0 w' ∧ K r0) := by
 refine CallsV.of (l := [.agg #[.int .i64 d.Letters, .int .i64 d.Start, .slice ad d.Final.length ae, .slice af d.Next.length ag]]) Try.func61 rfl Try.ntmps61 rfl ?_
 have hO := Owns.start hA
 have hB := Fr.refl (bl []) w0
 unfold J0l at H
 refine sbx hO fun w1 B2 s hO => ?_
 refine scm H (fun h4 H => ?_) fun h4 H => ?_
 ·refine au ?_
  refine Go1.ret1 Try.func61 rfl ⟨_, ?_, frs, H⟩
  exact rfl
 refine scm H (fun h5 H => ?_) fun h5 H => ?_
 ·refine au ?_
  refine Go1.ret1 Try.func61 rfl ⟨_, ?_, frs, H⟩
  exact rfl
 refine sln0 ?_
 refine scm (H aM.bd) (fun h6 H => ?_) fun h6 H => ?_
 ·refine au ?_
  refine Go1.ret1 Try.func61 rfl ⟨_, ?_, frs, H⟩
  exact rfl
 refine sln0 ?_
 refine scm (H b9.bd) (fun h7 H => ?_) fun h7 H => ?_
 ·refine scm H (fun h8 H => ?_) fun h8 H => ?_
  ·refine au ?_
   refine Go1.ret1 Try.func61 rfl ⟨_, ?_, frs, H⟩
   exact rfl
  refine scm H (fun h9 H => ?_) fun h9 H => ?_
  ·refine au ?_
   refine Go1.ret1 Try.func61 rfl ⟨_, ?_, frs, H⟩
   exact rfl
  refine sln0 ?_
  refine au ?_
  refine lw H (fun k1_11 σ w => (fun Z => agrees σ [(1, .pointer (some ⟨B2, 0, none⟩)), (3, .int .i64 (d.Final.length : Int)), (38, .slice af d.Next.length ag), (39, .int .i64 (d.Next.length : Int)), (40, .int .i64 (k1_11 : Int))] ∧ Owns w0.heap.size w Z A ∧ Fr (bl []) w0 (bl Z) w) [.blk B2 (.cells #[.int .i64 d.Letters, .int .i64 d.Start, .slice ad d.Final.length ae, .slice af d.Next.length ag] 25 (0, 0))]) ⟨agr, hO, fr⟩ ?_
  refine fun X1 => fun k1_11 => fun H hX1 σ w10 => d2 fun hag hO hB => ?_
  refine Go1.keep _ hag ?_
  revert hO; repeat (rename Owns _ _ _ _ => q; clear q)
  intro hO; repeat (rename Sq _ _ _ _ _ _ => q; clear q)
  refine scm H (fun h12 H => ?_) fun h12 H => ?_
  ·refine sxls hO b9.u H.1 H.2.1 fun p13 c14 kg => ?_
   refine sln0 ?_
   refine au ?_
   have h16 := H.1
   have h17 := H.2.1
   refine scm (H.2.2 kg.bd) (fun h18 H => ?_) fun h18 H => ?_
   ·refine sln0 ?_
    refine au ?_
    refine lw H (fun rT σ w => (fun Z => agrees σ [(1, .pointer (some ⟨B2, 0, none⟩)), (3, .int .i64 (d.Final.length : Int)), (38, .slice af d.Next.length ag), (39, .int .i64 (d.Next.length : Int)), (40, .int .i64 (k1_11 : Int)), (49, .slice p13 ((ix d.Next (k1_11 : Int)).length) c14), (50, .int .i64 ((ix d.Next (k1_11 : Int)).length : Int)), (51, .int .i64 (rT : Int))] ∧ Owns w0.heap.size w Z A ∧ ISl (Rp.int .i64) (bl Z ++ A) w p13 c14 (ix d.Next (k1_11 : Int)) ∧ Fr (bl []) w0 (bl Z) w) [.blk B2 (.cells #[.int .i64 d.Letters, .int .i64 d.Start, .slice ad d.Final.length ae, .slice af d.Next.length ag] 25 (0, 0))]) ⟨agr, hO, kg.u, fr⟩ ?_
    refine fun X2 => fun rT => fun H hX2 σ w19 => d3 fun hag hO kg hB => ?_
    refine Go1.keep _ hag ?_
    revert hO; repeat (rename Owns _ _ _ _ => q; clear q)
    intro hO; repeat (rename Sq _ _ _ _ _ _ => q; clear q)
    refine scm H (fun h21 H => ?_) fun h21 H => ?_
    ·refine sxl hO kg H.1 H.2.1 ?_
     refine au ?_
     have h22 := H.1
     have h23 := H.2.1
     refine scm H.2.2 (fun h24 H => ?_) fun h24 H => ?_
     ·refine au ?_
      refine Go1.ret1 Try.func61 rfl ⟨_, ?_, frs, H⟩
      exact rfl
     refine scm H (fun h25 H => ?_) fun h25 H => ?_
     ·refine au ?_
      refine Go1.ret1 Try.func61 rfl ⟨_, ?_, frs, H⟩
      exact rfl
     refine sinc (natbd h21 kg.bd) ?_
     refine au ?_
     exact hX2 _ H _ _ ⟨agr, hO, kg, fr⟩
    refine sinc (natbd h12 b9.bd) ?_
    refine au ?_
    exact hX1 _ H _ _ ⟨agr, hO, fr⟩
   refine au ?_
   refine Go1.ret1 Try.func61 rfl ⟨_, ?_, frs, H⟩
   exact rfl
  refine au ?_
  refine Go1.ret1 Try.func61 rfl ⟨_, ?_, frs, H⟩
  exact rfl
 refine au ?_
 refine Go1.ret1 Try.func61 rfl ⟨_, ?_, frs, H⟩
 exact rfl
theorem body141 : Body Try.prog 141 := ⟨Try.f141, Try.func141, rfl, by kernel_rfl⟩
theorem body140 : Body Try.prog 140 := ⟨Try.f140, Try.func140, rfl, by kernel_rfl⟩
theorem body163 : Body Try.prog 163 := ⟨Try.f163, Try.func163, rfl, by kernel_rfl⟩
theorem body139 : Body Try.prog 139 := ⟨Try.f139, Try.func139, rfl, by kernel_rfl⟩
theorem body109 : Body Try.prog 109 := ⟨Try.f109, Try.func109, rfl, by kernel_rfl⟩
theorem J4e {A : List Nat} {w0 : World} {ad af : Option Addr} {ae ag : Nat} {d : DFA} (hA : ∀ b ∈ A, b < w0.heap.size) (aM : ISl (Rp.bool) A w0 ad ae d.Final) (b9 : ISl (Rp.sl (Rp.int .i64)) A w0 af ag d.Next) {K : DFA → List Int → Prop} (H : J3Q d K) :
    CallsV Try.prog 109 #[.agg #[.int .i64 d.Letters, .int .i64 d.Start, .slice ad d.Final.length ae, .slice af d.Next.length ag]] w0 (fun v w' => ∃ (r0 : DFA) (r1 : List Int) (cR : Option Addr) (cS : Nat) (c6 : Option Addr) (c8 : Nat) (iN : Option Addr) (iO : Nat), v = .tuple #[.agg #[.int .i64 r0.Letters, .int .i64 r0.Start, .slice cR r0.Final.length cS, .slice c6 r0.Next.length c8], .slice iN r1.length iO] ∧ Same w0 w' ∧ ISl (Rp.bool) A w' cR cS r0.Final ∧ ISl (Rp.sl (Rp.int .i64)) A w' c6 c8 r0.Next ∧ ISl (Rp.int .i64) A w' iN iO r1 ∧ K r0 r1) := by
 refine CallsV.of (l := [.agg #[.int .i64 d.Letters, .int .i64 d.Start, .slice ad d.Final.length ae, .slice af d.Next.length ag]]) Try.func109 rfl Try.ntmps109 rfl ?_
 have hO := Owns.start hA
 have hB := Fr.refl (bl []) w0
 unfold J3Q at H
 refine sbx hO fun w1 B2 s hO => ?_
 refine sal hO fun w4 B5 s hO => ?_
 refine sag 1 hO ?_
 refine zcr (J00 body61 rfl (J0s hO.lt aM.u b9.u H)) fun _ w8 => e1 fun r7 => sc0 hO fun s hO => fun H => ?_
 refine scm H (fun h9 H => ?_) fun h9 H => ?_
 ·refine au ?_
  refine zo (J3c (vs := [.pointer (some ⟨B2, 0, none⟩)]) rfl) ?_
  refine zo (J3c (vs := [.pointer (some ⟨B2, 0, none⟩)]) rfl) ?_
  refine GoR.inl (vs := [.int .i64 d.Letters, .int .i64 d.Start, .func (.func 140) #[] #[.pointer (some ⟨B2, 0, none⟩)], .func (.func 141) #[] #[.pointer (some ⟨B2, 0, none⟩)]]) (caps := []) rfl rfl body139 Try.func139 rfl Try.ntmps139 rfl rfl rfl ?_
  intro RhR10 hR10
  refine sal hO fun w11 B12 s hO => ?_
  refine sal hO fun w14 B15 s hO => ?_
  refine au ?_
  refine GoR.inl (vs := [.pointer (some ⟨B15, 0, none⟩), .int .i64 d.Start]) (caps := []) rfl rfl body163 Try.func163 rfl Try.ntmps163 rfl rfl rfl ?_
  intro RhR17 hR17
  refine au ?_
  refine zs (fun w _ => olookN (a := d.Start) (MK.int Try.underlying3) Try.underlying168 ti3 rfl rfl w) ?_
  refine au ?_
  refine zo (fun w => opB (J6g Try.underlying168 rfl rfl w) rfl) ?_
  refine au ?_
  have zz := omakeMap (fun a : Int => Value.int .i64 a) (fun a : Int => Value.int .i64 a) hO
  obtain ⟨w18, B19, z9, KT, Aa⟩ := zz
  refine zg Aa ?_
  refine nst z9 fun s hO => ?_
  refine sbs 1 hO fun w24 s hO => ?_
  refine sln0 ?_
  refine au ?_
  have zz := omapUpd (MK.int Try.underlying3) 0 hO rfl Try.underlying168 d.Start (0 : Int)
  obtain ⟨w25, ms, mH⟩ := zz
  refine zg (mH (by exact rfl) (by exact rfl) (by exact rfl)) ?_
  refine nst ms fun s hO => ?_
  refine au ?_
  refine snil Fl.i 3 hO fun s hO => ?_
  refine sap1 d.Start 0 hO H fun _ w29 p30 c31 s hO => ?_
  refine sbs 2 hO fun w32 s hO => ?_
  refine au ?_
  refine Go1.ret1V Try.func163 rfl (show _ = .int .i64 (0 : Int) from rfl) ?_
  refine hR17 _ _ ?_
  refine au ?_
  refine zo (J06 Try.underlying25 ti25 (pl := [(0, 1), (1, 1), (2, 1), (3, 1)]) (vs := [(0, .int .i64 d.Letters)]) (cs := #[.int .i64 d.Letters, .int .i64 (0 : Int), .slice none 0 0, .slice none 0 0]) (by kernel_rfl) rfl (by kernel_rfl)) ?_
  refine sal hO fun w33 B34 s hO => ?_
  refine sba 0 hO fun w36 s hO => ?_
  refine au ?_
  refine snil Fl.bool 4 hO fun s hO => ?_
  have Ab := Stp.nil (e := 31) (r := 1) hO
  refine nst Ab fun s hO => ?_
  have EP := elN (Rp.sl (Rp.int .i64)) hO
  refine lw H.2 (fun (d8, d_43, d_49, dY, rU) σ w => ∃ n48 p46 c47 gj n52 p50 c51 n56 p54 c55, (fun Z => agrees σ [(0, .int .i64 d.Letters), (2, .func (.func 140) #[] #[.pointer (some ⟨B2, 0, none⟩)]), (3, .func (.func 141) #[] #[.pointer (some ⟨B2, 0, none⟩)]), (8, .pointer (some ⟨B12, 0, none⟩)), (11, .pointer (some ⟨B15, 0, none⟩)), (12, .pointer (some ⟨B34, 0, none⟩)), (13, .int .i64 (d8 : Int))] ∧ Owns w0.heap.size w Z A ∧ Els (Rp.sl (Rp.int .i64)) (bl Z ++ A) w gj d_43 ∧ Fr (bl []) w0 (bl Z) w) [.row 31 1 p46 n48 c47 gj, t1 Fl.bool 4 p50 n52 c51 d_49, .blk B34 (.cells #[.int .i64 d.Letters, .int .i64 (0 : Int), .slice p50 n52 c51, .slice p46 n48 c47] 25 (0, 0)), t1 Fl.i 3 p54 n56 c55 dY, .any (mapE (fun a : Int => Value.int .i64 a) (fun a : Int => Value.int .i64 a) B19 rU), .blk B15 (.cells #[.slice p54 n56 c55, .map (some B19)] 188 (0, 0)), .blk B12 (.cells #[.int .i64 (0 : Int), .int .i64 (0 : Int), .slice none 0 0, .slice none 0 0] 25 (0, 0)), .blk B5 (.cells #[.int .i64 (0 : Int), .int .i64 (0 : Int), .slice none 0 0, .slice none 0 0] 25 (0, 0)), .blk B2 (.cells #[.int .i64 d.Letters, .int .i64 d.Start, .slice ad d.Final.length ae, .slice af d.Next.length ag] 25 (0, 0))]) ⟨_, _, _, _, _, _, _, _, _, _, agr, hO, EP.u, fr⟩ ?_
  refine fun X1 => p1 fun d8 => p3 fun d_43 d_49 dY rU => fun H hX1 σ w41 => e4 fun n48 p46 c47 gj => e4 fun n52 p50 c51 n56 => e2 fun p54 c55 => d3 fun hag hO eQ hB => ?_
  dsimp only at H
  refine Go1.keep _ hag ?_
  revert hO; repeat (rename Owns _ _ _ _ => q; clear q)
  intro hO; repeat (rename Sq _ _ _ _ _ _ => q; clear q)
  refine sln1 3 hO ?_
  refine scm H (fun h58 H => ?_) fun h58 H => ?_
  ·refine sxl1 3 hO H.1 H.2.1 ?_
   refine smk Fl.i H.2.2 hO fun w59 p60 s hO => ?_
   refine sln1 0 hO ?_
   refine au ?_
   refine lw H.2.2.2.2 (fun (fK, o6, d_65, iC) σ w => ∃ n68 p66 c67, (fun Z => agrees σ [(0, .int .i64 d.Letters), (2, .func (.func 140) #[] #[.pointer (some ⟨B2, 0, none⟩)]), (3, .func (.func 141) #[] #[.pointer (some ⟨B2, 0, none⟩)]), (8, .pointer (some ⟨B12, 0, none⟩)), (11, .pointer (some ⟨B15, 0, none⟩)), (12, .pointer (some ⟨B34, 0, none⟩)), (13, .int .i64 (d8 : Int)), (14, .int .i64 (ix dY (d8 : Int))), (15, .slice p60 d.Letters.toNat d.Letters.toNat), (36, .int .i64 ((List.replicate d.Letters.toNat ((0 : Int))).length : Int)), (37, .int .i64 (fK : Int))] ∧ Owns w0.heap.size w Z A ∧ Els (Rp.sl (Rp.int .i64)) (bl Z ++ A) w gj d_43 ∧ Fr (bl []) w0 (bl Z) w) [t1 Fl.i 3 p60 d.Letters.toNat d.Letters.toNat o6, .row 31 1 p46 n48 c47 gj, t1 Fl.bool 4 p50 n52 c51 d_49, .blk B34 (.cells #[.int .i64 d.Letters, .int .i64 (0 : Int), .slice p50 n52 c51, .slice p46 n48 c47] 25 (0, 0)), t1 Fl.i 3 p66 n68 c67 d_65, .any (mapE (fun a : Int => Value.int .i64 a) (fun a : Int => Value.int .i64 a) B19 iC), .blk B15 (.cells #[.slice p66 n68 c67, .map (some B19)] 188 (0, 0)), .blk B12 (.cells #[.int .i64 (0 : Int), .int .i64 (0 : Int), .slice none 0 0, .slice none 0 0] 25 (0, 0)), .blk B5 (.cells #[.int .i64 (0 : Int), .int .i64 (0 : Int), .slice none 0 0, .slice none 0 0] 25 (0, 0)), .blk B2 (.cells #[.int .i64 d.Letters, .int .i64 d.Start, .slice ad d.Final.length ae, .slice af d.Next.length ag] 25 (0, 0))]) ⟨_, _, _, agr, hO, eQ.u, fr⟩ ?_
   refine fun X2 => p3 fun fK o6 d_65 iC => fun H hX2 σ w62 => e3 fun n68 p66 c67 => d3 fun hag hO eQ hB => ?_
   dsimp only at H
   refine Go1.keep _ hag ?_
   revert hO; repeat (rename Owns _ _ _ _ => q; clear q)
   intro hO; repeat (rename Sq _ _ _ _ _ _ => q; clear q)
   refine scm H (fun h70 H => ?_) fun h70 H => ?_
   ·refine au ?_
    refine GoR.inl (vs := [.int .i64 (ix dY (d8 : Int)), .int .i64 (fK : Int)]) (caps := [.pointer (some ⟨B2, 0, none⟩)]) rfl rfl body140 Try.func140 rfl Try.ntmps140 rfl rfl rfl ?_
    intro RhR71 hR71
    refine sxls hO b9.u H.1 H.2.1 fun p72 c73 o7 => ?_
    refine sxl hO o7.u H.2.2.1 H.2.2.2.1 ?_
    refine au ?_
    refine Go1.ret1V Try.func140 rfl (show _ = .int .i64 (ix (ix d.Next (ix dY (d8 : Int))) (fK : Int)) from rfl) ?_
    refine hR71 _ _ ?_
    refine GoR.inl (vs := [.pointer (some ⟨B15, 0, none⟩), .int .i64 (ix (ix d.Next (ix dY (d8 : Int))) (fK : Int))]) (caps := []) rfl rfl body163 Try.func163 rfl Try.ntmps163 rfl rfl rfl ?_
    intro RhR75 hR75
    refine au ?_
    replace H := H.2.2.2.2
    by_cases h76 : mhas iC ((ix (ix d.Next (ix dY (d8 : Int))) (fK : Int))) = true
    ·refine zs (olookT (a := (ix (ix d.Next (ix dY (d8 : Int))) (fK : Int))) (MK.int Try.underlying3) 5 hO rfl Try.underlying168 rfl rfl h76) ?_
     refine au ?_
     refine Go1.ret1V Try.func163 rfl (show _ = .int .i64 (mgt iC ((ix (ix d.Next (ix dY (d8 : Int))) (fK : Int)))) from rfl) ?_
     refine hR75 _ _ ?_
     refine six1 0 hO (ifp h76 H).1 (ifp h76 H).2.1 ?_
     refine sst (u := (mgt iC ((ix (ix d.Next (ix dY (d8 : Int))) (fK : Int))))) 0 hO (ifp h76 H).1 (ifp h76 H).2.1 fun w77 s hO => ?_
     refine au ?_
     have h78 := (ifp h76 H).1
     have h79 := (ifp h76 H).2.1
     replace H := (ifp h76 H).2.2
     obtain ⟨h80, H⟩ := H
     refine zo (J0i rfl rfl (wrap_i64 h80)) ?_
     refine au ?_
     exact hX2 _ H _ _ ⟨_, _, _, agr, hO, eQ.u, fr⟩
    refine zs (olookF (a := (ix (ix d.Next (ix dY (d8 : Int))) (fK : Int))) (MK.int Try.underlying3) 5 hO rfl Try.underlying168 ti3 rfl rfl h76) ?_
    refine au ?_
    refine zo (fun w => opB (J6g Try.underlying168 rfl rfl w) rfl) ?_
    refine sln1 4 hO ?_
    refine au ?_
    have zz := omapUpd (MK.int Try.underlying3) 5 hO rfl Try.underlying168 (ix (ix d.Next (ix dY (d8 : Int))) (fK : Int)) (d_65.length : Int)
    obtain ⟨w81, mI, mJ⟩ := zz
    refine zg (mJ (by exact rfl) (by exact rfl) (by exact rfl)) ?_
    refine nst mI fun s hO => ?_
    refine au ?_
    refine sap1 ((ix (ix d.Next (ix dY (d8 : Int))) (fK : Int))) 4 hO (ifn h76 H) fun _ w84 p85 c86 s hO => ?_
    refine sbs 6 hO fun w87 s hO => ?_
    refine au ?_
    refine Go1.ret1V Try.func163 rfl (show _ = .int .i64 (d_65.length : Int) from rfl) ?_
    refine hR75 _ _ ?_
    refine six1 0 hO (ifn h76 H).2.1 (ifn h76 H).2.2.1 ?_
    refine sst (u := (d_65.length : Int)) 0 hO (ifn h76 H).2.1 (ifn h76 H).2.2.1 fun w88 s hO => ?_
    refine au ?_
    have h89 := (ifn h76 H).2.1
    have h90 := (ifn h76 H).2.2.1
    replace H := (ifn h76 H).2.2.2
    obtain ⟨h91, H⟩ := H
    refine zo (J0i rfl rfl (wrap_i64 h91)) ?_
    refine au ?_
    exact hX2 _ H _ _ ⟨_, _, _, agr, hO, eQ.u, fr⟩
   refine sln1 4 hO ?_
   refine scm H (fun h92 H => ?_) fun h92 H => ?_
   ·refine au ?_
    refine zo (J06 Try.underlying25 ti25 (pl := [(0, 1), (1, 1), (2, 1), (3, 1)]) (vs := []) (cs := #[.int .i64 (0 : Int), .int .i64 (0 : Int), .slice none 0 0, .slice none 0 0]) (by kernel_rfl) rfl (by kernel_rfl)) ?_
    refine sba 7 hO fun w93 s hO => ?_
    refine au ?_
    refine Go1.retC3V Try.func139 rfl rfl (rlb 7 hO) (show _ = .slice none 0 0 from rfl) (show _ = .int .i64 (3 : Int) from rfl) ?_
    refine hR10 _ _ ?_
    refine sal hO fun w94 B95 s hO => ?_
    refine sba 0 hO fun w97 s hO => ?_
    refine sln0 ?_
    refine smk Fl.i (H aM.bd) hO fun w98 p99 s hO => ?_
    refine sln1 0 hO ?_
    refine au ?_
    refine sdr [2, 2, 2, 2, 2, 2, 2, 2, 3] hO fun s hO => ?_
    refine lw (H aM.bd).2.2 (fun (nB, number3_103) σ w => (fun Z => agrees σ [(2, .pointer (some ⟨B5, 0, none⟩)), (4, .pointer (some ⟨B95, 0, none⟩)), (5, .slice none 0 0), (7, .slice p99 d.Final.length d.Final.length), (31, .int .i64 ((List.replicate d.Final.length ((0 : Int))).length : Int)), (32, .int .i64 (nB : Int))] ∧ Owns w0.heap.size w Z A ∧ Fr (bl []) w0 (bl Z) w) [t1 Fl.i 3 p99 d.Final.length d.Final.length number3_103, .blk B95 (.cells #[.int .i64 (0 : Int), .int .i64 (0 : Int), .slice none 0 0, .slice none 0 0] 25 (0, 0)), .blk B5 (.cells #[.int .i64 (0 : Int), .int .i64 (0 : Int), .slice none 0 0, .slice none 0 0] 25 (0, 0))]) ⟨agr, hO, fr⟩ ?_
    refine fun X3 => p1 fun nB number3_103 => fun H hX3 σ tw => d2 fun hag hO hB => ?_
    dsimp only at H
    refine Go1.keep _ hag ?_
    revert hO; repeat (rename Owns _ _ _ _ => q; clear q)
    intro hO; repeat (rename Sq _ _ _ _ _ _ => q; clear q)
    refine scm H (fun EQ H => ?_) fun EQ H => ?_
    ·refine six1 0 hO H.1 H.2.1 ?_
     refine sst (u := (-1 : Int)) 0 hO H.1 H.2.1 fun ER s hO => ?_
     refine au ?_
     have j8 := H.1
     have iM := H.2.1
     replace H := H.2.2
     obtain ⟨nW, H⟩ := H
     refine zo (J0i rfl rfl (wrap_i64 nW)) ?_
     refine au ?_
     exact hX3 _ H _ _ ⟨agr, hO, fr⟩
    refine sln0 ?_
    refine au ?_
    refine lw H (fun nC σ w => (fun Z => agrees σ [(2, .pointer (some ⟨B5, 0, none⟩)), (4, .pointer (some ⟨B95, 0, none⟩)), (7, .slice p99 d.Final.length d.Final.length), (39, .slice none 0 0), (40, .int .i64 (0 : Int)), (41, .int .i64 (nC : Int))] ∧ Owns w0.heap.size w Z A ∧ Fr (bl []) w0 (bl Z) w) [t1 Fl.i 3 p99 d.Final.length d.Final.length number3_103, .blk B95 (.cells #[.int .i64 (0 : Int), .int .i64 (0 : Int), .slice none 0 0, .slice none 0 0] 25 (0, 0)), .blk B5 (.cells #[.int .i64 (0 : Int), .int .i64 (0 : Int), .slice none 0 0, .slice none 0 0] 25 (0, 0))]) ⟨agr, hO, fr⟩ ?_
    refine fun X4 => fun nC => fun H hX4 σ KU => d2 fun hag hO hB => ?_
    refine Go1.keep _ hag ?_
    revert hO; repeat (rename Owns _ _ _ _ => q; clear q)
    intro hO; repeat (rename Sq _ _ _ _ _ _ => q; clear q)
    refine scm H (fun lI H => ?_) fun lI H => ?_
    ·refine au ?_
     obtain ⟨jr, H⟩ := H
     obtain ⟨jt, H⟩ := H
     refine zo (J01 Try.underlying31 ti3 rfl rfl jr jt (absurd jt (by omega))) ?_
     exact absurd jt (by omega)
    refine sag 1 hO ?_
    refine sba 2 hO fun C8 s hO => ?_
    refine au ?_
    refine sfz 0 hO fun s hO Ac Ad => ?_
    refine Go1.retC2 Try.func109 rfl rfl (rlb 1 hO) ⟨((⟨(0 : Int), (0 : Int), ([] : List Bool), ([] : List (List Int))⟩ : DFA)), _, _, _, _, _, _, _, ?_, frs, (ISl.null _ _ _), (ISl.null _ _ _), Ac.r, H⟩
    exact (congrArg (fun l => Value.tuple (List.toArray l)) (J05 rfl (J05 (congrArg (fun nn => Value.slice p99 nn d.Final.length) Ad) rfl)))
   refine au ?_
   refine sfz 0 hO fun s hO Ae Af => ?_
   have zz := J2Y (r := Rp.sl (Rp.int .i64)) (n := 1) (parts := [(0, .slice p60 d.Letters.toNat d.Letters.toNat)]) (vs := [.slice p60 d.Letters.toNat d.Letters.toNat]) (xs := [o6]) rfl Try.underlying23 ti31 hO (by decide) (by kernel_rfl) (Els.cons rfl ⟨p60, d.Letters.toNat, congrArg some (congrArg (fun nn => Value.slice p60 nn d.Letters.toNat) Af), Ae⟩ (Els.nil _ _ _) (by simp [mx])) rfl
   obtain ⟨nY, KV, lJ, Ag, Hn, lK⟩ := zz
   refine zg (lK rfl) ?_
   refine nst lJ fun s hO => ?_
   refine sfzR 0 hO Ag.u fun s hO Ah Ai => ?_
   obtain ⟨ES, H⟩ := H
   have zz := oapp Try.underlying23 ti31 rfl 0 hO rfl eQ.u Ah Ai ES (by decide)
   obtain ⟨KW, mK, mM, rV, vy, rW, vz⟩ := zz
   dsimp only [sS, sZ] at rW
   refine zg (vz (by exact rfl) (by exact rfl)) ?_
   refine nst vy fun s hO => ?_
   refine sbs 2 hO fun KX s hO => ?_
   refine au ?_
   refine Go1.drawT (ok := fun _ => True) (CSv.tr [(some ⟨B34, 2, none⟩)]) [6, 8] 9 (.qp 0 (.qs 1 (.qp 2 (.qp 3 (.alt 4 (.alt 5 (.alt 6 (.qp 7 (.alt 8 .nil .fin)) .fin) .fin) .fin))))) mixed (by kernel_rfl) ?_
   intro kT Aj
   refine sm hO Aj fun s hO => ?_
   refine au ?_
   refine GoT.stable rfl (loadV (.head _) rfl (J5n 2 hO rfl rfl) Try.underlying22 rfl rfl) rfl rfl ?_
   refine au ?_
   skip
   refine GoT.inl (vs := [.int .i64 (ix dY (d8 : Int))]) (caps := [.pointer (some ⟨B2, 0, none⟩)]) rfl rfl rfl body141 Try.func141 rfl Try.ntmps141 rfl rfl rfl ?_
   intro RhR140 hR140
   have hOs141 := hO
   have hBs142 := (fr : Fr (bl []) w0 _ kT)
   have hB := Fr.refl (bl [.row 31 1 mK (n48 + 1) mM rV, t1 Fl.bool 4 p50 n52 c51 d_49, .blk B34 (.cells #[.int .i64 d.Letters, .int .i64 (0 : Int), .slice p50 n52 c51, .slice mK (n48 + 1) mM] 25 (0, 0)), t1 Fl.i 3 p66 n68 c67 d_65, .any (mapE (fun a : Int => Value.int .i64 a) (fun a : Int => Value.int .i64 a) B19 iC), .blk B15 (.cells #[.slice p66 n68 c67, .map (some B19)] 188 (0, 0)), .blk B12 (.cells #[.int .i64 (0 : Int), .int .i64 (0 : Int), .slice none 0 0, .slice none 0 0] 25 (0, 0)), .blk B5 (.cells #[.int .i64 (0 : Int), .int .i64 (0 : Int), .slice none 0 0, .slice none 0 0] 25 (0, 0)), .blk B2 (.cells #[.int .i64 d.Letters, .int .i64 d.Start, .slice ad d.Final.length ae, .slice af d.Next.length ag] 25 (0, 0))]) kT
   refine sxl hO aM.u H.1 H.2.1 ?_
   refine au ?_
   refine Go1.ret1V Try.func141 rfl (show _ = .bool (ix d.Final (ix dY (d8 : Int))) from rfl) ?_
   refine hR140 _ _ (CSv.cons (cs_eq (J5n 2 hOs141 rfl rfl) (J5n 2 hO rfl rfl)) (CSv.nil _ _)) ?_
   replace hB := hBs142.trans (fr : Fr (bl [.row 31 1 mK (n48 + 1) mM rV, t1 Fl.bool 4 p50 n52 c51 d_49, .blk B34 (.cells #[.int .i64 d.Letters, .int .i64 (0 : Int), .slice p50 n52 c51, .slice mK (n48 + 1) mM] 25 (0, 0)), t1 Fl.i 3 p66 n68 c67 d_65, .any (mapE (fun a : Int => Value.int .i64 a) (fun a : Int => Value.int .i64 a) B19 iC), .blk B15 (.cells #[.slice p66 n68 c67, .map (some B19)] 188 (0, 0)), .blk B12 (.cells #[.int .i64 (0 : Int), .int .i64 (0 : Int), .slice none 0 0, .slice none 0 0] 25 (0, 0)), .blk B5 (.cells #[.int .i64 (0 : Int), .int .i64 (0 : Int), .slice none 0 0, .slice none 0 0] 25 (0, 0)), .blk B2 (.cells #[.int .i64 d.Letters, .int .i64 d.Start, .slice ad d.Final.length ae, .slice af d.Next.length ag] 25 (0, 0))]) kT _ kT)
   replace H := H.2.2
   skip
   refine sbuQ Fl.bool 4 [ix d.Final (ix dY (d8 : Int))] hO (fun tH tU s hO => ?_) (g := fun _ _ _ hv _ hst h => GoT.step rfl hv (CSv.cons (cs_eq (J5n 2 hO rfl rfl) (J5n 3 hst.own rfl rfl)) (CSv.nil _ _)) rfl rfl h)
   skip
   refine sfz 0 hO fun s hO Ak Ho => ?_
   refine sap 1 hO Ak H fun KY K1 K2 s hO => ?_
   refine au ?_
   replace H := H.2
   skip
   refine sbs 2 hO fun ET s hO => ?_
   refine au ?_
   obtain ⟨EU, H⟩ := H
   refine zo (J0i rfl rfl (wrap_i64 EU)) ?_
   refine au ?_
   exact hX1 _ H _ _ ⟨_, _, _, _, _, _, _, _, _, _, agr, hO, rW.u, fr⟩
  refine au ?_
  refine Go1.drawT (ok := fun _ => True) Same.tr [3] 6 (.qs 0 (.qp 1 (.alt 2 (.alt 3 (.qp 4 (.qp 5 .nil)) .fin) (.alt 3 (.alt 2 (.qp 4 (.qp 5 .nil)) .fin) .fin)))) mixed (by kernel_rfl) ?_
  intro n9 Am
  refine sm hO Am fun s hO => ?_
  refine GoT.stable rfl (J5W (vs := [.int .i64 d.Letters, .int .i64 (0 : Int), .slice p50 n52 c51, .slice p46 n48 c47]) (i := 0) 2 hO rfl rfl Try.underlying25 rfl ti25 rfl) rfl rfl ?_
  refine au ?_
  refine GoT.both ?_ ?_
  ·skip
   replace H := H.1
   refine sbl 5 ?_
   skip
   refine sba 6 hO fun tI s hO => ?_
   refine au ?_
   refine Go1.retC3V Try.func139 rfl rfl (rlb 6 hO) (show _ = .slice p54 n56 c55 from rfl) (show _ = .int .i64 (0 : Int) from rfl) ?_
   refine hR10 _ _ ?_
   refine sal hO fun K3 B157 s hO => ?_
   refine sba 0 hO fun K4 s hO => ?_
   refine sln0 ?_
   refine smk Fl.i (H aM.bd) hO fun EV kh s hO => ?_
   refine sln1 0 hO ?_
   refine au ?_
   refine sdr [4, 5, 5, 5, 6] hO fun s hO => ?_
   refine lw (H aM.bd).2.2 (fun (nE, number5_165) σ w => (fun Z => agrees σ [(2, .pointer (some ⟨B5, 0, none⟩)), (4, .pointer (some ⟨B157, 0, none⟩)), (5, .slice p54 n56 c55), (7, .slice kh d.Final.length d.Final.length), (31, .int .i64 ((List.replicate d.Final.length ((0 : Int))).length : Int)), (32, .int .i64 (nE : Int))] ∧ Owns w0.heap.size w Z A ∧ Els (Rp.sl (Rp.int .i64)) (bl Z ++ A) w gj d_43 ∧ Fr (bl []) w0 (bl Z) w) [t1 Fl.i 3 kh d.Final.length d.Final.length number5_165, .blk B157 (.cells #[.int .i64 d.Letters, .int .i64 (0 : Int), .slice p50 n52 c51, .slice p46 n48 c47] 25 (0, 0)), .row 31 1 p46 n48 c47 gj, t1 Fl.bool 4 p50 n52 c51 d_49, t1 Fl.i 3 p54 n56 c55 dY, .blk B5 (.cells #[.int .i64 (0 : Int), .int .i64 (0 : Int), .slice none 0 0, .slice none 0 0] 25 (0, 0))]) ⟨agr, hO, eQ.u, fr⟩ ?_
   refine fun X5 => p1 fun nE number5_165 => fun H hX5 σ EW => d3 fun hag hO eQ hB => ?_
   dsimp only at H
   refine Go1.keep _ hag ?_
   revert hO; repeat (rename Owns _ _ _ _ => q; clear q)
   intro hO; repeat (rename Sq _ _ _ _ _ _ => q; clear q)
   refine scm H (fun o8 H => ?_) fun o8 H => ?_
   ·refine six1 0 hO H.1 H.2.1 ?_
    refine sst (u := (-1 : Int)) 0 hO H.1 H.2.1 fun oo s hO => ?_
    refine au ?_
    have K5 := H.1
    have K6 := H.2.1
    replace H := H.2.2
    obtain ⟨EX, H⟩ := H
    refine zo (J0i rfl rfl (wrap_i64 EX)) ?_
    refine au ?_
    exact hX5 _ H _ _ ⟨agr, hO, eQ.u, fr⟩
   refine sln1 4 hO ?_
   refine au ?_
   refine lw H (fun (lL, number6_173) σ w => (fun Z => agrees σ [(2, .pointer (some ⟨B5, 0, none⟩)), (4, .pointer (some ⟨B157, 0, none⟩)), (7, .slice kh d.Final.length d.Final.length), (39, .slice p54 n56 c55), (40, .int .i64 (dY.length : Int)), (41, .int .i64 (lL : Int))] ∧ Owns w0.heap.size w Z A ∧ Els (Rp.sl (Rp.int .i64)) (bl Z ++ A) w gj d_43 ∧ Fr (bl []) w0 (bl Z) w) [t1 Fl.i 3 kh d.Final.length d.Final.length number6_173, .blk B157 (.cells #[.int .i64 d.Letters, .int .i64 (0 : Int), .slice p50 n52 c51, .slice p46 n48 c47] 25 (0, 0)), .row 31 1 p46 n48 c47 gj, t1 Fl.bool 4 p50 n52 c51 d_49, t1 Fl.i 3 p54 n56 c55 dY, .blk B5 (.cells #[.int .i64 (0 : Int), .int .i64 (0 : Int), .slice none 0 0, .slice none 0 0] 25 (0, 0))]) ⟨agr, hO, eQ.u, fr⟩ ?_
   refine fun X6 => p1 fun lL number6_173 => fun H hX6 σ vA => d3 fun hag hO eQ hB => ?_
   dsimp only at H
   refine Go1.keep _ hag ?_
   revert hO; repeat (rename Owns _ _ _ _ => q; clear q)
   intro hO; repeat (rename Sq _ _ _ _ _ _ => q; clear q)
   refine scm H (fun vB H => ?_) fun vB H => ?_
   ·refine sxl1 4 hO H.1 H.2.1 ?_
    refine six1 0 hO H.2.2.1 H.2.2.2.1 ?_
    refine sst (u := (lL : Int)) 0 hO H.2.2.1 H.2.2.2.1 fun tK s hO => ?_
    refine sinc (natbd vB (t1b 4 hO)) ?_
    refine au ?_
    exact hX6 _ H.2.2.2.2 _ _ ⟨agr, hO, eQ.u, fr⟩
   refine sag 1 hO ?_
   refine sba 5 hO fun EY s hO => ?_
   refine au ?_
   refine sfz 3 hO fun s hO Ao Ap => ?_
   refine sfzR 2 hO eQ.u fun s hO mO mP => ?_
   refine sfz 0 hO fun s hO Aq Ar => ?_
   refine Go1.retC2 Try.func109 rfl rfl (rlb 2 hO) ⟨((⟨d.Letters, (0 : Int), d_49, d_43⟩ : DFA)), _, _, _, _, _, _, _, ?_, frs, Ao.r, mO.r, Aq.r, H⟩
   exact (congrArg (fun l => Value.tuple (List.toArray l)) (J05 (congrArg (fun l => Value.agg (List.toArray l)) (J05 rfl (J05 rfl (J05 (congrArg (fun nn => Value.slice p50 nn c51) Ap) (J05 (congrArg (fun nn => Value.slice p46 nn c47) mP) rfl))))) (J05 (congrArg (fun nn => Value.slice kh nn d.Final.length) Ar) rfl)))
  replace H := H.2
  refine sba 6 hO fun E0 s hO => ?_
  skip
  refine sbl 5 ?_
  refine au ?_
  refine Go1.retC3V Try.func139 rfl rfl (rlb 6 hO) (show _ = .slice p54 n56 c55 from rfl) (show _ = .int .i64 (0 : Int) from rfl) ?_
  refine hR10 _ _ ?_
  refine sal hO fun E3 B185 s hO => ?_
  refine sba 0 hO fun Dz s hO => ?_
  refine sln0 ?_
  refine smk Fl.i (H aM.bd) hO fun oe lM s hO => ?_
  refine sln1 0 hO ?_
  refine au ?_
  refine sdr [4, 5, 5, 5, 6] hO fun s hO => ?_
  refine lw (H aM.bd).2.2 (fun (nF, number7_193) σ w => (fun Z => agrees σ [(2, .pointer (some ⟨B5, 0, none⟩)), (4, .pointer (some ⟨B185, 0, none⟩)), (5, .slice p54 n56 c55), (7, .slice lM d.Final.length d.Final.length), (31, .int .i64 ((List.replicate d.Final.length ((0 : Int))).length : Int)), (32, .int .i64 (nF : Int))] ∧ Owns w0.heap.size w Z A ∧ Els (Rp.sl (Rp.int .i64)) (bl Z ++ A) w gj d_43 ∧ Fr (bl []) w0 (bl Z) w) [t1 Fl.i 3 lM d.Final.length d.Final.length number7_193, .blk B185 (.cells #[.int .i64 d.Letters, .int .i64 (0 : Int), .slice p50 n52 c51, .slice p46 n48 c47] 25 (0, 0)), .row 31 1 p46 n48 c47 gj, t1 Fl.bool 4 p50 n52 c51 d_49, t1 Fl.i 3 p54 n56 c55 dY, .blk B5 (.cells #[.int .i64 (0 : Int), .int .i64 (0 : Int), .slice none 0 0, .slice none 0 0] 25 (0, 0))]) ⟨agr, hO, eQ.u, fr⟩ ?_
  refine fun X7 => p1 fun nF number7_193 => fun H hX7 σ E4 => d3 fun hag hO eQ hB => ?_
  dsimp only at H
  refine Go1.keep _ hag ?_
  revert hO; repeat (rename Owns _ _ _ _ => q; clear q)
  intro hO; repeat (rename Sq _ _ _ _ _ _ => q; clear q)
  refine scm H (fun E5 H => ?_) fun E5 H => ?_
  ·refine six1 0 hO H.1 H.2.1 ?_
   refine sst (u := (-1 : Int)) 0 hO H.1 H.2.1 fun tN s hO => ?_
   refine au ?_
   have K7 := H.1
   have K8 := H.2.1
   replace H := H.2.2
   obtain ⟨jl, H⟩ := H
   refine zo (J0i rfl rfl (wrap_i64 jl)) ?_
   refine au ?_
   exact hX7 _ H _ _ ⟨agr, hO, eQ.u, fr⟩
  refine sln1 4 hO ?_
  refine au ?_
  refine lw H (fun (lN, number8_201) σ w => (fun Z => agrees σ [(2, .pointer (some ⟨B5, 0, none⟩)), (4, .pointer (some ⟨B185, 0, none⟩)), (7, .slice lM d.Final.length d.Final.length), (39, .slice p54 n56 c55), (40, .int .i64 (dY.length : Int)), (41, .int .i64 (lN : Int))] ∧ Owns w0.heap.size w Z A ∧ Els (Rp.sl (Rp.int .i64)) (bl Z ++ A) w gj d_43 ∧ Fr (bl []) w0 (bl Z) w) [t1 Fl.i 3 lM d.Final.length d.Final.length number8_201, .blk B185 (.cells #[.int .i64 d.Letters, .int .i64 (0 : Int), .slice p50 n52 c51, .slice p46 n48 c47] 25 (0, 0)), .row 31 1 p46 n48 c47 gj, t1 Fl.bool 4 p50 n52 c51 d_49, t1 Fl.i 3 p54 n56 c55 dY, .blk B5 (.cells #[.int .i64 (0 : Int), .int .i64 (0 : Int), .slice none 0 0, .slice none 0 0] 25 (0, 0))]) ⟨agr, hO, eQ.u, fr⟩ ?_
  refine fun X8 => p1 fun lN number8_201 => fun H hX8 σ ud => d3 fun hag hO eQ hB => ?_
  dsimp only at H
  refine Go1.keep _ hag ?_
  revert hO; repeat (rename Owns _ _ _ _ => q; clear q)
  intro hO; repeat (rename Sq _ _ _ _ _ _ => q; clear q)
  refine scm H (fun mw H => ?_) fun mw H => ?_
  ·refine sxl1 4 hO H.1 H.2.1 ?_
   refine six1 0 hO H.2.2.1 H.2.2.2.1 ?_
   refine sst (u := (lN : Int)) 0 hO H.2.2.1 H.2.2.2.1 fun E6 s hO => ?_
   refine sinc (natbd mw (t1b 4 hO)) ?_
   refine au ?_
   exact hX8 _ H.2.2.2.2 _ _ ⟨agr, hO, eQ.u, fr⟩
  refine sag 1 hO ?_
  refine sba 5 hO fun DD s hO => ?_
  refine au ?_
  refine sfz 3 hO fun s hO At Au => ?_
  refine sfzR 2 hO eQ.u fun s hO Aw Ax => ?_
  refine sfz 0 hO fun s hO Ay Az => ?_
  refine Go1.retC2 Try.func109 rfl rfl (rlb 2 hO) ⟨((⟨d.Letters, (0 : Int), d_49, d_43⟩ : DFA)), _, _, _, _, _, _, _, ?_, frs, At.r, Aw.r, Ay.r, H⟩
  exact (congrArg (fun l => Value.tuple (List.toArray l)) (J05 (congrArg (fun l => Value.agg (List.toArray l)) (J05 rfl (J05 rfl (J05 (congrArg (fun nn => Value.slice p50 nn c51) Au) (J05 (congrArg (fun nn => Value.slice p46 nn c47) Ax) rfl))))) (J05 (congrArg (fun nn => Value.slice lM nn d.Final.length) Az) rfl)))
 refine au ?_
 refine zo (J06 Try.underlying25 ti25 (pl := [(0, 1), (1, 1), (2, 1), (3, 1)]) (vs := []) (cs := #[.int .i64 (0 : Int), .int .i64 (0 : Int), .slice none 0 0, .slice none 0 0]) (by kernel_rfl) rfl (by kernel_rfl)) ?_
 refine sba 0 hO fun K9 s hO => ?_
 refine au ?_
 refine Go1.retC2 Try.func109 rfl rfl (rlb 0 hO) ⟨((⟨(0 : Int), (0 : Int), ([] : List Bool), ([] : List (List Int))⟩ : DFA)), _, _, _, _, _, _, _, ?_, frs, (ISl.null _ _ _), (ISl.null _ _ _), (ISl.null _ _ _), H⟩
 exact rfl
theorem body110 : Body Try.prog 110 := ⟨Try.f110, Try.func110, rfl, by kernel_rfl⟩
theorem J3s {A : List Nat} {w0 : World} {bj bA : Option Addr} {bk bB : Nat} {a0 : DFA} (hA : ∀ b ∈ A, b < w0.heap.size) (cd : ISl (Rp.bool) A w0 bj bk a0.Final) (di : ISl (Rp.sl (Rp.int .i64)) A w0 bA bB a0.Next) {K : List Int → Prop} (H : J0K a0 K) :
    CallsV Try.prog 110 #[.agg #[.int .i64 a0.Letters, .int .i64 a0.Start, .slice bj a0.Final.length bk, .slice bA a0.Next.length bB]] w0 (fun v w' => ∃ (r0 : List Int) (p_r0 : Option Addr) (c_r0 : Nat), v = .slice p_r0 r0.length c_r0 ∧ Same w0 w' ∧ ISl (Rp.int .i64) A w' p_r0 c_r0 r0 ∧ K r0) := by
 refine CallsV.of (l := [.agg #[.int .i64 a0.Letters, .int .i64 a0.Start, .slice bj a0.Final.length bk, .slice bA a0.Next.length bB]]) Try.func110 rfl Try.ntmps110 rfl ?_
 have hO := Owns.start hA
 have hB := Fr.refl (bl []) w0
 unfold J0K at H
 refine sbx hO fun w1 B2 s hO => ?_
 refine sag 0 hO ?_
 refine zcr (J00 body61 rfl (J0s hO.lt cd.u di.u H)) fun _ w5 => e1 fun r4 => sc0 hO fun s hO => fun H => ?_
 refine scm H (fun h6 H => ?_) fun h6 H => ?_
 ·refine sln0 ?_
  refine smk Fl.i (H cd.bd) hO fun w7 p8 s hO => ?_
  refine sln0 ?_
  refine au ?_
  refine lw (H cd.bd).2.2 (fun (k1_11, k1_12, d_13) σ w => (fun Z => agrees σ [(1, .pointer (some ⟨B2, 0, none⟩)), (3, .slice p8 a0.Final.length a0.Final.length), (4, .int .i64 k1_11), (24, .slice bj a0.Final.length bk), (25, .int .i64 (a0.Final.length : Int)), (26, .int .i64 (k1_12 : Int))] ∧ Owns w0.heap.size w Z A ∧ Fr (bl []) w0 (bl Z) w) [t1 Fl.i 3 p8 a0.Final.length a0.Final.length d_13, .blk B2 (.cells #[.int .i64 a0.Letters, .int .i64 a0.Start, .slice bj a0.Final.length bk, .slice bA a0.Next.length bB] 25 (0, 0))]) ⟨agr, hO, fr⟩ ?_
  refine fun X1 => p2 fun k1_11 k1_12 d_13 => fun H hX1 σ w10 => d2 fun hag hO hB => ?_
  dsimp only at H
  refine Go1.keep _ hag ?_
  revert hO; repeat (rename Owns _ _ _ _ => q; clear q)
  intro hO; repeat (rename Sq _ _ _ _ _ _ => q; clear q)
  refine scm H (fun h14 H => ?_) fun h14 H => ?_
  ·refine au ?_
   have h15 := H.1
   have h16 := H.2.1
   refine sxb hO cd.u H.1 H.2.1 H.2.2 (fun h17 H => ?_) fun h17 H => ?_
   ·refine au ?_
    have h18 := H.1
    have h19 := H.2.1
    refine sxb hO cd.u H.1 H.2.1 H.2.2 (fun h20 H => ?_) fun h20 H => ?_
    ·refine zo (J0C Try.underlying4 rfl rfl) ?_
     refine sinc (natbd h14 cd.bd) ?_
     refine au ?_
     exact hX1 _ H _ _ ⟨agr, hO, fr⟩
    refine zo (J0C Try.underlying4 rfl rfl) ?_
    refine six1 0 hO H.1 H.2.1 ?_
    refine sst (u := (1 : Int)) 0 hO H.1 H.2.1 fun w21 s hO => ?_
    refine sinc (natbd h14 cd.bd) ?_
    refine au ?_
    exact hX1 _ H.2.2 _ _ ⟨agr, hO, fr⟩
   refine au ?_
   have h22 := H.1
   have h23 := H.2.1
   refine sxb hO cd.u H.1 H.2.1 H.2.2 (fun h24 H => ?_) fun h24 H => ?_
   ·refine zo (J0C Try.underlying4 rfl rfl) ?_
    refine six1 0 hO H.1 H.2.1 ?_
    refine sst (u := (1 : Int)) 0 hO H.1 H.2.1 fun w25 s hO => ?_
    refine sinc (natbd h14 cd.bd) ?_
    refine au ?_
    exact hX1 _ H.2.2 _ _ ⟨agr, hO, fr⟩
   refine zo (J0C Try.underlying4 rfl rfl) ?_
   refine sinc (natbd h14 cd.bd) ?_
   refine au ?_
   exact hX1 _ H _ _ ⟨agr, hO, fr⟩
  refine au ?_
  refine sfz 0 hO fun s hO ki E7 => ?_
  refine lw H (fun (dm, k2_33) σ w => ∃ p30 c31, (fun Z => agrees σ [(1, .pointer (some ⟨B2, 0, none⟩)), (3, .slice p30 dm.length c31), (4, .int .i64 k2_33)] ∧ Owns w0.heap.size w Z A ∧ ISl (Rp.int .i64) (bl Z ++ A) w p30 c31 dm ∧ Fr (bl []) w0 (bl Z) w) [.blk B2 (.cells #[.int .i64 a0.Letters, .int .i64 a0.Start, .slice bj a0.Final.length bk, .slice bA a0.Next.length bB] 25 (0, 0))]) ⟨_, _, ⟨rfl, (congrArg (fun nn => Value.slice p8 nn a0.Final.length) E7), rfl, trivial⟩, hO, ki, fr⟩ ?_
  refine fun X2 => p1 fun dm k2_33 => fun H hX2 σ w28 => e2 fun p30 c31 => d3 fun hag hO gi hB => ?_
  dsimp only at H
  refine Go1.keep _ hag ?_
  revert hO; repeat (rename Owns _ _ _ _ => q; clear q)
  intro hO; repeat (rename Sq _ _ _ _ _ _ => q; clear q)
  refine au ?_
  have zz := omakeMap (fun a : AN 7 => Value.agg (icells .i64 a.1).toArray) (fun a : Int => Value.int .i64 a) hO
  obtain ⟨w34, B35, AA, o9, my⟩ := zz
  refine zg my ?_
  refine nst AA fun s hO => ?_
  refine sln0 ?_
  refine smk Fl.i (H gi.bd) hO fun w40 p41 s hO => ?_
  refine sln0 ?_
  refine au ?_
  refine lw ((H gi.bd).2.2 di.bd) (fun (fV, pc, iD) σ w => (fun Z => agrees σ [(1, .pointer (some ⟨B2, 0, none⟩)), (3, .slice p30 dm.length c31), (4, .int .i64 k2_33), (7, .map (some B35)), (8, .slice p41 dm.length dm.length), (46, .slice bA a0.Next.length bB), (47, .int .i64 (a0.Next.length : Int)), (48, .int .i64 (fV : Int))] ∧ Owns w0.heap.size w Z A ∧ ISl (Rp.int .i64) (bl Z ++ A) w p30 c31 dm ∧ Fr (bl []) w0 (bl Z) w) [t1 Fl.i 3 p41 dm.length dm.length pc, .any (mapE (fun a : AN 7 => Value.agg (icells .i64 a.1).toArray) (fun a : Int => Value.int .i64 a) B35 iD), .blk B2 (.cells #[.int .i64 a0.Letters, .int .i64 a0.Start, .slice bj a0.Final.length bk, .slice bA a0.Next.length bB] 25 (0, 0))]) ⟨agr, hO, gi.u, fr⟩ ?_
  refine fun X3 => p2 fun fV pc iD => fun H hX3 σ w43 => d3 fun hag hO gi hB => ?_
  dsimp only at H
  refine Go1.keep _ hag ?_
  revert hO; repeat (rename Owns _ _ _ _ => q; clear q)
  intro hO; repeat (rename Sq _ _ _ _ _ _ => q; clear q)
  refine scm H (fun h47 H => ?_) fun h47 H => ?_
  ·refine sxls hO di.u H.1 H.2.1 fun p48 c49 iU => ?_
   refine sxl hO gi H.2.2.1 H.2.2.2.1 ?_
   refine zo (J6X Try.underlying166 ti166 ti3 (vs := [(0, .int .i64 (ix dm (fV : Int)))]) (cs := #[.int .i64 (ix dm (fV : Int)), .int .i64 (0 : Int), .int .i64 (0 : Int), .int .i64 (0 : Int), .int .i64 (0 : Int), .int .i64 (0 : Int), .int .i64 (0 : Int)]) rfl (by kernel_rfl)) ?_
   have zz := oalloc (t := 166) (cs := (icells .i64 (([(0 : Int), (0 : Int), (0 : Int), (0 : Int), (0 : Int), (0 : Int), (0 : Int)] : List Int))).toArray) ti166 hO rfl
   obtain ⟨w51, B52, AB, La, AC⟩ := zz
   refine zg AC ?_
   refine nst AB fun s hO => ?_
   have h60 := H.1
   have h61 := H.2.1
   have h62 := H.2.2.1
   have h63 := H.2.2.2.1
   replace H := H.2.2.2.2
   obtain ⟨h64, H⟩ := H
   have zz := oarrStA (M := [(ix dm (fV : Int)), (0 : Int), (0 : Int), (0 : Int), (0 : Int), (0 : Int), (0 : Int)]) 0 hO rfl (by rw [h64]; rfl)
   obtain ⟨w57, mQ, mz⟩ := zz
   refine zg (mz ti166 (by exact rfl) (by exact rfl)) ?_
   refine nst mQ fun s hO => ?_
   refine sln0 ?_
   refine au ?_
   refine lw (H iU.bd) (fun (mS, y4_67) σ w => (fun Z => agrees σ [(1, .pointer (some ⟨B2, 0, none⟩)), (3, .slice p30 dm.length c31), (4, .int .i64 k2_33), (7, .map (some B35)), (8, .slice p41 dm.length dm.length), (9, .int .i64 (fV : Int)), (11, .pointer (some ⟨B52, 0, none⟩)), (46, .slice bA a0.Next.length bB), (47, .int .i64 (a0.Next.length : Int)), (48, .int .i64 (fV : Int)), (58, .slice p48 ((ix a0.Next (fV : Int)).length) c49), (59, .int .i64 ((ix a0.Next (fV : Int)).length : Int)), (60, .int .i64 (mS : Int))] ∧ Owns w0.heap.size w Z A ∧ ISl (Rp.int .i64) (bl Z ++ A) w p30 c31 dm ∧ ISl (Rp.int .i64) (bl Z ++ A) w p48 c49 (ix a0.Next (fV : Int)) ∧ Fr (bl []) w0 (bl Z) w) [.blk B52 (.cells (icells .i64 y4_67).toArray 166 (0, 0)), t1 Fl.i 3 p41 dm.length dm.length pc, .any (mapE (fun a : AN 7 => Value.agg (icells .i64 a.1).toArray) (fun a : Int => Value.int .i64 a) B35 iD), .blk B2 (.cells #[.int .i64 a0.Letters, .int .i64 a0.Start, .slice bj a0.Final.length bk, .slice bA a0.Next.length bB] 25 (0, 0))]) ⟨agr, hO, gi.u, iU.u, fr⟩ ?_
   refine fun X4 => p1 fun mS y4_67 => fun H hX4 σ w65 => d4 fun hag hO gi iU hB => ?_
   dsimp only at H
   refine Go1.keep _ hag ?_
   revert hO; repeat (rename Owns _ _ _ _ => q; clear q)
   intro hO; repeat (rename Sq _ _ _ _ _ _ => q; clear q)
   refine scm H (fun h68 H => ?_) fun h68 H => ?_
   ·refine sxl hO iU H.1 H.2.1 ?_
    refine au ?_
    have h69 := H.1
    have h70 := H.2.1
    replace H := H.2.2
    obtain ⟨h71, H⟩ := H
    refine zo (J0i rfl rfl (wrap_i64 h71)) ?_
    refine sxl hO gi H.1 H.2.1 ?_
    have h72 := H.1
    have h73 := H.2.1
    replace H := H.2.2
    obtain ⟨h74, H⟩ := H
    obtain ⟨h75, H⟩ := H
    obtain ⟨h76, H⟩ := H
    refine zo (J6H (n := 7) Try.underlying166 ti3 rfl rfl h75 h76) ?_
    have zz := oarrSt (v := (ix dm (ix (ix a0.Next (fV : Int)) (mS : Int)))) 0 hO rfl h75 (arrLt h74 h76)
    obtain ⟨w77, mT, mU⟩ := zz
    refine zg (mU Try.underlying3 rfl ti3 (by exact rfl) (by exact rfl)) ?_
    refine nst mT fun s hO => ?_
    refine sinc (natbd h68 iU.bd) ?_
    refine au ?_
    exact hX4 _ H _ _ ⟨agr, hO, gi.u, iU.u, fr⟩
   refine au ?_
   obtain ⟨h80, H⟩ := H
   refine zs (oarrLd 0 hO rfl h80 Try.underlying166 rfl ti166 rfl) ?_
   by_cases h81 : mhas iD ((toAN 7 y4_67)) = true
   ·refine zs (olookT (a := (toAN 7 y4_67)) (MK.arrN Try.underlying166 Try.underlying3 ti3) 2 hO rfl Try.underlying164 rfl rfl h81) ?_
    refine six1 1 hO (ifp h81 H).1 (ifp h81 H).2.1 ?_
    refine sst (u := (mgt iD ((toAN 7 y4_67)))) 1 hO (ifp h81 H).1 (ifp h81 H).2.1 fun w82 s hO => ?_
    refine sinc (natbd h47 di.bd) ?_
    refine au ?_
    refine sdr [0] hO fun s hO => ?_
    exact hX3 _ (ifp h81 H).2.2 _ _ ⟨agr, hO, gi.u, fr⟩
   refine zs (olookF (a := (toAN 7 y4_67)) (MK.arrN Try.underlying166 Try.underlying3 ti3) 2 hO rfl Try.underlying164 ti3 rfl rfl h81) ?_
   refine au ?_
   refine zs (omapLen 2 hO rfl Try.underlying164 rfl) ?_
   refine au ?_
   replace H := (ifn h81 H)
   obtain ⟨h83, H⟩ := H
   refine zs (oarrLd 0 hO rfl h83 Try.underlying166 rfl ti166 rfl) ?_
   refine au ?_
   have zz := omapUpd (MK.arrN Try.underlying166 Try.underlying3 ti3) 2 hO rfl Try.underlying164 (toAN 7 y4_67) (iD.length : Int)
   obtain ⟨w84, AD, AE⟩ := zz
   refine zg (AE (by exact rfl) (by exact rfl) (by exact rfl)) ?_
   refine nst AD fun s hO => ?_
   refine six1 1 hO H.1 H.2.1 ?_
   refine sst (u := (iD.length : Int)) 1 hO H.1 H.2.1 fun w87 s hO => ?_
   refine sinc (natbd h47 di.bd) ?_
   refine au ?_
   refine sdr [0] hO fun s hO => ?_
   exact hX3 _ H.2.2 _ _ ⟨agr, hO, gi.u, fr⟩
  refine au ?_
  refine zs (omapLen 1 hO rfl Try.underlying164 rfl) ?_
  refine scm H (fun h88 H => ?_) fun h88 H => ?_
  ·refine au ?_
   refine sfz 0 hO fun s hO pe E8 => ?_
   refine Go1.ret1 Try.func110 rfl ⟨_, _, _, ?_, frs, pe.r, H⟩
   exact (congrArg (fun nn => Value.slice p41 nn dm.length) E8)
  refine au ?_
  refine zs (omapLen 1 hO rfl Try.underlying164 rfl) ?_
  refine au ?_
  refine sfz 0 hO fun s hO E9 Fa => ?_
  refine sdr [0] hO fun s hO => ?_
  exact hX2 _ H _ _ ⟨_, _, ⟨rfl, (congrArg (fun nn => Value.slice p41 nn dm.length) Fa), rfl, trivial⟩, hO, E9.u, fr⟩
 refine au ?_
 refine Go1.ret1 Try.func110 rfl ⟨_, _, _, ?_, frs, (ISl.null _ _ _), H⟩
 exact rfl
theorem body66 : Body Try.prog 66 := ⟨Try.f66, Try.func66, rfl, by kernel_rfl⟩
theorem J3q {A : List Nat} {w0 : World} {bj bA : Option Addr} {bk bB : Nat} {a0 : DFA} (hA : ∀ b ∈ A, b < w0.heap.size) (cd : ISl (Rp.bool) A w0 bj bk a0.Final) (di : ISl (Rp.sl (Rp.int .i64)) A w0 bA bB a0.Next) {K : DFA → List Int → Prop} (H : J0H a0 K) :
    CallsV Try.prog 66 #[.agg #[.int .i64 a0.Letters, .int .i64 a0.Start, .slice bj a0.Final.length bk, .slice bA a0.Next.length bB]] w0 (fun v w' => ∃ (r0 : DFA) (r1 : List Int) (cR : Option Addr) (cS : Nat) (c6 : Option Addr) (c8 : Nat) (iN : Option Addr) (iO : Nat), v = .tuple #[.agg #[.int .i64 r0.Letters, .int .i64 r0.Start, .slice cR r0.Final.length cS, .slice c6 r0.Next.length c8], .slice iN r1.length iO] ∧ Same w0 w' ∧ ISl (Rp.bool) A w' cR cS r0.Final ∧ ISl (Rp.sl (Rp.int .i64)) A w' c6 c8 r0.Next ∧ ISl (Rp.int .i64) A w' iN iO r1 ∧ K r0 r1) := by
 refine CallsV.of (l := [.agg #[.int .i64 a0.Letters, .int .i64 a0.Start, .slice bj a0.Final.length bk, .slice bA a0.Next.length bB]]) Try.func66 rfl Try.ntmps66 rfl ?_
 have hO := Owns.start hA
 have hB := Fr.refl (bl []) w0
 unfold J0H at H
 refine sbx hO fun w1 B2 s hO => ?_
 refine sal hO fun w4 B5 s hO => ?_
 refine sag 1 hO ?_
 refine zcr (J00 body109 rfl (J4e hO.lt cd.u di.u H)) fun _ w9 => e4 fun r7 r8 gF gG => e4 fun g5 g6 kj kl => sc0 hO fun s hO => d3 fun dO d9 ft H => ?_
 refine sal hO fun w10 B11 s hO => ?_
 refine sba 0 hO fun w13 s hO => ?_
 refine sag 0 hO ?_
 refine zcr (J00 body110 rfl (J3s hO.lt dO.u d9.u H)) fun _ w15 => e3 fun r14 g7 g8 => sc0 hO fun s hO => d1 fun eg H => ?_
 refine au ?_
 refine zo (J06 Try.underlying25 ti25 (pl := [(0, 1), (1, 1), (2, 1), (3, 1)]) (vs := [(0, .int .i64 a0.Letters)]) (cs := #[.int .i64 a0.Letters, .int .i64 (0 : Int), .slice none 0 0, .slice none 0 0]) (by kernel_rfl) rfl (by kernel_rfl)) ?_
 refine sal hO fun w16 B17 s hO => ?_
 refine sba 0 hO fun w19 s hO => ?_
 refine sln0 ?_
 refine au ?_
 refine snil Fl.bool 4 hO fun s hO => ?_
 have AF := Stp.nil (e := 31) (r := 1) hO
 refine nst AF fun s hO => ?_
 have Fb := elN (Rp.sl (Rp.int .i64)) hO
 refine lw (H eg.bd) (fun (k1_25, lO, d_32) σ w => ∃ n31 p29 c30 lP n35 p33 c34, (fun Z => agrees σ [(1, .pointer (some ⟨B2, 0, none⟩)), (2, .pointer (some ⟨B5, 0, none⟩)), (4, .pointer (some ⟨B11, 0, none⟩)), (5, .slice kj r8.length kl), (6, .slice g7 r14.length g8), (7, .pointer (some ⟨B17, 0, none⟩)), (28, .slice g7 r14.length g8), (29, .int .i64 (r14.length : Int)), (30, .int .i64 (k1_25 : Int))] ∧ Owns w0.heap.size w Z A ∧ Els (Rp.sl (Rp.int .i64)) (bl Z ++ A) w lP lO ∧ ISl (Rp.bool) (bl Z ++ A) w gF gG r7.Final ∧ ISl (Rp.sl (Rp.int .i64)) (bl Z ++ A) w g5 g6 r7.Next ∧ ISl (Rp.int .i64) (bl Z ++ A) w kj kl r8 ∧ ISl (Rp.int .i64) (bl Z ++ A) w g7 g8 r14 ∧ Fr (bl []) w0 (bl Z) w) [.row 31 1 p29 n31 c30 lP, t1 Fl.bool 4 p33 n35 c34 d_32, .blk B17 (.cells #[.int .i64 a0.Letters, .int .i64 (0 : Int), .slice p33 n35 c34, .slice p29 n31 c30] 25 (0, 0)), .blk B11 (.cells #[.int .i64 r7.Letters, .int .i64 r7.Start, .slice gF r7.Final.length gG, .slice g5 r7.Next.length g6] 25 (0, 0)), .blk B5 (.cells #[.int .i64 (0 : Int), .int .i64 (0 : Int), .slice none 0 0, .slice none 0 0] 25 (0, 0)), .blk B2 (.cells #[.int .i64 a0.Letters, .int .i64 a0.Start, .slice bj a0.Final.length bk, .slice bA a0.Next.length bB] 25 (0, 0))]) ⟨_, _, _, _, _, _, _, agr, hO, Fb.u, dO.u, d9.u, ft.u, eg.u, fr⟩ ?_
 refine fun X1 => p2 fun k1_25 lO d_32 => fun H hX1 σ w24 => e4 fun n31 p29 c30 lP => e3 fun n35 p33 c34 => d1 fun hag => d1 fun hO => d1 fun km => d4 fun dO d9 ft eg hB => ?_
 dsimp only at H
 refine Go1.keep _ hag ?_
 revert hO; repeat (rename Owns _ _ _ _ => q; clear q)
 intro hO; repeat (rename Sq _ _ _ _ _ _ => q; clear q)
 refine scm H (fun h36 H => ?_) fun h36 H => ?_
 ·refine sxl hO eg H.1 H.2.1 ?_
  refine sln1 1 hO ?_
  have h37 := H.1
  have h38 := H.2.1
  refine scm H.2.2 (fun h39 H => ?_) fun h39 H => ?_
  ·refine sinc (natbd h36 eg.bd) ?_
   refine au ?_
   exact hX1 _ H _ _ ⟨_, _, _, _, _, _, _, agr, hO, km, dO, d9, ft, eg, fr⟩
  refine smk Fl.i H hO fun w40 p41 s hO => ?_
  refine sxls hO d9.u H.2.2.1 H.2.2.2.1 fun p43 c44 kn => ?_
  refine sln0 ?_
  refine au ?_
  refine lw (H.2.2.2.2 kn.bd) (fun (mV, d_48) σ w => (fun Z => agrees σ [(1, .pointer (some ⟨B2, 0, none⟩)), (2, .pointer (some ⟨B5, 0, none⟩)), (4, .pointer (some ⟨B11, 0, none⟩)), (5, .slice kj r8.length kl), (6, .slice g7 r14.length g8), (7, .pointer (some ⟨B17, 0, none⟩)), (8, .int .i64 (k1_25 : Int)), (10, .slice p41 a0.Letters.toNat a0.Letters.toNat), (28, .slice g7 r14.length g8), (29, .int .i64 (r14.length : Int)), (30, .int .i64 (k1_25 : Int)), (47, .slice p43 ((ix r7.Next (k1_25 : Int)).length) c44), (48, .int .i64 ((ix r7.Next (k1_25 : Int)).length : Int)), (49, .int .i64 (mV : Int))] ∧ Owns w0.heap.size w Z A ∧ Els (Rp.sl (Rp.int .i64)) (bl Z ++ A) w lP lO ∧ ISl (Rp.bool) (bl Z ++ A) w gF gG r7.Final ∧ ISl (Rp.sl (Rp.int .i64)) (bl Z ++ A) w g5 g6 r7.Next ∧ ISl (Rp.int .i64) (bl Z ++ A) w kj kl r8 ∧ ISl (Rp.int .i64) (bl Z ++ A) w g7 g8 r14 ∧ ISl (Rp.int .i64) (bl Z ++ A) w p43 c44 (ix r7.Next (k1_25 : Int)) ∧ Fr (bl []) w0 (bl Z) w) [t1 Fl.i 3 p41 a0.Letters.toNat a0.Letters.toNat d_48, .row 31 1 p29 n31 c30 lP, t1 Fl.bool 4 p33 n35 c34 d_32, .blk B17 (.cells #[.int .i64 a0.Letters, .int .i64 (0 : Int), .slice p33 n35 c34, .slice p29 n31 c30] 25 (0, 0)), .blk B11 (.cells #[.int .i64 r7.Letters, .int .i64 r7.Start, .slice gF r7.Final.length gG, .slice g5 r7.Next.length g6] 25 (0, 0)), .blk B5 (.cells #[.int .i64 (0 : Int), .int .i64 (0 : Int), .slice none 0 0, .slice none 0 0] 25 (0, 0)), .blk B2 (.cells #[.int .i64 a0.Letters, .int .i64 a0.Start, .slice bj a0.Final.length bk, .slice bA a0.Next.length bB] 25 (0, 0))]) ⟨agr, hO, km.u, dO.u, d9.u, ft.u, eg.u, kn.u, fr⟩ ?_
  refine fun X2 => p1 fun mV d_48 => fun H hX2 σ w46 => d1 fun hag => d1 fun hO => d1 fun km => d1 fun dO => d4 fun d9 ft eg kn hB => ?_
  dsimp only at H
  refine Go1.keep _ hag ?_
  revert hO; repeat (rename Owns _ _ _ _ => q; clear q)
  intro hO; repeat (rename Sq _ _ _ _ _ _ => q; clear q)
  refine scm H (fun h49 H => ?_) fun h49 H => ?_
  ·refine sxl hO kn H.1 H.2.1 ?_
   refine sxl hO eg H.2.2.1 H.2.2.2.1 ?_
   refine six1 0 hO H.2.2.2.2.1 H.2.2.2.2.2.1 ?_
   refine sst (u := (ix r14 (ix (ix r7.Next (k1_25 : Int)) (mV : Int)))) 0 hO H.2.2.2.2.1 H.2.2.2.2.2.1 fun w50 s hO => ?_
   refine sinc (natbd h49 kn.bd) ?_
   refine au ?_
   exact hX2 _ H.2.2.2.2.2.2 _ _ ⟨agr, hO, km.u, dO.u, d9.u, ft.u, eg.u, kn.u, fr⟩
  refine au ?_
  refine drw 4 [(0, .pure), (1, .stable), (2, .pure), (3, .stable), (4, .pure), (5, .pure), (6, .stable), (7, .loud), (8, .last), (9, .pure), (10, .last)] hO fun w51 s hO => ?_
  refine sxl hO dO.u H.1 H.2.1 ?_
  refine sap1 (ix r7.Final (k1_25 : Int)) 2 hO H.2.2 fun _ w52 p53 c54 s hO => ?_
  refine sbs 3 hO fun w55 s hO => ?_
  refine au ?_
  refine sfz 0 hO fun s hO Fc Fd => ?_
  have zz := J2Y (r := Rp.sl (Rp.int .i64)) (n := 1) (parts := [(0, .slice p41 a0.Letters.toNat a0.Letters.toNat)]) (vs := [.slice p41 a0.Letters.toNat a0.Letters.toNat]) (xs := [d_48]) rfl Try.underlying23 ti31 hO (by decide) (by kernel_rfl) (Els.cons rfl ⟨p41, a0.Letters.toNat, congrArg some (congrArg (fun nn => Value.slice p41 nn a0.Letters.toNat) Fd), Fc.u⟩ (Els.nil _ _ _) (by simp [mx])) rfl
  obtain ⟨w58, p59, mW, pg, Lb, AG⟩ := zz
  refine zg (AG rfl) ?_
  refine nst mW fun s hO => ?_
  refine sfzR 0 hO pg fun s hO nU Fe => ?_
  have h67 := H.1
  have h68 := H.2.1
  replace H := H.2.2.2
  obtain ⟨h69, H⟩ := H
  have zz := oapp Try.underlying23 ti31 rfl 0 hO rfl km.u nU Fe h69 (by decide)
  obtain ⟨w70, p71, c72, Lc, AH, vC, AI⟩ := zz
  dsimp only [sS, sZ] at vC
  refine zg (AI (by exact rfl) (by exact rfl)) ?_
  refine nst AH fun s hO => ?_
  refine sbs 2 hO fun w78 s hO => ?_
  refine sinc (natbd h36 eg.bd) ?_
  refine au ?_
  exact hX1 _ H _ _ ⟨_, _, _, _, _, _, _, agr, hO, vC.u, dO.u, d9.u, ft.u, eg.u, fr⟩
 refine sag 2 hO ?_
 refine sfz 1 hO fun s hO ph pk => ?_
 refine sfzR 0 hO km.u fun s hO po pp => ?_
 refine zcr (J00 body109 (show ([.agg #[.int .i64 a0.Letters, .int .i64 (0 : Int), .slice p33 n35 c34, .slice p29 n31 c30]] : List Value) = [.agg #[.int .i64 a0.Letters, .int .i64 (0 : Int), .slice p33 d_32.length c34, .slice p29 lO.length c30]] from by rw [← pk, ← pp]) (J4e (d := (⟨a0.Letters, (0 : Int), d_32, lO⟩ : DFA)) hO.lt ph.u po H)) fun _ w85 => e4 fun r83 r84 jc jd => e4 fun jA jB rX rY => sc0 hO fun s hO => d3 fun fF fW jC H => ?_
 refine sal hO fun w86 B87 s hO => ?_
 refine sba 0 hO fun w89 s hO => ?_
 refine sln0 ?_
 refine smk Fl.i (H ft.bd) hO fun w90 p91 s hO => ?_
 refine sln0 ?_
 refine au ?_
 refine sdr [2, 2, 3] hO fun s hO => ?_
 refine lw (H ft.bd).2.2 (fun (mX, vD) σ w => (fun Z => agrees σ [(2, .pointer (some ⟨B5, 0, none⟩)), (6, .slice g7 r14.length g8), (13, .pointer (some ⟨B87, 0, none⟩)), (14, .slice rX r84.length rY), (15, .slice p91 r8.length r8.length), (87, .slice kj r8.length kl), (88, .int .i64 (r8.length : Int)), (89, .int .i64 (mX : Int))] ∧ Owns w0.heap.size w Z A ∧ ISl (Rp.int .i64) (bl Z ++ A) w kj kl r8 ∧ ISl (Rp.int .i64) (bl Z ++ A) w g7 g8 r14 ∧ ISl (Rp.bool) (bl Z ++ A) w jc jd r83.Final ∧ ISl (Rp.sl (Rp.int .i64)) (bl Z ++ A) w jA jB r83.Next ∧ ISl (Rp.int .i64) (bl Z ++ A) w rX rY r84 ∧ Fr (bl []) w0 (bl Z) w) [t1 Fl.i 3 p91 r8.length r8.length vD, .blk B87 (.cells #[.int .i64 r83.Letters, .int .i64 r83.Start, .slice jc r83.Final.length jd, .slice jA r83.Next.length jB] 25 (0, 0)), .blk B5 (.cells #[.int .i64 (0 : Int), .int .i64 (0 : Int), .slice none 0 0, .slice none 0 0] 25 (0, 0))]) ⟨agr, hO, ft.u, eg.u, fF.u, fW.u, jC.u, fr⟩ ?_
 refine fun X3 => p1 fun mX vD => fun H hX3 σ w93 => d1 fun hag => d1 fun hO => d1 fun ft => d4 fun eg fF fW jC hB => ?_
 dsimp only at H
 refine Go1.keep _ hag ?_
 revert hO; repeat (rename Owns _ _ _ _ => q; clear q)
 intro hO; repeat (rename Sq _ _ _ _ _ _ => q; clear q)
 refine scm H (fun h96 H => ?_) fun h96 H => ?_
 ·refine sxl hO ft H.1 H.2.1 ?_
  refine six1 0 hO H.2.2.1 H.2.2.2.1 ?_
  refine sst (u := (-1 : Int)) 0 hO H.2.2.1 H.2.2.2.1 fun w97 s hO => ?_
  refine au ?_
  have h98 := H.1
  have h99 := H.2.1
  have j9 := H.2.2.1
  have tR := H.2.2.2.1
  refine scm H.2.2.2.2 (fun Ff H => ?_) fun Ff H => ?_
  ·refine sxl hO eg.u H.1 H.2.1 ?_
   refine sxl hO jC.u H.2.2.1 H.2.2.2.1 ?_
   refine six1 0 hO H.2.2.2.2.1 H.2.2.2.2.2.1 ?_
   refine sst (u := (ix r84 (ix r14 (ix r8 (mX : Int))))) 0 hO H.2.2.2.2.1 H.2.2.2.2.2.1 fun Fg s hO => ?_
   refine sinc (natbd h96 ft.bd) ?_
   refine au ?_
   exact hX3 _ H.2.2.2.2.2.2 _ _ ⟨agr, hO, ft.u, eg.u, fF.u, fW.u, jC.u, fr⟩
  refine sinc (natbd h96 ft.bd) ?_
  refine au ?_
  exact hX3 _ H _ _ ⟨agr, hO, ft.u, eg.u, fF.u, fW.u, jC.u, fr⟩
 refine sag 1 hO ?_
 refine sba 2 hO fun Fh s hO => ?_
 refine au ?_
 refine sfz 0 hO fun s hO AJ AK => ?_
 refine Go1.retC2 Try.func66 rfl rfl (rlb 1 hO) ⟨((⟨r83.Letters, r83.Start, r83.Final, r83.Next⟩ : DFA)), _, _, _, _, _, _, _, ?_, frs, fF.r, fW.r, AJ.r, H⟩
 exact (congrArg (fun l => Value.tuple (List.toArray l)) (J05 rfl (J05 (congrArg (fun nn => Value.slice p91 nn r8.length) AK) rfl)))
theorem body22 : Body Try.prog 22 := ⟨Try.f22, Try.func22, rfl, by kernel_rfl⟩
theorem J1P {A : List Nat} {w0 : World} {ad af : Option Addr} {ae ag : Nat} {d : DFA} (hA : ∀ b ∈ A, b < w0.heap.size) (aM : ISl (Rp.bool) A w0 ad ae d.Final) (b9 : ISl (Rp.sl (Rp.int .i64)) A w0 af ag d.Next) {K : DFA → Prop} (H : J0o d K) :
    CallsV Try.prog 22 #[.agg #[.int .i64 d.Letters, .int .i64 d.Start, .slice ad d.Final.length ae, .slice af d.Next.length ag]] w0 (fun v w' => ∃ (r0 : DFA) (cR : Option Addr) (cS : Nat) (c6 : Option Addr) (c8 : Nat), v = .agg #[.int .i64 r0.Letters, .int .i64 r0.Start, .slice cR r0.Final.length cS, .slice c6 r0.Next.length c8] ∧ Same w0 w' ∧ ISl (Rp.bool) A w' cR cS r0.Final ∧ ISl (Rp.sl (Rp.int .i64)) A w' c6 c8 r0.Next ∧ K r0) := by
 refine CallsV.of (l := [.agg #[.int .i64 d.Letters, .int .i64 d.Start, .slice ad d.Final.length ae, .slice af d.Next.length ag]]) Try.func22 rfl Try.ntmps22 rfl ?_
 have hO := Owns.start hA
 have hB := Fr.refl (bl []) w0
 unfold J0o at H
 refine sbx hO fun w1 B2 s hO => ?_
 refine sal hO fun w4 B5 s hO => ?_
 refine sag 1 hO ?_
 refine zcr (J00 body61 rfl (J0s hO.lt aM.u b9.u H)) fun _ w8 => e1 fun r7 => sc0 hO fun s hO => fun H => ?_
 refine scm H (fun h9 H => ?_) fun h9 H => ?_
 ·refine sag 1 hO ?_
  refine zcr (J00 body66 rfl (J3q hO.lt aM.u b9.u H)) fun _ w12 => e4 fun r10 r11 xO xP => e4 fun AM AO Hp Hq => sc0 hO fun s hO => d3 fun mj mY Hr H => ?_
  refine sal hO fun w13 B14 s hO => ?_
  refine sba 0 hO fun w16 s hO => ?_
  refine sag 0 hO ?_
  refine sba 1 hO fun w17 s hO => ?_
  refine au ?_
  refine Go1.retC1 Try.func22 rfl rfl (rlb 1 hO) ⟨((⟨r10.Letters, r10.Start, r10.Final, r10.Next⟩ : DFA)), _, _, _, _, ?_, frs, mj.r, mY.r, H⟩
  exact rfl
 refine au ?_
 refine zo (J06 Try.underlying25 ti25 (pl := [(0, 1), (1, 1), (2, 1), (3, 1)]) (vs := []) (cs := #[.int .i64 (0 : Int), .int .i64 (0 : Int), .slice none 0 0, .slice none 0 0]) (by kernel_rfl) rfl (by kernel_rfl)) ?_
 refine sba 0 hO fun w18 s hO => ?_
 refine au ?_
 refine Go1.retC1 Try.func22 rfl rfl (rlb 0 hO) ⟨((⟨(0 : Int), (0 : Int), ([] : List Bool), ([] : List (List Int))⟩ : DFA)), _, _, _, _, ?_, frs, (ISl.null _ _ _), (ISl.null _ _ _), H⟩
 exact rfl
theorem body154 : Body Try.prog 154 := ⟨Try.f154, Try.func154, rfl, by kernel_rfl⟩
theorem J23 {A : List Nat} {w0 : World} {p_f : Option Addr} {c_f : Nat} {f : List Int} (hA : ∀ b ∈ A, b < w0.heap.size) (h_f : ISl (Rp.int .i64) A w0 p_f c_f f) {K : Bool → Prop} (H : J1D f K) :
    CallsV Try.prog 154 #[.slice p_f f.length c_f] w0 (fun v w' => ∃ (r0 : Bool), v = .bool r0 ∧ Same w0 w' ∧ K r0) := by
 refine CallsV.of (l := [.slice p_f f.length c_f]) Try.func154 rfl Try.ntmps154 rfl ?_
 have hO := Owns.start hA
 have hB := Fr.refl (bl []) w0
 unfold J1D at H
 refine sln0 ?_
 refine scm (H h_f.bd) (fun h1 H => ?_) fun h1 H => ?_
 ·refine au ?_
  refine Go1.ret1 Try.func154 rfl ⟨_, ?_, frs, H⟩
  exact rfl
 refine sln0 ?_
 refine scm H (fun h2 H => ?_) fun h2 H => ?_
 ·refine au ?_
  refine Go1.ret1 Try.func154 rfl ⟨_, ?_, frs, H⟩
  exact rfl
 refine sln0 ?_
 refine au ?_
 refine lw H (fun k1_4 σ w => (fun Z => agrees σ [(0, .slice p_f f.length c_f), (13, .slice p_f f.length c_f), (14, .int .i64 (f.length : Int)), (15, .int .i64 (k1_4 : Int))] ∧ Owns w0.heap.size w Z A ∧ Fr (bl []) w0 (bl Z) w) []) ⟨agr, hO, fr⟩ ?_
 refine fun X1 => fun k1_4 => fun H hX1 σ w3 => d2 fun hag hO hB => ?_
 refine Go1.keep _ hag ?_
 refine scm H (fun h5 H => ?_) fun h5 H => ?_
 ·refine sxl hO h_f.u H.1 H.2.1 ?_
  refine au ?_
  have h6 := H.1
  have h7 := H.2.1
  refine scm H.2.2 (fun h8 H => ?_) fun h8 H => ?_
  ·refine au ?_
   refine Go1.ret1 Try.func154 rfl ⟨_, ?_, frs, H⟩
   exact rfl
  refine sln0 ?_
  refine scm H (fun h9 H => ?_) fun h9 H => ?_
  ·refine au ?_
   refine Go1.ret1 Try.func154 rfl ⟨_, ?_, frs, H⟩
   exact rfl
  refine sinc (natbd h5 h_f.bd) ?_
  refine au ?_
  exact hX1 _ H _ _ ⟨agr, hO, fr⟩
 refine au ?_
 refine Go1.ret1 Try.func154 rfl ⟨_, ?_, frs, H⟩
 exact rfl
theorem body86 : Body Try.prog 86 := ⟨Try.f86, Try.func86, rfl, by kernel_rfl⟩
theorem J0j {A : List Nat} {w0 : World} {eF : Option Addr} {fo : Nat} {s_ : List Int} (hA : ∀ b ∈ A, b < w0.heap.size) (gN : ISl (Rp.int .i64) A w0 eF fo s_) {K : List Int → Prop} (H : J07 s_ K) :
    CallsV Try.prog 86 #[.slice eF s_.length fo] w0 (fun v w' => ∃ (r0 : List Int) (iK : Nat) (p_r0 : Option Addr) (c_r0 : Nat), v = .slice p_r0 iK c_r0 ∧ Same w0 w' ∧ Owns w0.heap.size w' [t1 Fl.i 3 p_r0 iK c_r0 r0] A ∧ K r0) := by
 refine CallsV.of (l := [.slice eF s_.length fo]) Try.func86 rfl Try.ntmps86 rfl ?_
 have hO := Owns.start hA
 have hB := Fr.refl (bl []) w0
 unfold J07 at H
 refine au ?_
 replace H := H eF.isNone (fun h => gN.nilD h)
 by_cases hz2 : eF.isNone = true
 ·replace H := ifp hz2 H
  refine zo (fun w => opB (J1b Try.underlying31 rfl rfl w) (hz2)) ?_
  refine au ?_
  refine snil Fl.i 3 hO fun s hO => ?_
  refine Go1.ret1 Try.func86 rfl ⟨_, _, _, _, ?_, frs, hO, H⟩
  exact rfl
 ·replace H := ifn hz2 H
  refine zo (fun w => opB (J1b Try.underlying31 rfl rfl w) (Bool.eq_false_iff.2 hz2)) ?_
  refine sbu Fl.i 3 ([] : List Int) hO fun w4 p5 s hO => ?_
  refine sap 0 hO gN.u H fun w7 p8 c9 s hO => ?_
  refine au ?_
  refine Go1.ret1 Try.func86 rfl ⟨_, _, _, _, ?_, frs, hO, H.2⟩
  exact rfl
theorem body156 : Body Try.prog 156 := ⟨Try.f156, Try.func156, rfl, by kernel_rfl⟩
theorem J4c {A : List Nat} {w0 : World} {n : Int} (hA : ∀ b ∈ A, b < w0.heap.size) {K : List Int → Prop} (H : J12 n K) :
    CallsV Try.prog 156 #[.int .i64 n] w0 (fun v w' => ∃ (r0 : List Int) (p_r0 : Option Addr) (c_r0 : Nat), v = .slice p_r0 r0.length c_r0 ∧ Same w0 w' ∧ ISl (Rp.int .i64) A w' p_r0 c_r0 r0 ∧ K r0) := by
 refine CallsV.of (l := [.int .i64 n]) Try.func156 rfl Try.ntmps156 rfl ?_
 have hO := Owns.start hA
 have hB := Fr.refl (bl []) w0
 unfold J12 at H
 refine scm H (fun h1 H => ?_) fun h1 H => ?_
 ·refine au ?_
  refine Go1.ret1 Try.func156 rfl ⟨_, _, _, ?_, frs, (ISl.null _ _ _), H⟩
  exact rfl
 refine scm H (fun h2 H => ?_) fun h2 H => ?_
 ·refine au ?_
  refine Go1.ret1 Try.func156 rfl ⟨_, _, _, ?_, frs, (ISl.null _ _ _), H⟩
  exact rfl
 refine smk Fl.i H hO fun w3 p4 s hO => ?_
 refine sln1 0 hO ?_
 refine au ?_
 refine lw H.2.2 (fun (a9, f1_8) σ w => (fun Z => agrees σ [(3, .slice p4 n.toNat n.toNat), (14, .int .i64 ((List.replicate n.toNat ((0 : Int))).length : Int)), (15, .int .i64 (a9 : Int))] ∧ Owns w0.heap.size w Z A ∧ Fr (bl []) w0 (bl Z) w) [t1 Fl.i 3 p4 n.toNat n.toNat f1_8]) ⟨agr, hO, fr⟩ ?_
 refine fun X1 => p1 fun a9 f1_8 => fun H hX1 σ w6 => d2 fun hag hO hB => ?_
 dsimp only at H
 refine Go1.keep _ hag ?_
 revert hO; repeat (rename Owns _ _ _ _ => q; clear q)
 intro hO; repeat (rename Sq _ _ _ _ _ _ => q; clear q)
 refine scm H (fun h9 H => ?_) fun h9 H => ?_
 ·refine six1 0 hO H.1 H.2.1 ?_
  refine sst (u := (a9 : Int)) 0 hO H.1 H.2.1 fun w10 s hO => ?_
  refine au ?_
  have h11 := H.1
  have h12 := H.2.1
  replace H := H.2.2
  obtain ⟨h13, H⟩ := H
  refine zo (J0i rfl rfl (wrap_i64 h13)) ?_
  refine au ?_
  exact hX1 _ H _ _ ⟨agr, hO, fr⟩
 refine au ?_
 refine sfz 0 hO fun s hO lQ lR => ?_
 refine Go1.ret1 Try.func156 rfl ⟨_, _, _, ?_, frs, lQ.r, H⟩
 exact (congrArg (fun nn => Value.slice p4 nn n.toNat) lR)
theorem body157 : Body Try.prog 157 := ⟨Try.f157, Try.func157, rfl, by kernel_rfl⟩
theorem J0a {A : List Nat} {w0 : World} {p_f : Option Addr} {c_f : Nat} {f : List Int} (hA : ∀ b ∈ A, b < w0.heap.size) (h_f : ISl (Rp.int .i64) A w0 p_f c_f f) {K : Str → Prop} (H : J0b f K) :
    CallsV Try.prog 157 #[.slice p_f f.length c_f] w0 (fun v w' => ∃ (r0 : Str), v = .string (gstr r0) ∧ Same w0 w' ∧ r0.length ≤ mx ∧ K r0) := by
 refine CallsV.of (l := [.slice p_f f.length c_f]) Try.func157 rfl Try.ntmps157 rfl ?_
 have hO := Owns.start hA
 have hB := Fr.refl (bl []) w0
 unfold J0b at H
 refine sln0 ?_
 refine smk (Fl.int .u8) (H h_f.bd) hO fun w1 p4 s hO => ?_
 refine sln0 ?_
 refine au ?_
 refine lw (H h_f.bd).2.2 (fun (a9, vE) σ w => (fun Z => agrees σ [(3, .slice p4 f.length f.length), (9, .slice p_f f.length c_f), (10, .int .i64 (f.length : Int)), (11, .int .i64 (a9 : Int))] ∧ Owns w0.heap.size w Z A ∧ Fr (bl []) w0 (bl Z) w) [t1 (Fl.int .u8) 5 p4 f.length f.length vE]) ⟨agr, hO, fr⟩ ?_
 refine fun X1 => p1 fun a9 vE => fun H hX1 σ w6 => d2 fun hag hO hB => ?_
 dsimp only at H
 refine Go1.keep _ hag ?_
 revert hO; repeat (rename Owns _ _ _ _ => q; clear q)
 intro hO; repeat (rename Sq _ _ _ _ _ _ => q; clear q)
 refine scm H (fun h9 H => ?_) fun h9 H => ?_
 ·refine sxl hO h_f.u H.1 H.2.1 ?_
  refine au ?_
  refine zo (J35 Try.underlying3 Try.underlying5 rfl rfl) ?_
  refine six1 0 hO H.2.2.1 H.2.2.2.1 ?_
  refine sst (u := (IntKind.u8.wrap (ix f (a9 : Int)))) 0 hO H.2.2.1 H.2.2.2.1 fun w10 s hO => ?_
  refine sinc (natbd h9 h_f.bd) ?_
  refine au ?_
  exact hX1 _ H.2.2.2.2 _ _ ⟨agr, hO, fr⟩
 refine au ?_
 refine op1 0 hO fun Ld s hO vF => ?_
 have hle13 := J7M vF.bd
 refine zs (oldBytes 0 hO rfl vF.u Try.underlying126 Try.underlying5 Try.underlying9 rfl) ?_
 refine au ?_
 refine Go1.ret1 Try.func157 rfl ⟨_, ?_, frs, hle13, H⟩
 exact rfl
end Sg
