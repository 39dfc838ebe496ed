/- -/
import Derived.Test.YtlneebpmblkllaaVd
namespace Sg
open Go Go.RowKit Go.Proofs
set_option linter.unusedVariables false
set_option linter.unusedSimpArgs false
set_option maxRecDepth 100000
set_option maxHeartbeats 4000000
theorem body59 : Body Try.prog 59 := ⟨Try.f59, Try.func59, rfl, by kernel_rfl⟩
theorem J1A {A : List Nat} {w0 : World} {letters : Int} (hA : ∀ b ∈ A, b < w0.heap.size) {K : Bool → Prop} (H : J0p letters K) :
    CallsV Try.prog 59 #[.int .i64 letters] w0 (fun v w' => ∃ (r0 : Bool), v = .bool r0 ∧ Same w0 w' ∧ K r0) := by
 refine CallsV.of (l := [.int .i64 letters]) Try.func59 rfl Try.ntmps59 rfl ?_
 have hO := Owns.start hA
 have hB := Fr.refl (bl []) w0
 unfold J0p at H
 refine scm H (fun h1 H => ?_) fun h1 H => ?_
 ·refine scm H (fun h2 H => ?_) fun h2 H => ?_
  ·refine au ?_
   refine Go1.ret1 Try.func59 rfl ⟨_, ?_, frs, H⟩
   exact rfl
  refine au ?_
  refine Go1.ret1 Try.func59 rfl ⟨_, ?_, frs, H⟩
  exact rfl
 refine au ?_
 refine Go1.ret1 Try.func59 rfl ⟨_, ?_, frs, H⟩
 exact rfl
theorem body16 : Body Try.prog 16 := ⟨Try.f16, Try.func16, rfl, by kernel_rfl⟩
theorem J3x {A : List Nat} {w0 : World} {ad af : Option Addr} {ae ag : Nat} {d : DFA} (hA : ∀ b ∈ A, b < w0.heap.size) (aG : ISl (Rp.bool) A w0 ad ae d.Final) (bS : ISl (Rp.sl (Rp.int .i64)) A w0 af ag d.Next) {K : Int → Prop} (H : J11 d K) :
    CallsV Try.prog 16 #[.agg #[.int .i64 d.Letters, .int .i64 d.Start, .slice ad d.Final.length ae, .slice af d.Next.length ag]] w0 (fun v w' => ∃ (r0 : Int), v = .int .i64 r0 ∧ Same w0 w' ∧ K r0) := by
 refine CallsV.of (l := [.agg #[.int .i64 d.Letters, .int .i64 d.Start, .slice ad d.Final.length ae, .slice af d.Next.length ag]]) Try.func16 rfl Try.ntmps16 rfl ?_
 have hO := Owns.start hA
 have hB := Fr.refl (bl []) w0
 unfold J11 at H
 refine sbx hO fun w1 B2 s hO => ?_
 refine sln0 ?_
 refine au ?_
 refine zcr (J00 body59 rfl (J1A hO.lt (H aG.bd))) fun _ w5 => e1 fun r4 => sc0 hO fun s hO => fun H => ?_
 cases r4
 ·refine au ?_
  refine Go1.ret1 Try.func16 rfl ⟨_, ?_, frs, (iF H)⟩
  exact rfl
 refine scm (iT H) (fun h6 H => ?_) fun h6 H => ?_
 ·refine au ?_
  refine Go1.ret1 Try.func16 rfl ⟨_, ?_, frs, H⟩
  exact rfl
 refine scm H (fun h7 H => ?_) fun h7 H => ?_
 ·refine au ?_
  refine Go1.ret1 Try.func16 rfl ⟨_, ?_, frs, H⟩
  exact rfl
 refine sln0 ?_
 refine scm (H bS.bd) (fun h8 H => ?_) fun h8 H => ?_
 ·refine scm H (fun h9 H => ?_) fun h9 H => ?_
  ·refine au ?_
   refine Go1.ret1 Try.func16 rfl ⟨_, ?_, frs, H⟩
   exact rfl
  refine scm H (fun h10 H => ?_) fun h10 H => ?_
  ·refine au ?_
   refine Go1.ret1 Try.func16 rfl ⟨_, ?_, frs, H⟩
   exact rfl
  refine sln0 ?_
  refine au ?_
  refine lw H (fun k1_12 σ w => (fun Z => agrees σ [(1, .pointer (some ⟨B2, 0, none⟩)), (3, .int .i64 (d.Final.length : Int)), (38, .slice af d.Next.length ag), (39, .int .i64 (d.Next.length : Int)), (40, .int .i64 (k1_12 : Int))] ∧ Owns w0.heap.size w Z A ∧ Fr (bl []) w0 (bl Z) w) [.blk B2 (.cells #[.int .i64 d.Letters, .int .i64 d.Start, .slice ad d.Final.length ae, .slice af d.Next.length ag] 25 (0, 0))]) ⟨agr, hO, fr⟩ ?_
  refine fun X1 => fun k1_12 => fun H hX1 σ w11 => d2 fun hag hO hB => ?_
  refine Go1.keep _ hag ?_
  revert hO; repeat (rename Owns _ _ _ _ => q; clear q)
  intro hO; repeat (rename Sq _ _ _ _ _ _ => q; clear q)
  refine scm H (fun h13 H => ?_) fun h13 H => ?_
  ·refine sxls hO bS.u H.1 H.2.1 fun p14 c15 fF => ?_
   refine sln0 ?_
   refine au ?_
   have h17 := H.1
   have h18 := H.2.1
   refine scm (H.2.2 fF.bd) (fun h19 H => ?_) fun h19 H => ?_
   ·refine sln0 ?_
    refine au ?_
    refine lw H (fun mV σ w => (fun Z => agrees σ [(1, .pointer (some ⟨B2, 0, none⟩)), (3, .int .i64 (d.Final.length : Int)), (38, .slice af d.Next.length ag), (39, .int .i64 (d.Next.length : Int)), (40, .int .i64 (k1_12 : Int)), (49, .slice p14 ((ix d.Next (k1_12 : Int)).length) c15), (50, .int .i64 ((ix d.Next (k1_12 : Int)).length : Int)), (51, .int .i64 (mV : Int))] ∧ Owns w0.heap.size w Z A ∧ ISl (Rp.int .i64) (bl Z ++ A) w p14 c15 (ix d.Next (k1_12 : Int)) ∧ Fr (bl []) w0 (bl Z) w) [.blk B2 (.cells #[.int .i64 d.Letters, .int .i64 d.Start, .slice ad d.Final.length ae, .slice af d.Next.length ag] 25 (0, 0))]) ⟨agr, hO, fF.u, fr⟩ ?_
    refine fun X2 => fun mV => fun H hX2 σ w20 => d3 fun hag hO fF hB => ?_
    refine Go1.keep _ hag ?_
    revert hO; repeat (rename Owns _ _ _ _ => q; clear q)
    intro hO; repeat (rename Sq _ _ _ _ _ _ => q; clear q)
    refine scm H (fun h22 H => ?_) fun h22 H => ?_
    ·refine sxl hO fF H.1 H.2.1 ?_
     refine au ?_
     have h23 := H.1
     have h24 := H.2.1
     refine scm H.2.2 (fun h25 H => ?_) fun h25 H => ?_
     ·refine au ?_
      refine Go1.ret1 Try.func16 rfl ⟨_, ?_, frs, H⟩
      exact rfl
     refine scm H (fun h26 H => ?_) fun h26 H => ?_
     ·refine au ?_
      refine Go1.ret1 Try.func16 rfl ⟨_, ?_, frs, H⟩
      exact rfl
     refine sinc (natbd h22 fF.bd) ?_
     refine au ?_
     exact hX2 _ H _ _ ⟨agr, hO, fF, fr⟩
    refine sinc (natbd h13 bS.bd) ?_
    refine au ?_
    exact hX1 _ H _ _ ⟨agr, hO, fr⟩
   refine au ?_
   refine Go1.ret1 Try.func16 rfl ⟨_, ?_, frs, H⟩
   exact rfl
  refine au ?_
  refine Go1.ret1 Try.func16 rfl ⟨_, ?_, frs, H⟩
  exact rfl
 refine au ?_
 refine Go1.ret1 Try.func16 rfl ⟨_, ?_, frs, H⟩
 exact rfl
theorem body17 : Body Try.prog 17 := ⟨Try.f17, Try.func17, rfl, by kernel_rfl⟩
theorem J4c {A : List Nat} {w0 : World} {ad af : Option Addr} {ae ag : Nat} {d : DFA} {most : Int} (hA : ∀ b ∈ A, b < w0.heap.size) (aG : ISl (Rp.bool) A w0 ad ae d.Final) (bS : ISl (Rp.sl (Rp.int .i64)) A w0 af ag d.Next) {K : Bool → Prop} (H : law21_small d most K) :
    CallsV Try.prog 17 #[.agg #[.int .i64 d.Letters, .int .i64 d.Start, .slice ad d.Final.length ae, .slice af d.Next.length ag], .int .i64 most] w0 (fun v w' => ∃ (r0 : Bool), v = .bool r0 ∧ Same w0 w' ∧ K r0) := by
 refine CallsV.of (l := [.agg #[.int .i64 d.Letters, .int .i64 d.Start, .slice ad d.Final.length ae, .slice af d.Next.length ag], .int .i64 most]) Try.func17 rfl Try.ntmps17 rfl ?_
 have hO := Owns.start hA
 have hB := Fr.refl (bl []) w0
 unfold law21_small at H
 refine sbx hO fun w1 B2 s hO => ?_
 refine sln0 ?_
 refine scm (H aG.bd) (fun h4 H => ?_) fun h4 H => ?_
 ·refine scm H (fun h5 H => ?_) fun h5 H => ?_
  ·refine sag 0 hO ?_
   refine zcr (J00 body16 rfl (J3x hO.lt aG.u bS.u H)) fun _ w7 => e1 fun r6 => sc0 hO fun s hO => fun H => ?_
   refine scm H (fun h8 H => ?_) fun h8 H => ?_
   ·refine au ?_
    refine Go1.ret1 Try.func17 rfl ⟨_, ?_, frs, H⟩
    exact rfl
   refine au ?_
   refine Go1.ret1 Try.func17 rfl ⟨_, ?_, frs, H⟩
   exact rfl
  refine au ?_
  refine Go1.ret1 Try.func17 rfl ⟨_, ?_, frs, H⟩
  exact rfl
 refine au ?_
 refine Go1.ret1 Try.func17 rfl ⟨_, ?_, frs, H⟩
 exact rfl
theorem body60 : Body Try.prog 60 := ⟨Try.f60, Try.func60, rfl, by kernel_rfl⟩
theorem J5f {A : List Nat} {w0 : World} (hA : ∀ b ∈ A, b < w0.heap.size) {K : DFA → Prop} (H : law21_ab  K) :
    CallsV Try.prog 60 #[] w0 (fun v w' => ∃ (r0 : DFA) (cE : Option Addr) (cG : Nat) (cO : Option Addr) (cP : Nat), v = .agg #[.int .i64 r0.Letters, .int .i64 r0.Start, .slice cE r0.Final.length cG, .slice cO r0.Next.length cP] ∧ Same w0 w' ∧ ISl (Rp.bool) A w' cE cG r0.Final ∧ ISl (Rp.sl (Rp.int .i64)) A w' cO cP r0.Next ∧ K r0) := by
 refine CallsV.of (l := []) Try.func60 rfl Try.ntmps60 rfl ?_
 have hO := Owns.start hA
 have hB := Fr.refl (bl []) w0
 unfold law21_ab at H
 refine sal hO fun w1 B2 s hO => ?_
 refine sbu Fl.bool 4 [true, false, false] hO fun w4 p5 s hO => ?_
 refine sbu Fl.i 3 [(1 : Int), (2 : Int)] hO fun w7 p8 s hO => ?_
 refine sbu Fl.i 3 [(2 : Int), (0 : Int)] hO fun w10 p11 s hO => ?_
 refine sbu Fl.i 3 [(2 : Int), (2 : Int)] hO fun w13 p14 s hO => ?_
 refine sfz 2 hO fun s hO fF uT => ?_
 refine sfz 1 hO fun s hO ku uU => ?_
 refine sfz 0 hO fun s hO uV uW => ?_
 have zz := J2p (r := Rp.sl (Rp.int .i64)) (n := 3) (parts := [(0, .slice p8 2 2), (1, .slice p11 2 2), (2, .slice p14 2 2)]) (vs := [.slice p8 2 2, .slice p11 2 2, .slice p14 2 2]) (xs := [[(1 : Int), (2 : Int)], [(2 : Int), (0 : Int)], [(2 : Int), (2 : Int)]]) rfl Try.underlying23 ti31 hO (by decide) (by kernel_rfl) (Els.cons rfl ⟨p8, 2, congrArg some (congrArg (fun nn => Value.slice p8 nn 2) uT), fF.u⟩ (Els.cons rfl ⟨p11, 2, congrArg some (congrArg (fun nn => Value.slice p11 nn 2) uU), ku.u⟩ (Els.cons rfl ⟨p14, 2, congrArg some (congrArg (fun nn => Value.slice p14 nn 2) uW), uV⟩ (Els.nil _ _ _) (by simp [mx])) (by simp [mx])) (by simp [mx])) rfl
 obtain ⟨w22, p23, rq, uX, yO, jl⟩ := zz
 refine zg (jl rfl) ?_
 refine nst rq fun s hO => ?_
 refine zo (J0a Try.underlying25 ti25 (pl := [(0, 1), (1, 1), (2, 1), (3, 1)]) (vs := [(0, .int .i64 (2 : Int)), (2, .slice p5 3 3), (3, .slice p23 3 3)]) (cs := #[.int .i64 (2 : Int), .int .i64 (0 : Int), .slice p5 3 3, .slice p23 3 3]) (by kernel_rfl) rfl (by kernel_rfl)) ?_
 refine sba 2 hO fun w29 s hO => ?_
 refine au ?_
 refine sfz 1 hO fun s hO uY u0 => ?_
 refine sfzR 0 hO uX.u fun s hO d5 u4 => ?_
 refine Go1.retC1 Try.func60 rfl rfl (rlb 0 hO) ⟨((⟨(2 : Int), (0 : Int), [true, false, false], [[(1 : Int), (2 : Int)], [(2 : Int), (0 : Int)], [(2 : Int), (2 : Int)]]⟩ : DFA)), _, _, _, _, ?_, frs, uY.r, d5.r, H⟩
 exact (congrArg (fun l => Value.agg (List.toArray l)) (J02 rfl (J02 rfl (J02 (congrArg (fun nn => Value.slice p5 nn 3) u0) (J02 (congrArg (fun nn => Value.slice p23 nn 3) u4) rfl)))))
theorem body61 : Body Try.prog 61 := ⟨Try.f61, Try.func61, rfl, by kernel_rfl⟩
theorem J0x {A : List Nat} {w0 : World} {ad af : Option Addr} {ae ag : Nat} {d : DFA} (hA : ∀ b ∈ A, b < w0.heap.size) (aG : ISl (Rp.bool) A w0 ad ae d.Final) (bS : ISl (Rp.sl (Rp.int .i64)) A w0 af ag d.Next) {K : Int → Prop} (H : J0r d K) :
    CallsV Try.prog 61 #[.agg #[.int .i64 d.Letters, .int .i64 d.Start, .slice ad d.Final.length ae, .slice af d.Next.length ag]] w0 (fun v w' => ∃ (r0 : Int), v = .int .i64 r0 ∧ Same w0 w' ∧ K r0) := by
 refine CallsV.of (l := [.agg #[.int .i64 d.Letters, .int .i64 d.Start, .slice ad d.Final.length ae, .slice af d.Next.length ag]]) Try.func61 rfl Try.ntmps61 rfl ?_
 have hO := Owns.start hA
 have hB := Fr.refl (bl []) w0
 unfold J0r at H
 refine sbx hO fun w1 B2 s hO => ?_
 refine scm H (fun h4 H => ?_) fun h4 H => ?_
 ·refine au ?_
  refine Go1.ret1 Try.func61 rfl ⟨_, ?_, frs, H⟩
  exact rfl
 refine scm H (fun h5 H => ?_) fun h5 H => ?_
 ·refine au ?_
  refine Go1.ret1 Try.func61 rfl ⟨_, ?_, frs, H⟩
  exact rfl
 refine sln0 ?_
 refine scm (H aG.bd) (fun h6 H => ?_) fun h6 H => ?_
 ·refine au ?_
  refine Go1.ret1 Try.func61 rfl ⟨_, ?_, frs, H⟩
  exact rfl
 refine sln0 ?_
 refine scm (H bS.bd) (fun h7 H => ?_) fun h7 H => ?_
 ·refine scm H (fun h8 H => ?_) fun h8 H => ?_
  ·refine au ?_
   refine Go1.ret1 Try.func61 rfl ⟨_, ?_, frs, H⟩
   exact rfl
  refine scm H (fun h9 H => ?_) fun h9 H => ?_
  ·refine au ?_
   refine Go1.ret1 Try.func61 rfl ⟨_, ?_, frs, H⟩
   exact rfl
  refine sln0 ?_
  refine au ?_
  refine lw H (fun k1_11 σ w => (fun Z => agrees σ [(1, .pointer (some ⟨B2, 0, none⟩)), (3, .int .i64 (d.Final.length : Int)), (38, .slice af d.Next.length ag), (39, .int .i64 (d.Next.length : Int)), (40, .int .i64 (k1_11 : Int))] ∧ Owns w0.heap.size w Z A ∧ Fr (bl []) w0 (bl Z) w) [.blk B2 (.cells #[.int .i64 d.Letters, .int .i64 d.Start, .slice ad d.Final.length ae, .slice af d.Next.length ag] 25 (0, 0))]) ⟨agr, hO, fr⟩ ?_
  refine fun X1 => fun k1_11 => fun H hX1 σ w10 => d2 fun hag hO hB => ?_
  refine Go1.keep _ hag ?_
  revert hO; repeat (rename Owns _ _ _ _ => q; clear q)
  intro hO; repeat (rename Sq _ _ _ _ _ _ => q; clear q)
  refine scm H (fun h12 H => ?_) fun h12 H => ?_
  ·refine sxls hO bS.u H.1 H.2.1 fun p13 c14 gX => ?_
   refine sln0 ?_
   refine au ?_
   have h16 := H.1
   have h17 := H.2.1
   refine scm (H.2.2 gX.bd) (fun h18 H => ?_) fun h18 H => ?_
   ·refine sln0 ?_
    refine au ?_
    refine lw H (fun mW σ w => (fun Z => agrees σ [(1, .pointer (some ⟨B2, 0, none⟩)), (3, .int .i64 (d.Final.length : Int)), (38, .slice af d.Next.length ag), (39, .int .i64 (d.Next.length : Int)), (40, .int .i64 (k1_11 : Int)), (49, .slice p13 ((ix d.Next (k1_11 : Int)).length) c14), (50, .int .i64 ((ix d.Next (k1_11 : Int)).length : Int)), (51, .int .i64 (mW : Int))] ∧ Owns w0.heap.size w Z A ∧ ISl (Rp.int .i64) (bl Z ++ A) w p13 c14 (ix d.Next (k1_11 : Int)) ∧ Fr (bl []) w0 (bl Z) w) [.blk B2 (.cells #[.int .i64 d.Letters, .int .i64 d.Start, .slice ad d.Final.length ae, .slice af d.Next.length ag] 25 (0, 0))]) ⟨agr, hO, gX.u, fr⟩ ?_
    refine fun X2 => fun mW => fun H hX2 σ w19 => d3 fun hag hO gX hB => ?_
    refine Go1.keep _ hag ?_
    revert hO; repeat (rename Owns _ _ _ _ => q; clear q)
    intro hO; repeat (rename Sq _ _ _ _ _ _ => q; clear q)
    refine scm H (fun h21 H => ?_) fun h21 H => ?_
    ·refine sxl hO gX H.1 H.2.1 ?_
     refine au ?_
     have h22 := H.1
     have h23 := H.2.1
     refine scm H.2.2 (fun h24 H => ?_) fun h24 H => ?_
     ·refine au ?_
      refine Go1.ret1 Try.func61 rfl ⟨_, ?_, frs, H⟩
      exact rfl
     refine scm H (fun h25 H => ?_) fun h25 H => ?_
     ·refine au ?_
      refine Go1.ret1 Try.func61 rfl ⟨_, ?_, frs, H⟩
      exact rfl
     refine sinc (natbd h21 gX.bd) ?_
     refine au ?_
     exact hX2 _ H _ _ ⟨agr, hO, gX, fr⟩
    refine sinc (natbd h12 bS.bd) ?_
    refine au ?_
    exact hX1 _ H _ _ ⟨agr, hO, fr⟩
   refine au ?_
   refine Go1.ret1 Try.func61 rfl ⟨_, ?_, frs, H⟩
   exact rfl
  refine au ?_
  refine Go1.ret1 Try.func61 rfl ⟨_, ?_, frs, H⟩
  exact rfl
 refine au ?_
 refine Go1.ret1 Try.func61 rfl ⟨_, ?_, frs, H⟩
 exact rfl
theorem body141 : Body Try.prog 141 := ⟨Try.f141, Try.func141, rfl, by kernel_rfl⟩
theorem body140 : Body Try.prog 140 := ⟨Try.f140, Try.func140, rfl, by kernel_rfl⟩
theorem body163 : Body Try.prog 163 := ⟨Try.f163, Try.func163, rfl, by kernel_rfl⟩
theorem body139 : Body Try.prog 139 := ⟨Try.f139, Try.func139, rfl, by kernel_rfl⟩
theorem body109 : Body Try.prog 109 := ⟨Try.f109, Try.func109, rfl, by kernel_rfl⟩
theorem J3J {A : List Nat} {w0 : World} {ad af : Option Addr} {ae ag : Nat} {d : DFA} (hA : ∀ b ∈ A, b < w0.heap.size) (aG : ISl (Rp.bool) A w0 ad ae d.Final) (bS : ISl (Rp.sl (Rp.int .i64)) A w0 af ag d.Next) {K : DFA → List Int → Prop} (H : J3b d K) :
    CallsV Try.prog 109 #[.agg #[.int .i64 d.Letters, .int .i64 d.Start, .slice ad d.Final.length ae, .slice af d.Next.length ag]] w0 (fun v w' => ∃ (r0 : DFA) (r1 : List Int) (cE : Option Addr) (cG : Nat) (cO : Option Addr) (cP : Nat) (iG : Option Addr) (iH : Nat), v = .tuple #[.agg #[.int .i64 r0.Letters, .int .i64 r0.Start, .slice cE r0.Final.length cG, .slice cO r0.Next.length cP], .slice iG r1.length iH] ∧ Same w0 w' ∧ ISl (Rp.bool) A w' cE cG r0.Final ∧ ISl (Rp.sl (Rp.int .i64)) A w' cO cP r0.Next ∧ ISl (Rp.int .i64) A w' iG iH r1 ∧ K r0 r1) := by
 refine CallsV.of (l := [.agg #[.int .i64 d.Letters, .int .i64 d.Start, .slice ad d.Final.length ae, .slice af d.Next.length ag]]) Try.func109 rfl Try.ntmps109 rfl ?_
 have hO := Owns.start hA
 have hB := Fr.refl (bl []) w0
 unfold J3b at H
 refine sbx hO fun w1 B2 s hO => ?_
 refine sal hO fun w4 B5 s hO => ?_
 refine sag 1 hO ?_
 refine zcr (J00 body61 rfl (J0x hO.lt aG.u bS.u H)) fun _ w8 => e1 fun r7 => sc0 hO fun s hO => fun H => ?_
 refine scm H (fun h9 H => ?_) fun h9 H => ?_
 ·refine au ?_
  refine zo (J4q (vs := [.pointer (some ⟨B2, 0, none⟩)]) rfl) ?_
  refine zo (J4q (vs := [.pointer (some ⟨B2, 0, none⟩)]) rfl) ?_
  refine GoR.inl (vs := [.int .i64 d.Letters, .int .i64 d.Start, .func (.func 140) #[] #[.pointer (some ⟨B2, 0, none⟩)], .func (.func 141) #[] #[.pointer (some ⟨B2, 0, none⟩)]]) (caps := []) rfl rfl body139 Try.func139 rfl Try.ntmps139 rfl rfl rfl ?_
  intro RhR10 hR10
  refine sal hO fun w11 B12 s hO => ?_
  refine sal hO fun w14 B15 s hO => ?_
  refine au ?_
  refine GoR.inl (vs := [.pointer (some ⟨B15, 0, none⟩), .int .i64 d.Start]) (caps := []) rfl rfl body163 Try.func163 rfl Try.ntmps163 rfl rfl rfl ?_
  intro RhR17 hR17
  refine au ?_
  refine zs (fun w _ => olookN (a := d.Start) (MK.int Try.underlying3) Try.underlying168 ti3 rfl rfl w) ?_
  refine au ?_
  refine zo (fun w => opB (J5p Try.underlying168 rfl rfl w) rfl) ?_
  refine au ?_
  have zz := omakeMap (fun a : Int => Value.int .i64 a) (fun a : Int => Value.int .i64 a) hO
  obtain ⟨w18, B19, rs, yP, ru⟩ := zz
  refine zg ru ?_
  refine nst rs fun s hO => ?_
  refine sbs 1 hO fun w24 s hO => ?_
  refine sln0 ?_
  refine au ?_
  have zz := omapUpd (MK.int Try.underlying3) 0 hO rfl Try.underlying168 d.Start (0 : Int)
  obtain ⟨w25, rv, jl⟩ := zz
  refine zg (jl (by exact rfl) (by exact rfl) (by exact rfl)) ?_
  refine nst rv fun s hO => ?_
  refine au ?_
  refine snil Fl.i 3 hO fun s hO => ?_
  refine sap1 d.Start 0 hO H fun _ w29 p30 c31 s hO => ?_
  refine sbs 2 hO fun w32 s hO => ?_
  refine au ?_
  refine Go1.ret1V Try.func163 rfl (show _ = .int .i64 (0 : Int) from rfl) ?_
  refine hR17 _ _ ?_
  refine au ?_
  refine zo (J0a Try.underlying25 ti25 (pl := [(0, 1), (1, 1), (2, 1), (3, 1)]) (vs := [(0, .int .i64 d.Letters)]) (cs := #[.int .i64 d.Letters, .int .i64 (0 : Int), .slice none 0 0, .slice none 0 0]) (by kernel_rfl) rfl (by kernel_rfl)) ?_
  refine sal hO fun w33 B34 s hO => ?_
  refine sba 0 hO fun w36 s hO => ?_
  refine au ?_
  refine snil Fl.bool 4 hO fun s hO => ?_
  have rB := Stp.nil (e := 31) (r := 1) hO
  refine nst rB fun s hO => ?_
  have u5 := elN (Rp.sl (Rp.int .i64)) hO
  refine lw H.2 (fun (dj, d_43, d_49, dh, mX) σ w => ∃ n48 p46 c47 d6 n52 p50 c51 n56 p54 c55, (fun Z => agrees σ [(0, .int .i64 d.Letters), (2, .func (.func 140) #[] #[.pointer (some ⟨B2, 0, none⟩)]), (3, .func (.func 141) #[] #[.pointer (some ⟨B2, 0, none⟩)]), (8, .pointer (some ⟨B12, 0, none⟩)), (11, .pointer (some ⟨B15, 0, none⟩)), (12, .pointer (some ⟨B34, 0, none⟩)), (13, .int .i64 (dj : Int))] ∧ Owns w0.heap.size w Z A ∧ Els (Rp.sl (Rp.int .i64)) (bl Z ++ A) w d6 d_43 ∧ Fr (bl []) w0 (bl Z) w) [.row 31 1 p46 n48 c47 d6, t1 Fl.bool 4 p50 n52 c51 d_49, .blk B34 (.cells #[.int .i64 d.Letters, .int .i64 (0 : Int), .slice p50 n52 c51, .slice p46 n48 c47] 25 (0, 0)), t1 Fl.i 3 p54 n56 c55 dh, .any (mapE (fun a : Int => Value.int .i64 a) (fun a : Int => Value.int .i64 a) B19 mX), .blk B15 (.cells #[.slice p54 n56 c55, .map (some B19)] 188 (0, 0)), .blk B12 (.cells #[.int .i64 (0 : Int), .int .i64 (0 : Int), .slice none 0 0, .slice none 0 0] 25 (0, 0)), .blk B5 (.cells #[.int .i64 (0 : Int), .int .i64 (0 : Int), .slice none 0 0, .slice none 0 0] 25 (0, 0)), .blk B2 (.cells #[.int .i64 d.Letters, .int .i64 d.Start, .slice ad d.Final.length ae, .slice af d.Next.length ag] 25 (0, 0))]) ⟨_, _, _, _, _, _, _, _, _, _, agr, hO, u5.u, fr⟩ ?_
  refine fun X1 => p1 fun dj => p3 fun d_43 d_49 dh mX => fun H hX1 σ w41 => e4 fun n48 p46 c47 d6 => e4 fun n52 p50 c51 n56 => e2 fun p54 c55 => d3 fun hag hO dr hB => ?_
  dsimp only at H
  refine Go1.keep _ hag ?_
  revert hO; repeat (rename Owns _ _ _ _ => q; clear q)
  intro hO; repeat (rename Sq _ _ _ _ _ _ => q; clear q)
  refine sln1 3 hO ?_
  refine scm H (fun h58 H => ?_) fun h58 H => ?_
  ·refine sxl1 3 hO H.1 H.2.1 ?_
   refine smk Fl.i H.2.2 hO fun w59 p60 s hO => ?_
   refine sln1 0 hO ?_
   refine au ?_
   refine lw H.2.2.2.2 (fun (dM, kw, d_65, fx) σ w => ∃ n68 p66 c67, (fun Z => agrees σ [(0, .int .i64 d.Letters), (2, .func (.func 140) #[] #[.pointer (some ⟨B2, 0, none⟩)]), (3, .func (.func 141) #[] #[.pointer (some ⟨B2, 0, none⟩)]), (8, .pointer (some ⟨B12, 0, none⟩)), (11, .pointer (some ⟨B15, 0, none⟩)), (12, .pointer (some ⟨B34, 0, none⟩)), (13, .int .i64 (dj : Int)), (14, .int .i64 (ix dh (dj : Int))), (15, .slice p60 d.Letters.toNat d.Letters.toNat), (36, .int .i64 ((List.replicate d.Letters.toNat ((0 : Int))).length : Int)), (37, .int .i64 (dM : Int))] ∧ Owns w0.heap.size w Z A ∧ Els (Rp.sl (Rp.int .i64)) (bl Z ++ A) w d6 d_43 ∧ Fr (bl []) w0 (bl Z) w) [t1 Fl.i 3 p60 d.Letters.toNat d.Letters.toNat kw, .row 31 1 p46 n48 c47 d6, t1 Fl.bool 4 p50 n52 c51 d_49, .blk B34 (.cells #[.int .i64 d.Letters, .int .i64 (0 : Int), .slice p50 n52 c51, .slice p46 n48 c47] 25 (0, 0)), t1 Fl.i 3 p66 n68 c67 d_65, .any (mapE (fun a : Int => Value.int .i64 a) (fun a : Int => Value.int .i64 a) B19 fx), .blk B15 (.cells #[.slice p66 n68 c67, .map (some B19)] 188 (0, 0)), .blk B12 (.cells #[.int .i64 (0 : Int), .int .i64 (0 : Int), .slice none 0 0, .slice none 0 0] 25 (0, 0)), .blk B5 (.cells #[.int .i64 (0 : Int), .int .i64 (0 : Int), .slice none 0 0, .slice none 0 0] 25 (0, 0)), .blk B2 (.cells #[.int .i64 d.Letters, .int .i64 d.Start, .slice ad d.Final.length ae, .slice af d.Next.length ag] 25 (0, 0))]) ⟨_, _, _, agr, hO, dr.u, fr⟩ ?_
   refine fun X2 => p3 fun dM kw d_65 fx => fun H hX2 σ w62 => e3 fun n68 p66 c67 => d3 fun hag hO dr hB => ?_
   dsimp only at H
   refine Go1.keep _ hag ?_
   revert hO; repeat (rename Owns _ _ _ _ => q; clear q)
   intro hO; repeat (rename Sq _ _ _ _ _ _ => q; clear q)
   refine scm H (fun h70 H => ?_) fun h70 H => ?_
   ·refine au ?_
    refine GoR.inl (vs := [.int .i64 (ix dh (dj : Int)), .int .i64 (dM : Int)]) (caps := [.pointer (some ⟨B2, 0, none⟩)]) rfl rfl body140 Try.func140 rfl Try.ntmps140 rfl rfl rfl ?_
    intro RhR71 hR71
    refine sxls hO bS.u H.1 H.2.1 fun p72 c73 u6 => ?_
    refine sxl hO u6.u H.2.2.1 H.2.2.2.1 ?_
    refine au ?_
    refine Go1.ret1V Try.func140 rfl (show _ = .int .i64 (ix (ix d.Next (ix dh (dj : Int))) (dM : Int)) from rfl) ?_
    refine hR71 _ _ ?_
    refine GoR.inl (vs := [.pointer (some ⟨B15, 0, none⟩), .int .i64 (ix (ix d.Next (ix dh (dj : Int))) (dM : Int))]) (caps := []) rfl rfl body163 Try.func163 rfl Try.ntmps163 rfl rfl rfl ?_
    intro RhR75 hR75
    refine au ?_
    replace H := H.2.2.2.2
    by_cases h76 : mhas fx ((ix (ix d.Next (ix dh (dj : Int))) (dM : Int))) = true
    ·refine zs (olookT (a := (ix (ix d.Next (ix dh (dj : Int))) (dM : Int))) (MK.int Try.underlying3) 5 hO rfl Try.underlying168 rfl rfl h76) ?_
     refine au ?_
     refine Go1.ret1V Try.func163 rfl (show _ = .int .i64 (mgt fx ((ix (ix d.Next (ix dh (dj : Int))) (dM : Int)))) from rfl) ?_
     refine hR75 _ _ ?_
     refine six1 0 hO (ifp h76 H).1 (ifp h76 H).2.1 ?_
     refine sst (u := (mgt fx ((ix (ix d.Next (ix dh (dj : Int))) (dM : Int))))) 0 hO (ifp h76 H).1 (ifp h76 H).2.1 fun w77 s hO => ?_
     refine au ?_
     have h78 := (ifp h76 H).1
     have h79 := (ifp h76 H).2.1
     replace H := (ifp h76 H).2.2
     obtain ⟨h80, H⟩ := H
     refine zo (J0l rfl rfl (wrap_i64 h80)) ?_
     refine au ?_
     exact hX2 _ H _ _ ⟨_, _, _, agr, hO, dr.u, fr⟩
    refine zs (olookF (a := (ix (ix d.Next (ix dh (dj : Int))) (dM : Int))) (MK.int Try.underlying3) 5 hO rfl Try.underlying168 ti3 rfl rfl h76) ?_
    refine au ?_
    refine zo (fun w => opB (J5p Try.underlying168 rfl rfl w) rfl) ?_
    refine sln1 4 hO ?_
    refine au ?_
    have zz := omapUpd (MK.int Try.underlying3) 5 hO rfl Try.underlying168 (ix (ix d.Next (ix dh (dj : Int))) (dM : Int)) (d_65.length : Int)
    obtain ⟨w81, jm, jo⟩ := zz
    refine zg (jo (by exact rfl) (by exact rfl) (by exact rfl)) ?_
    refine nst jm fun s hO => ?_
    refine au ?_
    refine sap1 ((ix (ix d.Next (ix dh (dj : Int))) (dM : Int))) 4 hO (ifn h76 H) fun _ w84 p85 c86 s hO => ?_
    refine sbs 6 hO fun w87 s hO => ?_
    refine au ?_
    refine Go1.ret1V Try.func163 rfl (show _ = .int .i64 (d_65.length : Int) from rfl) ?_
    refine hR75 _ _ ?_
    refine six1 0 hO (ifn h76 H).2.1 (ifn h76 H).2.2.1 ?_
    refine sst (u := (d_65.length : Int)) 0 hO (ifn h76 H).2.1 (ifn h76 H).2.2.1 fun w88 s hO => ?_
    refine au ?_
    have h89 := (ifn h76 H).2.1
    have h90 := (ifn h76 H).2.2.1
    replace H := (ifn h76 H).2.2.2
    obtain ⟨h91, H⟩ := H
    refine zo (J0l rfl rfl (wrap_i64 h91)) ?_
    refine au ?_
    exact hX2 _ H _ _ ⟨_, _, _, agr, hO, dr.u, fr⟩
   refine sln1 4 hO ?_
   refine scm H (fun h92 H => ?_) fun h92 H => ?_
   ·refine au ?_
    refine zo (J0a Try.underlying25 ti25 (pl := [(0, 1), (1, 1), (2, 1), (3, 1)]) (vs := []) (cs := #[.int .i64 (0 : Int), .int .i64 (0 : Int), .slice none 0 0, .slice none 0 0]) (by kernel_rfl) rfl (by kernel_rfl)) ?_
    refine sba 7 hO fun w93 s hO => ?_
    refine au ?_
    refine Go1.retC3V Try.func139 rfl rfl (rlb 7 hO) (show _ = .slice none 0 0 from rfl) (show _ = .int .i64 (3 : Int) from rfl) ?_
    refine hR10 _ _ ?_
    refine sal hO fun w94 B95 s hO => ?_
    refine sba 0 hO fun w97 s hO => ?_
    refine sln0 ?_
    refine smk Fl.i (H aG.bd) hO fun w98 p99 s hO => ?_
    refine sln1 0 hO ?_
    refine au ?_
    refine sdr [2, 2, 2, 2, 2, 2, 2, 2, 3] hO fun s hO => ?_
    refine lw (H aG.bd).2.2 (fun (kd, number3_103) σ w => (fun Z => agrees σ [(2, .pointer (some ⟨B5, 0, none⟩)), (4, .pointer (some ⟨B95, 0, none⟩)), (5, .slice none 0 0), (7, .slice p99 d.Final.length d.Final.length), (31, .int .i64 ((List.replicate d.Final.length ((0 : Int))).length : Int)), (32, .int .i64 (kd : Int))] ∧ Owns w0.heap.size w Z A ∧ Fr (bl []) w0 (bl Z) w) [t1 Fl.i 3 p99 d.Final.length d.Final.length number3_103, .blk B95 (.cells #[.int .i64 (0 : Int), .int .i64 (0 : Int), .slice none 0 0, .slice none 0 0] 25 (0, 0)), .blk B5 (.cells #[.int .i64 (0 : Int), .int .i64 (0 : Int), .slice none 0 0, .slice none 0 0] 25 (0, 0))]) ⟨agr, hO, fr⟩ ?_
    refine fun X3 => p1 fun kd number3_103 => fun H hX3 σ nY => d2 fun hag hO hB => ?_
    dsimp only at H
    refine Go1.keep _ hag ?_
    revert hO; repeat (rename Owns _ _ _ _ => q; clear q)
    intro hO; repeat (rename Sq _ _ _ _ _ _ => q; clear q)
    refine scm H (fun u7 H => ?_) fun u7 H => ?_
    ·refine six1 0 hO H.1 H.2.1 ?_
     refine sst (u := (-1 : Int)) 0 hO H.1 H.2.1 fun u9 s hO => ?_
     refine au ?_
     have gY := H.1
     have f9 := H.2.1
     replace H := H.2.2
     obtain ⟨n7, H⟩ := H
     refine zo (J0l rfl rfl (wrap_i64 n7)) ?_
     refine au ?_
     exact hX3 _ H _ _ ⟨agr, hO, fr⟩
    refine sln0 ?_
    refine au ?_
    refine lw H (fun ke σ w => (fun Z => agrees σ [(2, .pointer (some ⟨B5, 0, none⟩)), (4, .pointer (some ⟨B95, 0, none⟩)), (7, .slice p99 d.Final.length d.Final.length), (39, .slice none 0 0), (40, .int .i64 (0 : Int)), (41, .int .i64 (ke : Int))] ∧ Owns w0.heap.size w Z A ∧ Fr (bl []) w0 (bl Z) w) [t1 Fl.i 3 p99 d.Final.length d.Final.length number3_103, .blk B95 (.cells #[.int .i64 (0 : Int), .int .i64 (0 : Int), .slice none 0 0, .slice none 0 0] 25 (0, 0)), .blk B5 (.cells #[.int .i64 (0 : Int), .int .i64 (0 : Int), .slice none 0 0, .slice none 0 0] 25 (0, 0))]) ⟨agr, hO, fr⟩ ?_
    refine fun X4 => fun ke => fun H hX4 σ yQ => d2 fun hag hO hB => ?_
    refine Go1.keep _ hag ?_
    revert hO; repeat (rename Owns _ _ _ _ => q; clear q)
    intro hO; repeat (rename Sq _ _ _ _ _ _ => q; clear q)
    refine scm H (fun gf H => ?_) fun gf H => ?_
    ·refine au ?_
     obtain ⟨fy, H⟩ := H
     obtain ⟨gh, H⟩ := H
     refine zo (J01 Try.underlying31 ti3 rfl rfl fy gh (absurd gh (by omega))) ?_
     exact absurd gh (by omega)
    refine sag 1 hO ?_
    refine sba 2 hO fun yR s hO => ?_
    refine au ?_
    refine sfz 0 hO fun s hO rC rD => ?_
    refine Go1.retC2 Try.func109 rfl rfl (rlb 1 hO) ⟨((⟨(0 : Int), (0 : Int), ([] : List Bool), ([] : List (List Int))⟩ : DFA)), _, _, _, _, _, _, _, ?_, frs, (ISl.null _ _ _), (ISl.null _ _ _), rC.r, H⟩
    exact (congrArg (fun l => Value.tuple (List.toArray l)) (J02 rfl (J02 (congrArg (fun nn => Value.slice p99 nn d.Final.length) rD) rfl)))
   refine au ?_
   refine sfz 0 hO fun s hO rE rF => ?_
   have zz := J2p (r := Rp.sl (Rp.int .i64)) (n := 1) (parts := [(0, .slice p60 d.Letters.toNat d.Letters.toNat)]) (vs := [.slice p60 d.Letters.toNat d.Letters.toNat]) (xs := [kw]) rfl Try.underlying23 ti31 hO (by decide) (by kernel_rfl) (Els.cons rfl ⟨p60, d.Letters.toNat, congrArg some (congrArg (fun nn => Value.slice p60 nn d.Letters.toNat) rF), rE⟩ (Els.nil _ _ _) (by simp [mx])) rfl
   obtain ⟨n8, yS, iI, rG, yh, iJ⟩ := zz
   refine zg (iJ rfl) ?_
   refine nst iI fun s hO => ?_
   refine sfzR 0 hO rG.u fun s hO rH rI => ?_
   obtain ⟨vb, H⟩ := H
   have zz := oapp Try.underlying23 ti31 rfl 0 hO rfl dr.u rH rI vb (by decide)
   obtain ⟨yT, jp, jq, mY, n9, m3, oc⟩ := zz
   dsimp only [sS, sZ] at m3
   refine zg (oc (by exact rfl) (by exact rfl)) ?_
   refine nst n9 fun s hO => ?_
   refine sbs 2 hO fun yU s hO => ?_
   refine au ?_
   refine Go1.drawT (ok := fun _ => True) (CSv.tr [(some ⟨B34, 2, none⟩)]) [6, 8] 9 (.qp 0 (.qs 1 (.qp 2 (.qp 3 (.alt 4 (.alt 5 (.alt 6 (.qp 7 (.alt 8 .nil .fin)) .fin) .fin) .fin))))) mixed (by kernel_rfl) ?_
   intro jr rJ
   refine sm hO rJ fun s hO => ?_
   refine au ?_
   refine GoT.stable rfl (loadV (.head _) rfl (J4t 2 hO rfl rfl) Try.underlying22 rfl rfl) rfl rfl ?_
   refine au ?_
   skip
   refine GoT.inl (vs := [.int .i64 (ix dh (dj : Int))]) (caps := [.pointer (some ⟨B2, 0, none⟩)]) rfl rfl rfl body141 Try.func141 rfl Try.ntmps141 rfl rfl rfl ?_
   intro RhR140 hR140
   have hOs141 := hO
   have hBs142 := (fr : Fr (bl []) w0 _ jr)
   have hB := Fr.refl (bl [.row 31 1 jp (n48 + 1) jq mY, t1 Fl.bool 4 p50 n52 c51 d_49, .blk B34 (.cells #[.int .i64 d.Letters, .int .i64 (0 : Int), .slice p50 n52 c51, .slice jp (n48 + 1) jq] 25 (0, 0)), t1 Fl.i 3 p66 n68 c67 d_65, .any (mapE (fun a : Int => Value.int .i64 a) (fun a : Int => Value.int .i64 a) B19 fx), .blk B15 (.cells #[.slice p66 n68 c67, .map (some B19)] 188 (0, 0)), .blk B12 (.cells #[.int .i64 (0 : Int), .int .i64 (0 : Int), .slice none 0 0, .slice none 0 0] 25 (0, 0)), .blk B5 (.cells #[.int .i64 (0 : Int), .int .i64 (0 : Int), .slice none 0 0, .slice none 0 0] 25 (0, 0)), .blk B2 (.cells #[.int .i64 d.Letters, .int .i64 d.Start, .slice ad d.Final.length ae, .slice af d.Next.length ag] 25 (0, 0))]) jr
   refine sxl hO aG.u H.1 H.2.1 ?_
   refine au ?_
   refine Go1.ret1V Try.func141 rfl (show _ = .bool (ix d.Final (ix dh (dj : Int))) from rfl) ?_
   refine hR140 _ _ (CSv.cons (cs_eq (J4t 2 hOs141 rfl rfl) (J4t 2 hO rfl rfl)) (CSv.nil _ _)) ?_
   replace hB := hBs142.trans (fr : Fr (bl [.row 31 1 jp (n48 + 1) jq mY, t1 Fl.bool 4 p50 n52 c51 d_49, .blk B34 (.cells #[.int .i64 d.Letters, .int .i64 (0 : Int), .slice p50 n52 c51, .slice jp (n48 + 1) jq] 25 (0, 0)), t1 Fl.i 3 p66 n68 c67 d_65, .any (mapE (fun a : Int => Value.int .i64 a) (fun a : Int => Value.int .i64 a) B19 fx), .blk B15 (.cells #[.slice p66 n68 c67, .map (some B19)] 188 (0, 0)), .blk B12 (.cells #[.int .i64 (0 : Int), .int .i64 (0 : Int), .slice none 0 0, .slice none 0 0] 25 (0, 0)), .blk B5 (.cells #[.int .i64 (0 : Int), .int .i64 (0 : Int), .slice none 0 0, .slice none 0 0] 25 (0, 0)), .blk B2 (.cells #[.int .i64 d.Letters, .int .i64 d.Start, .slice ad d.Final.length ae, .slice af d.Next.length ag] 25 (0, 0))]) jr _ jr)
   replace H := H.2.2
   skip
   refine sbuQ Fl.bool 4 [ix d.Final (ix dh (dj : Int))] hO (fun yV yW s hO => ?_) (g := fun _ _ _ hv _ hst h => GoT.step rfl hv (CSv.cons (cs_eq (J4t 2 hO rfl rfl) (J4t 3 hst.own rfl rfl)) (CSv.nil _ _)) rfl rfl h)
   skip
   refine sfz 0 hO fun s hO rK yj => ?_
   refine sap 1 hO rK H fun yX yY y3 s hO => ?_
   refine au ?_
   replace H := H.2
   skip
   refine sbs 2 hO fun vc s hO => ?_
   refine au ?_
   obtain ⟨vd, H⟩ := H
   refine zo (J0l rfl rfl (wrap_i64 vd)) ?_
   refine au ?_
   exact hX1 _ H _ _ ⟨_, _, _, _, _, _, _, _, _, _, agr, hO, m3.u, fr⟩
  refine au ?_
  refine Go1.drawT (ok := fun _ => True) Same.tr [3] 6 (.qs 0 (.qp 1 (.alt 2 (.alt 3 (.qp 4 (.qp 5 .nil)) .fin) (.alt 3 (.alt 2 (.qp 4 (.qp 5 .nil)) .fin) .fin)))) mixed (by kernel_rfl) ?_
  intro od rL
  refine sm hO rL fun s hO => ?_
  refine GoT.stable rfl (J5a (vs := [.int .i64 d.Letters, .int .i64 (0 : Int), .slice p50 n52 c51, .slice p46 n48 c47]) (i := 0) 2 hO rfl rfl Try.underlying25 rfl ti25 rfl) rfl rfl ?_
  refine au ?_
  refine GoT.both ?_ ?_
  ·skip
   replace H := H.1
   refine sbl 5 ?_
   skip
   refine sba 6 hO fun ve s hO => ?_
   refine au ?_
   refine Go1.retC3V Try.func139 rfl rfl (rlb 6 hO) (show _ = .slice p54 n56 c55 from rfl) (show _ = .int .i64 (0 : Int) from rfl) ?_
   refine hR10 _ _ ?_
   refine sal hO fun y4 B157 s hO => ?_
   refine sba 0 hO fun y5 s hO => ?_
   refine sln0 ?_
   refine smk Fl.i (H aG.bd) hO fun vg g5 s hO => ?_
   refine sln1 0 hO ?_
   refine au ?_
   refine sdr [4, 5, 5, 5, 6] hO fun s hO => ?_
   refine lw (H aG.bd).2.2 (fun (kg, number5_165) σ w => (fun Z => agrees σ [(2, .pointer (some ⟨B5, 0, none⟩)), (4, .pointer (some ⟨B157, 0, none⟩)), (5, .slice p54 n56 c55), (7, .slice g5 d.Final.length d.Final.length), (31, .int .i64 ((List.replicate d.Final.length ((0 : Int))).length : Int)), (32, .int .i64 (kg : Int))] ∧ Owns w0.heap.size w Z A ∧ Els (Rp.sl (Rp.int .i64)) (bl Z ++ A) w d6 d_43 ∧ Fr (bl []) w0 (bl Z) w) [t1 Fl.i 3 g5 d.Final.length d.Final.length number5_165, .blk B157 (.cells #[.int .i64 d.Letters, .int .i64 (0 : Int), .slice p50 n52 c51, .slice p46 n48 c47] 25 (0, 0)), .row 31 1 p46 n48 c47 d6, t1 Fl.bool 4 p50 n52 c51 d_49, t1 Fl.i 3 p54 n56 c55 dh, .blk B5 (.cells #[.int .i64 (0 : Int), .int .i64 (0 : Int), .slice none 0 0, .slice none 0 0] 25 (0, 0))]) ⟨agr, hO, dr.u, fr⟩ ?_
   refine fun X5 => p1 fun kg number5_165 => fun H hX5 σ vh => d3 fun hag hO dr hB => ?_
   dsimp only at H
   refine Go1.keep _ hag ?_
   revert hO; repeat (rename Owns _ _ _ _ => q; clear q)
   intro hO; repeat (rename Sq _ _ _ _ _ _ => q; clear q)
   refine scm H (fun kx H => ?_) fun kx H => ?_
   ·refine six1 0 hO H.1 H.2.1 ?_
    refine sst (u := (-1 : Int)) 0 hO H.1 H.2.1 fun oe s hO => ?_
    refine au ?_
    have y6 := H.1
    have y7 := H.2.1
    replace H := H.2.2
    obtain ⟨vi, H⟩ := H
    refine zo (J0l rfl rfl (wrap_i64 vi)) ?_
    refine au ?_
    exact hX5 _ H _ _ ⟨agr, hO, dr.u, fr⟩
   refine sln1 4 hO ?_
   refine au ?_
   refine lw H (fun (iK, number6_173) σ w => (fun Z => agrees σ [(2, .pointer (some ⟨B5, 0, none⟩)), (4, .pointer (some ⟨B157, 0, none⟩)), (7, .slice g5 d.Final.length d.Final.length), (39, .slice p54 n56 c55), (40, .int .i64 (dh.length : Int)), (41, .int .i64 (iK : Int))] ∧ Owns w0.heap.size w Z A ∧ Els (Rp.sl (Rp.int .i64)) (bl Z ++ A) w d6 d_43 ∧ Fr (bl []) w0 (bl Z) w) [t1 Fl.i 3 g5 d.Final.length d.Final.length number6_173, .blk B157 (.cells #[.int .i64 d.Letters, .int .i64 (0 : Int), .slice p50 n52 c51, .slice p46 n48 c47] 25 (0, 0)), .row 31 1 p46 n48 c47 d6, t1 Fl.bool 4 p50 n52 c51 d_49, t1 Fl.i 3 p54 n56 c55 dh, .blk B5 (.cells #[.int .i64 (0 : Int), .int .i64 (0 : Int), .slice none 0 0, .slice none 0 0] 25 (0, 0))]) ⟨agr, hO, dr.u, fr⟩ ?_
   refine fun X6 => p1 fun iK number6_173 => fun H hX6 σ og => d3 fun hag hO dr hB => ?_
   dsimp only at H
   refine Go1.keep _ hag ?_
   revert hO; repeat (rename Owns _ _ _ _ => q; clear q)
   intro hO; repeat (rename Sq _ _ _ _ _ _ => q; clear q)
   refine scm H (fun oh H => ?_) fun oh H => ?_
   ·refine sxl1 4 hO H.1 H.2.1 ?_
    refine six1 0 hO H.2.2.1 H.2.2.2.1 ?_
    refine sst (u := (iK : Int)) 0 hO H.2.2.1 H.2.2.2.1 fun vj s hO => ?_
    refine sinc (natbd oh (t1b 4 hO)) ?_
    refine au ?_
    exact hX6 _ H.2.2.2.2 _ _ ⟨agr, hO, dr.u, fr⟩
   refine sag 1 hO ?_
   refine sba 5 hO fun vk s hO => ?_
   refine au ?_
   refine sfz 3 hO fun s hO rM rN => ?_
   refine sfzR 2 hO dr.u fun s hO jt ju => ?_
   refine sfz 0 hO fun s hO rO rP => ?_
   refine Go1.retC2 Try.func109 rfl rfl (rlb 2 hO) ⟨((⟨d.Letters, (0 : Int), d_49, d_43⟩ : DFA)), _, _, _, _, _, _, _, ?_, frs, rM.r, jt.r, rO.r, H⟩
   exact (congrArg (fun l => Value.tuple (List.toArray l)) (J02 (congrArg (fun l => Value.agg (List.toArray l)) (J02 rfl (J02 rfl (J02 (congrArg (fun nn => Value.slice p50 nn c51) rN) (J02 (congrArg (fun nn => Value.slice p46 nn c47) ju) rfl))))) (J02 (congrArg (fun nn => Value.slice g5 nn d.Final.length) rP) rfl)))
  replace H := H.2
  refine sba 6 hO fun vm s hO => ?_
  skip
  refine sbl 5 ?_
  refine au ?_
  refine Go1.retC3V Try.func139 rfl rfl (rlb 6 hO) (show _ = .slice p54 n56 c55 from rfl) (show _ = .int .i64 (0 : Int) from rfl) ?_
  refine hR10 _ _ ?_
  refine sal hO fun vn B185 s hO => ?_
  refine sba 0 hO fun y8 s hO => ?_
  refine sln0 ?_
  refine smk Fl.i (H aG.bd) hO fun vo iL s hO => ?_
  refine sln1 0 hO ?_
  refine au ?_
  refine sdr [4, 5, 5, 5, 6] hO fun s hO => ?_
  refine lw (H aG.bd).2.2 (fun (kh, number7_193) σ w => (fun Z => agrees σ [(2, .pointer (some ⟨B5, 0, none⟩)), (4, .pointer (some ⟨B185, 0, none⟩)), (5, .slice p54 n56 c55), (7, .slice iL d.Final.length d.Final.length), (31, .int .i64 ((List.replicate d.Final.length ((0 : Int))).length : Int)), (32, .int .i64 (kh : Int))] ∧ Owns w0.heap.size w Z A ∧ Els (Rp.sl (Rp.int .i64)) (bl Z ++ A) w d6 d_43 ∧ Fr (bl []) w0 (bl Z) w) [t1 Fl.i 3 iL d.Final.length d.Final.length number7_193, .blk B185 (.cells #[.int .i64 d.Letters, .int .i64 (0 : Int), .slice p50 n52 c51, .slice p46 n48 c47] 25 (0, 0)), .row 31 1 p46 n48 c47 d6, t1 Fl.bool 4 p50 n52 c51 d_49, t1 Fl.i 3 p54 n56 c55 dh, .blk B5 (.cells #[.int .i64 (0 : Int), .int .i64 (0 : Int), .slice none 0 0, .slice none 0 0] 25 (0, 0))]) ⟨agr, hO, dr.u, fr⟩ ?_
  refine fun X7 => p1 fun kh number7_193 => fun H hX7 σ vr => d3 fun hag hO dr hB => ?_
  dsimp only at H
  refine Go1.keep _ hag ?_
  revert hO; repeat (rename Owns _ _ _ _ => q; clear q)
  intro hO; repeat (rename Sq _ _ _ _ _ _ => q; clear q)
  refine scm H (fun vu H => ?_) fun vu H => ?_
  ·refine six1 0 hO H.1 H.2.1 ?_
   refine sst (u := (-1 : Int)) 0 hO H.1 H.2.1 fun vw s hO => ?_
   refine au ?_
   have y9 := H.1
   have zc := H.2.1
   replace H := H.2.2
   obtain ⟨kz, H⟩ := H
   refine zo (J0l rfl rfl (wrap_i64 kz)) ?_
   refine au ?_
   exact hX7 _ H _ _ ⟨agr, hO, dr.u, fr⟩
  refine sln1 4 hO ?_
  refine au ?_
  refine lw H (fun (iM, number8_201) σ w => (fun Z => agrees σ [(2, .pointer (some ⟨B5, 0, none⟩)), (4, .pointer (some ⟨B185, 0, none⟩)), (7, .slice iL d.Final.length d.Final.length), (39, .slice p54 n56 c55), (40, .int .i64 (dh.length : Int)), (41, .int .i64 (iM : Int))] ∧ Owns w0.heap.size w Z A ∧ Els (Rp.sl (Rp.int .i64)) (bl Z ++ A) w d6 d_43 ∧ Fr (bl []) w0 (bl Z) w) [t1 Fl.i 3 iL d.Final.length d.Final.length number8_201, .blk B185 (.cells #[.int .i64 d.Letters, .int .i64 (0 : Int), .slice p50 n52 c51, .slice p46 n48 c47] 25 (0, 0)), .row 31 1 p46 n48 c47 d6, t1 Fl.bool 4 p50 n52 c51 d_49, t1 Fl.i 3 p54 n56 c55 dh, .blk B5 (.cells #[.int .i64 (0 : Int), .int .i64 (0 : Int), .slice none 0 0, .slice none 0 0] 25 (0, 0))]) ⟨agr, hO, dr.u, fr⟩ ?_
  refine fun X8 => p1 fun iM number8_201 => fun H hX8 σ vy => d3 fun hag hO dr hB => ?_
  dsimp only at H
  refine Go1.keep _ hag ?_
  revert hO; repeat (rename Owns _ _ _ _ => q; clear q)
  intro hO; repeat (rename Sq _ _ _ _ _ _ => q; clear q)
  refine scm H (fun ol H => ?_) fun ol H => ?_
  ·refine sxl1 4 hO H.1 H.2.1 ?_
   refine six1 0 hO H.2.2.1 H.2.2.2.1 ?_
   refine sst (u := (iM : Int)) 0 hO H.2.2.1 H.2.2.2.1 fun vz s hO => ?_
   refine sinc (natbd ol (t1b 4 hO)) ?_
   refine au ?_
   exact hX8 _ H.2.2.2.2 _ _ ⟨agr, hO, dr.u, fr⟩
  refine sag 1 hO ?_
  refine sba 5 hO fun zd s hO => ?_
  refine au ?_
  refine sfz 3 hO fun s hO rQ rR => ?_
  refine sfzR 2 hO dr.u fun s hO rS rT => ?_
  refine sfz 0 hO fun s hO rU rV => ?_
  refine Go1.retC2 Try.func109 rfl rfl (rlb 2 hO) ⟨((⟨d.Letters, (0 : Int), d_49, d_43⟩ : DFA)), _, _, _, _, _, _, _, ?_, frs, rQ.r, rS.r, rU.r, H⟩
  exact (congrArg (fun l => Value.tuple (List.toArray l)) (J02 (congrArg (fun l => Value.agg (List.toArray l)) (J02 rfl (J02 rfl (J02 (congrArg (fun nn => Value.slice p50 nn c51) rR) (J02 (congrArg (fun nn => Value.slice p46 nn c47) rT) rfl))))) (J02 (congrArg (fun nn => Value.slice iL nn d.Final.length) rV) rfl)))
 refine au ?_
 refine zo (J0a Try.underlying25 ti25 (pl := [(0, 1), (1, 1), (2, 1), (3, 1)]) (vs := []) (cs := #[.int .i64 (0 : Int), .int .i64 (0 : Int), .slice none 0 0, .slice none 0 0]) (by kernel_rfl) rfl (by kernel_rfl)) ?_
 refine sba 0 hO fun zh s hO => ?_
 refine au ?_
 refine Go1.retC2 Try.func109 rfl rfl (rlb 0 hO) ⟨((⟨(0 : Int), (0 : Int), ([] : List Bool), ([] : List (List Int))⟩ : DFA)), _, _, _, _, _, _, _, ?_, frs, (ISl.null _ _ _), (ISl.null _ _ _), (ISl.null _ _ _), H⟩
 exact rfl
theorem body110 : Body Try.prog 110 := ⟨Try.f110, Try.func110, rfl, by kernel_rfl⟩
theorem J38 {A : List Nat} {w0 : World} {bV cd : Option Addr} {bW ce : Nat} {a0 : DFA} (hA : ∀ b ∈ A, b < w0.heap.size) (bE : ISl (Rp.bool) A w0 bV bW a0.Final) (cN : ISl (Rp.sl (Rp.int .i64)) A w0 cd ce a0.Next) {K : List Int → Prop} (H : J0G a0 K) :
    CallsV Try.prog 110 #[.agg #[.int .i64 a0.Letters, .int .i64 a0.Start, .slice bV a0.Final.length bW, .slice cd a0.Next.length ce]] w0 (fun v w' => ∃ (r0 : List Int) (p_r0 : Option Addr) (c_r0 : Nat), v = .slice p_r0 r0.length c_r0 ∧ Same w0 w' ∧ ISl (Rp.int .i64) A w' p_r0 c_r0 r0 ∧ K r0) := by
 refine CallsV.of (l := [.agg #[.int .i64 a0.Letters, .int .i64 a0.Start, .slice bV a0.Final.length bW, .slice cd a0.Next.length ce]]) Try.func110 rfl Try.ntmps110 rfl ?_
 have hO := Owns.start hA
 have hB := Fr.refl (bl []) w0
 unfold J0G at H
 refine sbx hO fun w1 B2 s hO => ?_
 refine sag 0 hO ?_
 refine zcr (J00 body61 rfl (J0x hO.lt bE.u cN.u H)) fun _ w5 => e1 fun r4 => sc0 hO fun s hO => fun H => ?_
 refine scm H (fun h6 H => ?_) fun h6 H => ?_
 ·refine sln0 ?_
  refine smk Fl.i (H bE.bd) hO fun w7 p8 s hO => ?_
  refine sln0 ?_
  refine au ?_
  refine lw (H bE.bd).2.2 (fun (k1_11, k1_12, d_13) σ w => (fun Z => agrees σ [(1, .pointer (some ⟨B2, 0, none⟩)), (3, .slice p8 a0.Final.length a0.Final.length), (4, .int .i64 k1_11), (24, .slice bV a0.Final.length bW), (25, .int .i64 (a0.Final.length : Int)), (26, .int .i64 (k1_12 : Int))] ∧ Owns w0.heap.size w Z A ∧ Fr (bl []) w0 (bl Z) w) [t1 Fl.i 3 p8 a0.Final.length a0.Final.length d_13, .blk B2 (.cells #[.int .i64 a0.Letters, .int .i64 a0.Start, .slice bV a0.Final.length bW, .slice cd a0.Next.length ce] 25 (0, 0))]) ⟨agr, hO, fr⟩ ?_
  refine fun X1 => p2 fun k1_11 k1_12 d_13 => fun H hX1 σ w10 => d2 fun hag hO hB => ?_
  dsimp only at H
  refine Go1.keep _ hag ?_
  revert hO; repeat (rename Owns _ _ _ _ => q; clear q)
  intro hO; repeat (rename Sq _ _ _ _ _ _ => q; clear q)
  refine scm H (fun h14 H => ?_) fun h14 H => ?_
  ·refine au ?_
   have h15 := H.1
   have h16 := H.2.1
   refine sxb hO bE.u H.1 H.2.1 H.2.2 (fun h17 H => ?_) fun h17 H => ?_
   ·refine au ?_
    have h18 := H.1
    have h19 := H.2.1
    refine sxb hO bE.u H.1 H.2.1 H.2.2 (fun h20 H => ?_) fun h20 H => ?_
    ·refine zo (J0Z Try.underlying4 rfl rfl) ?_
     refine sinc (natbd h14 bE.bd) ?_
     refine au ?_
     exact hX1 _ H _ _ ⟨agr, hO, fr⟩
    refine zo (J0Z Try.underlying4 rfl rfl) ?_
    refine six1 0 hO H.1 H.2.1 ?_
    refine sst (u := (1 : Int)) 0 hO H.1 H.2.1 fun w21 s hO => ?_
    refine sinc (natbd h14 bE.bd) ?_
    refine au ?_
    exact hX1 _ H.2.2 _ _ ⟨agr, hO, fr⟩
   refine au ?_
   have h22 := H.1
   have h23 := H.2.1
   refine sxb hO bE.u H.1 H.2.1 H.2.2 (fun h24 H => ?_) fun h24 H => ?_
   ·refine zo (J0Z Try.underlying4 rfl rfl) ?_
    refine six1 0 hO H.1 H.2.1 ?_
    refine sst (u := (1 : Int)) 0 hO H.1 H.2.1 fun w25 s hO => ?_
    refine sinc (natbd h14 bE.bd) ?_
    refine au ?_
    exact hX1 _ H.2.2 _ _ ⟨agr, hO, fr⟩
   refine zo (J0Z Try.underlying4 rfl rfl) ?_
   refine sinc (natbd h14 bE.bd) ?_
   refine au ?_
   exact hX1 _ H _ _ ⟨agr, hO, fr⟩
  refine au ?_
  refine sfz 0 hO fun s hO vA vB => ?_
  refine lw H (fun (cR, k2_33) σ w => ∃ p30 c31, (fun Z => agrees σ [(1, .pointer (some ⟨B2, 0, none⟩)), (3, .slice p30 cR.length c31), (4, .int .i64 k2_33)] ∧ Owns w0.heap.size w Z A ∧ ISl (Rp.int .i64) (bl Z ++ A) w p30 c31 cR ∧ Fr (bl []) w0 (bl Z) w) [.blk B2 (.cells #[.int .i64 a0.Letters, .int .i64 a0.Start, .slice bV a0.Final.length bW, .slice cd a0.Next.length ce] 25 (0, 0))]) ⟨_, _, ⟨rfl, (congrArg (fun nn => Value.slice p8 nn a0.Final.length) vB), rfl, trivial⟩, hO, vA, fr⟩ ?_
  refine fun X2 => p1 fun cR k2_33 => fun H hX2 σ w28 => e2 fun p30 c31 => d3 fun hag hO d5 hB => ?_
  dsimp only at H
  refine Go1.keep _ hag ?_
  revert hO; repeat (rename Owns _ _ _ _ => q; clear q)
  intro hO; repeat (rename Sq _ _ _ _ _ _ => q; clear q)
  refine au ?_
  have zz := omakeMap (fun a : AN 7 => Value.agg (icells .i64 a.1).toArray) (fun a : Int => Value.int .i64 a) hO
  obtain ⟨w34, B35, rW, kA, rX⟩ := zz
  refine zg rX ?_
  refine nst rW fun s hO => ?_
  refine sln0 ?_
  refine smk Fl.i (H d5.bd) hO fun w40 p41 s hO => ?_
  refine sln0 ?_
  refine au ?_
  refine lw ((H d5.bd).2.2 cN.bd) (fun (dR, kB, fA) σ w => (fun Z => agrees σ [(1, .pointer (some ⟨B2, 0, none⟩)), (3, .slice p30 cR.length c31), (4, .int .i64 k2_33), (7, .map (some B35)), (8, .slice p41 cR.length cR.length), (46, .slice cd a0.Next.length ce), (47, .int .i64 (a0.Next.length : Int)), (48, .int .i64 (dR : Int))] ∧ Owns w0.heap.size w Z A ∧ ISl (Rp.int .i64) (bl Z ++ A) w p30 c31 cR ∧ Fr (bl []) w0 (bl Z) w) [t1 Fl.i 3 p41 cR.length cR.length kB, .any (mapE (fun a : AN 7 => Value.agg (icells .i64 a.1).toArray) (fun a : Int => Value.int .i64 a) B35 fA), .blk B2 (.cells #[.int .i64 a0.Letters, .int .i64 a0.Start, .slice bV a0.Final.length bW, .slice cd a0.Next.length ce] 25 (0, 0))]) ⟨agr, hO, d5.u, fr⟩ ?_
  refine fun X3 => p2 fun dR kB fA => fun H hX3 σ w43 => d3 fun hag hO d5 hB => ?_
  dsimp only at H
  refine Go1.keep _ hag ?_
  revert hO; repeat (rename Owns _ _ _ _ => q; clear q)
  intro hO; repeat (rename Sq _ _ _ _ _ _ => q; clear q)
  refine scm H (fun h47 H => ?_) fun h47 H => ?_
  ·refine sxls hO cN.u H.1 H.2.1 fun p48 c49 fG => ?_
   refine sxl hO d5 H.2.2.1 H.2.2.2.1 ?_
   refine zo (J5U Try.underlying166 ti166 ti3 (vs := [(0, .int .i64 (ix cR (dR : Int)))]) (cs := #[.int .i64 (ix cR (dR : Int)), .int .i64 (0 : Int), .int .i64 (0 : Int), .int .i64 (0 : Int), .int .i64 (0 : Int), .int .i64 (0 : Int), .int .i64 (0 : Int)]) rfl (by kernel_rfl)) ?_
   have zz := oalloc (t := 166) (cs := (icells .i64 (([(0 : Int), (0 : Int), (0 : Int), (0 : Int), (0 : Int), (0 : Int), (0 : Int)] : List Int))).toArray) ti166 hO rfl
   obtain ⟨w51, B52, rY, zj, sb⟩ := zz
   refine zg sb ?_
   refine nst rY fun s hO => ?_
   have h60 := H.1
   have h61 := H.2.1
   have h62 := H.2.2.1
   have h63 := H.2.2.2.1
   replace H := H.2.2.2.2
   obtain ⟨h64, H⟩ := H
   have zz := oarrStA (M := [(ix cR (dR : Int)), (0 : Int), (0 : Int), (0 : Int), (0 : Int), (0 : Int), (0 : Int)]) 0 hO rfl (by rw [h64]; rfl)
   obtain ⟨w57, jv, sd⟩ := zz
   refine zg (sd ti166 (by exact rfl) (by exact rfl)) ?_
   refine nst jv fun s hO => ?_
   refine sln0 ?_
   refine au ?_
   refine lw (H fG.bd) (fun (jw, y4_67) σ w => (fun Z => agrees σ [(1, .pointer (some ⟨B2, 0, none⟩)), (3, .slice p30 cR.length c31), (4, .int .i64 k2_33), (7, .map (some B35)), (8, .slice p41 cR.length cR.length), (9, .int .i64 (dR : Int)), (11, .pointer (some ⟨B52, 0, none⟩)), (46, .slice cd a0.Next.length ce), (47, .int .i64 (a0.Next.length : Int)), (48, .int .i64 (dR : Int)), (58, .slice p48 ((ix a0.Next (dR : Int)).length) c49), (59, .int .i64 ((ix a0.Next (dR : Int)).length : Int)), (60, .int .i64 (jw : Int))] ∧ Owns w0.heap.size w Z A ∧ ISl (Rp.int .i64) (bl Z ++ A) w p30 c31 cR ∧ ISl (Rp.int .i64) (bl Z ++ A) w p48 c49 (ix a0.Next (dR : Int)) ∧ Fr (bl []) w0 (bl Z) w) [.blk B52 (.cells (icells .i64 y4_67).toArray 166 (0, 0)), t1 Fl.i 3 p41 cR.length cR.length kB, .any (mapE (fun a : AN 7 => Value.agg (icells .i64 a.1).toArray) (fun a : Int => Value.int .i64 a) B35 fA), .blk B2 (.cells #[.int .i64 a0.Letters, .int .i64 a0.Start, .slice bV a0.Final.length bW, .slice cd a0.Next.length ce] 25 (0, 0))]) ⟨agr, hO, d5.u, fG.u, fr⟩ ?_
   refine fun X4 => p1 fun jw y4_67 => fun H hX4 σ w65 => d4 fun hag hO d5 fG hB => ?_
   dsimp only at H
   refine Go1.keep _ hag ?_
   revert hO; repeat (rename Owns _ _ _ _ => q; clear q)
   intro hO; repeat (rename Sq _ _ _ _ _ _ => q; clear q)
   refine scm H (fun h68 H => ?_) fun h68 H => ?_
   ·refine sxl hO fG H.1 H.2.1 ?_
    refine au ?_
    have h69 := H.1
    have h70 := H.2.1
    replace H := H.2.2
    obtain ⟨h71, H⟩ := H
    refine zo (J0l rfl rfl (wrap_i64 h71)) ?_
    refine sxl hO d5 H.1 H.2.1 ?_
    have h72 := H.1
    have h73 := H.2.1
    replace H := H.2.2
    obtain ⟨h74, H⟩ := H
    obtain ⟨h75, H⟩ := H
    obtain ⟨h76, H⟩ := H
    refine zo (J5P (n := 7) Try.underlying166 ti3 rfl rfl h75 h76) ?_
    have zz := oarrSt (v := (ix cR (ix (ix a0.Next (dR : Int)) (jw : Int)))) 0 hO rfl h75 (arrLt h74 h76)
    obtain ⟨w77, jx, jy⟩ := zz
    refine zg (jy Try.underlying3 rfl ti3 (by exact rfl) (by exact rfl)) ?_
    refine nst jx fun s hO => ?_
    refine sinc (natbd h68 fG.bd) ?_
    refine au ?_
    exact hX4 _ H _ _ ⟨agr, hO, d5.u, fG.u, fr⟩
   refine au ?_
   obtain ⟨h80, H⟩ := H
   refine zs (oarrLd 0 hO rfl h80 Try.underlying166 rfl ti166 rfl) ?_
   by_cases h81 : mhas fA ((toAN 7 y4_67)) = true
   ·refine zs (olookT (a := (toAN 7 y4_67)) (MK.arrN Try.underlying166 Try.underlying3 ti3) 2 hO rfl Try.underlying164 rfl rfl h81) ?_
    refine six1 1 hO (ifp h81 H).1 (ifp h81 H).2.1 ?_
    refine sst (u := (mgt fA ((toAN 7 y4_67)))) 1 hO (ifp h81 H).1 (ifp h81 H).2.1 fun w82 s hO => ?_
    refine sinc (natbd h47 cN.bd) ?_
    refine au ?_
    refine sdr [0] hO fun s hO => ?_
    exact hX3 _ (ifp h81 H).2.2 _ _ ⟨agr, hO, d5.u, fr⟩
   refine zs (olookF (a := (toAN 7 y4_67)) (MK.arrN Try.underlying166 Try.underlying3 ti3) 2 hO rfl Try.underlying164 ti3 rfl rfl h81) ?_
   refine au ?_
   refine zs (omapLen 2 hO rfl Try.underlying164 rfl) ?_
   refine au ?_
   replace H := (ifn h81 H)
   obtain ⟨h83, H⟩ := H
   refine zs (oarrLd 0 hO rfl h83 Try.underlying166 rfl ti166 rfl) ?_
   refine au ?_
   have zz := omapUpd (MK.arrN Try.underlying166 Try.underlying3 ti3) 2 hO rfl Try.underlying164 (toAN 7 y4_67) (fA.length : Int)
   obtain ⟨w84, se, sf⟩ := zz
   refine zg (sf (by exact rfl) (by exact rfl) (by exact rfl)) ?_
   refine nst se fun s hO => ?_
   refine six1 1 hO H.1 H.2.1 ?_
   refine sst (u := (fA.length : Int)) 1 hO H.1 H.2.1 fun w87 s hO => ?_
   refine sinc (natbd h47 cN.bd) ?_
   refine au ?_
   refine sdr [0] hO fun s hO => ?_
   exact hX3 _ H.2.2 _ _ ⟨agr, hO, d5.u, fr⟩
  refine au ?_
  refine zs (omapLen 1 hO rfl Try.underlying164 rfl) ?_
  refine scm H (fun h88 H => ?_) fun h88 H => ?_
  ·refine au ?_
   refine sfz 0 hO fun s hO kC vC => ?_
   refine Go1.ret1 Try.func110 rfl ⟨_, _, _, ?_, frs, kC.r, H⟩
   exact (congrArg (fun nn => Value.slice p41 nn cR.length) vC)
  refine au ?_
  refine zs (omapLen 1 hO rfl Try.underlying164 rfl) ?_
  refine au ?_
  refine sfz 0 hO fun s hO vD vE => ?_
  refine sdr [0] hO fun s hO => ?_
  exact hX2 _ H _ _ ⟨_, _, ⟨rfl, (congrArg (fun nn => Value.slice p41 nn cR.length) vE), rfl, trivial⟩, hO, vD.u, fr⟩
 refine au ?_
 refine Go1.ret1 Try.func110 rfl ⟨_, _, _, ?_, frs, (ISl.null _ _ _), H⟩
 exact rfl
theorem body66 : Body Try.prog 66 := ⟨Try.f66, Try.func66, rfl, by kernel_rfl⟩
theorem J35 {A : List Nat} {w0 : World} {bV cd : Option Addr} {bW ce : Nat} {a0 : DFA} (hA : ∀ b ∈ A, b < w0.heap.size) (bE : ISl (Rp.bool) A w0 bV bW a0.Final) (cN : ISl (Rp.sl (Rp.int .i64)) A w0 cd ce a0.Next) {K : DFA → List Int → Prop} (H : J0K a0 K) :
    CallsV Try.prog 66 #[.agg #[.int .i64 a0.Letters, .int .i64 a0.Start, .slice bV a0.Final.length bW, .slice cd a0.Next.length ce]] w0 (fun v w' => ∃ (r0 : DFA) (r1 : List Int) (cE : Option Addr) (cG : Nat) (cO : Option Addr) (cP : Nat) (iG : Option Addr) (iH : Nat), v = .tuple #[.agg #[.int .i64 r0.Letters, .int .i64 r0.Start, .slice cE r0.Final.length cG, .slice cO r0.Next.length cP], .slice iG r1.length iH] ∧ Same w0 w' ∧ ISl (Rp.bool) A w' cE cG r0.Final ∧ ISl (Rp.sl (Rp.int .i64)) A w' cO cP r0.Next ∧ ISl (Rp.int .i64) A w' iG iH r1 ∧ K r0 r1) := by
 refine CallsV.of (l := [.agg #[.int .i64 a0.Letters, .int .i64 a0.Start, .slice bV a0.Final.length bW, .slice cd a0.Next.length ce]]) Try.func66 rfl Try.ntmps66 rfl ?_
 have hO := Owns.start hA
 have hB := Fr.refl (bl []) w0
 unfold J0K at H
 refine sbx hO fun w1 B2 s hO => ?_
 refine sal hO fun w4 B5 s hO => ?_
 refine sag 1 hO ?_
 refine zcr (J00 body109 rfl (J3J hO.lt bE.u cN.u H)) fun _ w9 => e4 fun r7 r8 eo eA => e4 fun eX eY g6 g7 => sc0 hO fun s hO => d3 fun c8 dk dB H => ?_
 refine sal hO fun w10 B11 s hO => ?_
 refine sba 0 hO fun w13 s hO => ?_
 refine sag 0 hO ?_
 refine zcr (J00 body110 rfl (J38 hO.lt c8.u dk.u H)) fun _ w15 => e3 fun r14 e8 e9 => sc0 hO fun s hO => d1 fun dm H => ?_
 refine au ?_
 refine zo (J0a Try.underlying25 ti25 (pl := [(0, 1), (1, 1), (2, 1), (3, 1)]) (vs := [(0, .int .i64 a0.Letters)]) (cs := #[.int .i64 a0.Letters, .int .i64 (0 : Int), .slice none 0 0, .slice none 0 0]) (by kernel_rfl) rfl (by kernel_rfl)) ?_
 refine sal hO fun w16 B17 s hO => ?_
 refine sba 0 hO fun w19 s hO => ?_
 refine sln0 ?_
 refine au ?_
 refine snil Fl.bool 4 hO fun s hO => ?_
 have sj := Stp.nil (e := 31) (r := 1) hO
 refine nst sj fun s hO => ?_
 have vF := elN (Rp.sl (Rp.int .i64)) hO
 refine lw (H dm.bd) (fun (k1_25, iN, d_32) σ w => ∃ n31 p29 c30 iO n35 p33 c34, (fun Z => agrees σ [(1, .pointer (some ⟨B2, 0, none⟩)), (2, .pointer (some ⟨B5, 0, none⟩)), (4, .pointer (some ⟨B11, 0, none⟩)), (5, .slice g6 r8.length g7), (6, .slice e8 r14.length e9), (7, .pointer (some ⟨B17, 0, none⟩)), (28, .slice e8 r14.length e9), (29, .int .i64 (r14.length : Int)), (30, .int .i64 (k1_25 : Int))] ∧ Owns w0.heap.size w Z A ∧ Els (Rp.sl (Rp.int .i64)) (bl Z ++ A) w iO iN ∧ ISl (Rp.bool) (bl Z ++ A) w eo eA r7.Final ∧ ISl (Rp.sl (Rp.int .i64)) (bl Z ++ A) w eX eY r7.Next ∧ ISl (Rp.int .i64) (bl Z ++ A) w g6 g7 r8 ∧ ISl (Rp.int .i64) (bl Z ++ A) w e8 e9 r14 ∧ Fr (bl []) w0 (bl Z) w) [.row 31 1 p29 n31 c30 iO, t1 Fl.bool 4 p33 n35 c34 d_32, .blk B17 (.cells #[.int .i64 a0.Letters, .int .i64 (0 : Int), .slice p33 n35 c34, .slice p29 n31 c30] 25 (0, 0)), .blk B11 (.cells #[.int .i64 r7.Letters, .int .i64 r7.Start, .slice eo r7.Final.length eA, .slice eX r7.Next.length eY] 25 (0, 0)), .blk B5 (.cells #[.int .i64 (0 : Int), .int .i64 (0 : Int), .slice none 0 0, .slice none 0 0] 25 (0, 0)), .blk B2 (.cells #[.int .i64 a0.Letters, .int .i64 a0.Start, .slice bV a0.Final.length bW, .slice cd a0.Next.length ce] 25 (0, 0))]) ⟨_, _, _, _, _, _, _, agr, hO, vF.u, c8.u, dk.u, dB.u, dm.u, fr⟩ ?_
 refine fun X1 => p2 fun k1_25 iN d_32 => fun H hX1 σ w24 => e4 fun n31 p29 c30 iO => e3 fun n35 p33 c34 => d1 fun hag => d1 fun hO => d1 fun g8 => d4 fun c8 dk dB dm hB => ?_
 dsimp only at H
 refine Go1.keep _ hag ?_
 revert hO; repeat (rename Owns _ _ _ _ => q; clear q)
 intro hO; repeat (rename Sq _ _ _ _ _ _ => q; clear q)
 refine scm H (fun h36 H => ?_) fun h36 H => ?_
 ·refine sxl hO dm H.1 H.2.1 ?_
  refine sln1 1 hO ?_
  have h37 := H.1
  have h38 := H.2.1
  refine scm H.2.2 (fun h39 H => ?_) fun h39 H => ?_
  ·refine sinc (natbd h36 dm.bd) ?_
   refine au ?_
   exact hX1 _ H _ _ ⟨_, _, _, _, _, _, _, agr, hO, g8, c8, dk, dB, dm, fr⟩
  refine smk Fl.i H hO fun w40 p41 s hO => ?_
  refine sxls hO dk.u H.2.2.1 H.2.2.2.1 fun p43 c44 g9 => ?_
  refine sln0 ?_
  refine au ?_
  refine lw (H.2.2.2.2 g9.bd) (fun (jz, d_48) σ w => (fun Z => agrees σ [(1, .pointer (some ⟨B2, 0, none⟩)), (2, .pointer (some ⟨B5, 0, none⟩)), (4, .pointer (some ⟨B11, 0, none⟩)), (5, .slice g6 r8.length g7), (6, .slice e8 r14.length e9), (7, .pointer (some ⟨B17, 0, none⟩)), (8, .int .i64 (k1_25 : Int)), (10, .slice p41 a0.Letters.toNat a0.Letters.toNat), (28, .slice e8 r14.length e9), (29, .int .i64 (r14.length : Int)), (30, .int .i64 (k1_25 : Int)), (47, .slice p43 ((ix r7.Next (k1_25 : Int)).length) c44), (48, .int .i64 ((ix r7.Next (k1_25 : Int)).length : Int)), (49, .int .i64 (jz : Int))] ∧ Owns w0.heap.size w Z A ∧ Els (Rp.sl (Rp.int .i64)) (bl Z ++ A) w iO iN ∧ ISl (Rp.bool) (bl Z ++ A) w eo eA r7.Final ∧ ISl (Rp.sl (Rp.int .i64)) (bl Z ++ A) w eX eY r7.Next ∧ ISl (Rp.int .i64) (bl Z ++ A) w g6 g7 r8 ∧ ISl (Rp.int .i64) (bl Z ++ A) w e8 e9 r14 ∧ ISl (Rp.int .i64) (bl Z ++ A) w p43 c44 (ix r7.Next (k1_25 : Int)) ∧ Fr (bl []) w0 (bl Z) w) [t1 Fl.i 3 p41 a0.Letters.toNat a0.Letters.toNat d_48, .row 31 1 p29 n31 c30 iO, t1 Fl.bool 4 p33 n35 c34 d_32, .blk B17 (.cells #[.int .i64 a0.Letters, .int .i64 (0 : Int), .slice p33 n35 c34, .slice p29 n31 c30] 25 (0, 0)), .blk B11 (.cells #[.int .i64 r7.Letters, .int .i64 r7.Start, .slice eo r7.Final.length eA, .slice eX r7.Next.length eY] 25 (0, 0)), .blk B5 (.cells #[.int .i64 (0 : Int), .int .i64 (0 : Int), .slice none 0 0, .slice none 0 0] 25 (0, 0)), .blk B2 (.cells #[.int .i64 a0.Letters, .int .i64 a0.Start, .slice bV a0.Final.length bW, .slice cd a0.Next.length ce] 25 (0, 0))]) ⟨agr, hO, g8.u, c8.u, dk.u, dB.u, dm.u, g9.u, fr⟩ ?_
  refine fun X2 => p1 fun jz d_48 => fun H hX2 σ w46 => d1 fun hag => d1 fun hO => d1 fun g8 => d1 fun c8 => d4 fun dk dB dm g9 hB => ?_
  dsimp only at H
  refine Go1.keep _ hag ?_
  revert hO; repeat (rename Owns _ _ _ _ => q; clear q)
  intro hO; repeat (rename Sq _ _ _ _ _ _ => q; clear q)
  refine scm H (fun h49 H => ?_) fun h49 H => ?_
  ·refine sxl hO g9 H.1 H.2.1 ?_
   refine sxl hO dm H.2.2.1 H.2.2.2.1 ?_
   refine six1 0 hO H.2.2.2.2.1 H.2.2.2.2.2.1 ?_
   refine sst (u := (ix r14 (ix (ix r7.Next (k1_25 : Int)) (jz : Int)))) 0 hO H.2.2.2.2.1 H.2.2.2.2.2.1 fun w50 s hO => ?_
   refine sinc (natbd h49 g9.bd) ?_
   refine au ?_
   exact hX2 _ H.2.2.2.2.2.2 _ _ ⟨agr, hO, g8.u, c8.u, dk.u, dB.u, dm.u, g9.u, fr⟩
  refine au ?_
  refine drw 4 [(0, .pure), (1, .stable), (2, .pure), (3, .stable), (4, .pure), (5, .pure), (6, .stable), (7, .loud), (8, .last), (9, .pure), (10, .last)] hO fun w51 s hO => ?_
  refine sxl hO c8.u H.1 H.2.1 ?_
  refine sap1 (ix r7.Final (k1_25 : Int)) 2 hO H.2.2 fun _ w52 p53 c54 s hO => ?_
  refine sbs 3 hO fun w55 s hO => ?_
  refine au ?_
  refine sfz 0 hO fun s hO vG vH => ?_
  have zz := J2p (r := Rp.sl (Rp.int .i64)) (n := 1) (parts := [(0, .slice p41 a0.Letters.toNat a0.Letters.toNat)]) (vs := [.slice p41 a0.Letters.toNat a0.Letters.toNat]) (xs := [d_48]) rfl Try.underlying23 ti31 hO (by decide) (by kernel_rfl) (Els.cons rfl ⟨p41, a0.Letters.toNat, congrArg some (congrArg (fun nn => Value.slice p41 nn a0.Letters.toNat) vH), vG.u⟩ (Els.nil _ _ _) (by simp [mx])) rfl
  obtain ⟨w58, p59, jA, kD, zl, sk⟩ := zz
  refine zg (sk rfl) ?_
  refine nst jA fun s hO => ?_
  refine sfzR 0 hO kD fun s hO vI vJ => ?_
  have h67 := H.1
  have h68 := H.2.1
  replace H := H.2.2.2
  obtain ⟨h69, H⟩ := H
  have zz := oapp Try.underlying23 ti31 rfl 0 hO rfl g8.u vI vJ h69 (by decide)
  obtain ⟨w70, p71, c72, zu, sn, om, sq⟩ := zz
  dsimp only [sS, sZ] at om
  refine zg (sq (by exact rfl) (by exact rfl)) ?_
  refine nst sn fun s hO => ?_
  refine sbs 2 hO fun w78 s hO => ?_
  refine sinc (natbd h36 dm.bd) ?_
  refine au ?_
  exact hX1 _ H _ _ ⟨_, _, _, _, _, _, _, agr, hO, om.u, c8.u, dk.u, dB.u, dm.u, fr⟩
 refine sag 2 hO ?_
 refine sfz 1 hO fun s hO kE kF => ?_
 refine sfzR 0 hO g8.u fun s hO iP kG => ?_
 refine zcr (J00 body109 (show ([.agg #[.int .i64 a0.Letters, .int .i64 (0 : Int), .slice p33 n35 c34, .slice p29 n31 c30]] : List Value) = [.agg #[.int .i64 a0.Letters, .int .i64 (0 : Int), .slice p33 d_32.length c34, .slice p29 iN.length c30]] from by rw [← kF, ← kG]) (J3J (d := (⟨a0.Letters, (0 : Int), d_32, iN⟩ : DFA)) hO.lt kE.u iP H)) fun _ w85 => e4 fun r83 r84 fQ fR => e4 fun gt gv m5 m6 => sc0 hO fun s hO => d3 fun dJ dS gx H => ?_
 refine sal hO fun w86 B87 s hO => ?_
 refine sba 0 hO fun w89 s hO => ?_
 refine sln0 ?_
 refine smk Fl.i (H dB.bd) hO fun w90 p91 s hO => ?_
 refine sln0 ?_
 refine au ?_
 refine sdr [2, 2, 3] hO fun s hO => ?_
 refine lw (H dB.bd).2.2 (fun (jB, oo) σ w => (fun Z => agrees σ [(2, .pointer (some ⟨B5, 0, none⟩)), (6, .slice e8 r14.length e9), (13, .pointer (some ⟨B87, 0, none⟩)), (14, .slice m5 r84.length m6), (15, .slice p91 r8.length r8.length), (87, .slice g6 r8.length g7), (88, .int .i64 (r8.length : Int)), (89, .int .i64 (jB : Int))] ∧ Owns w0.heap.size w Z A ∧ ISl (Rp.int .i64) (bl Z ++ A) w g6 g7 r8 ∧ ISl (Rp.int .i64) (bl Z ++ A) w e8 e9 r14 ∧ ISl (Rp.bool) (bl Z ++ A) w fQ fR r83.Final ∧ ISl (Rp.sl (Rp.int .i64)) (bl Z ++ A) w gt gv r83.Next ∧ ISl (Rp.int .i64) (bl Z ++ A) w m5 m6 r84 ∧ Fr (bl []) w0 (bl Z) w) [t1 Fl.i 3 p91 r8.length r8.length oo, .blk B87 (.cells #[.int .i64 r83.Letters, .int .i64 r83.Start, .slice fQ r83.Final.length fR, .slice gt r83.Next.length gv] 25 (0, 0)), .blk B5 (.cells #[.int .i64 (0 : Int), .int .i64 (0 : Int), .slice none 0 0, .slice none 0 0] 25 (0, 0))]) ⟨agr, hO, dB.u, dm.u, dJ.u, dS.u, gx.u, fr⟩ ?_
 refine fun X3 => p1 fun jB oo => fun H hX3 σ w93 => d1 fun hag => d1 fun hO => d1 fun dB => d4 fun dm dJ dS gx hB => ?_
 dsimp only at H
 refine Go1.keep _ hag ?_
 revert hO; repeat (rename Owns _ _ _ _ => q; clear q)
 intro hO; repeat (rename Sq _ _ _ _ _ _ => q; clear q)
 refine scm H (fun h96 H => ?_) fun h96 H => ?_
 ·refine sxl hO dB H.1 H.2.1 ?_
  refine six1 0 hO H.2.2.1 H.2.2.2.1 ?_
  refine sst (u := (-1 : Int)) 0 hO H.2.2.1 H.2.2.2.1 fun w97 s hO => ?_
  refine au ?_
  have h98 := H.1
  have h99 := H.2.1
  have ia := H.2.2.1
  have zw := H.2.2.2.1
  refine scm H.2.2.2.2 (fun vK H => ?_) fun vK H => ?_
  ·refine sxl hO dm.u H.1 H.2.1 ?_
   refine sxl hO gx.u H.2.2.1 H.2.2.2.1 ?_
   refine six1 0 hO H.2.2.2.2.1 H.2.2.2.2.2.1 ?_
   refine sst (u := (ix r84 (ix r14 (ix r8 (jB : Int))))) 0 hO H.2.2.2.2.1 H.2.2.2.2.2.1 fun vL s hO => ?_
   refine sinc (natbd h96 dB.bd) ?_
   refine au ?_
   exact hX3 _ H.2.2.2.2.2.2 _ _ ⟨agr, hO, dB.u, dm.u, dJ.u, dS.u, gx.u, fr⟩
  refine sinc (natbd h96 dB.bd) ?_
  refine au ?_
  exact hX3 _ H _ _ ⟨agr, hO, dB.u, dm.u, dJ.u, dS.u, gx.u, fr⟩
 refine sag 1 hO ?_
 refine sba 2 hO fun vM s hO => ?_
 refine au ?_
 refine sfz 0 hO fun s hO sr ss => ?_
 refine Go1.retC2 Try.func66 rfl rfl (rlb 1 hO) ⟨((⟨r83.Letters, r83.Start, r83.Final, r83.Next⟩ : DFA)), _, _, _, _, _, _, _, ?_, frs, dJ.r, dS.r, sr.r, H⟩
 exact (congrArg (fun l => Value.tuple (List.toArray l)) (J02 rfl (J02 (congrArg (fun nn => Value.slice p91 nn r8.length) ss) rfl)))
theorem body22 : Body Try.prog 22 := ⟨Try.f22, Try.func22, rfl, by kernel_rfl⟩
theorem J33 {A : List Nat} {w0 : World} {ad af : Option Addr} {ae ag : Nat} {d : DFA} (hA : ∀ b ∈ A, b < w0.heap.size) (aG : ISl (Rp.bool) A w0 ad ae d.Final) (bS : ISl (Rp.sl (Rp.int .i64)) A w0 af ag d.Next) {K : DFA → Prop} (H : J0E d K) :
    CallsV Try.prog 22 #[.agg #[.int .i64 d.Letters, .int .i64 d.Start, .slice ad d.Final.length ae, .slice af d.Next.length ag]] w0 (fun v w' => ∃ (r0 : DFA) (cE : Option Addr) (cG : Nat) (cO : Option Addr) (cP : Nat), v = .agg #[.int .i64 r0.Letters, .int .i64 r0.Start, .slice cE r0.Final.length cG, .slice cO r0.Next.length cP] ∧ Same w0 w' ∧ ISl (Rp.bool) A w' cE cG r0.Final ∧ ISl (Rp.sl (Rp.int .i64)) A w' cO cP r0.Next ∧ K r0) := by
 refine CallsV.of (l := [.agg #[.int .i64 d.Letters, .int .i64 d.Start, .slice ad d.Final.length ae, .slice af d.Next.length ag]]) Try.func22 rfl Try.ntmps22 rfl ?_
 have hO := Owns.start hA
 have hB := Fr.refl (bl []) w0
 unfold J0E at H
 refine sbx hO fun w1 B2 s hO => ?_
 refine sal hO fun w4 B5 s hO => ?_
 refine sag 1 hO ?_
 refine zcr (J00 body61 rfl (J0x hO.lt aG.u bS.u H)) fun _ w8 => e1 fun r7 => sc0 hO fun s hO => fun H => ?_
 refine scm H (fun h9 H => ?_) fun h9 H => ?_
 ·refine sag 1 hO ?_
  refine zcr (J00 body66 rfl (J35 hO.lt aG.u bS.u H)) fun _ w12 => e4 fun r10 r11 qL qM => e4 fun su sv yk yl => sc0 hO fun s hO => d3 fun jk jC ym H => ?_
  refine sal hO fun w13 B14 s hO => ?_
  refine sba 0 hO fun w16 s hO => ?_
  refine sag 0 hO ?_
  refine sba 1 hO fun w17 s hO => ?_
  refine au ?_
  refine Go1.retC1 Try.func22 rfl rfl (rlb 1 hO) ⟨((⟨r10.Letters, r10.Start, r10.Final, r10.Next⟩ : DFA)), _, _, _, _, ?_, frs, jk.r, jC.r, H⟩
  exact rfl
 refine au ?_
 refine zo (J0a Try.underlying25 ti25 (pl := [(0, 1), (1, 1), (2, 1), (3, 1)]) (vs := []) (cs := #[.int .i64 (0 : Int), .int .i64 (0 : Int), .slice none 0 0, .slice none 0 0]) (by kernel_rfl) rfl (by kernel_rfl)) ?_
 refine sba 0 hO fun w18 s hO => ?_
 refine au ?_
 refine Go1.retC1 Try.func22 rfl rfl (rlb 0 hO) ⟨((⟨(0 : Int), (0 : Int), ([] : List Bool), ([] : List (List Int))⟩ : DFA)), _, _, _, _, ?_, frs, (ISl.null _ _ _), (ISl.null _ _ _), H⟩
 exact rfl
theorem body154 : Body Try.prog 154 := ⟨Try.f154, Try.func154, rfl, by kernel_rfl⟩
theorem J1D {A : List Nat} {w0 : World} {p_f : Option Addr} {c_f : Nat} {f : List Int} (hA : ∀ b ∈ A, b < w0.heap.size) (h_f : ISl (Rp.int .i64) A w0 p_f c_f f) {K : Bool → Prop} (H : J1t f K) :
    CallsV Try.prog 154 #[.slice p_f f.length c_f] w0 (fun v w' => ∃ (r0 : Bool), v = .bool r0 ∧ Same w0 w' ∧ K r0) := by
 refine CallsV.of (l := [.slice p_f f.length c_f]) Try.func154 rfl Try.ntmps154 rfl ?_
 have hO := Owns.start hA
 have hB := Fr.refl (bl []) w0
 unfold J1t at H
 refine sln0 ?_
 refine scm (H h_f.bd) (fun h1 H => ?_) fun h1 H => ?_
 ·refine au ?_
  refine Go1.ret1 Try.func154 rfl ⟨_, ?_, frs, H⟩
  exact rfl
 refine sln0 ?_
 refine scm H (fun h2 H => ?_) fun h2 H => ?_
 ·refine au ?_
  refine Go1.ret1 Try.func154 rfl ⟨_, ?_, frs, H⟩
  exact rfl
 refine sln0 ?_
 refine au ?_
 refine lw H (fun k1_4 σ w => (fun Z => agrees σ [(0, .slice p_f f.length c_f), (13, .slice p_f f.length c_f), (14, .int .i64 (f.length : Int)), (15, .int .i64 (k1_4 : Int))] ∧ Owns w0.heap.size w Z A ∧ Fr (bl []) w0 (bl Z) w) []) ⟨agr, hO, fr⟩ ?_
 refine fun X1 => fun k1_4 => fun H hX1 σ w3 => d2 fun hag hO hB => ?_
 refine Go1.keep _ hag ?_
 refine scm H (fun h5 H => ?_) fun h5 H => ?_
 ·refine sxl hO h_f.u H.1 H.2.1 ?_
  refine au ?_
  have h6 := H.1
  have h7 := H.2.1
  refine scm H.2.2 (fun h8 H => ?_) fun h8 H => ?_
  ·refine au ?_
   refine Go1.ret1 Try.func154 rfl ⟨_, ?_, frs, H⟩
   exact rfl
  refine sln0 ?_
  refine scm H (fun h9 H => ?_) fun h9 H => ?_
  ·refine au ?_
   refine Go1.ret1 Try.func154 rfl ⟨_, ?_, frs, H⟩
   exact rfl
  refine sinc (natbd h5 h_f.bd) ?_
  refine au ?_
  exact hX1 _ H _ _ ⟨agr, hO, fr⟩
 refine au ?_
 refine Go1.ret1 Try.func154 rfl ⟨_, ?_, frs, H⟩
 exact rfl
theorem body86 : Body Try.prog 86 := ⟨Try.f86, Try.func86, rfl, by kernel_rfl⟩
theorem J0s {A : List Nat} {w0 : World} {dq : Option Addr} {dA : Nat} {s_ : List Int} (hA : ∀ b ∈ A, b < w0.heap.size) (eK : ISl (Rp.int .i64) A w0 dq dA s_) {K : List Int → Prop} (H : J0b s_ K) :
    CallsV Try.prog 86 #[.slice dq s_.length dA] w0 (fun v w' => ∃ (r0 : List Int) (iE : Nat) (p_r0 : Option Addr) (c_r0 : Nat), v = .slice p_r0 iE c_r0 ∧ Same w0 w' ∧ Owns w0.heap.size w' [t1 Fl.i 3 p_r0 iE c_r0 r0] A ∧ K r0) := by
 refine CallsV.of (l := [.slice dq s_.length dA]) Try.func86 rfl Try.ntmps86 rfl ?_
 have hO := Owns.start hA
 have hB := Fr.refl (bl []) w0
 unfold J0b at H
 refine au ?_
 replace H := H dq.isNone (fun h => eK.nilD h)
 by_cases hz2 : dq.isNone = true
 ·replace H := ifp hz2 H
  refine zo (fun w => opB (J1R Try.underlying31 rfl rfl w) (hz2)) ?_
  refine au ?_
  refine snil Fl.i 3 hO fun s hO => ?_
  refine Go1.ret1 Try.func86 rfl ⟨_, _, _, _, ?_, frs, hO, H⟩
  exact rfl
 ·replace H := ifn hz2 H
  refine zo (fun w => opB (J1R Try.underlying31 rfl rfl w) (Bool.eq_false_iff.2 hz2)) ?_
  refine sbu Fl.i 3 ([] : List Int) hO fun w4 p5 s hO => ?_
  refine sap 0 hO eK.u H fun w7 p8 c9 s hO => ?_
  refine au ?_
  refine Go1.ret1 Try.func86 rfl ⟨_, _, _, _, ?_, frs, hO, H.2⟩
  exact rfl
theorem body156 : Body Try.prog 156 := ⟨Try.f156, Try.func156, rfl, by kernel_rfl⟩
theorem J3l {A : List Nat} {w0 : World} {n : Int} (hA : ∀ b ∈ A, b < w0.heap.size) {K : List Int → Prop} (H : J10 n K) :
    CallsV Try.prog 156 #[.int .i64 n] w0 (fun v w' => ∃ (r0 : List Int) (p_r0 : Option Addr) (c_r0 : Nat), v = .slice p_r0 r0.length c_r0 ∧ Same w0 w' ∧ ISl (Rp.int .i64) A w' p_r0 c_r0 r0 ∧ K r0) := by
 refine CallsV.of (l := [.int .i64 n]) Try.func156 rfl Try.ntmps156 rfl ?_
 have hO := Owns.start hA
 have hB := Fr.refl (bl []) w0
 unfold J10 at H
 refine scm H (fun h1 H => ?_) fun h1 H => ?_
 ·refine au ?_
  refine Go1.ret1 Try.func156 rfl ⟨_, _, _, ?_, frs, (ISl.null _ _ _), H⟩
  exact rfl
 refine scm H (fun h2 H => ?_) fun h2 H => ?_
 ·refine au ?_
  refine Go1.ret1 Try.func156 rfl ⟨_, _, _, ?_, frs, (ISl.null _ _ _), H⟩
  exact rfl
 refine smk Fl.i H hO fun w3 p4 s hO => ?_
 refine sln1 0 hO ?_
 refine au ?_
 refine lw H.2.2 (fun (cL, f1_8) σ w => (fun Z => agrees σ [(3, .slice p4 n.toNat n.toNat), (14, .int .i64 ((List.replicate n.toNat ((0 : Int))).length : Int)), (15, .int .i64 (cL : Int))] ∧ Owns w0.heap.size w Z A ∧ Fr (bl []) w0 (bl Z) w) [t1 Fl.i 3 p4 n.toNat n.toNat f1_8]) ⟨agr, hO, fr⟩ ?_
 refine fun X1 => p1 fun cL f1_8 => fun H hX1 σ w6 => d2 fun hag hO hB => ?_
 dsimp only at H
 refine Go1.keep _ hag ?_
 revert hO; repeat (rename Owns _ _ _ _ => q; clear q)
 intro hO; repeat (rename Sq _ _ _ _ _ _ => q; clear q)
 refine scm H (fun h9 H => ?_) fun h9 H => ?_
 ·refine six1 0 hO H.1 H.2.1 ?_
  refine sst (u := (cL : Int)) 0 hO H.1 H.2.1 fun w10 s hO => ?_
  refine au ?_
  have h11 := H.1
  have h12 := H.2.1
  replace H := H.2.2
  obtain ⟨h13, H⟩ := H
  refine zo (J0l rfl rfl (wrap_i64 h13)) ?_
  refine au ?_
  exact hX1 _ H _ _ ⟨agr, hO, fr⟩
 refine au ?_
 refine sfz 0 hO fun s hO iQ iR => ?_
 refine Go1.ret1 Try.func156 rfl ⟨_, _, _, ?_, frs, iQ.r, H⟩
 exact (congrArg (fun nn => Value.slice p4 nn n.toNat) iR)
theorem body157 : Body Try.prog 157 := ⟨Try.f157, Try.func157, rfl, by kernel_rfl⟩
theorem J05 {A : List Nat} {w0 : World} {p_f : Option Addr} {c_f : Nat} {f : List Int} (hA : ∀ b ∈ A, b < w0.heap.size) (h_f : ISl (Rp.int .i64) A w0 p_f c_f f) {K : Str → Prop} (H : J06 f K) :
    CallsV Try.prog 157 #[.slice p_f f.length c_f] w0 (fun v w' => ∃ (r0 : Str), v = .string (gstr r0) ∧ Same w0 w' ∧ r0.length ≤ mx ∧ K r0) := by
 refine CallsV.of (l := [.slice p_f f.length c_f]) Try.func157 rfl Try.ntmps157 rfl ?_
 have hO := Owns.start hA
 have hB := Fr.refl (bl []) w0
 unfold J06 at H
 refine sln0 ?_
 refine smk (Fl.int .u8) (H h_f.bd) hO fun w1 p4 s hO => ?_
 refine sln0 ?_
 refine au ?_
 refine lw (H h_f.bd).2.2 (fun (cL, oq) σ w => (fun Z => agrees σ [(3, .slice p4 f.length f.length), (9, .slice p_f f.length c_f), (10, .int .i64 (f.length : Int)), (11, .int .i64 (cL : Int))] ∧ Owns w0.heap.size w Z A ∧ Fr (bl []) w0 (bl Z) w) [t1 (Fl.int .u8) 5 p4 f.length f.length oq]) ⟨agr, hO, fr⟩ ?_
 refine fun X1 => p1 fun cL oq => fun H hX1 σ w6 => d2 fun hag hO hB => ?_
 dsimp only at H
 refine Go1.keep _ hag ?_
 revert hO; repeat (rename Owns _ _ _ _ => q; clear q)
 intro hO; repeat (rename Sq _ _ _ _ _ _ => q; clear q)
 refine scm H (fun h9 H => ?_) fun h9 H => ?_
 ·refine sxl hO h_f.u H.1 H.2.1 ?_
  refine au ?_
  refine zo (J2Z Try.underlying3 Try.underlying5 rfl rfl) ?_
  refine six1 0 hO H.2.2.1 H.2.2.2.1 ?_
  refine sst (u := (IntKind.u8.wrap (ix f (cL : Int)))) 0 hO H.2.2.1 H.2.2.2.1 fun w10 s hO => ?_
  refine sinc (natbd h9 h_f.bd) ?_
  refine au ?_
  exact hX1 _ H.2.2.2.2 _ _ ⟨agr, hO, fr⟩
 refine au ?_
 refine op1 0 hO fun zx s hO ot => ?_
 have hle13 := J7H ot.bd
 refine zs (oldBytes 0 hO rfl ot.u Try.underlying126 Try.underlying5 Try.underlying9 rfl) ?_
 refine au ?_
 refine Go1.ret1 Try.func157 rfl ⟨_, ?_, frs, hle13, H⟩
 exact rfl
end Sg
