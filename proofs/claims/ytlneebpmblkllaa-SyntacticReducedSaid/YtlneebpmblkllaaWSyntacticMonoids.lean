/- -/
import Derived.Test.YtlneebpmblkllaaVd
namespace Sg
open Go Go.RowKit Go.Proofs
set_option linter.unusedVariables false
set_option linter.unusedSimpArgs false
set_option maxRecDepth 100000
set_option maxHeartbeats 4000000
theorem body59 : Body Try.prog 59 := ⟨Try.f59, Try.func59, rfl, by kernel_rfl⟩
theorem J2O {A : List Nat} {w0 : World} {letters : Int} (hA : ∀ b ∈ A, b < w0.heap.size) {K : Bool → Prop} (H : J0U letters K) :
    CallsV Try.prog 59 #[.int .i64 letters] w0 (fun v w' => ∃ (r0 : Bool), v = .bool r0 ∧ Same w0 w' ∧ K r0) := by
 refine CallsV.of (l := [.int .i64 letters]) Try.func59 rfl Try.ntmps59 rfl ?_
 have hO := Owns.start hA
 have hB := Fr.refl (bl []) w0
 unfold J0U at H
 refine au ?_
 refine scm H (fun h1 H => ?_) fun h1 H => ?_
 ·refine au ?_
  refine scm H (fun h2 H => ?_) fun h2 H => ?_
  ·refine au ?_
   refine Go1.ret1 Try.func59 rfl ⟨_, ?_, frs, H⟩
   exact rfl
  refine au ?_
  refine Go1.ret1 Try.func59 rfl ⟨_, ?_, frs, H⟩
  exact rfl
 refine au ?_
 refine Go1.ret1 Try.func59 rfl ⟨_, ?_, frs, H⟩
 exact rfl
theorem body16 : Body Try.prog 16 := ⟨Try.f16, Try.func16, rfl, by kernel_rfl⟩
theorem J3w {A : List Nat} {w0 : World} {aa : Option Addr} {ad : Nat} {af : Option Addr} {ag : Nat} {d : DFA} (hA : ∀ b ∈ A, b < w0.heap.size) (aO : ISl (Rp.bool) A w0 aa ad d.Final) (bQ : ISl (Rp.sl (Rp.int .i64)) A w0 af ag d.Next) {K : Int → Prop} (H : J0P d K) :
    CallsV Try.prog 16 #[.agg #[.int .i64 d.Letters, .int .i64 d.Start, .slice aa d.Final.length ad, .slice af d.Next.length ag]] w0 (fun v w' => ∃ (r0 : Int), v = .int .i64 r0 ∧ Same w0 w' ∧ K r0) := by
 refine CallsV.of (l := [.agg #[.int .i64 d.Letters, .int .i64 d.Start, .slice aa d.Final.length ad, .slice af d.Next.length ag]]) Try.func16 rfl Try.ntmps16 rfl ?_
 have hO := Owns.start hA
 have hB := Fr.refl (bl []) w0
 unfold J0P at H
 refine au ?_
 refine sbx hO fun w1 B2 s hO => ?_
 refine au ?_
 refine sln0 ?_
 refine au ?_
 refine zcr (J00 body59 rfl (J2O hO.lt (H aO.bd))) fun _ w5 => e1 fun r4 => sc0 hO fun s hO => fun H => ?_
 cases r4
 ·refine au ?_
  refine Go1.ret1 Try.func16 rfl ⟨_, ?_, frs, (iF H)⟩
  exact rfl
 refine au ?_
 refine scm (iT H) (fun h6 H => ?_) fun h6 H => ?_
 ·refine au ?_
  refine Go1.ret1 Try.func16 rfl ⟨_, ?_, frs, H⟩
  exact rfl
 refine au ?_
 refine scm H (fun h7 H => ?_) fun h7 H => ?_
 ·refine au ?_
  refine Go1.ret1 Try.func16 rfl ⟨_, ?_, frs, H⟩
  exact rfl
 refine au ?_
 refine sln0 ?_
 refine au ?_
 refine scm (H bQ.bd) (fun h8 H => ?_) fun h8 H => ?_
 ·refine au ?_
  refine scm H (fun h9 H => ?_) fun h9 H => ?_
  ·refine au ?_
   refine Go1.ret1 Try.func16 rfl ⟨_, ?_, frs, H⟩
   exact rfl
  refine au ?_
  refine scm H (fun h10 H => ?_) fun h10 H => ?_
  ·refine au ?_
   refine Go1.ret1 Try.func16 rfl ⟨_, ?_, frs, H⟩
   exact rfl
  refine au ?_
  refine sln0 ?_
  refine au ?_
  refine lw H (fun k1_12 σ w => (fun Z => agrees σ [(1, .pointer (some ⟨B2, 0, none⟩)), (3, .int .i64 (d.Final.length : Int)), (38, .slice af d.Next.length ag), (39, .int .i64 (d.Next.length : Int)), (40, .int .i64 (k1_12 : Int))] ∧ Owns w0.heap.size w Z A ∧ Fr (bl []) w0 (bl Z) w) [.blk B2 (.cells #[.int .i64 d.Letters, .int .i64 d.Start, .slice aa d.Final.length ad, .slice af d.Next.length ag] 25 (0, 0))]) ⟨agr, hO, fr⟩ ?_
  refine fun X1 => fun k1_12 => fun H hX1 σ w11 => d2 fun hag hO hB => ?_
  refine Go1.keep _ hag ?_
  revert hO; repeat (rename Owns _ _ _ _ => q; clear q)
  intro hO; repeat (rename Sq _ _ _ _ _ _ => q; clear q)
  refine au ?_
  refine scm H (fun h13 H => ?_) fun h13 H => ?_
  ·refine au ?_
   refine sxls hO bQ.u H.1 H.2.1 fun p14 c15 fq => ?_
   refine au ?_
   refine sln0 ?_
   refine au ?_
   have h17 := H.1
   have h18 := H.2.1
   refine scm (H.2.2 fq.bd) (fun h19 H => ?_) fun h19 H => ?_
   ·refine au ?_
    refine sln0 ?_
    refine au ?_
    refine lw H (fun nM σ w => (fun Z => agrees σ [(1, .pointer (some ⟨B2, 0, none⟩)), (3, .int .i64 (d.Final.length : Int)), (38, .slice af d.Next.length ag), (39, .int .i64 (d.Next.length : Int)), (40, .int .i64 (k1_12 : Int)), (49, .slice p14 ((ix d.Next (k1_12 : Int)).length) c15), (50, .int .i64 ((ix d.Next (k1_12 : Int)).length : Int)), (51, .int .i64 (nM : Int))] ∧ Owns w0.heap.size w Z A ∧ ISl (Rp.int .i64) (bl Z ++ A) w p14 c15 (ix d.Next (k1_12 : Int)) ∧ Fr (bl []) w0 (bl Z) w) [.blk B2 (.cells #[.int .i64 d.Letters, .int .i64 d.Start, .slice aa d.Final.length ad, .slice af d.Next.length ag] 25 (0, 0))]) ⟨agr, hO, fq.u, fr⟩ ?_
    refine fun X2 => fun nM => fun H hX2 σ w20 => d3 fun hag hO fq hB => ?_
    refine Go1.keep _ hag ?_
    revert hO; repeat (rename Owns _ _ _ _ => q; clear q)
    intro hO; repeat (rename Sq _ _ _ _ _ _ => q; clear q)
    refine au ?_
    refine scm H (fun h22 H => ?_) fun h22 H => ?_
    ·refine au ?_
     refine sxl hO fq H.1 H.2.1 ?_
     refine au ?_
     have h23 := H.1
     have h24 := H.2.1
     refine scm H.2.2 (fun h25 H => ?_) fun h25 H => ?_
     ·refine au ?_
      refine Go1.ret1 Try.func16 rfl ⟨_, ?_, frs, H⟩
      exact rfl
     refine au ?_
     refine scm H (fun h26 H => ?_) fun h26 H => ?_
     ·refine au ?_
      refine Go1.ret1 Try.func16 rfl ⟨_, ?_, frs, H⟩
      exact rfl
     refine au ?_
     refine sinc (natbd h22 fq.bd) ?_
     refine au ?_
     exact hX2 _ H _ _ ⟨agr, hO, fq, fr⟩
    refine au ?_
    refine sinc (natbd h13 bQ.bd) ?_
    refine au ?_
    exact hX1 _ H _ _ ⟨agr, hO, fr⟩
   refine au ?_
   refine Go1.ret1 Try.func16 rfl ⟨_, ?_, frs, H⟩
   exact rfl
  refine au ?_
  refine Go1.ret1 Try.func16 rfl ⟨_, ?_, frs, H⟩
  exact rfl
 refine au ?_
 refine Go1.ret1 Try.func16 rfl ⟨_, ?_, frs, H⟩
 exact rfl
theorem body17 : Body Try.prog 17 := ⟨Try.f17, Try.func17, rfl, by kernel_rfl⟩
theorem J49 {A : List Nat} {w0 : World} {aa : Option Addr} {ad : Nat} {af : Option Addr} {ag : Nat} {d : DFA} {most : Int} (hA : ∀ b ∈ A, b < w0.heap.size) (aO : ISl (Rp.bool) A w0 aa ad d.Final) (bQ : ISl (Rp.sl (Rp.int .i64)) A w0 af ag d.Next) {K : Bool → Prop} (H : law21_small d most K) :
    CallsV Try.prog 17 #[.agg #[.int .i64 d.Letters, .int .i64 d.Start, .slice aa d.Final.length ad, .slice af d.Next.length ag], .int .i64 most] w0 (fun v w' => ∃ (r0 : Bool), v = .bool r0 ∧ Same w0 w' ∧ K r0) := by
 refine CallsV.of (l := [.agg #[.int .i64 d.Letters, .int .i64 d.Start, .slice aa d.Final.length ad, .slice af d.Next.length ag], .int .i64 most]) Try.func17 rfl Try.ntmps17 rfl ?_
 have hO := Owns.start hA
 have hB := Fr.refl (bl []) w0
 unfold law21_small at H
 refine au ?_
 refine sbx hO fun w1 B2 s hO => ?_
 refine au ?_
 refine sln0 ?_
 refine au ?_
 refine scm (H aO.bd) (fun h4 H => ?_) fun h4 H => ?_
 ·refine au ?_
  refine scm H (fun h5 H => ?_) fun h5 H => ?_
  ·refine au ?_
   refine zs (J0g (vs := [.int .i64 d.Letters, .int .i64 d.Start, .slice aa d.Final.length ad, .slice af d.Next.length ag]) (i := 0) 0 hO rfl rfl Try.underlying25 rfl ti25 rfl) ?_
   refine zcr (J00 body16 rfl (J3w hO.lt aO.u bQ.u H)) fun _ w7 => e1 fun r6 => sc0 hO fun s hO => fun H => ?_
   refine scm H (fun h8 H => ?_) fun h8 H => ?_
   ·refine au ?_
    refine Go1.ret1 Try.func17 rfl ⟨_, ?_, frs, H⟩
    exact rfl
   refine au ?_
   refine Go1.ret1 Try.func17 rfl ⟨_, ?_, frs, H⟩
   exact rfl
  refine au ?_
  refine Go1.ret1 Try.func17 rfl ⟨_, ?_, frs, H⟩
  exact rfl
 refine au ?_
 refine Go1.ret1 Try.func17 rfl ⟨_, ?_, frs, H⟩
 exact rfl
theorem body60 : Body Try.prog 60 := ⟨Try.f60, Try.func60, rfl, by kernel_rfl⟩
theorem J4P {A : List Nat} {w0 : World} (hA : ∀ b ∈ A, b < w0.heap.size) {K : DFA → Prop} (H : law21_ab  K) :
    CallsV Try.prog 60 #[] w0 (fun v w' => ∃ (r0 : DFA), ∃ (cj : Option Addr), ∃ (ck : Nat), ∃ (cz : Option Addr), ∃ (cA : Nat), v = .agg #[.int .i64 r0.Letters, .int .i64 r0.Start, .slice cj r0.Final.length ck, .slice cz r0.Next.length cA] ∧ Same w0 w' ∧ ISl (Rp.bool) A w' cj ck r0.Final ∧ ISl (Rp.sl (Rp.int .i64)) A w' cz cA r0.Next ∧ K r0) := by
 refine CallsV.of (l := []) Try.func60 rfl Try.ntmps60 rfl ?_
 have hO := Owns.start hA
 have hB := Fr.refl (bl []) w0
 unfold law21_ab at H
 refine au ?_
 refine sal hO fun w1 B2 s hO => ?_
 refine au ?_
 refine sbu Fl.bool 4 [true, false, false] hO fun w4 p5 s hO => ?_
 refine sbu Fl.i 3 [(1 : Int), (2 : Int)] hO fun w7 p8 s hO => ?_
 refine sbu Fl.i 3 [(2 : Int), (0 : Int)] hO fun w10 p11 s hO => ?_
 refine sbu Fl.i 3 [(2 : Int), (2 : Int)] hO fun w13 p14 s hO => ?_
 refine sfz 2 hO fun s hO fq lQ => ?_
 refine sfz 1 hO fun s hO wi wj => ?_
 refine sfz 0 hO fun s hO wk wm => ?_
 have zz := J1Y (r := Rp.sl (Rp.int .i64)) (n := 3) (parts := [(0, .slice p8 2 2), (1, .slice p11 2 2), (2, .slice p14 2 2)]) (vs := [.slice p8 2 2, .slice p11 2 2, .slice p14 2 2]) (xs := [[(1 : Int), (2 : Int)], [(2 : Int), (0 : Int)], [(2 : Int), (2 : Int)]]) rfl Try.underlying23 ti31 hO (by decide) (by kernel_rfl) (Els.cons rfl ⟨p8, 2, congrArg some (congrArg (fun nn => Value.slice p8 nn 2) lQ), fq.u⟩ (Els.cons rfl ⟨p11, 2, congrArg some (congrArg (fun nn => Value.slice p11 nn 2) wj), wi.u⟩ (Els.cons rfl ⟨p14, 2, congrArg some (congrArg (fun nn => Value.slice p14 nn 2) wm), wk⟩ (Els.nil _ _ _) (by simp [mx])) (by simp [mx])) (by simp [mx])) rfl
 obtain ⟨w22, p23, sQ, wn, AD, kj⟩ := zz
 refine zg (kj rfl) ?_
 refine nst sQ fun s hO => ?_
 refine zo (J0c Try.underlying25 ti25 (pl := [(0, 1), (1, 1), (2, 1), (3, 1)]) (vs := [(0, .int .i64 (2 : Int)), (2, .slice p5 3 3), (3, .slice p23 3 3)]) (cs := #[.int .i64 (2 : Int), .int .i64 (0 : Int), .slice p5 3 3, .slice p23 3 3]) (by kernel_rfl) rfl (by kernel_rfl)) ?_
 refine sba 2 hO fun w29 s hO => ?_
 refine au ?_
 refine sfz 1 hO fun s hO wo wq => ?_
 refine sfzR 0 hO wn.u fun s hO d9 wr => ?_
 refine Go1.retC1 Try.func60 rfl rfl (J01 (vs := [.int .i64 (2 : Int), .int .i64 (0 : Int), .slice p5 3 3, .slice p23 3 3]) 0 hO rfl rfl Try.underlying25 rfl ti25) ⟨((⟨(2 : Int), (0 : Int), [true, false, false], [[(1 : Int), (2 : Int)], [(2 : Int), (0 : Int)], [(2 : Int), (2 : Int)]]⟩ : DFA)), _, _, _, _, ?_, frs, wo.r, d9.r, H⟩
 exact (congrArg (fun l => Value.agg (List.toArray l)) (J03 rfl (J03 rfl (J03 (congrArg (fun nn => Value.slice p5 nn 3) wq) (J03 (congrArg (fun nn => Value.slice p23 nn 3) wr) rfl)))))
theorem body61 : Body Try.prog 61 := ⟨Try.f61, Try.func61, rfl, by kernel_rfl⟩
theorem J0s {A : List Nat} {w0 : World} {aa : Option Addr} {ad : Nat} {af : Option Addr} {ag : Nat} {d : DFA} (hA : ∀ b ∈ A, b < w0.heap.size) (aO : ISl (Rp.bool) A w0 aa ad d.Final) (bQ : ISl (Rp.sl (Rp.int .i64)) A w0 af ag d.Next) {K : Int → Prop} (H : J0q d K) :
    CallsV Try.prog 61 #[.agg #[.int .i64 d.Letters, .int .i64 d.Start, .slice aa d.Final.length ad, .slice af d.Next.length ag]] w0 (fun v w' => ∃ (r0 : Int), v = .int .i64 r0 ∧ Same w0 w' ∧ K r0) := by
 refine CallsV.of (l := [.agg #[.int .i64 d.Letters, .int .i64 d.Start, .slice aa d.Final.length ad, .slice af d.Next.length ag]]) Try.func61 rfl Try.ntmps61 rfl ?_
 have hO := Owns.start hA
 have hB := Fr.refl (bl []) w0
 unfold J0q at H
 refine au ?_
 refine sbx hO fun w1 B2 s hO => ?_
 refine au ?_
 refine scm H (fun h4 H => ?_) fun h4 H => ?_
 ·refine au ?_
  refine Go1.ret1 Try.func61 rfl ⟨_, ?_, frs, H⟩
  exact rfl
 refine au ?_
 refine scm H (fun h5 H => ?_) fun h5 H => ?_
 ·refine au ?_
  refine Go1.ret1 Try.func61 rfl ⟨_, ?_, frs, H⟩
  exact rfl
 refine au ?_
 refine sln0 ?_
 refine au ?_
 refine scm (H aO.bd) (fun h6 H => ?_) fun h6 H => ?_
 ·refine au ?_
  refine Go1.ret1 Try.func61 rfl ⟨_, ?_, frs, H⟩
  exact rfl
 refine au ?_
 refine sln0 ?_
 refine au ?_
 refine scm (H bQ.bd) (fun h7 H => ?_) fun h7 H => ?_
 ·refine au ?_
  refine scm H (fun h8 H => ?_) fun h8 H => ?_
  ·refine au ?_
   refine Go1.ret1 Try.func61 rfl ⟨_, ?_, frs, H⟩
   exact rfl
  refine au ?_
  refine scm H (fun h9 H => ?_) fun h9 H => ?_
  ·refine au ?_
   refine Go1.ret1 Try.func61 rfl ⟨_, ?_, frs, H⟩
   exact rfl
  refine au ?_
  refine sln0 ?_
  refine au ?_
  refine lw H (fun k1_11 σ w => (fun Z => agrees σ [(1, .pointer (some ⟨B2, 0, none⟩)), (3, .int .i64 (d.Final.length : Int)), (38, .slice af d.Next.length ag), (39, .int .i64 (d.Next.length : Int)), (40, .int .i64 (k1_11 : Int))] ∧ Owns w0.heap.size w Z A ∧ Fr (bl []) w0 (bl Z) w) [.blk B2 (.cells #[.int .i64 d.Letters, .int .i64 d.Start, .slice aa d.Final.length ad, .slice af d.Next.length ag] 25 (0, 0))]) ⟨agr, hO, fr⟩ ?_
  refine fun X1 => fun k1_11 => fun H hX1 σ w10 => d2 fun hag hO hB => ?_
  refine Go1.keep _ hag ?_
  revert hO; repeat (rename Owns _ _ _ _ => q; clear q)
  intro hO; repeat (rename Sq _ _ _ _ _ _ => q; clear q)
  refine au ?_
  refine scm H (fun h12 H => ?_) fun h12 H => ?_
  ·refine au ?_
   refine sxls hO bQ.u H.1 H.2.1 fun p13 c14 iA => ?_
   refine au ?_
   refine sln0 ?_
   refine au ?_
   have h16 := H.1
   have h17 := H.2.1
   refine scm (H.2.2 iA.bd) (fun h18 H => ?_) fun h18 H => ?_
   ·refine au ?_
    refine sln0 ?_
    refine au ?_
    refine lw H (fun nO σ w => (fun Z => agrees σ [(1, .pointer (some ⟨B2, 0, none⟩)), (3, .int .i64 (d.Final.length : Int)), (38, .slice af d.Next.length ag), (39, .int .i64 (d.Next.length : Int)), (40, .int .i64 (k1_11 : Int)), (49, .slice p13 ((ix d.Next (k1_11 : Int)).length) c14), (50, .int .i64 ((ix d.Next (k1_11 : Int)).length : Int)), (51, .int .i64 (nO : Int))] ∧ Owns w0.heap.size w Z A ∧ ISl (Rp.int .i64) (bl Z ++ A) w p13 c14 (ix d.Next (k1_11 : Int)) ∧ Fr (bl []) w0 (bl Z) w) [.blk B2 (.cells #[.int .i64 d.Letters, .int .i64 d.Start, .slice aa d.Final.length ad, .slice af d.Next.length ag] 25 (0, 0))]) ⟨agr, hO, iA.u, fr⟩ ?_
    refine fun X2 => fun nO => fun H hX2 σ w19 => d3 fun hag hO iA hB => ?_
    refine Go1.keep _ hag ?_
    revert hO; repeat (rename Owns _ _ _ _ => q; clear q)
    intro hO; repeat (rename Sq _ _ _ _ _ _ => q; clear q)
    refine au ?_
    refine scm H (fun h21 H => ?_) fun h21 H => ?_
    ·refine au ?_
     refine sxl hO iA H.1 H.2.1 ?_
     refine au ?_
     have h22 := H.1
     have h23 := H.2.1
     refine scm H.2.2 (fun h24 H => ?_) fun h24 H => ?_
     ·refine au ?_
      refine Go1.ret1 Try.func61 rfl ⟨_, ?_, frs, H⟩
      exact rfl
     refine au ?_
     refine scm H (fun h25 H => ?_) fun h25 H => ?_
     ·refine au ?_
      refine Go1.ret1 Try.func61 rfl ⟨_, ?_, frs, H⟩
      exact rfl
     refine au ?_
     refine sinc (natbd h21 iA.bd) ?_
     refine au ?_
     exact hX2 _ H _ _ ⟨agr, hO, iA, fr⟩
    refine au ?_
    refine sinc (natbd h12 bQ.bd) ?_
    refine au ?_
    exact hX1 _ H _ _ ⟨agr, hO, fr⟩
   refine au ?_
   refine Go1.ret1 Try.func61 rfl ⟨_, ?_, frs, H⟩
   exact rfl
  refine au ?_
  refine Go1.ret1 Try.func61 rfl ⟨_, ?_, frs, H⟩
  exact rfl
 refine au ?_
 refine Go1.ret1 Try.func61 rfl ⟨_, ?_, frs, H⟩
 exact rfl
theorem body141 : Body Try.prog 141 := ⟨Try.f141, Try.func141, rfl, by kernel_rfl⟩
theorem body140 : Body Try.prog 140 := ⟨Try.f140, Try.func140, rfl, by kernel_rfl⟩
theorem body163 : Body Try.prog 163 := ⟨Try.f163, Try.func163, rfl, by kernel_rfl⟩
theorem body139 : Body Try.prog 139 := ⟨Try.f139, Try.func139, rfl, by kernel_rfl⟩
theorem body109 : Body Try.prog 109 := ⟨Try.f109, Try.func109, rfl, by kernel_rfl⟩
theorem J3N {A : List Nat} {w0 : World} {aa : Option Addr} {ad : Nat} {af : Option Addr} {ag : Nat} {d : DFA} (hA : ∀ b ∈ A, b < w0.heap.size) (aO : ISl (Rp.bool) A w0 aa ad d.Final) (bQ : ISl (Rp.sl (Rp.int .i64)) A w0 af ag d.Next) {K : DFA → List Int → Prop} (H : J33 d K) :
    CallsV Try.prog 109 #[.agg #[.int .i64 d.Letters, .int .i64 d.Start, .slice aa d.Final.length ad, .slice af d.Next.length ag]] w0 (fun v w' => ∃ (r0 : DFA), ∃ (r1 : List Int), ∃ (cj : Option Addr), ∃ (ck : Nat), ∃ (cz : Option Addr), ∃ (cA : Nat), ∃ (jg : Option Addr), ∃ (jh : Nat), v = .tuple #[.agg #[.int .i64 r0.Letters, .int .i64 r0.Start, .slice cj r0.Final.length ck, .slice cz r0.Next.length cA], .slice jg r1.length jh] ∧ Same w0 w' ∧ ISl (Rp.bool) A w' cj ck r0.Final ∧ ISl (Rp.sl (Rp.int .i64)) A w' cz cA r0.Next ∧ ISl (Rp.int .i64) A w' jg jh r1 ∧ K r0 r1) := by
 refine CallsV.of (l := [.agg #[.int .i64 d.Letters, .int .i64 d.Start, .slice aa d.Final.length ad, .slice af d.Next.length ag]]) Try.func109 rfl Try.ntmps109 rfl ?_
 have hO := Owns.start hA
 have hB := Fr.refl (bl []) w0
 unfold J33 at H
 refine au ?_
 refine sbx hO fun w1 B2 s hO => ?_
 refine sal hO fun w4 B5 s hO => ?_
 refine au ?_
 refine zs (J0g (vs := [.int .i64 d.Letters, .int .i64 d.Start, .slice aa d.Final.length ad, .slice af d.Next.length ag]) (i := 0) 1 hO rfl rfl Try.underlying25 rfl ti25 rfl) ?_
 refine zcr (J00 body61 rfl (J0s hO.lt aO.u bQ.u H)) fun _ w8 => e1 fun r7 => sc0 hO fun s hO => fun H => ?_
 refine scm H (fun h9 H => ?_) fun h9 H => ?_
 ·refine au ?_
  refine zo (J3q (vs := [.pointer (some ⟨B2, 0, none⟩)]) rfl) ?_
  refine zo (J3q (vs := [.pointer (some ⟨B2, 0, none⟩)]) rfl) ?_
  refine GoR.inl (vs := [.int .i64 d.Letters, .int .i64 d.Start, .func (.func 140) #[] #[.pointer (some ⟨B2, 0, none⟩)], .func (.func 141) #[] #[.pointer (some ⟨B2, 0, none⟩)]]) (caps := []) rfl rfl body139 Try.func139 rfl Try.ntmps139 rfl rfl rfl ?_
  intro RhR10 hR10
  refine au ?_
  refine sal hO fun w11 B12 s hO => ?_
  refine au ?_
  refine sal hO fun w14 B15 s hO => ?_
  refine au ?_
  refine GoR.inl (vs := [.pointer (some ⟨B15, 0, none⟩), .int .i64 d.Start]) (caps := []) rfl rfl body163 Try.func163 rfl Try.ntmps163 rfl rfl rfl ?_
  intro RhR17 hR17
  refine au ?_
  refine zs (fun w _ => olookN (a := d.Start) (MK.int Try.underlying3) Try.underlying168 ti3 rfl rfl w) ?_
  refine au ?_
  refine zo (fun w => opB (J5o Try.underlying168 rfl rfl w) rfl) ?_
  refine au ?_
  have zz := omakeMap (fun a : Int => Value.int .i64 a) (fun a : Int => Value.int .i64 a) hO
  obtain ⟨w18, B19, sR, AE, sT⟩ := zz
  refine zg sT ?_
  refine nst sR fun s hO => ?_
  refine au ?_
  refine sbs 1 hO fun w24 s hO => ?_
  refine au ?_
  refine sln0 ?_
  refine au ?_
  have zz := omapUpd (MK.int Try.underlying3) 0 hO rfl Try.underlying168 d.Start (0 : Int)
  obtain ⟨w25, sU, kj⟩ := zz
  refine zg (kj (by exact rfl) (by exact rfl) (by exact rfl)) ?_
  refine nst sU fun s hO => ?_
  refine au ?_
  refine snil Fl.i 3 hO fun s hO => ?_
  refine sap1 d.Start 0 hO H fun _ w29 p30 c31 s hO => ?_
  refine au ?_
  refine sbs 2 hO fun w32 s hO => ?_
  refine au ?_
  refine Go1.ret1V Try.func163 rfl (show _ = .int .i64 (0 : Int) from rfl) ?_
  refine hR17 _ _ ?_
  refine au ?_
  refine zo (J0c Try.underlying25 ti25 (pl := [(0, 1), (1, 1), (2, 1), (3, 1)]) (vs := [(0, .int .i64 d.Letters)]) (cs := #[.int .i64 d.Letters, .int .i64 (0 : Int), .slice none 0 0, .slice none 0 0]) (by kernel_rfl) rfl (by kernel_rfl)) ?_
  refine sal hO fun w33 B34 s hO => ?_
  refine sba 0 hO fun w36 s hO => ?_
  refine au ?_
  refine snil Fl.bool 4 hO fun s hO => ?_
  have sV := Stp.nil (e := 31) (r := 1) hO
  refine nst sV fun s hO => ?_
  have ws := Els.nil (Rp.sl (Rp.int .i64)) (bl (.row 31 1 none 0 0 [] :: [t1 Fl.bool 4 none 0 0 (([] : List Bool)), .blk B34 (.cells #[.int .i64 d.Letters, .int .i64 (0 : Int), .slice none 0 0, .slice none 0 0] 25 (0, 0)), t1 Fl.i 3 p30 (0 + 1) c31 ((([] : List Int)) ++ ([d.Start])), .any (mapE (fun a : Int => Value.int .i64 a) (fun a : Int => Value.int .i64 a) B19 (mput (([] : List (Int × Int))) d.Start ((0 : Int)))), .blk B15 (.cells #[.slice p30 (0 + 1) c31, .map (some B19)] 188 (0, 0)), .blk B12 (.cells #[.int .i64 (0 : Int), .int .i64 (0 : Int), .slice none 0 0, .slice none 0 0] 25 (0, 0)), .blk B5 (.cells #[.int .i64 (0 : Int), .int .i64 (0 : Int), .slice none 0 0, .slice none 0 0] 25 (0, 0)), .blk B2 (.cells #[.int .i64 d.Letters, .int .i64 d.Start, .slice aa d.Final.length ad, .slice af d.Next.length ag] 25 (0, 0))]) ++ A) w36
  refine lw H.2 (fun (dg, d_43, d_49, de, nP) σ w => ∃ n48 p46 c47 eg n52 p50 c51 n56 p54 c55, (fun Z => agrees σ [(0, .int .i64 d.Letters), (2, .func (.func 140) #[] #[.pointer (some ⟨B2, 0, none⟩)]), (3, .func (.func 141) #[] #[.pointer (some ⟨B2, 0, none⟩)]), (8, .pointer (some ⟨B12, 0, none⟩)), (11, .pointer (some ⟨B15, 0, none⟩)), (12, .pointer (some ⟨B34, 0, none⟩)), (13, .int .i64 (dg : Int))] ∧ Owns w0.heap.size w Z A ∧ Els (Rp.sl (Rp.int .i64)) (bl Z ++ A) w eg d_43 ∧ Fr (bl []) w0 (bl Z) w) [.row 31 1 p46 n48 c47 eg, t1 Fl.bool 4 p50 n52 c51 d_49, .blk B34 (.cells #[.int .i64 d.Letters, .int .i64 (0 : Int), .slice p50 n52 c51, .slice p46 n48 c47] 25 (0, 0)), t1 Fl.i 3 p54 n56 c55 de, .any (mapE (fun a : Int => Value.int .i64 a) (fun a : Int => Value.int .i64 a) B19 nP), .blk B15 (.cells #[.slice p54 n56 c55, .map (some B19)] 188 (0, 0)), .blk B12 (.cells #[.int .i64 (0 : Int), .int .i64 (0 : Int), .slice none 0 0, .slice none 0 0] 25 (0, 0)), .blk B5 (.cells #[.int .i64 (0 : Int), .int .i64 (0 : Int), .slice none 0 0, .slice none 0 0] 25 (0, 0)), .blk B2 (.cells #[.int .i64 d.Letters, .int .i64 d.Start, .slice aa d.Final.length ad, .slice af d.Next.length ag] 25 (0, 0))]) ⟨_, _, _, _, _, _, _, _, _, _, agr, hO, ws.u, fr⟩ ?_
  refine fun X1 => p1 fun dg => p3 fun d_43 d_49 de nP => fun H hX1 σ w41 => e4 fun n48 p46 c47 eg => e4 fun n52 p50 c51 n56 => e2 fun p54 c55 => d3 fun hag hO dt hB => ?_
  dsimp only at H
  refine Go1.keep _ hag ?_
  revert hO; repeat (rename Owns _ _ _ _ => q; clear q)
  intro hO; repeat (rename Sq _ _ _ _ _ _ => q; clear q)
  refine au ?_
  refine sln1 3 hO ?_
  refine scm H (fun h58 H => ?_) fun h58 H => ?_
  ·refine au ?_
   refine sxl1 3 hO H.1 H.2.1 ?_
   refine au ?_
   refine smk Fl.i H.2.2 hO fun w59 p60 s hO => ?_
   refine au ?_
   refine sln1 0 hO ?_
   refine au ?_
   refine lw H.2.2.2.2 (fun (dK, lR, d_65, fA) σ w => ∃ n68 p66 c67, (fun Z => agrees σ [(0, .int .i64 d.Letters), (2, .func (.func 140) #[] #[.pointer (some ⟨B2, 0, none⟩)]), (3, .func (.func 141) #[] #[.pointer (some ⟨B2, 0, none⟩)]), (8, .pointer (some ⟨B12, 0, none⟩)), (11, .pointer (some ⟨B15, 0, none⟩)), (12, .pointer (some ⟨B34, 0, none⟩)), (13, .int .i64 (dg : Int)), (14, .int .i64 (ix de (dg : Int))), (15, .slice p60 d.Letters.toNat d.Letters.toNat), (36, .int .i64 ((List.replicate d.Letters.toNat ((0 : Int))).length : Int)), (37, .int .i64 (dK : Int))] ∧ Owns w0.heap.size w Z A ∧ Els (Rp.sl (Rp.int .i64)) (bl Z ++ A) w eg d_43 ∧ Fr (bl []) w0 (bl Z) w) [t1 Fl.i 3 p60 d.Letters.toNat d.Letters.toNat lR, .row 31 1 p46 n48 c47 eg, t1 Fl.bool 4 p50 n52 c51 d_49, .blk B34 (.cells #[.int .i64 d.Letters, .int .i64 (0 : Int), .slice p50 n52 c51, .slice p46 n48 c47] 25 (0, 0)), t1 Fl.i 3 p66 n68 c67 d_65, .any (mapE (fun a : Int => Value.int .i64 a) (fun a : Int => Value.int .i64 a) B19 fA), .blk B15 (.cells #[.slice p66 n68 c67, .map (some B19)] 188 (0, 0)), .blk B12 (.cells #[.int .i64 (0 : Int), .int .i64 (0 : Int), .slice none 0 0, .slice none 0 0] 25 (0, 0)), .blk B5 (.cells #[.int .i64 (0 : Int), .int .i64 (0 : Int), .slice none 0 0, .slice none 0 0] 25 (0, 0)), .blk B2 (.cells #[.int .i64 d.Letters, .int .i64 d.Start, .slice aa d.Final.length ad, .slice af d.Next.length ag] 25 (0, 0))]) ⟨_, _, _, agr, hO, dt.u, fr⟩ ?_
   refine fun X2 => p3 fun dK lR d_65 fA => fun H hX2 σ w62 => e3 fun n68 p66 c67 => d3 fun hag hO dt hB => ?_
   dsimp only at H
   refine Go1.keep _ hag ?_
   revert hO; repeat (rename Owns _ _ _ _ => q; clear q)
   intro hO; repeat (rename Sq _ _ _ _ _ _ => q; clear q)
   refine au ?_
   refine scm H (fun h70 H => ?_) fun h70 H => ?_
   ·refine au ?_
    refine GoR.inl (vs := [.int .i64 (ix de (dg : Int)), .int .i64 (dK : Int)]) (caps := [.pointer (some ⟨B2, 0, none⟩)]) rfl rfl body140 Try.func140 rfl Try.ntmps140 rfl rfl rfl ?_
    intro RhR71 hR71
    refine au ?_
    refine sxls hO bQ.u H.1 H.2.1 fun p72 c73 lT => ?_
    refine au ?_
    refine sxl hO lT.u H.2.2.1 H.2.2.2.1 ?_
    refine au ?_
    refine Go1.ret1V Try.func140 rfl (show _ = .int .i64 (ix (ix d.Next (ix de (dg : Int))) (dK : Int)) from rfl) ?_
    refine hR71 _ _ ?_
    refine GoR.inl (vs := [.pointer (some ⟨B15, 0, none⟩), .int .i64 (ix (ix d.Next (ix de (dg : Int))) (dK : Int))]) (caps := []) rfl rfl body163 Try.func163 rfl Try.ntmps163 rfl rfl rfl ?_
    intro RhR75 hR75
    refine au ?_
    replace H := H.2.2.2.2
    by_cases h76 : mhas fA ((ix (ix d.Next (ix de (dg : Int))) (dK : Int))) = true
    ·refine zs (olookT (a := (ix (ix d.Next (ix de (dg : Int))) (dK : Int))) (MK.int Try.underlying3) 5 hO rfl Try.underlying168 rfl rfl h76) ?_
     refine au ?_
     refine Go1.ret1V Try.func163 rfl (show _ = .int .i64 (mgt fA ((ix (ix d.Next (ix de (dg : Int))) (dK : Int)))) from rfl) ?_
     refine hR75 _ _ ?_
     refine six1 0 hO (ifp h76 H).1 (ifp h76 H).2.1 ?_
     refine sst (u := (mgt fA ((ix (ix d.Next (ix de (dg : Int))) (dK : Int))))) 0 hO (ifp h76 H).1 (ifp h76 H).2.1 fun w77 s hO => ?_
     refine au ?_
     have h78 := (ifp h76 H).1
     have h79 := (ifp h76 H).2.1
     replace H := (ifp h76 H).2.2
     obtain ⟨h80, H⟩ := H
     refine zo (J0e rfl rfl (wrap_i64 h80)) ?_
     refine au ?_
     exact hX2 _ H _ _ ⟨_, _, _, agr, hO, dt.u, fr⟩
    refine zs (olookF (a := (ix (ix d.Next (ix de (dg : Int))) (dK : Int))) (MK.int Try.underlying3) 5 hO rfl Try.underlying168 ti3 rfl rfl h76) ?_
    refine au ?_
    refine zo (fun w => opB (J5o Try.underlying168 rfl rfl w) rfl) ?_
    refine au ?_
    refine sln1 4 hO ?_
    refine au ?_
    have zz := omapUpd (MK.int Try.underlying3) 5 hO rfl Try.underlying168 (ix (ix d.Next (ix de (dg : Int))) (dK : Int)) (d_65.length : Int)
    obtain ⟨w81, sW, sX⟩ := zz
    refine zg (sX (by exact rfl) (by exact rfl) (by exact rfl)) ?_
    refine nst sW fun s hO => ?_
    refine au ?_
    refine sap1 ((ix (ix d.Next (ix de (dg : Int))) (dK : Int))) 4 hO (ifn h76 H) fun _ w84 p85 c86 s hO => ?_
    refine au ?_
    refine sbs 6 hO fun w87 s hO => ?_
    refine au ?_
    refine Go1.ret1V Try.func163 rfl (show _ = .int .i64 (d_65.length : Int) from rfl) ?_
    refine hR75 _ _ ?_
    refine six1 0 hO (ifn h76 H).2.1 (ifn h76 H).2.2.1 ?_
    refine sst (u := (d_65.length : Int)) 0 hO (ifn h76 H).2.1 (ifn h76 H).2.2.1 fun w88 s hO => ?_
    refine au ?_
    have h89 := (ifn h76 H).2.1
    have h90 := (ifn h76 H).2.2.1
    replace H := (ifn h76 H).2.2.2
    obtain ⟨h91, H⟩ := H
    refine zo (J0e rfl rfl (wrap_i64 h91)) ?_
    refine au ?_
    exact hX2 _ H _ _ ⟨_, _, _, agr, hO, dt.u, fr⟩
   refine au ?_
   refine sln1 4 hO ?_
   refine scm H (fun h92 H => ?_) fun h92 H => ?_
   ·refine au ?_
    refine zo (J0c Try.underlying25 ti25 (pl := [(0, 1), (1, 1), (2, 1), (3, 1)]) (vs := []) (cs := #[.int .i64 (0 : Int), .int .i64 (0 : Int), .slice none 0 0, .slice none 0 0]) (by kernel_rfl) rfl (by kernel_rfl)) ?_
    refine sba 7 hO fun w93 s hO => ?_
    refine au ?_
    refine Go1.retC3V Try.func139 rfl rfl (J01 (vs := [.int .i64 (0 : Int), .int .i64 (0 : Int), .slice none 0 0, .slice none 0 0]) 7 hO rfl rfl Try.underlying25 rfl ti25) (show _ = .slice none 0 0 from rfl) (show _ = .int .i64 (3 : Int) from rfl) ?_
    refine hR10 _ _ ?_
    refine au ?_
    refine sal hO fun w94 B95 s hO => ?_
    refine sba 0 hO fun w97 s hO => ?_
    refine au ?_
    refine sln0 ?_
    refine smk Fl.i (H aO.bd) hO fun w98 p99 s hO => ?_
    refine au ?_
    refine sln1 0 hO ?_
    refine au ?_
    refine sdr [2, 2, 2, 2, 2, 2, 2, 2, 3] hO fun s hO => ?_
    refine lw (H aO.bd).2.2 (fun (lC, number3_103) σ w => (fun Z => agrees σ [(2, .pointer (some ⟨B5, 0, none⟩)), (4, .pointer (some ⟨B95, 0, none⟩)), (5, .slice none 0 0), (7, .slice p99 d.Final.length d.Final.length), (31, .int .i64 ((List.replicate d.Final.length ((0 : Int))).length : Int)), (32, .int .i64 (lC : Int))] ∧ Owns w0.heap.size w Z A ∧ Fr (bl []) w0 (bl Z) w) [t1 Fl.i 3 p99 d.Final.length d.Final.length number3_103, .blk B95 (.cells #[.int .i64 (0 : Int), .int .i64 (0 : Int), .slice none 0 0, .slice none 0 0] 25 (0, 0)), .blk B5 (.cells #[.int .i64 (0 : Int), .int .i64 (0 : Int), .slice none 0 0, .slice none 0 0] 25 (0, 0))]) ⟨agr, hO, fr⟩ ?_
    refine fun X3 => p1 fun lC number3_103 => fun H hX3 σ wt => d2 fun hag hO hB => ?_
    dsimp only at H
    refine Go1.keep _ hag ?_
    revert hO; repeat (rename Owns _ _ _ _ => q; clear q)
    intro hO; repeat (rename Sq _ _ _ _ _ _ => q; clear q)
    refine au ?_
    refine scm H (fun wu H => ?_) fun wu H => ?_
    ·refine au ?_
     refine six1 0 hO H.1 H.2.1 ?_
     refine sst (u := (-1 : Int)) 0 hO H.1 H.2.1 fun wv s hO => ?_
     refine au ?_
     have ji := H.1
     have gy := H.2.1
     replace H := H.2.2
     obtain ⟨oY, H⟩ := H
     refine zo (J0e rfl rfl (wrap_i64 oY)) ?_
     refine au ?_
     exact hX3 _ H _ _ ⟨agr, hO, fr⟩
    refine au ?_
    refine sln0 ?_
    refine au ?_
    refine lw H (fun lD σ w => (fun Z => agrees σ [(2, .pointer (some ⟨B5, 0, none⟩)), (4, .pointer (some ⟨B95, 0, none⟩)), (7, .slice p99 d.Final.length d.Final.length), (39, .slice none 0 0), (40, .int .i64 (0 : Int)), (41, .int .i64 (lD : Int))] ∧ Owns w0.heap.size w Z A ∧ Fr (bl []) w0 (bl Z) w) [t1 Fl.i 3 p99 d.Final.length d.Final.length number3_103, .blk B95 (.cells #[.int .i64 (0 : Int), .int .i64 (0 : Int), .slice none 0 0, .slice none 0 0] 25 (0, 0)), .blk B5 (.cells #[.int .i64 (0 : Int), .int .i64 (0 : Int), .slice none 0 0, .slice none 0 0] 25 (0, 0))]) ⟨agr, hO, fr⟩ ?_
    refine fun X4 => fun lD => fun H hX4 σ ww => d2 fun hag hO hB => ?_
    refine Go1.keep _ hag ?_
    revert hO; repeat (rename Owns _ _ _ _ => q; clear q)
    intro hO; repeat (rename Sq _ _ _ _ _ _ => q; clear q)
    refine au ?_
    refine scm H (fun jj H => ?_) fun jj H => ?_
    ·refine au ?_
     obtain ⟨gz, H⟩ := H
     obtain ⟨ft, H⟩ := H
     refine zo (J02 Try.underlying31 ti3 rfl rfl gz ft (absurd ft (by omega))) ?_
     exact absurd ft (by omega)
    refine au ?_
    refine zs (J0g (vs := [.int .i64 (0 : Int), .int .i64 (0 : Int), .slice none 0 0, .slice none 0 0]) (i := 0) 1 hO rfl rfl Try.underlying25 rfl ti25 rfl) ?_
    refine au ?_
    refine sba 2 hO fun AF s hO => ?_
    refine au ?_
    refine sfz 0 hO fun s hO sY ta => ?_
    refine Go1.retC2 Try.func109 rfl rfl (J01 (vs := [.int .i64 (0 : Int), .int .i64 (0 : Int), .slice none 0 0, .slice none 0 0]) 1 hO rfl rfl Try.underlying25 rfl ti25) ⟨((⟨(0 : Int), (0 : Int), ([] : List Bool), ([] : List (List Int))⟩ : DFA)), _, _, _, _, _, _, _, ?_, frs, (ISl.null _ _ _), (ISl.null _ _ _), sY.r, H⟩
    exact (congrArg (fun l => Value.tuple (List.toArray l)) (J03 rfl (J03 (congrArg (fun nn => Value.slice p99 nn d.Final.length) ta) rfl)))
   refine au ?_
   refine sfz 0 hO fun s hO tc te => ?_
   have zz := J1Y (r := Rp.sl (Rp.int .i64)) (n := 1) (parts := [(0, .slice p60 d.Letters.toNat d.Letters.toNat)]) (vs := [.slice p60 d.Letters.toNat d.Letters.toNat]) (xs := [lR]) rfl Try.underlying23 ti31 hO (by decide) (by kernel_rfl) (Els.cons rfl ⟨p60, d.Letters.toNat, congrArg some (congrArg (fun nn => Value.slice p60 nn d.Letters.toNat) te), tc⟩ (Els.nil _ _ _) (by simp [mx])) rfl
   obtain ⟨lU, AG, fH, kl, zS, jk⟩ := zz
   refine zg (jk rfl) ?_
   refine nst fH fun s hO => ?_
   refine sfzR 0 hO kl.u fun s hO tf tg => ?_
   obtain ⟨wx, H⟩ := H
   have zz := oapp Try.underlying23 ti31 rfl 0 hO rfl dt.u tf tg wx (by decide)
   obtain ⟨AH, km, kn, nQ, o3, nS, o4⟩ := zz
   dsimp only [sS, sZ] at nS
   refine zg (o4 (by exact rfl) (by exact rfl)) ?_
   refine nst o3 fun s hO => ?_
   refine au ?_
   refine sbs 2 hO fun AI s hO => ?_
   refine au ?_
   refine Go1.drawT (ok := fun _ => True) (CSv.tr [(some ⟨B34, 2, none⟩)]) [6, 8] 9 (.qp 0 (.qs 1 (.qp 2 (.qp 3 (.alt 4 (.alt 5 (.alt 6 (.qp 7 (.alt 8 .nil .fin)) .fin) .fin) .fin))))) mixed (by kernel_rfl) ?_
   intro ko tj
   refine sm hO tj fun s hO => ?_
   refine au ?_
   refine GoT.stable rfl (loadV (.head _) rfl (J4u 2 hO rfl rfl) Try.underlying22 rfl rfl) rfl rfl ?_
   refine au ?_
   skip
   refine GoT.inl (vs := [.int .i64 (ix de (dg : Int))]) (caps := [.pointer (some ⟨B2, 0, none⟩)]) rfl rfl rfl body141 Try.func141 rfl Try.ntmps141 rfl rfl rfl ?_
   intro RhR140 hR140
   have hOs141 := hO
   have hBs142 := (fr : Fr (bl []) w0 _ ko)
   have hB := Fr.refl (bl [.row 31 1 km (n48 + 1) kn nQ, t1 Fl.bool 4 p50 n52 c51 d_49, .blk B34 (.cells #[.int .i64 d.Letters, .int .i64 (0 : Int), .slice p50 n52 c51, .slice km (n48 + 1) kn] 25 (0, 0)), t1 Fl.i 3 p66 n68 c67 d_65, .any (mapE (fun a : Int => Value.int .i64 a) (fun a : Int => Value.int .i64 a) B19 fA), .blk B15 (.cells #[.slice p66 n68 c67, .map (some B19)] 188 (0, 0)), .blk B12 (.cells #[.int .i64 (0 : Int), .int .i64 (0 : Int), .slice none 0 0, .slice none 0 0] 25 (0, 0)), .blk B5 (.cells #[.int .i64 (0 : Int), .int .i64 (0 : Int), .slice none 0 0, .slice none 0 0] 25 (0, 0)), .blk B2 (.cells #[.int .i64 d.Letters, .int .i64 d.Start, .slice aa d.Final.length ad, .slice af d.Next.length ag] 25 (0, 0))]) ko
   refine au ?_
   refine sxl hO aO.u H.1 H.2.1 ?_
   refine au ?_
   refine Go1.ret1V Try.func141 rfl (show _ = .bool (ix d.Final (ix de (dg : Int))) from rfl) ?_
   refine hR140 _ _ (CSv.cons (cs_eq (J4u 2 hOs141 rfl rfl) (J4u 2 hO rfl rfl)) (CSv.nil _ _)) ?_
   replace hB := hBs142.trans (fr : Fr (bl [.row 31 1 km (n48 + 1) kn nQ, t1 Fl.bool 4 p50 n52 c51 d_49, .blk B34 (.cells #[.int .i64 d.Letters, .int .i64 (0 : Int), .slice p50 n52 c51, .slice km (n48 + 1) kn] 25 (0, 0)), t1 Fl.i 3 p66 n68 c67 d_65, .any (mapE (fun a : Int => Value.int .i64 a) (fun a : Int => Value.int .i64 a) B19 fA), .blk B15 (.cells #[.slice p66 n68 c67, .map (some B19)] 188 (0, 0)), .blk B12 (.cells #[.int .i64 (0 : Int), .int .i64 (0 : Int), .slice none 0 0, .slice none 0 0] 25 (0, 0)), .blk B5 (.cells #[.int .i64 (0 : Int), .int .i64 (0 : Int), .slice none 0 0, .slice none 0 0] 25 (0, 0)), .blk B2 (.cells #[.int .i64 d.Letters, .int .i64 d.Start, .slice aa d.Final.length ad, .slice af d.Next.length ag] 25 (0, 0))]) ko _ ko)
   replace H := H.2.2
   skip
   refine sbuQ Fl.bool 4 [ix d.Final (ix de (dg : Int))] hO (fun AJ AK s hO => ?_) (g := fun _ _ _ hv _ hst h => GoT.step rfl hv (CSv.cons (cs_eq (J4u 2 hO rfl rfl) (J4u 3 hst.own rfl rfl)) (CSv.nil _ _)) rfl rfl h)
   skip
   refine sfz 0 hO fun s hO tm zT => ?_
   refine sap 1 hO tm H fun AM AO AP s hO => ?_
   refine au ?_
   replace H := H.2
   skip
   refine sbs 2 hO fun wy s hO => ?_
   refine au ?_
   obtain ⟨o5, H⟩ := H
   refine zo (J0e rfl rfl (wrap_i64 o5)) ?_
   refine au ?_
   exact hX1 _ H _ _ ⟨_, _, _, _, _, _, _, _, _, _, agr, hO, nS.u, fr⟩
  refine au ?_
  refine Go1.drawT (ok := fun _ => True) Same.tr [3] 6 (.qs 0 (.qp 1 (.alt 2 (.alt 3 (.qp 4 (.qp 5 .nil)) .fin) (.alt 3 (.alt 2 (.qp 4 (.qp 5 .nil)) .fin) .fin)))) mixed (by kernel_rfl) ?_
  intro o6 tn
  refine sm hO tn fun s hO => ?_
  refine GoT.stable rfl (J0g (vs := [.int .i64 d.Letters, .int .i64 (0 : Int), .slice p50 n52 c51, .slice p46 n48 c47]) (i := 0) 2 hO rfl rfl Try.underlying25 rfl ti25 rfl) rfl rfl ?_
  refine au ?_
  refine GoT.both ?_ ?_
  ·skip
   replace H := H.1
   refine sbl 5 ?_
   skip
   refine sba 6 hO fun o7 s hO => ?_
   refine au ?_
   refine Go1.retC3V Try.func139 rfl rfl (J01 (vs := [.int .i64 d.Letters, .int .i64 (0 : Int), .slice p50 n52 c51, .slice p46 n48 c47]) 6 hO rfl rfl Try.underlying25 rfl ti25) (show _ = .slice p54 n56 c55 from rfl) (show _ = .int .i64 (0 : Int) from rfl) ?_
   refine hR10 _ _ ?_
   refine au ?_
   refine sal hO fun wz B157 s hO => ?_
   refine sba 0 hO fun AQ s hO => ?_
   refine au ?_
   refine sln0 ?_
   refine smk Fl.i (H aO.bd) hO fun wA iB s hO => ?_
   refine au ?_
   refine sln1 0 hO ?_
   refine au ?_
   refine sdr [4, 5, 5, 5, 6] hO fun s hO => ?_
   refine lw (H aO.bd).2.2 (fun (lE, number5_165) σ w => (fun Z => agrees σ [(2, .pointer (some ⟨B5, 0, none⟩)), (4, .pointer (some ⟨B157, 0, none⟩)), (5, .slice p54 n56 c55), (7, .slice iB d.Final.length d.Final.length), (31, .int .i64 ((List.replicate d.Final.length ((0 : Int))).length : Int)), (32, .int .i64 (lE : Int))] ∧ Owns w0.heap.size w Z A ∧ Els (Rp.sl (Rp.int .i64)) (bl Z ++ A) w eg d_43 ∧ Fr (bl []) w0 (bl Z) w) [t1 Fl.i 3 iB d.Final.length d.Final.length number5_165, .blk B157 (.cells #[.int .i64 d.Letters, .int .i64 (0 : Int), .slice p50 n52 c51, .slice p46 n48 c47] 25 (0, 0)), .row 31 1 p46 n48 c47 eg, t1 Fl.bool 4 p50 n52 c51 d_49, t1 Fl.i 3 p54 n56 c55 de, .blk B5 (.cells #[.int .i64 (0 : Int), .int .i64 (0 : Int), .slice none 0 0, .slice none 0 0] 25 (0, 0))]) ⟨agr, hO, dt.u, fr⟩ ?_
   refine fun X5 => p1 fun lE number5_165 => fun H hX5 σ wB => d3 fun hag hO dt hB => ?_
   dsimp only at H
   refine Go1.keep _ hag ?_
   revert hO; repeat (rename Owns _ _ _ _ => q; clear q)
   intro hO; repeat (rename Sq _ _ _ _ _ _ => q; clear q)
   refine au ?_
   refine scm H (fun kq H => ?_) fun kq H => ?_
   ·refine au ?_
    refine six1 0 hO H.1 H.2.1 ?_
    refine sst (u := (-1 : Int)) 0 hO H.1 H.2.1 fun o8 s hO => ?_
    refine au ?_
    have wC := H.1
    have wD := H.2.1
    replace H := H.2.2
    obtain ⟨lV, H⟩ := H
    refine zo (J0e rfl rfl (wrap_i64 lV)) ?_
    refine au ?_
    exact hX5 _ H _ _ ⟨agr, hO, dt.u, fr⟩
   refine au ?_
   refine sln1 4 hO ?_
   refine au ?_
   refine lw H (fun (jl, number6_173) σ w => (fun Z => agrees σ [(2, .pointer (some ⟨B5, 0, none⟩)), (4, .pointer (some ⟨B157, 0, none⟩)), (7, .slice iB d.Final.length d.Final.length), (39, .slice p54 n56 c55), (40, .int .i64 (de.length : Int)), (41, .int .i64 (jl : Int))] ∧ Owns w0.heap.size w Z A ∧ Els (Rp.sl (Rp.int .i64)) (bl Z ++ A) w eg d_43 ∧ Fr (bl []) w0 (bl Z) w) [t1 Fl.i 3 iB d.Final.length d.Final.length number6_173, .blk B157 (.cells #[.int .i64 d.Letters, .int .i64 (0 : Int), .slice p50 n52 c51, .slice p46 n48 c47] 25 (0, 0)), .row 31 1 p46 n48 c47 eg, t1 Fl.bool 4 p50 n52 c51 d_49, t1 Fl.i 3 p54 n56 c55 de, .blk B5 (.cells #[.int .i64 (0 : Int), .int .i64 (0 : Int), .slice none 0 0, .slice none 0 0] 25 (0, 0))]) ⟨agr, hO, dt.u, fr⟩ ?_
   refine fun X6 => p1 fun jl number6_173 => fun H hX6 σ lW => d3 fun hag hO dt hB => ?_
   dsimp only at H
   refine Go1.keep _ hag ?_
   revert hO; repeat (rename Owns _ _ _ _ => q; clear q)
   intro hO; repeat (rename Sq _ _ _ _ _ _ => q; clear q)
   refine au ?_
   refine scm H (fun o9 H => ?_) fun o9 H => ?_
   ·refine au ?_
    refine sxl1 4 hO H.1 H.2.1 ?_
    refine au ?_
    refine six1 0 hO H.2.2.1 H.2.2.2.1 ?_
    refine sst (u := (jl : Int)) 0 hO H.2.2.1 H.2.2.2.1 fun wE s hO => ?_
    refine au ?_
    refine sinc (natbd o9 (t1b 4 hO)) ?_
    refine au ?_
    exact hX6 _ H.2.2.2.2 _ _ ⟨agr, hO, dt.u, fr⟩
   refine au ?_
   refine zs (J0g (vs := [.int .i64 d.Letters, .int .i64 (0 : Int), .slice p50 n52 c51, .slice p46 n48 c47]) (i := 0) 1 hO rfl rfl Try.underlying25 rfl ti25 rfl) ?_
   refine au ?_
   refine sba 5 hO fun wF s hO => ?_
   refine au ?_
   refine sfz 3 hO fun s hO tp tq => ?_
   refine sfzR 2 hO dt.u fun s hO gF kr => ?_
   refine sfz 0 hO fun s hO tt tu => ?_
   refine Go1.retC2 Try.func109 rfl rfl (J01 (vs := [.int .i64 d.Letters, .int .i64 (0 : Int), .slice p50 n52 c51, .slice p46 n48 c47]) 2 hO rfl rfl Try.underlying25 rfl ti25) ⟨((⟨d.Letters, (0 : Int), d_49, d_43⟩ : DFA)), _, _, _, _, _, _, _, ?_, frs, tp.r, gF.r, tt.r, H⟩
   exact (congrArg (fun l => Value.tuple (List.toArray l)) (J03 (congrArg (fun l => Value.agg (List.toArray l)) (J03 rfl (J03 rfl (J03 (congrArg (fun nn => Value.slice p50 nn c51) tq) (J03 (congrArg (fun nn => Value.slice p46 nn c47) kr) rfl))))) (J03 (congrArg (fun nn => Value.slice iB nn d.Final.length) tu) rfl)))
  replace H := H.2
  refine sba 6 hO fun pc s hO => ?_
  skip
  refine sbl 5 ?_
  refine au ?_
  refine Go1.retC3V Try.func139 rfl rfl (J01 (vs := [.int .i64 d.Letters, .int .i64 (0 : Int), .slice p50 n52 c51, .slice p46 n48 c47]) 6 hO rfl rfl Try.underlying25 rfl ti25) (show _ = .slice p54 n56 c55 from rfl) (show _ = .int .i64 (0 : Int) from rfl) ?_
  refine hR10 _ _ ?_
  refine au ?_
  refine sal hO fun pe B185 s hO => ?_
  refine sba 0 hO fun AR s hO => ?_
  refine au ?_
  refine sln0 ?_
  refine smk Fl.i (H aO.bd) hO fun wG jm s hO => ?_
  refine au ?_
  refine sln1 0 hO ?_
  refine au ?_
  refine sdr [4, 5, 5, 5, 6] hO fun s hO => ?_
  refine lw (H aO.bd).2.2 (fun (lF, number7_193) σ w => (fun Z => agrees σ [(2, .pointer (some ⟨B5, 0, none⟩)), (4, .pointer (some ⟨B185, 0, none⟩)), (5, .slice p54 n56 c55), (7, .slice jm d.Final.length d.Final.length), (31, .int .i64 ((List.replicate d.Final.length ((0 : Int))).length : Int)), (32, .int .i64 (lF : Int))] ∧ Owns w0.heap.size w Z A ∧ Els (Rp.sl (Rp.int .i64)) (bl Z ++ A) w eg d_43 ∧ Fr (bl []) w0 (bl Z) w) [t1 Fl.i 3 jm d.Final.length d.Final.length number7_193, .blk B185 (.cells #[.int .i64 d.Letters, .int .i64 (0 : Int), .slice p50 n52 c51, .slice p46 n48 c47] 25 (0, 0)), .row 31 1 p46 n48 c47 eg, t1 Fl.bool 4 p50 n52 c51 d_49, t1 Fl.i 3 p54 n56 c55 de, .blk B5 (.cells #[.int .i64 (0 : Int), .int .i64 (0 : Int), .slice none 0 0, .slice none 0 0] 25 (0, 0))]) ⟨agr, hO, dt.u, fr⟩ ?_
  refine fun X7 => p1 fun lF number7_193 => fun H hX7 σ wH => d3 fun hag hO dt hB => ?_
  dsimp only at H
  refine Go1.keep _ hag ?_
  revert hO; repeat (rename Owns _ _ _ _ => q; clear q)
  intro hO; repeat (rename Sq _ _ _ _ _ _ => q; clear q)
  refine au ?_
  refine scm H (fun pg H => ?_) fun pg H => ?_
  ·refine au ?_
   refine six1 0 hO H.1 H.2.1 ?_
   refine sst (u := (-1 : Int)) 0 hO H.1 H.2.1 fun wI s hO => ?_
   refine au ?_
   have ph := H.1
   have wJ := H.2.1
   replace H := H.2.2
   obtain ⟨ks, H⟩ := H
   refine zo (J0e rfl rfl (wrap_i64 ks)) ?_
   refine au ?_
   exact hX7 _ H _ _ ⟨agr, hO, dt.u, fr⟩
  refine au ?_
  refine sln1 4 hO ?_
  refine au ?_
  refine lw H (fun (jo, number8_201) σ w => (fun Z => agrees σ [(2, .pointer (some ⟨B5, 0, none⟩)), (4, .pointer (some ⟨B185, 0, none⟩)), (7, .slice jm d.Final.length d.Final.length), (39, .slice p54 n56 c55), (40, .int .i64 (de.length : Int)), (41, .int .i64 (jo : Int))] ∧ Owns w0.heap.size w Z A ∧ Els (Rp.sl (Rp.int .i64)) (bl Z ++ A) w eg d_43 ∧ Fr (bl []) w0 (bl Z) w) [t1 Fl.i 3 jm d.Final.length d.Final.length number8_201, .blk B185 (.cells #[.int .i64 d.Letters, .int .i64 (0 : Int), .slice p50 n52 c51, .slice p46 n48 c47] 25 (0, 0)), .row 31 1 p46 n48 c47 eg, t1 Fl.bool 4 p50 n52 c51 d_49, t1 Fl.i 3 p54 n56 c55 de, .blk B5 (.cells #[.int .i64 (0 : Int), .int .i64 (0 : Int), .slice none 0 0, .slice none 0 0] 25 (0, 0))]) ⟨agr, hO, dt.u, fr⟩ ?_
  refine fun X8 => p1 fun jo number8_201 => fun H hX8 σ wK => d3 fun hag hO dt hB => ?_
  dsimp only at H
  refine Go1.keep _ hag ?_
  revert hO; repeat (rename Owns _ _ _ _ => q; clear q)
  intro hO; repeat (rename Sq _ _ _ _ _ _ => q; clear q)
  refine au ?_
  refine scm H (fun pk H => ?_) fun pk H => ?_
  ·refine au ?_
   refine sxl1 4 hO H.1 H.2.1 ?_
   refine au ?_
   refine six1 0 hO H.2.2.1 H.2.2.2.1 ?_
   refine sst (u := (jo : Int)) 0 hO H.2.2.1 H.2.2.2.1 fun wL s hO => ?_
   refine au ?_
   refine sinc (natbd pk (t1b 4 hO)) ?_
   refine au ?_
   exact hX8 _ H.2.2.2.2 _ _ ⟨agr, hO, dt.u, fr⟩
  refine au ?_
  refine zs (J0g (vs := [.int .i64 d.Letters, .int .i64 (0 : Int), .slice p50 n52 c51, .slice p46 n48 c47]) (i := 0) 1 hO rfl rfl Try.underlying25 rfl ti25 rfl) ?_
  refine au ?_
  refine sba 5 hO fun AT s hO => ?_
  refine au ?_
  refine sfz 3 hO fun s hO tv tw => ?_
  refine sfzR 2 hO dt.u fun s hO tx tz => ?_
  refine sfz 0 hO fun s hO tA tB => ?_
  refine Go1.retC2 Try.func109 rfl rfl (J01 (vs := [.int .i64 d.Letters, .int .i64 (0 : Int), .slice p50 n52 c51, .slice p46 n48 c47]) 2 hO rfl rfl Try.underlying25 rfl ti25) ⟨((⟨d.Letters, (0 : Int), d_49, d_43⟩ : DFA)), _, _, _, _, _, _, _, ?_, frs, tv.r, tx.r, tA.r, H⟩
  exact (congrArg (fun l => Value.tuple (List.toArray l)) (J03 (congrArg (fun l => Value.agg (List.toArray l)) (J03 rfl (J03 rfl (J03 (congrArg (fun nn => Value.slice p50 nn c51) tw) (J03 (congrArg (fun nn => Value.slice p46 nn c47) tz) rfl))))) (J03 (congrArg (fun nn => Value.slice jm nn d.Final.length) tB) rfl)))
 refine au ?_
 refine zo (J0c Try.underlying25 ti25 (pl := [(0, 1), (1, 1), (2, 1), (3, 1)]) (vs := []) (cs := #[.int .i64 (0 : Int), .int .i64 (0 : Int), .slice none 0 0, .slice none 0 0]) (by kernel_rfl) rfl (by kernel_rfl)) ?_
 refine sba 0 hO fun AU s hO => ?_
 refine au ?_
 refine Go1.retC2 Try.func109 rfl rfl (J01 (vs := [.int .i64 (0 : Int), .int .i64 (0 : Int), .slice none 0 0, .slice none 0 0]) 0 hO rfl rfl Try.underlying25 rfl ti25) ⟨((⟨(0 : Int), (0 : Int), ([] : List Bool), ([] : List (List Int))⟩ : DFA)), _, _, _, _, _, _, _, ?_, frs, (ISl.null _ _ _), (ISl.null _ _ _), (ISl.null _ _ _), H⟩
 exact rfl
theorem body110 : Body Try.prog 110 := ⟨Try.f110, Try.func110, rfl, by kernel_rfl⟩
theorem J2S {A : List Nat} {w0 : World} {aS : Option Addr} {aT : Nat} {aY : Option Addr} {a8 : Nat} {a0 : DFA} (hA : ∀ b ∈ A, b < w0.heap.size) (b7 : ISl (Rp.bool) A w0 aS aT a0.Final) (cQ : ISl (Rp.sl (Rp.int .i64)) A w0 aY a8 a0.Next) {K : List Int → Prop} (H : J0z a0 K) :
    CallsV Try.prog 110 #[.agg #[.int .i64 a0.Letters, .int .i64 a0.Start, .slice aS a0.Final.length aT, .slice aY a0.Next.length a8]] w0 (fun v w' => ∃ (r0 : List Int), ∃ (cC : Option Addr), ∃ (cD : Nat), v = .slice cC r0.length cD ∧ Same w0 w' ∧ ISl (Rp.int .i64) A w' cC cD r0 ∧ K r0) := by
 refine CallsV.of (l := [.agg #[.int .i64 a0.Letters, .int .i64 a0.Start, .slice aS a0.Final.length aT, .slice aY a0.Next.length a8]]) Try.func110 rfl Try.ntmps110 rfl ?_
 have hO := Owns.start hA
 have hB := Fr.refl (bl []) w0
 unfold J0z at H
 refine au ?_
 refine sbx hO fun w1 B2 s hO => ?_
 refine au ?_
 refine zs (J0g (vs := [.int .i64 a0.Letters, .int .i64 a0.Start, .slice aS a0.Final.length aT, .slice aY a0.Next.length a8]) (i := 0) 0 hO rfl rfl Try.underlying25 rfl ti25 rfl) ?_
 refine zcr (J00 body61 rfl (J0s hO.lt b7.u cQ.u H)) fun _ w5 => e1 fun r4 => sc0 hO fun s hO => fun H => ?_
 refine scm H (fun h6 H => ?_) fun h6 H => ?_
 ·refine au ?_
  refine sln0 ?_
  refine smk Fl.i (H b7.bd) hO fun w7 p8 s hO => ?_
  refine au ?_
  refine sln0 ?_
  refine au ?_
  refine lw (H b7.bd).2.2 (fun (k1_11, k1_12, d_13) σ w => (fun Z => agrees σ [(1, .pointer (some ⟨B2, 0, none⟩)), (3, .slice p8 a0.Final.length a0.Final.length), (4, .int .i64 k1_11), (24, .slice aS a0.Final.length aT), (25, .int .i64 (a0.Final.length : Int)), (26, .int .i64 (k1_12 : Int))] ∧ Owns w0.heap.size w Z A ∧ Fr (bl []) w0 (bl Z) w) [t1 Fl.i 3 p8 a0.Final.length a0.Final.length d_13, .blk B2 (.cells #[.int .i64 a0.Letters, .int .i64 a0.Start, .slice aS a0.Final.length aT, .slice aY a0.Next.length a8] 25 (0, 0))]) ⟨agr, hO, fr⟩ ?_
  refine fun X1 => p2 fun k1_11 k1_12 d_13 => fun H hX1 σ w10 => d2 fun hag hO hB => ?_
  dsimp only at H
  refine Go1.keep _ hag ?_
  revert hO; repeat (rename Owns _ _ _ _ => q; clear q)
  intro hO; repeat (rename Sq _ _ _ _ _ _ => q; clear q)
  refine au ?_
  refine scm H (fun h14 H => ?_) fun h14 H => ?_
  ·refine au ?_
   have h15 := H.1
   have h16 := H.2.1
   refine sxb hO b7.u H.1 H.2.1 H.2.2 (fun h17 H => ?_) fun h17 H => ?_
   ·refine au ?_
    have h18 := H.1
    have h19 := H.2.1
    refine sxb hO b7.u H.1 H.2.1 H.2.2 (fun h20 H => ?_) fun h20 H => ?_
    ·refine zo (J4Q Try.underlying4 rfl rfl) ?_
     refine au ?_
     refine sinc (natbd h14 b7.bd) ?_
     refine au ?_
     exact hX1 _ H _ _ ⟨agr, hO, fr⟩
    refine zo (J4Q Try.underlying4 rfl rfl) ?_
    refine au ?_
    refine six1 0 hO H.1 H.2.1 ?_
    refine sst (u := (1 : Int)) 0 hO H.1 H.2.1 fun w21 s hO => ?_
    refine au ?_
    refine sinc (natbd h14 b7.bd) ?_
    refine au ?_
    exact hX1 _ H.2.2 _ _ ⟨agr, hO, fr⟩
   refine au ?_
   have h22 := H.1
   have h23 := H.2.1
   refine sxb hO b7.u H.1 H.2.1 H.2.2 (fun h24 H => ?_) fun h24 H => ?_
   ·refine zo (J4Q Try.underlying4 rfl rfl) ?_
    refine au ?_
    refine six1 0 hO H.1 H.2.1 ?_
    refine sst (u := (1 : Int)) 0 hO H.1 H.2.1 fun w25 s hO => ?_
    refine au ?_
    refine sinc (natbd h14 b7.bd) ?_
    refine au ?_
    exact hX1 _ H.2.2 _ _ ⟨agr, hO, fr⟩
   refine zo (J4Q Try.underlying4 rfl rfl) ?_
   refine au ?_
   refine sinc (natbd h14 b7.bd) ?_
   refine au ?_
   exact hX1 _ H _ _ ⟨agr, hO, fr⟩
  refine au ?_
  refine sfz 0 hO fun s hO iC wM => ?_
  refine lw H (fun (cM, k2_33) σ w => ∃ p30 c31, (fun Z => agrees σ [(1, .pointer (some ⟨B2, 0, none⟩)), (3, .slice p30 cM.length c31), (4, .int .i64 k2_33)] ∧ Owns w0.heap.size w Z A ∧ ISl (Rp.int .i64) (bl Z ++ A) w p30 c31 cM ∧ Fr (bl []) w0 (bl Z) w) [.blk B2 (.cells #[.int .i64 a0.Letters, .int .i64 a0.Start, .slice aS a0.Final.length aT, .slice aY a0.Next.length a8] 25 (0, 0))]) ⟨_, _, ⟨rfl, (congrArg (fun nn => Value.slice p8 nn a0.Final.length) wM), rfl, trivial⟩, hO, iC, fr⟩ ?_
  refine fun X2 => p1 fun cM k2_33 => fun H hX2 σ w28 => e2 fun p30 c31 => d3 fun hag hO d9 hB => ?_
  dsimp only at H
  refine Go1.keep _ hag ?_
  revert hO; repeat (rename Owns _ _ _ _ => q; clear q)
  intro hO; repeat (rename Sq _ _ _ _ _ _ => q; clear q)
  refine au ?_
  have zz := omakeMap (fun a : AN 7 => Value.agg (icells .i64 a.1).toArray) (fun a : Int => Value.int .i64 a) hO
  obtain ⟨w34, B35, tC, kt, tD⟩ := zz
  refine zg tD ?_
  refine nst tC fun s hO => ?_
  refine au ?_
  refine sln0 ?_
  refine smk Fl.i (H d9.bd) hO fun w40 p41 s hO => ?_
  refine au ?_
  refine sln0 ?_
  refine au ?_
  refine lw ((H d9.bd).2.2 cQ.bd) (fun (dS, lX, fB) σ w => (fun Z => agrees σ [(1, .pointer (some ⟨B2, 0, none⟩)), (3, .slice p30 cM.length c31), (4, .int .i64 k2_33), (7, .map (some B35)), (8, .slice p41 cM.length cM.length), (46, .slice aY a0.Next.length a8), (47, .int .i64 (a0.Next.length : Int)), (48, .int .i64 (dS : Int))] ∧ Owns w0.heap.size w Z A ∧ ISl (Rp.int .i64) (bl Z ++ A) w p30 c31 cM ∧ Fr (bl []) w0 (bl Z) w) [t1 Fl.i 3 p41 cM.length cM.length lX, .any (mapE (fun a : AN 7 => Value.agg (icells .i64 a.1).toArray) (fun a : Int => Value.int .i64 a) B35 fB), .blk B2 (.cells #[.int .i64 a0.Letters, .int .i64 a0.Start, .slice aS a0.Final.length aT, .slice aY a0.Next.length a8] 25 (0, 0))]) ⟨agr, hO, d9.u, fr⟩ ?_
  refine fun X3 => p2 fun dS lX fB => fun H hX3 σ w43 => d3 fun hag hO d9 hB => ?_
  dsimp only at H
  refine Go1.keep _ hag ?_
  revert hO; repeat (rename Owns _ _ _ _ => q; clear q)
  intro hO; repeat (rename Sq _ _ _ _ _ _ => q; clear q)
  refine au ?_
  refine scm H (fun h47 H => ?_) fun h47 H => ?_
  ·refine au ?_
   refine sxls hO cQ.u H.1 H.2.1 fun p48 c49 fI => ?_
   refine au ?_
   refine sxl hO d9 H.2.2.1 H.2.2.2.1 ?_
   refine zo (J5T Try.underlying166 ti166 ti3 (vs := [(0, .int .i64 (ix cM (dS : Int)))]) (cs := #[.int .i64 (ix cM (dS : Int)), .int .i64 (0 : Int), .int .i64 (0 : Int), .int .i64 (0 : Int), .int .i64 (0 : Int), .int .i64 (0 : Int), .int .i64 (0 : Int)]) rfl (by kernel_rfl)) ?_
   have zz := oalloc (t := 166) (cs := (icells .i64 (([(0 : Int), (0 : Int), (0 : Int), (0 : Int), (0 : Int), (0 : Int), (0 : Int)] : List Int))).toArray) ti166 hO rfl
   obtain ⟨w51, B52, tE, po, ku⟩ := zz
   refine zg ku ?_
   refine nst tE fun s hO => ?_
   have h60 := H.1
   have h61 := H.2.1
   have h62 := H.2.2.1
   have h63 := H.2.2.2.1
   replace H := H.2.2.2.2
   obtain ⟨h64, H⟩ := H
   have zz := oarrStA (M := [(ix cM (dS : Int)), (0 : Int), (0 : Int), (0 : Int), (0 : Int), (0 : Int), (0 : Int)]) 0 hO rfl (by rw [h64]; rfl)
   obtain ⟨w57, kw, tF⟩ := zz
   refine zg (tF ti166 (by exact rfl) (by exact rfl)) ?_
   refine nst kw fun s hO => ?_
   refine au ?_
   refine sln0 ?_
   refine au ?_
   refine lw (H fI.bd) (fun (kx, y4_67) σ w => (fun Z => agrees σ [(1, .pointer (some ⟨B2, 0, none⟩)), (3, .slice p30 cM.length c31), (4, .int .i64 k2_33), (7, .map (some B35)), (8, .slice p41 cM.length cM.length), (9, .int .i64 (dS : Int)), (11, .pointer (some ⟨B52, 0, none⟩)), (46, .slice aY a0.Next.length a8), (47, .int .i64 (a0.Next.length : Int)), (48, .int .i64 (dS : Int)), (58, .slice p48 ((ix a0.Next (dS : Int)).length) c49), (59, .int .i64 ((ix a0.Next (dS : Int)).length : Int)), (60, .int .i64 (kx : Int))] ∧ Owns w0.heap.size w Z A ∧ ISl (Rp.int .i64) (bl Z ++ A) w p30 c31 cM ∧ ISl (Rp.int .i64) (bl Z ++ A) w p48 c49 (ix a0.Next (dS : Int)) ∧ Fr (bl []) w0 (bl Z) w) [.blk B52 (.cells (icells .i64 y4_67).toArray 166 (0, 0)), t1 Fl.i 3 p41 cM.length cM.length lX, .any (mapE (fun a : AN 7 => Value.agg (icells .i64 a.1).toArray) (fun a : Int => Value.int .i64 a) B35 fB), .blk B2 (.cells #[.int .i64 a0.Letters, .int .i64 a0.Start, .slice aS a0.Final.length aT, .slice aY a0.Next.length a8] 25 (0, 0))]) ⟨agr, hO, d9.u, fI.u, fr⟩ ?_
   refine fun X4 => p1 fun kx y4_67 => fun H hX4 σ w65 => d4 fun hag hO d9 fI hB => ?_
   dsimp only at H
   refine Go1.keep _ hag ?_
   revert hO; repeat (rename Owns _ _ _ _ => q; clear q)
   intro hO; repeat (rename Sq _ _ _ _ _ _ => q; clear q)
   refine au ?_
   refine scm H (fun h68 H => ?_) fun h68 H => ?_
   ·refine au ?_
    refine sxl hO fI H.1 H.2.1 ?_
    refine au ?_
    have h69 := H.1
    have h70 := H.2.1
    replace H := H.2.2
    obtain ⟨h71, H⟩ := H
    refine zo (J0e rfl rfl (wrap_i64 h71)) ?_
    refine au ?_
    refine sxl hO d9 H.1 H.2.1 ?_
    have h72 := H.1
    have h73 := H.2.1
    replace H := H.2.2
    obtain ⟨h74, H⟩ := H
    obtain ⟨h75, H⟩ := H
    obtain ⟨h76, H⟩ := H
    refine zo (J5N (n := 7) Try.underlying166 ti3 rfl rfl h75 h76) ?_
    have zz := oarrSt (v := (ix cM (ix (ix a0.Next (dS : Int)) (kx : Int)))) 0 hO rfl h75 (arrLt h74 h76)
    obtain ⟨w77, kz, kA⟩ := zz
    refine zg (kA Try.underlying3 rfl ti3 (by exact rfl) (by exact rfl)) ?_
    refine nst kz fun s hO => ?_
    refine au ?_
    refine sinc (natbd h68 fI.bd) ?_
    refine au ?_
    exact hX4 _ H _ _ ⟨agr, hO, d9.u, fI.u, fr⟩
   refine au ?_
   obtain ⟨h80, H⟩ := H
   refine zs (oarrLd 0 hO rfl h80 Try.underlying166 rfl ti166 rfl) ?_
   by_cases h81 : mhas fB ((toAN 7 y4_67)) = true
   ·refine zs (olookT (a := (toAN 7 y4_67)) (MK.arrN Try.underlying166 Try.underlying3 ti3) 2 hO rfl Try.underlying164 rfl rfl h81) ?_
    refine au ?_
    refine six1 1 hO (ifp h81 H).1 (ifp h81 H).2.1 ?_
    refine sst (u := (mgt fB ((toAN 7 y4_67)))) 1 hO (ifp h81 H).1 (ifp h81 H).2.1 fun w82 s hO => ?_
    refine au ?_
    refine sinc (natbd h47 cQ.bd) ?_
    refine au ?_
    refine sdr [0] hO fun s hO => ?_
    exact hX3 _ (ifp h81 H).2.2 _ _ ⟨agr, hO, d9.u, fr⟩
   refine zs (olookF (a := (toAN 7 y4_67)) (MK.arrN Try.underlying166 Try.underlying3 ti3) 2 hO rfl Try.underlying164 ti3 rfl rfl h81) ?_
   refine au ?_
   refine zs (omapLen 2 hO rfl Try.underlying164 rfl) ?_
   refine au ?_
   replace H := (ifn h81 H)
   obtain ⟨h83, H⟩ := H
   refine zs (oarrLd 0 hO rfl h83 Try.underlying166 rfl ti166 rfl) ?_
   refine au ?_
   have zz := omapUpd (MK.arrN Try.underlying166 Try.underlying3 ti3) 2 hO rfl Try.underlying164 (toAN 7 y4_67) (fB.length : Int)
   obtain ⟨w84, tG, tH⟩ := zz
   refine zg (tH (by exact rfl) (by exact rfl) (by exact rfl)) ?_
   refine nst tG fun s hO => ?_
   refine au ?_
   refine six1 1 hO H.1 H.2.1 ?_
   refine sst (u := (fB.length : Int)) 1 hO H.1 H.2.1 fun w87 s hO => ?_
   refine au ?_
   refine sinc (natbd h47 cQ.bd) ?_
   refine au ?_
   refine sdr [0] hO fun s hO => ?_
   exact hX3 _ H.2.2 _ _ ⟨agr, hO, d9.u, fr⟩
  refine au ?_
  refine zs (omapLen 1 hO rfl Try.underlying164 rfl) ?_
  refine au ?_
  refine scm H (fun h88 H => ?_) fun h88 H => ?_
  ·refine au ?_
   refine sfz 0 hO fun s hO lY wN => ?_
   refine Go1.ret1 Try.func110 rfl ⟨_, _, _, ?_, frs, lY.r, H⟩
   exact (congrArg (fun nn => Value.slice p41 nn cM.length) wN)
  refine au ?_
  refine zs (omapLen 1 hO rfl Try.underlying164 rfl) ?_
  refine au ?_
  refine sfz 0 hO fun s hO wO wP => ?_
  refine sdr [0] hO fun s hO => ?_
  exact hX2 _ H _ _ ⟨_, _, ⟨rfl, (congrArg (fun nn => Value.slice p41 nn cM.length) wP), rfl, trivial⟩, hO, wO.u, fr⟩
 refine au ?_
 refine Go1.ret1 Try.func110 rfl ⟨_, _, _, ?_, frs, (ISl.null _ _ _), H⟩
 exact rfl
theorem body66 : Body Try.prog 66 := ⟨Try.f66, Try.func66, rfl, by kernel_rfl⟩
theorem J2H {A : List Nat} {w0 : World} {aS : Option Addr} {aT : Nat} {aY : Option Addr} {a8 : Nat} {a0 : DFA} (hA : ∀ b ∈ A, b < w0.heap.size) (b7 : ISl (Rp.bool) A w0 aS aT a0.Final) (cQ : ISl (Rp.sl (Rp.int .i64)) A w0 aY a8 a0.Next) {K : DFA → List Int → Prop} (H : J0x a0 K) :
    CallsV Try.prog 66 #[.agg #[.int .i64 a0.Letters, .int .i64 a0.Start, .slice aS a0.Final.length aT, .slice aY a0.Next.length a8]] w0 (fun v w' => ∃ (r0 : DFA), ∃ (r1 : List Int), ∃ (cj : Option Addr), ∃ (ck : Nat), ∃ (cz : Option Addr), ∃ (cA : Nat), ∃ (jg : Option Addr), ∃ (jh : Nat), v = .tuple #[.agg #[.int .i64 r0.Letters, .int .i64 r0.Start, .slice cj r0.Final.length ck, .slice cz r0.Next.length cA], .slice jg r1.length jh] ∧ Same w0 w' ∧ ISl (Rp.bool) A w' cj ck r0.Final ∧ ISl (Rp.sl (Rp.int .i64)) A w' cz cA r0.Next ∧ ISl (Rp.int .i64) A w' jg jh r1 ∧ K r0 r1) := by
 refine CallsV.of (l := [.agg #[.int .i64 a0.Letters, .int .i64 a0.Start, .slice aS a0.Final.length aT, .slice aY a0.Next.length a8]]) Try.func66 rfl Try.ntmps66 rfl ?_
 have hO := Owns.start hA
 have hB := Fr.refl (bl []) w0
 unfold J0x at H
 refine au ?_
 refine sbx hO fun w1 B2 s hO => ?_
 refine sal hO fun w4 B5 s hO => ?_
 refine au ?_
 refine zs (J0g (vs := [.int .i64 a0.Letters, .int .i64 a0.Start, .slice aS a0.Final.length aT, .slice aY a0.Next.length a8]) (i := 0) 1 hO rfl rfl Try.underlying25 rfl ti25 rfl) ?_
 refine zcr (J00 body109 rfl (J3N hO.lt b7.u cQ.u H)) fun _ w9 => e4 fun r7 r8 dy dz => e4 fun dQ dR iD iE => sc0 hO fun s hO => d3 fun cW dh dA H => ?_
 refine au ?_
 refine sal hO fun w10 B11 s hO => ?_
 refine sba 0 hO fun w13 s hO => ?_
 refine au ?_
 refine zs (J0g (vs := [.int .i64 r7.Letters, .int .i64 r7.Start, .slice dy r7.Final.length dz, .slice dQ r7.Next.length dR]) (i := 0) 0 hO rfl rfl Try.underlying25 rfl ti25 rfl) ?_
 refine zcr (J00 body110 rfl (J2S hO.lt cW.u dh.u H)) fun _ w15 => e3 fun r14 cx cy => sc0 hO fun s hO => d1 fun di H => ?_
 refine au ?_
 refine zo (J0c Try.underlying25 ti25 (pl := [(0, 1), (1, 1), (2, 1), (3, 1)]) (vs := [(0, .int .i64 a0.Letters)]) (cs := #[.int .i64 a0.Letters, .int .i64 (0 : Int), .slice none 0 0, .slice none 0 0]) (by kernel_rfl) rfl (by kernel_rfl)) ?_
 refine sal hO fun w16 B17 s hO => ?_
 refine sba 0 hO fun w19 s hO => ?_
 refine au ?_
 refine sln0 ?_
 refine au ?_
 refine snil Fl.bool 4 hO fun s hO => ?_
 have ki := Stp.nil (e := 31) (r := 1) hO
 refine nst ki fun s hO => ?_
 have wQ := Els.nil (Rp.sl (Rp.int .i64)) (bl (.row 31 1 none 0 0 [] :: [t1 Fl.bool 4 none 0 0 (([] : List Bool)), .blk B17 (.cells #[.int .i64 a0.Letters, .int .i64 (0 : Int), .slice none 0 0, .slice none 0 0] 25 (0, 0)), .blk B11 (.cells #[.int .i64 r7.Letters, .int .i64 r7.Start, .slice dy r7.Final.length dz, .slice dQ r7.Next.length dR] 25 (0, 0)), .blk B5 (.cells #[.int .i64 (0 : Int), .int .i64 (0 : Int), .slice none 0 0, .slice none 0 0] 25 (0, 0)), .blk B2 (.cells #[.int .i64 a0.Letters, .int .i64 a0.Start, .slice aS a0.Final.length aT, .slice aY a0.Next.length a8] 25 (0, 0))]) ++ A) w19
 refine lw (H di.bd) (fun (k1_25, fC, d_32) σ w => ∃ n31 p29 c30 jp n35 p33 c34, (fun Z => agrees σ [(1, .pointer (some ⟨B2, 0, none⟩)), (2, .pointer (some ⟨B5, 0, none⟩)), (4, .pointer (some ⟨B11, 0, none⟩)), (5, .slice iD r8.length iE), (6, .slice cx r14.length cy), (7, .pointer (some ⟨B17, 0, none⟩)), (28, .slice cx r14.length cy), (29, .int .i64 (r14.length : Int)), (30, .int .i64 (k1_25 : Int))] ∧ Owns w0.heap.size w Z A ∧ Els (Rp.sl (Rp.int .i64)) (bl Z ++ A) w jp fC ∧ ISl (Rp.bool) (bl Z ++ A) w dy dz r7.Final ∧ ISl (Rp.sl (Rp.int .i64)) (bl Z ++ A) w dQ dR r7.Next ∧ ISl (Rp.int .i64) (bl Z ++ A) w iD iE r8 ∧ ISl (Rp.int .i64) (bl Z ++ A) w cx cy r14 ∧ Fr (bl []) w0 (bl Z) w) [.row 31 1 p29 n31 c30 jp, t1 Fl.bool 4 p33 n35 c34 d_32, .blk B17 (.cells #[.int .i64 a0.Letters, .int .i64 (0 : Int), .slice p33 n35 c34, .slice p29 n31 c30] 25 (0, 0)), .blk B11 (.cells #[.int .i64 r7.Letters, .int .i64 r7.Start, .slice dy r7.Final.length dz, .slice dQ r7.Next.length dR] 25 (0, 0)), .blk B5 (.cells #[.int .i64 (0 : Int), .int .i64 (0 : Int), .slice none 0 0, .slice none 0 0] 25 (0, 0)), .blk B2 (.cells #[.int .i64 a0.Letters, .int .i64 a0.Start, .slice aS a0.Final.length aT, .slice aY a0.Next.length a8] 25 (0, 0))]) ⟨_, _, _, _, _, _, _, agr, hO, wQ.u, cW.u, dh.u, dA.u, di.u, fr⟩ ?_
 refine fun X1 => p2 fun k1_25 fC d_32 => fun H hX1 σ w24 => e4 fun n31 p29 c30 jp => e3 fun n35 p33 c34 => d1 fun hag => d1 fun hO => d1 fun iG => d4 fun cW dh dA di hB => ?_
 dsimp only at H
 refine Go1.keep _ hag ?_
 revert hO; repeat (rename Owns _ _ _ _ => q; clear q)
 intro hO; repeat (rename Sq _ _ _ _ _ _ => q; clear q)
 refine au ?_
 refine scm H (fun h36 H => ?_) fun h36 H => ?_
 ·refine au ?_
  refine sxl hO di H.1 H.2.1 ?_
  refine au ?_
  refine sln1 1 hO ?_
  have h37 := H.1
  have h38 := H.2.1
  refine scm H.2.2 (fun h39 H => ?_) fun h39 H => ?_
  ·refine au ?_
   refine sinc (natbd h36 di.bd) ?_
   refine au ?_
   exact hX1 _ H _ _ ⟨_, _, _, _, _, _, _, agr, hO, iG, cW, dh, dA, di, fr⟩
  refine au ?_
  refine smk Fl.i H hO fun w40 p41 s hO => ?_
  refine au ?_
  refine sxls hO dh.u H.2.2.1 H.2.2.2.1 fun p43 c44 iH => ?_
  refine sln0 ?_
  refine au ?_
  refine lw (H.2.2.2.2 iH.bd) (fun (kB, d_48) σ w => (fun Z => agrees σ [(1, .pointer (some ⟨B2, 0, none⟩)), (2, .pointer (some ⟨B5, 0, none⟩)), (4, .pointer (some ⟨B11, 0, none⟩)), (5, .slice iD r8.length iE), (6, .slice cx r14.length cy), (7, .pointer (some ⟨B17, 0, none⟩)), (8, .int .i64 (k1_25 : Int)), (10, .slice p41 a0.Letters.toNat a0.Letters.toNat), (28, .slice cx r14.length cy), (29, .int .i64 (r14.length : Int)), (30, .int .i64 (k1_25 : Int)), (47, .slice p43 ((ix r7.Next (k1_25 : Int)).length) c44), (48, .int .i64 ((ix r7.Next (k1_25 : Int)).length : Int)), (49, .int .i64 (kB : Int))] ∧ Owns w0.heap.size w Z A ∧ Els (Rp.sl (Rp.int .i64)) (bl Z ++ A) w jp fC ∧ ISl (Rp.bool) (bl Z ++ A) w dy dz r7.Final ∧ ISl (Rp.sl (Rp.int .i64)) (bl Z ++ A) w dQ dR r7.Next ∧ ISl (Rp.int .i64) (bl Z ++ A) w iD iE r8 ∧ ISl (Rp.int .i64) (bl Z ++ A) w cx cy r14 ∧ ISl (Rp.int .i64) (bl Z ++ A) w p43 c44 (ix r7.Next (k1_25 : Int)) ∧ Fr (bl []) w0 (bl Z) w) [t1 Fl.i 3 p41 a0.Letters.toNat a0.Letters.toNat d_48, .row 31 1 p29 n31 c30 jp, t1 Fl.bool 4 p33 n35 c34 d_32, .blk B17 (.cells #[.int .i64 a0.Letters, .int .i64 (0 : Int), .slice p33 n35 c34, .slice p29 n31 c30] 25 (0, 0)), .blk B11 (.cells #[.int .i64 r7.Letters, .int .i64 r7.Start, .slice dy r7.Final.length dz, .slice dQ r7.Next.length dR] 25 (0, 0)), .blk B5 (.cells #[.int .i64 (0 : Int), .int .i64 (0 : Int), .slice none 0 0, .slice none 0 0] 25 (0, 0)), .blk B2 (.cells #[.int .i64 a0.Letters, .int .i64 a0.Start, .slice aS a0.Final.length aT, .slice aY a0.Next.length a8] 25 (0, 0))]) ⟨agr, hO, iG.u, cW.u, dh.u, dA.u, di.u, iH.u, fr⟩ ?_
  refine fun X2 => p1 fun kB d_48 => fun H hX2 σ w46 => d1 fun hag => d1 fun hO => d1 fun iG => d1 fun cW => d4 fun dh dA di iH hB => ?_
  dsimp only at H
  refine Go1.keep _ hag ?_
  revert hO; repeat (rename Owns _ _ _ _ => q; clear q)
  intro hO; repeat (rename Sq _ _ _ _ _ _ => q; clear q)
  refine au ?_
  refine scm H (fun h49 H => ?_) fun h49 H => ?_
  ·refine au ?_
   refine sxl hO iH H.1 H.2.1 ?_
   refine au ?_
   refine sxl hO di H.2.2.1 H.2.2.2.1 ?_
   refine six1 0 hO H.2.2.2.2.1 H.2.2.2.2.2.1 ?_
   refine sst (u := (ix r14 (ix (ix r7.Next (k1_25 : Int)) (kB : Int)))) 0 hO H.2.2.2.2.1 H.2.2.2.2.2.1 fun w50 s hO => ?_
   refine au ?_
   refine sinc (natbd h49 iH.bd) ?_
   refine au ?_
   exact hX2 _ H.2.2.2.2.2.2 _ _ ⟨agr, hO, iG.u, cW.u, dh.u, dA.u, di.u, iH.u, fr⟩
  refine au ?_
  refine drw 4 [(0, .pure), (1, .stable), (2, .pure), (3, .stable), (4, .pure), (5, .pure), (6, .stable), (7, .loud), (8, .last), (9, .pure), (10, .last)] hO fun w51 s hO => ?_
  refine au ?_
  refine sxl hO cW.u H.1 H.2.1 ?_
  refine sap1 (ix r7.Final (k1_25 : Int)) 2 hO H.2.2 fun _ w52 p53 c54 s hO => ?_
  refine au ?_
  refine sbs 3 hO fun w55 s hO => ?_
  refine au ?_
  refine sfz 0 hO fun s hO wR wS => ?_
  have zz := J1Y (r := Rp.sl (Rp.int .i64)) (n := 1) (parts := [(0, .slice p41 a0.Letters.toNat a0.Letters.toNat)]) (vs := [.slice p41 a0.Letters.toNat a0.Letters.toNat]) (xs := [d_48]) rfl Try.underlying23 ti31 hO (by decide) (by kernel_rfl) (Els.cons rfl ⟨p41, a0.Letters.toNat, congrArg some (congrArg (fun nn => Value.slice p41 nn a0.Letters.toNat) wS), wR.u⟩ (Els.nil _ _ _) (by simp [mx])) rfl
  obtain ⟨w58, p59, kC, l5, AV, tI⟩ := zz
  refine zg (tI rfl) ?_
  refine nst kC fun s hO => ?_
  refine sfzR 0 hO l5 fun s hO wT wU => ?_
  have h67 := H.1
  have h68 := H.2.1
  replace H := H.2.2.2
  obtain ⟨h69, H⟩ := H
  have zz := oapp Try.underlying23 ti31 rfl 0 hO rfl iG.u wT wU h69 (by decide)
  obtain ⟨w70, p71, c72, AW, tJ, pp, tK⟩ := zz
  dsimp only [sS, sZ] at pp
  refine zg (tK (by exact rfl) (by exact rfl)) ?_
  refine nst tJ fun s hO => ?_
  refine au ?_
  refine sbs 2 hO fun w78 s hO => ?_
  refine au ?_
  refine sinc (natbd h36 di.bd) ?_
  refine au ?_
  exact hX1 _ H _ _ ⟨_, _, _, _, _, _, _, agr, hO, pp.u, cW.u, dh.u, dA.u, di.u, fr⟩
 refine au ?_
 refine zs (J0g (vs := [.int .i64 a0.Letters, .int .i64 (0 : Int), .slice p33 n35 c34, .slice p29 n31 c30]) (i := 0) 2 hO rfl rfl Try.underlying25 rfl ti25 rfl) ?_
 refine sfz 1 hO fun s hO l7 l8 => ?_
 refine sfzR 0 hO iG.u fun s hO l9 ma => ?_
 refine zcr (J00 body109 (show ([.agg #[.int .i64 a0.Letters, .int .i64 (0 : Int), .slice p33 n35 c34, .slice p29 n31 c30]] : List Value) = [.agg #[.int .i64 a0.Letters, .int .i64 (0 : Int), .slice p33 d_32.length c34, .slice p29 fC.length c30]] from by rw [← l8, ← ma]) (J3N (d := (⟨a0.Letters, (0 : Int), d_32, fC⟩ : DFA)) hO.lt l7.u l9 H)) fun _ w85 => e4 fun r83 r84 en eo => e4 fun eI eK nT nU => sc0 hO fun s hO => d3 fun dF dT gG H => ?_
 refine au ?_
 refine sal hO fun w86 B87 s hO => ?_
 refine sba 0 hO fun w89 s hO => ?_
 refine au ?_
 refine sln0 ?_
 refine smk Fl.i (H dA.bd) hO fun w90 p91 s hO => ?_
 refine au ?_
 refine sln0 ?_
 refine au ?_
 refine sdr [2, 2, 3] hO fun s hO => ?_
 refine lw (H dA.bd).2.2 (fun (kD, pq) σ w => (fun Z => agrees σ [(2, .pointer (some ⟨B5, 0, none⟩)), (6, .slice cx r14.length cy), (13, .pointer (some ⟨B87, 0, none⟩)), (14, .slice nT r84.length nU), (15, .slice p91 r8.length r8.length), (87, .slice iD r8.length iE), (88, .int .i64 (r8.length : Int)), (89, .int .i64 (kD : Int))] ∧ Owns w0.heap.size w Z A ∧ ISl (Rp.int .i64) (bl Z ++ A) w iD iE r8 ∧ ISl (Rp.int .i64) (bl Z ++ A) w cx cy r14 ∧ ISl (Rp.bool) (bl Z ++ A) w en eo r83.Final ∧ ISl (Rp.sl (Rp.int .i64)) (bl Z ++ A) w eI eK r83.Next ∧ ISl (Rp.int .i64) (bl Z ++ A) w nT nU r84 ∧ Fr (bl []) w0 (bl Z) w) [t1 Fl.i 3 p91 r8.length r8.length pq, .blk B87 (.cells #[.int .i64 r83.Letters, .int .i64 r83.Start, .slice en r83.Final.length eo, .slice eI r83.Next.length eK] 25 (0, 0)), .blk B5 (.cells #[.int .i64 (0 : Int), .int .i64 (0 : Int), .slice none 0 0, .slice none 0 0] 25 (0, 0))]) ⟨agr, hO, dA.u, di.u, dF.u, dT.u, gG.u, fr⟩ ?_
 refine fun X3 => p1 fun kD pq => fun H hX3 σ w93 => d1 fun hag => d1 fun hO => d1 fun dA => d4 fun di dF dT gG hB => ?_
 dsimp only at H
 refine Go1.keep _ hag ?_
 revert hO; repeat (rename Owns _ _ _ _ => q; clear q)
 intro hO; repeat (rename Sq _ _ _ _ _ _ => q; clear q)
 refine au ?_
 refine scm H (fun h96 H => ?_) fun h96 H => ?_
 ·refine au ?_
  refine sxl hO dA H.1 H.2.1 ?_
  refine au ?_
  refine six1 0 hO H.2.2.1 H.2.2.2.1 ?_
  refine sst (u := (-1 : Int)) 0 hO H.2.2.1 H.2.2.2.1 fun w97 s hO => ?_
  refine au ?_
  have h98 := H.1
  have h99 := H.2.1
  have kE := H.2.2.1
  have pr := H.2.2.2.1
  refine scm H.2.2.2.2 (fun wV H => ?_) fun wV H => ?_
  ·refine au ?_
   refine sxl hO di.u H.1 H.2.1 ?_
   refine sxl hO gG.u H.2.2.1 H.2.2.2.1 ?_
   refine six1 0 hO H.2.2.2.2.1 H.2.2.2.2.2.1 ?_
   refine sst (u := (ix r84 (ix r14 (ix r8 (kD : Int))))) 0 hO H.2.2.2.2.1 H.2.2.2.2.2.1 fun pt s hO => ?_
   refine au ?_
   refine sinc (natbd h96 dA.bd) ?_
   refine au ?_
   exact hX3 _ H.2.2.2.2.2.2 _ _ ⟨agr, hO, dA.u, di.u, dF.u, dT.u, gG.u, fr⟩
  refine au ?_
  refine sinc (natbd h96 dA.bd) ?_
  refine au ?_
  exact hX3 _ H _ _ ⟨agr, hO, dA.u, di.u, dF.u, dT.u, gG.u, fr⟩
 refine au ?_
 refine zs (J0g (vs := [.int .i64 r83.Letters, .int .i64 r83.Start, .slice en r83.Final.length eo, .slice eI r83.Next.length eK]) (i := 0) 1 hO rfl rfl Try.underlying25 rfl ti25 rfl) ?_
 refine au ?_
 refine sba 2 hO fun mb s hO => ?_
 refine au ?_
 refine sfz 0 hO fun s hO kF kG => ?_
 refine Go1.retC2 Try.func66 rfl rfl (J01 (vs := [.int .i64 r83.Letters, .int .i64 r83.Start, .slice en r83.Final.length eo, .slice eI r83.Next.length eK]) 1 hO rfl rfl Try.underlying25 rfl ti25) ⟨((⟨r83.Letters, r83.Start, r83.Final, r83.Next⟩ : DFA)), _, _, _, _, _, _, _, ?_, frs, dF.r, dT.r, kF.r, H⟩
 exact (congrArg (fun l => Value.tuple (List.toArray l)) (J03 rfl (J03 (congrArg (fun nn => Value.slice p91 nn r8.length) kG) rfl)))
theorem body22 : Body Try.prog 22 := ⟨Try.f22, Try.func22, rfl, by kernel_rfl⟩
theorem J2N {A : List Nat} {w0 : World} {aa : Option Addr} {ad : Nat} {af : Option Addr} {ag : Nat} {d : DFA} (hA : ∀ b ∈ A, b < w0.heap.size) (aO : ISl (Rp.bool) A w0 aa ad d.Final) (bQ : ISl (Rp.sl (Rp.int .i64)) A w0 af ag d.Next) {K : DFA → Prop} (H : J0y d K) :
    CallsV Try.prog 22 #[.agg #[.int .i64 d.Letters, .int .i64 d.Start, .slice aa d.Final.length ad, .slice af d.Next.length ag]] w0 (fun v w' => ∃ (r0 : DFA), ∃ (cj : Option Addr), ∃ (ck : Nat), ∃ (cz : Option Addr), ∃ (cA : Nat), v = .agg #[.int .i64 r0.Letters, .int .i64 r0.Start, .slice cj r0.Final.length ck, .slice cz r0.Next.length cA] ∧ Same w0 w' ∧ ISl (Rp.bool) A w' cj ck r0.Final ∧ ISl (Rp.sl (Rp.int .i64)) A w' cz cA r0.Next ∧ K r0) := by
 refine CallsV.of (l := [.agg #[.int .i64 d.Letters, .int .i64 d.Start, .slice aa d.Final.length ad, .slice af d.Next.length ag]]) Try.func22 rfl Try.ntmps22 rfl ?_
 have hO := Owns.start hA
 have hB := Fr.refl (bl []) w0
 unfold J0y at H
 refine au ?_
 refine sbx hO fun w1 B2 s hO => ?_
 refine sal hO fun w4 B5 s hO => ?_
 refine au ?_
 refine zs (J0g (vs := [.int .i64 d.Letters, .int .i64 d.Start, .slice aa d.Final.length ad, .slice af d.Next.length ag]) (i := 0) 1 hO rfl rfl Try.underlying25 rfl ti25 rfl) ?_
 refine zcr (J00 body61 rfl (J0s hO.lt aO.u bQ.u H)) fun _ w8 => e1 fun r7 => sc0 hO fun s hO => fun H => ?_
 refine scm H (fun h9 H => ?_) fun h9 H => ?_
 ·refine au ?_
  refine zs (J0g (vs := [.int .i64 d.Letters, .int .i64 d.Start, .slice aa d.Final.length ad, .slice af d.Next.length ag]) (i := 0) 1 hO rfl rfl Try.underlying25 rfl ti25 rfl) ?_
  refine zcr (J00 body66 rfl (J2H hO.lt aO.u bQ.u H)) fun _ w12 => e4 fun r10 r11 f0 f5 => e4 fun gH gI zU zV => sc0 hO fun s hO => d3 fun kg kI zW H => ?_
  refine au ?_
  refine sal hO fun w13 B14 s hO => ?_
  refine sba 0 hO fun w16 s hO => ?_
  refine au ?_
  refine zs (J0g (vs := [.int .i64 r10.Letters, .int .i64 r10.Start, .slice f0 r10.Final.length f5, .slice gH r10.Next.length gI]) (i := 0) 0 hO rfl rfl Try.underlying25 rfl ti25 rfl) ?_
  refine sba 1 hO fun w17 s hO => ?_
  refine au ?_
  refine Go1.retC1 Try.func22 rfl rfl (J01 (vs := [.int .i64 r10.Letters, .int .i64 r10.Start, .slice f0 r10.Final.length f5, .slice gH r10.Next.length gI]) 1 hO rfl rfl Try.underlying25 rfl ti25) ⟨((⟨r10.Letters, r10.Start, r10.Final, r10.Next⟩ : DFA)), _, _, _, _, ?_, frs, kg.r, kI.r, H⟩
  exact rfl
 refine au ?_
 refine zo (J0c Try.underlying25 ti25 (pl := [(0, 1), (1, 1), (2, 1), (3, 1)]) (vs := []) (cs := #[.int .i64 (0 : Int), .int .i64 (0 : Int), .slice none 0 0, .slice none 0 0]) (by kernel_rfl) rfl (by kernel_rfl)) ?_
 refine sba 0 hO fun w18 s hO => ?_
 refine au ?_
 refine Go1.retC1 Try.func22 rfl rfl (J01 (vs := [.int .i64 (0 : Int), .int .i64 (0 : Int), .slice none 0 0, .slice none 0 0]) 0 hO rfl rfl Try.underlying25 rfl ti25) ⟨((⟨(0 : Int), (0 : Int), ([] : List Bool), ([] : List (List Int))⟩ : DFA)), _, _, _, _, ?_, frs, (ISl.null _ _ _), (ISl.null _ _ _), H⟩
 exact rfl
theorem body154 : Body Try.prog 154 := ⟨Try.f154, Try.func154, rfl, by kernel_rfl⟩
theorem J1u {A : List Nat} {w0 : World} {p_f : Option Addr} {c_f : Nat} {f : List Int} (hA : ∀ b ∈ A, b < w0.heap.size) (h_f : ISl (Rp.int .i64) A w0 p_f c_f f) {K : Bool → Prop} (H : J1p f K) :
    CallsV Try.prog 154 #[.slice p_f f.length c_f] w0 (fun v w' => ∃ (r0 : Bool), v = .bool r0 ∧ Same w0 w' ∧ K r0) := by
 refine CallsV.of (l := [.slice p_f f.length c_f]) Try.func154 rfl Try.ntmps154 rfl ?_
 have hO := Owns.start hA
 have hB := Fr.refl (bl []) w0
 unfold J1p at H
 refine au ?_
 refine sln0 ?_
 refine scm (H h_f.bd) (fun h1 H => ?_) fun h1 H => ?_
 ·refine au ?_
  refine Go1.ret1 Try.func154 rfl ⟨_, ?_, frs, H⟩
  exact rfl
 refine au ?_
 refine sln0 ?_
 refine scm H (fun h2 H => ?_) fun h2 H => ?_
 ·refine au ?_
  refine Go1.ret1 Try.func154 rfl ⟨_, ?_, frs, H⟩
  exact rfl
 refine au ?_
 refine sln0 ?_
 refine au ?_
 refine lw H (fun k1_4 σ w => (fun Z => agrees σ [(0, .slice p_f f.length c_f), (13, .slice p_f f.length c_f), (14, .int .i64 (f.length : Int)), (15, .int .i64 (k1_4 : Int))] ∧ Owns w0.heap.size w Z A ∧ Fr (bl []) w0 (bl Z) w) []) ⟨agr, hO, fr⟩ ?_
 refine fun X1 => fun k1_4 => fun H hX1 σ w3 => d2 fun hag hO hB => ?_
 refine Go1.keep _ hag ?_
 refine au ?_
 refine scm H (fun h5 H => ?_) fun h5 H => ?_
 ·refine au ?_
  refine sxl hO h_f.u H.1 H.2.1 ?_
  refine au ?_
  have h6 := H.1
  have h7 := H.2.1
  refine scm H.2.2 (fun h8 H => ?_) fun h8 H => ?_
  ·refine au ?_
   refine Go1.ret1 Try.func154 rfl ⟨_, ?_, frs, H⟩
   exact rfl
  refine au ?_
  refine sln0 ?_
  refine scm H (fun h9 H => ?_) fun h9 H => ?_
  ·refine au ?_
   refine Go1.ret1 Try.func154 rfl ⟨_, ?_, frs, H⟩
   exact rfl
  refine au ?_
  refine sinc (natbd h5 h_f.bd) ?_
  refine au ?_
  exact hX1 _ H _ _ ⟨agr, hO, fr⟩
 refine au ?_
 refine Go1.ret1 Try.func154 rfl ⟨_, ?_, frs, H⟩
 exact rfl
theorem body86 : Body Try.prog 86 := ⟨Try.f86, Try.func86, rfl, by kernel_rfl⟩
theorem J07 {A : List Nat} {w0 : World} {dU : Option Addr} {eH : Nat} {s_ : List Int} (hA : ∀ b ∈ A, b < w0.heap.size) (fJ : ISl (Rp.int .i64) A w0 dU eH s_) {K : List Int → Prop} (H : J04 s_ K) :
    CallsV Try.prog 86 #[.slice dU s_.length eH] w0 (fun v w' => ∃ (r0 : List Int), ∃ (pv : Nat), ∃ (cC : Option Addr), ∃ (cD : Nat), v = .slice cC pv cD ∧ Same w0 w' ∧ Owns w0.heap.size w' [t1 Fl.i 3 cC pv cD r0] A ∧ K r0) := by
 refine CallsV.of (l := [.slice dU s_.length eH]) Try.func86 rfl Try.ntmps86 rfl ?_
 have hO := Owns.start hA
 have hB := Fr.refl (bl []) w0
 unfold J04 at H
 refine au ?_
 replace H := H dU.isNone (fun h => fJ.nilD h)
 by_cases hz2 : dU.isNone = true
 ·replace H := ifp hz2 H
  refine zo (fun w => opB (J3i Try.underlying31 rfl rfl w) (hz2)) ?_
  refine au ?_
  refine snil Fl.i 3 hO fun s hO => ?_
  refine Go1.ret1 Try.func86 rfl ⟨_, _, _, _, ?_, frs, hO, H⟩
  exact rfl
 ·replace H := ifn hz2 H
  refine zo (fun w => opB (J3i Try.underlying31 rfl rfl w) (Bool.eq_false_iff.2 hz2)) ?_
  refine au ?_
  refine sbu Fl.i 3 ([] : List Int) hO fun w4 p5 s hO => ?_
  refine au ?_
  refine sap 0 hO fJ.u H fun w7 p8 c9 s hO => ?_
  refine au ?_
  refine Go1.ret1 Try.func86 rfl ⟨_, _, _, _, ?_, frs, hO, H.2⟩
  exact rfl
theorem body156 : Body Try.prog 156 := ⟨Try.f156, Try.func156, rfl, by kernel_rfl⟩
theorem J3v {A : List Nat} {w0 : World} {n : Int} (hA : ∀ b ∈ A, b < w0.heap.size) {K : List Int → Prop} (H : J0S n K) :
    CallsV Try.prog 156 #[.int .i64 n] w0 (fun v w' => ∃ (r0 : List Int), ∃ (cC : Option Addr), ∃ (cD : Nat), v = .slice cC r0.length cD ∧ Same w0 w' ∧ ISl (Rp.int .i64) A w' cC cD r0 ∧ K r0) := by
 refine CallsV.of (l := [.int .i64 n]) Try.func156 rfl Try.ntmps156 rfl ?_
 have hO := Owns.start hA
 have hB := Fr.refl (bl []) w0
 unfold J0S at H
 refine au ?_
 refine scm H (fun h1 H => ?_) fun h1 H => ?_
 ·refine au ?_
  refine Go1.ret1 Try.func156 rfl ⟨_, _, _, ?_, frs, (ISl.null _ _ _), H⟩
  exact rfl
 refine au ?_
 refine scm H (fun h2 H => ?_) fun h2 H => ?_
 ·refine au ?_
  refine Go1.ret1 Try.func156 rfl ⟨_, _, _, ?_, frs, (ISl.null _ _ _), H⟩
  exact rfl
 refine au ?_
 refine smk Fl.i H hO fun w3 p4 s hO => ?_
 refine au ?_
 refine sln1 0 hO ?_
 refine au ?_
 refine lw H.2.2 (fun (bj, f1_8) σ w => (fun Z => agrees σ [(3, .slice p4 n.toNat n.toNat), (14, .int .i64 ((List.replicate n.toNat ((0 : Int))).length : Int)), (15, .int .i64 (bj : Int))] ∧ Owns w0.heap.size w Z A ∧ Fr (bl []) w0 (bl Z) w) [t1 Fl.i 3 p4 n.toNat n.toNat f1_8]) ⟨agr, hO, fr⟩ ?_
 refine fun X1 => p1 fun bj f1_8 => fun H hX1 σ w6 => d2 fun hag hO hB => ?_
 dsimp only at H
 refine Go1.keep _ hag ?_
 revert hO; repeat (rename Owns _ _ _ _ => q; clear q)
 intro hO; repeat (rename Sq _ _ _ _ _ _ => q; clear q)
 refine au ?_
 refine scm H (fun h9 H => ?_) fun h9 H => ?_
 ·refine au ?_
  refine six1 0 hO H.1 H.2.1 ?_
  refine sst (u := (bj : Int)) 0 hO H.1 H.2.1 fun w10 s hO => ?_
  refine au ?_
  have h11 := H.1
  have h12 := H.2.1
  replace H := H.2.2
  obtain ⟨h13, H⟩ := H
  refine zo (J0e rfl rfl (wrap_i64 h13)) ?_
  refine au ?_
  exact hX1 _ H _ _ ⟨agr, hO, fr⟩
 refine au ?_
 refine sfz 0 hO fun s hO gA gB => ?_
 refine Go1.ret1 Try.func156 rfl ⟨_, _, _, ?_, frs, gA.r, H⟩
 exact (congrArg (fun nn => Value.slice p4 nn n.toNat) gB)
theorem body157 : Body Try.prog 157 := ⟨Try.f157, Try.func157, rfl, by kernel_rfl⟩
theorem J06 {A : List Nat} {w0 : World} {p_f : Option Addr} {c_f : Nat} {f : List Int} (hA : ∀ b ∈ A, b < w0.heap.size) (h_f : ISl (Rp.int .i64) A w0 p_f c_f f) {K : Str → Prop} (H : J08 f K) :
    CallsV Try.prog 157 #[.slice p_f f.length c_f] w0 (fun v w' => ∃ (r0 : Str), v = .string (gstr r0) ∧ Same w0 w' ∧ r0.length ≤ mx ∧ K r0) := by
 refine CallsV.of (l := [.slice p_f f.length c_f]) Try.func157 rfl Try.ntmps157 rfl ?_
 have hO := Owns.start hA
 have hB := Fr.refl (bl []) w0
 unfold J08 at H
 refine au ?_
 refine sln0 ?_
 refine smk (Fl.int .u8) (H h_f.bd) hO fun w1 p4 s hO => ?_
 refine au ?_
 refine sln0 ?_
 refine au ?_
 refine lw (H h_f.bd).2.2 (fun (bj, pC) σ w => (fun Z => agrees σ [(3, .slice p4 f.length f.length), (9, .slice p_f f.length c_f), (10, .int .i64 (f.length : Int)), (11, .int .i64 (bj : Int))] ∧ Owns w0.heap.size w Z A ∧ Fr (bl []) w0 (bl Z) w) [t1 (Fl.int .u8) 5 p4 f.length f.length pC]) ⟨agr, hO, fr⟩ ?_
 refine fun X1 => p1 fun bj pC => fun H hX1 σ w6 => d2 fun hag hO hB => ?_
 dsimp only at H
 refine Go1.keep _ hag ?_
 revert hO; repeat (rename Owns _ _ _ _ => q; clear q)
 intro hO; repeat (rename Sq _ _ _ _ _ _ => q; clear q)
 refine au ?_
 refine scm H (fun h9 H => ?_) fun h9 H => ?_
 ·refine au ?_
  refine sxl hO h_f.u H.1 H.2.1 ?_
  refine au ?_
  refine zo (J3R Try.underlying3 Try.underlying5 rfl rfl) ?_
  refine six1 0 hO H.2.2.1 H.2.2.2.1 ?_
  refine sst (u := (IntKind.u8.wrap (ix f (bj : Int)))) 0 hO H.2.2.1 H.2.2.2.1 fun w10 s hO => ?_
  refine au ?_
  refine sinc (natbd h9 h_f.bd) ?_
  refine au ?_
  exact hX1 _ H.2.2.2.2 _ _ ⟨agr, hO, fr⟩
 refine au ?_
 refine op1 0 hO fun AX s hO pD => ?_
 have hle13 := J7K pD.bd
 refine zs (oldBytes 0 hO rfl pD.u Try.underlying126 Try.underlying5 Try.underlying9 rfl) ?_
 refine au ?_
 refine Go1.ret1 Try.func157 rfl ⟨_, ?_, frs, hle13, H⟩
 exact rfl
end Sg
