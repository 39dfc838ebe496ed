/- -/
import Derived.Test.YtlneebpmblkllaaVd
namespace Sg
open Go Go.RowKit Go.Proofs
set_option linter.unusedVariables false
set_option linter.unusedSimpArgs false
set_option maxRecDepth 100000
set_option maxHeartbeats 4000000
theorem body59 : Body Try.prog 59 := ⟨Try.f59, Try.func59, rfl, by kernel_rfl⟩
theorem J37 {A : List Nat} {w0 : World} {letters : Int} (hA : ∀ b ∈ A, b < w0.heap.size) {K : Bool → Prop} (H : J0S letters K) :
    CallsV Try.prog 59 #[.int .i64 letters] w0 (fun v w' => ∃ (r0 : Bool), v = .bool r0 ∧ Same w0 w' ∧ K r0) := by
 refine CallsV.of (l := [.int .i64 letters]) Try.func59 rfl Try.ntmps59 rfl ?_
 have hO := Owns.start hA
 have hB := Fr.refl (bl []) w0
 unfold J0S at H
 refine au ?_
 refine scm H (fun h1 H => ?_) fun h1 H => ?_
 ·refine au ?_
  refine scm H (fun h2 H => ?_) fun h2 H => ?_
  ·refine au ?_
   refine Go1.ret1 Try.func59 rfl ⟨_, ?_, frs, H⟩
   exact rfl
  refine au ?_
  refine Go1.ret1 Try.func59 rfl ⟨_, ?_, frs, H⟩
  exact rfl
 refine au ?_
 refine Go1.ret1 Try.func59 rfl ⟨_, ?_, frs, H⟩
 exact rfl
theorem body16 : Body Try.prog 16 := ⟨Try.f16, Try.func16, rfl, by kernel_rfl⟩
theorem J0U {A : List Nat} {w0 : World} {aa : Option Addr} {ad : Nat} {ae : Option Addr} {af : Nat} {d : DFA} (hA : ∀ b ∈ A, b < w0.heap.size) (aq : ISl (Rp.bool) A w0 aa ad d.Final) (aA : ISl (Rp.sl (Rp.int .i64)) A w0 ae af d.Next) {K : Int → Prop} (H : J0r d K) :
    CallsV Try.prog 16 #[.agg #[.int .i64 d.Letters, .int .i64 d.Start, .slice aa d.Final.length ad, .slice ae d.Next.length af]] w0 (fun v w' => ∃ (r0 : Int), v = .int .i64 r0 ∧ Same w0 w' ∧ K r0) := by
 refine CallsV.of (l := [.agg #[.int .i64 d.Letters, .int .i64 d.Start, .slice aa d.Final.length ad, .slice ae d.Next.length af]]) Try.func16 rfl Try.ntmps16 rfl ?_
 have hO := Owns.start hA
 have hB := Fr.refl (bl []) w0
 unfold J0r at H
 refine au ?_
 refine sbx hO fun w1 B2 s hO => ?_
 refine au ?_
 refine sln0 ?_
 refine au ?_
 refine zcr (J02 body59 rfl (J37 hO.lt (H aq.bd))) fun _ w5 => e1 fun r4 => sc0 hO fun s hO => fun H => ?_
 cases r4
 ·refine au ?_
  refine Go1.ret1 Try.func16 rfl ⟨_, ?_, frs, (iF H)⟩
  exact rfl
 refine au ?_
 refine scm (iT H) (fun h6 H => ?_) fun h6 H => ?_
 ·refine au ?_
  refine Go1.ret1 Try.func16 rfl ⟨_, ?_, frs, H⟩
  exact rfl
 refine au ?_
 refine scm H (fun h7 H => ?_) fun h7 H => ?_
 ·refine au ?_
  refine Go1.ret1 Try.func16 rfl ⟨_, ?_, frs, H⟩
  exact rfl
 refine au ?_
 refine sln0 ?_
 refine au ?_
 refine scm (H aA.bd) (fun h8 H => ?_) fun h8 H => ?_
 ·refine au ?_
  refine scm H (fun h9 H => ?_) fun h9 H => ?_
  ·refine au ?_
   refine Go1.ret1 Try.func16 rfl ⟨_, ?_, frs, H⟩
   exact rfl
  refine au ?_
  refine scm H (fun h10 H => ?_) fun h10 H => ?_
  ·refine au ?_
   refine Go1.ret1 Try.func16 rfl ⟨_, ?_, frs, H⟩
   exact rfl
  refine au ?_
  refine sln0 ?_
  refine au ?_
  refine lw H (fun k1_12 σ w => (fun Z => agrees σ [(1, .pointer (some ⟨B2, 0, none⟩)), (3, .int .i64 (d.Final.length : Int)), (38, .slice ae d.Next.length af), (39, .int .i64 (d.Next.length : Int)), (40, .int .i64 (k1_12 : Int))] ∧ Owns w0.heap.size w Z A ∧ Fr (bl []) w0 (bl Z) w) [.blk B2 (.cells #[.int .i64 d.Letters, .int .i64 d.Start, .slice aa d.Final.length ad, .slice ae d.Next.length af] 25 (0, 0))]) ⟨agr, hO, fr⟩ ?_
  refine fun X1 => fun k1_12 => fun H hX1 σ w11 => d2 fun hag hO hB => ?_
  refine Go1.keep _ hag ?_
  revert hO; repeat (rename Owns _ _ _ _ => q; clear q)
  intro hO; repeat (rename Sq _ _ _ _ _ _ => q; clear q)
  refine au ?_
  refine scm H (fun h13 H => ?_) fun h13 H => ?_
  ·refine au ?_
   refine sxls hO aA.u H.1 H.2.1 fun p14 c15 iU => ?_
   refine au ?_
   refine sln0 ?_
   refine au ?_
   have h17 := H.1
   have h18 := H.2.1
   refine scm (H.2.2 iU.bd) (fun h19 H => ?_) fun h19 H => ?_
   ·refine au ?_
    refine sln0 ?_
    refine au ?_
    refine lw H (fun wT σ w => (fun Z => agrees σ [(1, .pointer (some ⟨B2, 0, none⟩)), (3, .int .i64 (d.Final.length : Int)), (38, .slice ae d.Next.length af), (39, .int .i64 (d.Next.length : Int)), (40, .int .i64 (k1_12 : Int)), (49, .slice p14 ((ix d.Next (k1_12 : Int)).length) c15), (50, .int .i64 ((ix d.Next (k1_12 : Int)).length : Int)), (51, .int .i64 (wT : Int))] ∧ Owns w0.heap.size w Z A ∧ ISl (Rp.int .i64) (bl Z ++ A) w p14 c15 (ix d.Next (k1_12 : Int)) ∧ Fr (bl []) w0 (bl Z) w) [.blk B2 (.cells #[.int .i64 d.Letters, .int .i64 d.Start, .slice aa d.Final.length ad, .slice ae d.Next.length af] 25 (0, 0))]) ⟨agr, hO, iU.u, fr⟩ ?_
    refine fun X2 => fun wT => fun H hX2 σ w20 => d3 fun hag hO iU hB => ?_
    refine Go1.keep _ hag ?_
    revert hO; repeat (rename Owns _ _ _ _ => q; clear q)
    intro hO; repeat (rename Sq _ _ _ _ _ _ => q; clear q)
    refine au ?_
    refine scm H (fun h22 H => ?_) fun h22 H => ?_
    ·refine au ?_
     refine sxl hO iU H.1 H.2.1 ?_
     refine au ?_
     have h23 := H.1
     have h24 := H.2.1
     refine scm H.2.2 (fun h25 H => ?_) fun h25 H => ?_
     ·refine au ?_
      refine Go1.ret1 Try.func16 rfl ⟨_, ?_, frs, H⟩
      exact rfl
     refine au ?_
     refine scm H (fun h26 H => ?_) fun h26 H => ?_
     ·refine au ?_
      refine Go1.ret1 Try.func16 rfl ⟨_, ?_, frs, H⟩
      exact rfl
     refine au ?_
     refine sinc (natbd h22 iU.bd) ?_
     refine au ?_
     exact hX2 _ H _ _ ⟨agr, hO, iU, fr⟩
    refine au ?_
    refine sinc (natbd h13 aA.bd) ?_
    refine au ?_
    exact hX1 _ H _ _ ⟨agr, hO, fr⟩
   refine au ?_
   refine Go1.ret1 Try.func16 rfl ⟨_, ?_, frs, H⟩
   exact rfl
  refine au ?_
  refine Go1.ret1 Try.func16 rfl ⟨_, ?_, frs, H⟩
  exact rfl
 refine au ?_
 refine Go1.ret1 Try.func16 rfl ⟨_, ?_, frs, H⟩
 exact rfl
theorem body17 : Body Try.prog 17 := ⟨Try.f17, Try.func17, rfl, by kernel_rfl⟩
theorem J4H {A : List Nat} {w0 : World} {aa : Option Addr} {ad : Nat} {ae : Option Addr} {af : Nat} {d : DFA} {most : Int} (hA : ∀ b ∈ A, b < w0.heap.size) (aq : ISl (Rp.bool) A w0 aa ad d.Final) (aA : ISl (Rp.sl (Rp.int .i64)) A w0 ae af d.Next) {K : Bool → Prop} (H : law21_small d most K) :
    CallsV Try.prog 17 #[.agg #[.int .i64 d.Letters, .int .i64 d.Start, .slice aa d.Final.length ad, .slice ae d.Next.length af], .int .i64 most] w0 (fun v w' => ∃ (r0 : Bool), v = .bool r0 ∧ Same w0 w' ∧ K r0) := by
 refine CallsV.of (l := [.agg #[.int .i64 d.Letters, .int .i64 d.Start, .slice aa d.Final.length ad, .slice ae d.Next.length af], .int .i64 most]) Try.func17 rfl Try.ntmps17 rfl ?_
 have hO := Owns.start hA
 have hB := Fr.refl (bl []) w0
 unfold law21_small at H
 refine au ?_
 refine sbx hO fun w1 B2 s hO => ?_
 refine au ?_
 refine sln0 ?_
 refine au ?_
 refine scm (H aq.bd) (fun h4 H => ?_) fun h4 H => ?_
 ·refine au ?_
  refine scm H (fun h5 H => ?_) fun h5 H => ?_
  ·refine au ?_
   refine zs (J05 (vs := [.int .i64 d.Letters, .int .i64 d.Start, .slice aa d.Final.length ad, .slice ae d.Next.length af]) (i := 0) 0 hO rfl rfl Try.underlying25 rfl ti25 rfl) ?_
   refine zcr (J02 body16 rfl (J0U hO.lt aq.u aA.u H)) fun _ w7 => e1 fun r6 => sc0 hO fun s hO => fun H => ?_
   refine scm H (fun h8 H => ?_) fun h8 H => ?_
   ·refine au ?_
    refine Go1.ret1 Try.func17 rfl ⟨_, ?_, frs, H⟩
    exact rfl
   refine au ?_
   refine Go1.ret1 Try.func17 rfl ⟨_, ?_, frs, H⟩
   exact rfl
  refine au ?_
  refine Go1.ret1 Try.func17 rfl ⟨_, ?_, frs, H⟩
  exact rfl
 refine au ?_
 refine Go1.ret1 Try.func17 rfl ⟨_, ?_, frs, H⟩
 exact rfl
theorem body60 : Body Try.prog 60 := ⟨Try.f60, Try.func60, rfl, by kernel_rfl⟩
theorem J5U {A : List Nat} {w0 : World} (hA : ∀ b ∈ A, b < w0.heap.size) {K : DFA → Prop} (H : law21_ab  K) :
    CallsV Try.prog 60 #[] w0 (fun v w' => ∃ (r0 : DFA), ∃ (b8 : Option Addr), ∃ (b9 : Nat), ∃ (cz : Option Addr), ∃ (cA : Nat), v = .agg #[.int .i64 r0.Letters, .int .i64 r0.Start, .slice b8 r0.Final.length b9, .slice cz r0.Next.length cA] ∧ Same w0 w' ∧ ISl (Rp.bool) A w' b8 b9 r0.Final ∧ ISl (Rp.sl (Rp.int .i64)) A w' cz cA r0.Next ∧ K r0) := by
 refine CallsV.of (l := []) Try.func60 rfl Try.ntmps60 rfl ?_
 have hO := Owns.start hA
 have hB := Fr.refl (bl []) w0
 unfold law21_ab at H
 refine au ?_
 refine sal hO fun w1 B2 s hO => ?_
 refine au ?_
 refine sbu Fl.bool 4 [true, false, false] hO fun w4 p5 s hO => ?_
 refine sbu Fl.i 3 [(1 : Int), (2 : Int)] hO fun w7 p8 s hO => ?_
 refine sbu Fl.i 3 [(2 : Int), (0 : Int)] hO fun w10 p11 s hO => ?_
 refine sbu Fl.i 3 [(2 : Int), (2 : Int)] hO fun w13 p14 s hO => ?_
 refine sfz 2 hO fun s hO iU Ie => ?_
 refine sfz 1 hO fun s hO Ig Ih => ?_
 refine sfz 0 hO fun s hO Ii Ij => ?_
 have zz := J1l (r := Rp.sl (Rp.int .i64)) (n := 3) (parts := [(0, .slice p8 2 2), (1, .slice p11 2 2), (2, .slice p14 2 2)]) (vs := [.slice p8 2 2, .slice p11 2 2, .slice p14 2 2]) (xs := [[(1 : Int), (2 : Int)], [(2 : Int), (0 : Int)], [(2 : Int), (2 : Int)]]) rfl Try.underlying23 ti31 hO (by decide) (by kernel_rfl) (Els.cons rfl ⟨p8, 2, congrArg some (congrArg (fun nn => Value.slice p8 nn 2) Ie), iU.u⟩ (Els.cons rfl ⟨p11, 2, congrArg some (congrArg (fun nn => Value.slice p11 nn 2) Ih), Ig.u⟩ (Els.cons rfl ⟨p14, 2, congrArg some (congrArg (fun nn => Value.slice p14 nn 2) Ij), Ii⟩ (Els.nil _ _ _) (by simp [mx])) (by simp [mx])) (by simp [mx])) rfl
 obtain ⟨w22, p23, qk, Ik, Qd, ql⟩ := zz
 refine zg (ql rfl) ?_
 refine nst qk fun s hO => ?_
 refine zo (J06 Try.underlying25 ti25 (pl := [(0, 1), (1, 1), (2, 1), (3, 1)]) (vs := [(0, .int .i64 (2 : Int)), (2, .slice p5 3 3), (3, .slice p23 3 3)]) (cs := #[.int .i64 (2 : Int), .int .i64 (0 : Int), .slice p5 3 3, .slice p23 3 3]) (by kernel_rfl) rfl (by kernel_rfl)) ?_
 refine sba 2 hO fun w29 s hO => ?_
 refine au ?_
 refine sfz 1 hO fun s hO ul um => ?_
 refine sfzR 0 hO Ik.u fun s hO fe Il => ?_
 refine Go1.retC1 Try.func60 rfl rfl (J03 (vs := [.int .i64 (2 : Int), .int .i64 (0 : Int), .slice p5 3 3, .slice p23 3 3]) 0 hO rfl rfl Try.underlying25 rfl ti25) ⟨((⟨(2 : Int), (0 : Int), [true, false, false], [[(1 : Int), (2 : Int)], [(2 : Int), (0 : Int)], [(2 : Int), (2 : Int)]]⟩ : DFA)), _, _, _, _, ?_, frs, ul.r, fe.r, H⟩
 exact (congrArg (fun l => Value.agg (List.toArray l)) (J01 rfl (J01 rfl (J01 (congrArg (fun nn => Value.slice p5 nn 3) um) (J01 (congrArg (fun nn => Value.slice p23 nn 3) Il) rfl)))))
theorem body61 : Body Try.prog 61 := ⟨Try.f61, Try.func61, rfl, by kernel_rfl⟩
theorem J0I {A : List Nat} {w0 : World} {aa : Option Addr} {ad : Nat} {ae : Option Addr} {af : Nat} {d : DFA} (hA : ∀ b ∈ A, b < w0.heap.size) (aq : ISl (Rp.bool) A w0 aa ad d.Final) (aA : ISl (Rp.sl (Rp.int .i64)) A w0 ae af d.Next) {K : Int → Prop} (H : J0v d K) :
    CallsV Try.prog 61 #[.agg #[.int .i64 d.Letters, .int .i64 d.Start, .slice aa d.Final.length ad, .slice ae d.Next.length af]] w0 (fun v w' => ∃ (r0 : Int), v = .int .i64 r0 ∧ Same w0 w' ∧ K r0) := by
 refine CallsV.of (l := [.agg #[.int .i64 d.Letters, .int .i64 d.Start, .slice aa d.Final.length ad, .slice ae d.Next.length af]]) Try.func61 rfl Try.ntmps61 rfl ?_
 have hO := Owns.start hA
 have hB := Fr.refl (bl []) w0
 unfold J0v at H
 refine au ?_
 refine sbx hO fun w1 B2 s hO => ?_
 refine au ?_
 refine scm H (fun h4 H => ?_) fun h4 H => ?_
 ·refine au ?_
  refine Go1.ret1 Try.func61 rfl ⟨_, ?_, frs, H⟩
  exact rfl
 refine au ?_
 refine scm H (fun h5 H => ?_) fun h5 H => ?_
 ·refine au ?_
  refine Go1.ret1 Try.func61 rfl ⟨_, ?_, frs, H⟩
  exact rfl
 refine au ?_
 refine sln0 ?_
 refine au ?_
 refine scm (H aq.bd) (fun h6 H => ?_) fun h6 H => ?_
 ·refine au ?_
  refine Go1.ret1 Try.func61 rfl ⟨_, ?_, frs, H⟩
  exact rfl
 refine au ?_
 refine sln0 ?_
 refine au ?_
 refine scm (H aA.bd) (fun h7 H => ?_) fun h7 H => ?_
 ·refine au ?_
  refine scm H (fun h8 H => ?_) fun h8 H => ?_
  ·refine au ?_
   refine Go1.ret1 Try.func61 rfl ⟨_, ?_, frs, H⟩
   exact rfl
  refine au ?_
  refine scm H (fun h9 H => ?_) fun h9 H => ?_
  ·refine au ?_
   refine Go1.ret1 Try.func61 rfl ⟨_, ?_, frs, H⟩
   exact rfl
  refine au ?_
  refine sln0 ?_
  refine au ?_
  refine lw H (fun k1_11 σ w => (fun Z => agrees σ [(1, .pointer (some ⟨B2, 0, none⟩)), (3, .int .i64 (d.Final.length : Int)), (38, .slice ae d.Next.length af), (39, .int .i64 (d.Next.length : Int)), (40, .int .i64 (k1_11 : Int))] ∧ Owns w0.heap.size w Z A ∧ Fr (bl []) w0 (bl Z) w) [.blk B2 (.cells #[.int .i64 d.Letters, .int .i64 d.Start, .slice aa d.Final.length ad, .slice ae d.Next.length af] 25 (0, 0))]) ⟨agr, hO, fr⟩ ?_
  refine fun X1 => fun k1_11 => fun H hX1 σ w10 => d2 fun hag hO hB => ?_
  refine Go1.keep _ hag ?_
  revert hO; repeat (rename Owns _ _ _ _ => q; clear q)
  intro hO; repeat (rename Sq _ _ _ _ _ _ => q; clear q)
  refine au ?_
  refine scm H (fun h12 H => ?_) fun h12 H => ?_
  ·refine au ?_
   refine sxls hO aA.u H.1 H.2.1 fun p13 c14 jM => ?_
   refine au ?_
   refine sln0 ?_
   refine au ?_
   have h16 := H.1
   have h17 := H.2.1
   refine scm (H.2.2 jM.bd) (fun h18 H => ?_) fun h18 H => ?_
   ·refine au ?_
    refine sln0 ?_
    refine au ?_
    refine lw H (fun wU σ w => (fun Z => agrees σ [(1, .pointer (some ⟨B2, 0, none⟩)), (3, .int .i64 (d.Final.length : Int)), (38, .slice ae d.Next.length af), (39, .int .i64 (d.Next.length : Int)), (40, .int .i64 (k1_11 : Int)), (49, .slice p13 ((ix d.Next (k1_11 : Int)).length) c14), (50, .int .i64 ((ix d.Next (k1_11 : Int)).length : Int)), (51, .int .i64 (wU : Int))] ∧ Owns w0.heap.size w Z A ∧ ISl (Rp.int .i64) (bl Z ++ A) w p13 c14 (ix d.Next (k1_11 : Int)) ∧ Fr (bl []) w0 (bl Z) w) [.blk B2 (.cells #[.int .i64 d.Letters, .int .i64 d.Start, .slice aa d.Final.length ad, .slice ae d.Next.length af] 25 (0, 0))]) ⟨agr, hO, jM.u, fr⟩ ?_
    refine fun X2 => fun wU => fun H hX2 σ w19 => d3 fun hag hO jM hB => ?_
    refine Go1.keep _ hag ?_
    revert hO; repeat (rename Owns _ _ _ _ => q; clear q)
    intro hO; repeat (rename Sq _ _ _ _ _ _ => q; clear q)
    refine au ?_
    refine scm H (fun h21 H => ?_) fun h21 H => ?_
    ·refine au ?_
     refine sxl hO jM H.1 H.2.1 ?_
     refine au ?_
     have h22 := H.1
     have h23 := H.2.1
     refine scm H.2.2 (fun h24 H => ?_) fun h24 H => ?_
     ·refine au ?_
      refine Go1.ret1 Try.func61 rfl ⟨_, ?_, frs, H⟩
      exact rfl
     refine au ?_
     refine scm H (fun h25 H => ?_) fun h25 H => ?_
     ·refine au ?_
      refine Go1.ret1 Try.func61 rfl ⟨_, ?_, frs, H⟩
      exact rfl
     refine au ?_
     refine sinc (natbd h21 jM.bd) ?_
     refine au ?_
     exact hX2 _ H _ _ ⟨agr, hO, jM, fr⟩
    refine au ?_
    refine sinc (natbd h12 aA.bd) ?_
    refine au ?_
    exact hX1 _ H _ _ ⟨agr, hO, fr⟩
   refine au ?_
   refine Go1.ret1 Try.func61 rfl ⟨_, ?_, frs, H⟩
   exact rfl
  refine au ?_
  refine Go1.ret1 Try.func61 rfl ⟨_, ?_, frs, H⟩
  exact rfl
 refine au ?_
 refine Go1.ret1 Try.func61 rfl ⟨_, ?_, frs, H⟩
 exact rfl
theorem body141 : Body Try.prog 141 := ⟨Try.f141, Try.func141, rfl, by kernel_rfl⟩
theorem body140 : Body Try.prog 140 := ⟨Try.f140, Try.func140, rfl, by kernel_rfl⟩
theorem body163 : Body Try.prog 163 := ⟨Try.f163, Try.func163, rfl, by kernel_rfl⟩
theorem body139 : Body Try.prog 139 := ⟨Try.f139, Try.func139, rfl, by kernel_rfl⟩
theorem body109 : Body Try.prog 109 := ⟨Try.f109, Try.func109, rfl, by kernel_rfl⟩
theorem J3Q {A : List Nat} {w0 : World} {aa : Option Addr} {ad : Nat} {ae : Option Addr} {af : Nat} {d : DFA} (hA : ∀ b ∈ A, b < w0.heap.size) (aq : ISl (Rp.bool) A w0 aa ad d.Final) (aA : ISl (Rp.sl (Rp.int .i64)) A w0 ae af d.Next) {K : DFA → List Int → Prop} (H : J3l d K) :
    CallsV Try.prog 109 #[.agg #[.int .i64 d.Letters, .int .i64 d.Start, .slice aa d.Final.length ad, .slice ae d.Next.length af]] w0 (fun v w' => ∃ (r0 : DFA), ∃ (r1 : List Int), ∃ (b8 : Option Addr), ∃ (b9 : Nat), ∃ (cz : Option Addr), ∃ (cA : Nat), ∃ (fh : Option Addr), ∃ (fk : Nat), v = .tuple #[.agg #[.int .i64 r0.Letters, .int .i64 r0.Start, .slice b8 r0.Final.length b9, .slice cz r0.Next.length cA], .slice fh r1.length fk] ∧ Same w0 w' ∧ ISl (Rp.bool) A w' b8 b9 r0.Final ∧ ISl (Rp.sl (Rp.int .i64)) A w' cz cA r0.Next ∧ ISl (Rp.int .i64) A w' fh fk r1 ∧ K r0 r1) := by
 refine CallsV.of (l := [.agg #[.int .i64 d.Letters, .int .i64 d.Start, .slice aa d.Final.length ad, .slice ae d.Next.length af]]) Try.func109 rfl Try.ntmps109 rfl ?_
 have hO := Owns.start hA
 have hB := Fr.refl (bl []) w0
 unfold J3l at H
 refine au ?_
 refine sbx hO fun w1 B2 s hO => ?_
 refine sal hO fun w4 B5 s hO => ?_
 refine au ?_
 refine zs (J05 (vs := [.int .i64 d.Letters, .int .i64 d.Start, .slice aa d.Final.length ad, .slice ae d.Next.length af]) (i := 0) 1 hO rfl rfl Try.underlying25 rfl ti25 rfl) ?_
 refine zcr (J02 body61 rfl (J0I hO.lt aq.u aA.u H)) fun _ w8 => e1 fun r7 => sc0 hO fun s hO => fun H => ?_
 refine scm H (fun h9 H => ?_) fun h9 H => ?_
 ·refine au ?_
  refine zo (J5e (vs := [.pointer (some ⟨B2, 0, none⟩)]) rfl) ?_
  refine zo (J5e (vs := [.pointer (some ⟨B2, 0, none⟩)]) rfl) ?_
  refine GoR.inl (vs := [.int .i64 d.Letters, .int .i64 d.Start, .func (.func 140) #[] #[.pointer (some ⟨B2, 0, none⟩)], .func (.func 141) #[] #[.pointer (some ⟨B2, 0, none⟩)]]) (caps := []) rfl rfl body139 Try.func139 rfl Try.ntmps139 rfl rfl rfl ?_
  intro RhR10 hR10
  refine au ?_
  refine sal hO fun w11 B12 s hO => ?_
  refine au ?_
  refine sal hO fun w14 B15 s hO => ?_
  refine au ?_
  refine GoR.inl (vs := [.pointer (some ⟨B15, 0, none⟩), .int .i64 d.Start]) (caps := []) rfl rfl body163 Try.func163 rfl Try.ntmps163 rfl rfl rfl ?_
  intro RhR17 hR17
  refine au ?_
  refine zs (fun w _ => olookN (a := d.Start) (MK.int Try.underlying3) Try.underlying168 ti3 rfl rfl w) ?_
  refine au ?_
  refine zo (fun w => opB (J6i Try.underlying168 rfl rfl w) rfl) ?_
  refine au ?_
  have zz := omakeMap (fun a : Int => Value.int .i64 a) (fun a : Int => Value.int .i64 a) hO
  obtain ⟨w18, B19, qm, Qe, BX⟩ := zz
  refine zg BX ?_
  refine nst qm fun s hO => ?_
  refine au ?_
  refine sbs 1 hO fun w24 s hO => ?_
  refine au ?_
  refine sln0 ?_
  refine au ?_
  have zz := omapUpd (MK.int Try.underlying3) 0 hO rfl Try.underlying168 d.Start (0 : Int)
  obtain ⟨w25, BY, ql⟩ := zz
  refine zg (ql (by exact rfl) (by exact rfl) (by exact rfl)) ?_
  refine nst BY fun s hO => ?_
  refine au ?_
  refine snil Fl.i 3 hO fun s hO => ?_
  refine sap1 d.Start 0 hO H fun _ w29 p30 c31 s hO => ?_
  refine au ?_
  refine sbs 2 hO fun w32 s hO => ?_
  refine au ?_
  refine Go1.ret1V Try.func163 rfl (show _ = .int .i64 (0 : Int) from rfl) ?_
  refine hR17 _ _ ?_
  refine au ?_
  refine zo (J06 Try.underlying25 ti25 (pl := [(0, 1), (1, 1), (2, 1), (3, 1)]) (vs := [(0, .int .i64 d.Letters)]) (cs := #[.int .i64 d.Letters, .int .i64 (0 : Int), .slice none 0 0, .slice none 0 0]) (by kernel_rfl) rfl (by kernel_rfl)) ?_
  refine sal hO fun w33 B34 s hO => ?_
  refine sba 0 hO fun w36 s hO => ?_
  refine au ?_
  refine snil Fl.bool 4 hO fun s hO => ?_
  have B1 := Stp.nil (e := 31) (r := 1) hO
  refine nst B1 fun s hO => ?_
  have Im := Els.nil (Rp.sl (Rp.int .i64)) (bl (.row 31 1 none 0 0 [] :: [t1 Fl.bool 4 none 0 0 (([] : List Bool)), .blk B34 (.cells #[.int .i64 d.Letters, .int .i64 (0 : Int), .slice none 0 0, .slice none 0 0] 25 (0, 0)), t1 Fl.i 3 p30 (0 + 1) c31 ((([] : List Int)) ++ ([d.Start])), .any (mapE (fun a : Int => Value.int .i64 a) (fun a : Int => Value.int .i64 a) B19 (mput (([] : List (Int × Int))) d.Start ((0 : Int)))), .blk B15 (.cells #[.slice p30 (0 + 1) c31, .map (some B19)] 188 (0, 0)), .blk B12 (.cells #[.int .i64 (0 : Int), .int .i64 (0 : Int), .slice none 0 0, .slice none 0 0] 25 (0, 0)), .blk B5 (.cells #[.int .i64 (0 : Int), .int .i64 (0 : Int), .slice none 0 0, .slice none 0 0] 25 (0, 0)), .blk B2 (.cells #[.int .i64 d.Letters, .int .i64 d.Start, .slice aa d.Final.length ad, .slice ae d.Next.length af] 25 (0, 0))]) ++ A) w36
  refine lw H.2 (fun (eo, d_43, d_49, dE, wV) σ w => ∃ n48 p46 c47 gM n52 p50 c51 n56 p54 c55, (fun Z => agrees σ [(0, .int .i64 d.Letters), (2, .func (.func 140) #[] #[.pointer (some ⟨B2, 0, none⟩)]), (3, .func (.func 141) #[] #[.pointer (some ⟨B2, 0, none⟩)]), (8, .pointer (some ⟨B12, 0, none⟩)), (11, .pointer (some ⟨B15, 0, none⟩)), (12, .pointer (some ⟨B34, 0, none⟩)), (13, .int .i64 (eo : Int))] ∧ Owns w0.heap.size w Z A ∧ Els (Rp.sl (Rp.int .i64)) (bl Z ++ A) w gM d_43 ∧ Fr (bl []) w0 (bl Z) w) [.row 31 1 p46 n48 c47 gM, t1 Fl.bool 4 p50 n52 c51 d_49, .blk B34 (.cells #[.int .i64 d.Letters, .int .i64 (0 : Int), .slice p50 n52 c51, .slice p46 n48 c47] 25 (0, 0)), t1 Fl.i 3 p54 n56 c55 dE, .any (mapE (fun a : Int => Value.int .i64 a) (fun a : Int => Value.int .i64 a) B19 wV), .blk B15 (.cells #[.slice p54 n56 c55, .map (some B19)] 188 (0, 0)), .blk B12 (.cells #[.int .i64 (0 : Int), .int .i64 (0 : Int), .slice none 0 0, .slice none 0 0] 25 (0, 0)), .blk B5 (.cells #[.int .i64 (0 : Int), .int .i64 (0 : Int), .slice none 0 0, .slice none 0 0] 25 (0, 0)), .blk B2 (.cells #[.int .i64 d.Letters, .int .i64 d.Start, .slice aa d.Final.length ad, .slice ae d.Next.length af] 25 (0, 0))]) ⟨_, _, _, _, _, _, _, _, _, _, agr, hO, Im.u, fr⟩ ?_
  refine fun X1 => p1 fun eo => p3 fun d_43 d_49 dE wV => fun H hX1 σ w41 => e4 fun n48 p46 c47 gM => e4 fun n52 p50 c51 n56 => e2 fun p54 c55 => d3 fun hag hO fw hB => ?_
  dsimp only at H
  refine Go1.keep _ hag ?_
  revert hO; repeat (rename Owns _ _ _ _ => q; clear q)
  intro hO; repeat (rename Sq _ _ _ _ _ _ => q; clear q)
  refine au ?_
  refine sln1 3 hO ?_
  refine scm H (fun h58 H => ?_) fun h58 H => ?_
  ·refine au ?_
   refine sxl1 3 hO H.1 H.2.1 ?_
   refine au ?_
   refine smk Fl.i H.2.2 hO fun w59 p60 s hO => ?_
   refine au ?_
   refine sln1 0 hO ?_
   refine au ?_
   refine lw H.2.2.2.2 (fun (f9, fP, d_65, jd) σ w => ∃ n68 p66 c67, (fun Z => agrees σ [(0, .int .i64 d.Letters), (2, .func (.func 140) #[] #[.pointer (some ⟨B2, 0, none⟩)]), (3, .func (.func 141) #[] #[.pointer (some ⟨B2, 0, none⟩)]), (8, .pointer (some ⟨B12, 0, none⟩)), (11, .pointer (some ⟨B15, 0, none⟩)), (12, .pointer (some ⟨B34, 0, none⟩)), (13, .int .i64 (eo : Int)), (14, .int .i64 (ix dE (eo : Int))), (15, .slice p60 d.Letters.toNat d.Letters.toNat), (36, .int .i64 ((List.replicate d.Letters.toNat ((0 : Int))).length : Int)), (37, .int .i64 (f9 : Int))] ∧ Owns w0.heap.size w Z A ∧ Els (Rp.sl (Rp.int .i64)) (bl Z ++ A) w gM d_43 ∧ Fr (bl []) w0 (bl Z) w) [t1 Fl.i 3 p60 d.Letters.toNat d.Letters.toNat fP, .row 31 1 p46 n48 c47 gM, t1 Fl.bool 4 p50 n52 c51 d_49, .blk B34 (.cells #[.int .i64 d.Letters, .int .i64 (0 : Int), .slice p50 n52 c51, .slice p46 n48 c47] 25 (0, 0)), t1 Fl.i 3 p66 n68 c67 d_65, .any (mapE (fun a : Int => Value.int .i64 a) (fun a : Int => Value.int .i64 a) B19 jd), .blk B15 (.cells #[.slice p66 n68 c67, .map (some B19)] 188 (0, 0)), .blk B12 (.cells #[.int .i64 (0 : Int), .int .i64 (0 : Int), .slice none 0 0, .slice none 0 0] 25 (0, 0)), .blk B5 (.cells #[.int .i64 (0 : Int), .int .i64 (0 : Int), .slice none 0 0, .slice none 0 0] 25 (0, 0)), .blk B2 (.cells #[.int .i64 d.Letters, .int .i64 d.Start, .slice aa d.Final.length ad, .slice ae d.Next.length af] 25 (0, 0))]) ⟨_, _, _, agr, hO, fw.u, fr⟩ ?_
   refine fun X2 => p3 fun f9 fP d_65 jd => fun H hX2 σ w62 => e3 fun n68 p66 c67 => d3 fun hag hO fw hB => ?_
   dsimp only at H
   refine Go1.keep _ hag ?_
   revert hO; repeat (rename Owns _ _ _ _ => q; clear q)
   intro hO; repeat (rename Sq _ _ _ _ _ _ => q; clear q)
   refine au ?_
   refine scm H (fun h70 H => ?_) fun h70 H => ?_
   ·refine au ?_
    refine GoR.inl (vs := [.int .i64 (ix dE (eo : Int)), .int .i64 (f9 : Int)]) (caps := [.pointer (some ⟨B2, 0, none⟩)]) rfl rfl body140 Try.func140 rfl Try.ntmps140 rfl rfl rfl ?_
    intro RhR71 hR71
    refine au ?_
    refine sxls hO aA.u H.1 H.2.1 fun p72 c73 Io => ?_
    refine au ?_
    refine sxl hO Io.u H.2.2.1 H.2.2.2.1 ?_
    refine au ?_
    refine Go1.ret1V Try.func140 rfl (show _ = .int .i64 (ix (ix d.Next (ix dE (eo : Int))) (f9 : Int)) from rfl) ?_
    refine hR71 _ _ ?_
    refine GoR.inl (vs := [.pointer (some ⟨B15, 0, none⟩), .int .i64 (ix (ix d.Next (ix dE (eo : Int))) (f9 : Int))]) (caps := []) rfl rfl body163 Try.func163 rfl Try.ntmps163 rfl rfl rfl ?_
    intro RhR75 hR75
    refine au ?_
    replace H := H.2.2.2.2
    by_cases h76 : mhas jd ((ix (ix d.Next (ix dE (eo : Int))) (f9 : Int))) = true
    ·refine zs (olookT (a := (ix (ix d.Next (ix dE (eo : Int))) (f9 : Int))) (MK.int Try.underlying3) 5 hO rfl Try.underlying168 rfl rfl h76) ?_
     refine au ?_
     refine Go1.ret1V Try.func163 rfl (show _ = .int .i64 (mgt jd ((ix (ix d.Next (ix dE (eo : Int))) (f9 : Int)))) from rfl) ?_
     refine hR75 _ _ ?_
     refine six1 0 hO (ifp h76 H).1 (ifp h76 H).2.1 ?_
     refine sst (u := (mgt jd ((ix (ix d.Next (ix dE (eo : Int))) (f9 : Int))))) 0 hO (ifp h76 H).1 (ifp h76 H).2.1 fun w77 s hO => ?_
     refine au ?_
     have h78 := (ifp h76 H).1
     have h79 := (ifp h76 H).2.1
     replace H := (ifp h76 H).2.2
     obtain ⟨h80, H⟩ := H
     refine zo (J04 rfl rfl (wrap_i64 h80)) ?_
     refine au ?_
     exact hX2 _ H _ _ ⟨_, _, _, agr, hO, fw.u, fr⟩
    refine zs (olookF (a := (ix (ix d.Next (ix dE (eo : Int))) (f9 : Int))) (MK.int Try.underlying3) 5 hO rfl Try.underlying168 ti3 rfl rfl h76) ?_
    refine au ?_
    refine zo (fun w => opB (J6i Try.underlying168 rfl rfl w) rfl) ?_
    refine au ?_
    refine sln1 4 hO ?_
    refine au ?_
    have zz := omapUpd (MK.int Try.underlying3) 5 hO rfl Try.underlying168 (ix (ix d.Next (ix dE (eo : Int))) (f9 : Int)) (d_65.length : Int)
    obtain ⟨w81, B3, B6⟩ := zz
    refine zg (B6 (by exact rfl) (by exact rfl) (by exact rfl)) ?_
    refine nst B3 fun s hO => ?_
    refine au ?_
    refine sap1 ((ix (ix d.Next (ix dE (eo : Int))) (f9 : Int))) 4 hO (ifn h76 H) fun _ w84 p85 c86 s hO => ?_
    refine au ?_
    refine sbs 6 hO fun w87 s hO => ?_
    refine au ?_
    refine Go1.ret1V Try.func163 rfl (show _ = .int .i64 (d_65.length : Int) from rfl) ?_
    refine hR75 _ _ ?_
    refine six1 0 hO (ifn h76 H).2.1 (ifn h76 H).2.2.1 ?_
    refine sst (u := (d_65.length : Int)) 0 hO (ifn h76 H).2.1 (ifn h76 H).2.2.1 fun w88 s hO => ?_
    refine au ?_
    have h89 := (ifn h76 H).2.1
    have h90 := (ifn h76 H).2.2.1
    replace H := (ifn h76 H).2.2.2
    obtain ⟨h91, H⟩ := H
    refine zo (J04 rfl rfl (wrap_i64 h91)) ?_
    refine au ?_
    exact hX2 _ H _ _ ⟨_, _, _, agr, hO, fw.u, fr⟩
   refine au ?_
   refine sln1 4 hO ?_
   refine scm H (fun h92 H => ?_) fun h92 H => ?_
   ·refine au ?_
    refine zo (J06 Try.underlying25 ti25 (pl := [(0, 1), (1, 1), (2, 1), (3, 1)]) (vs := []) (cs := #[.int .i64 (0 : Int), .int .i64 (0 : Int), .slice none 0 0, .slice none 0 0]) (by kernel_rfl) rfl (by kernel_rfl)) ?_
    refine sba 7 hO fun w93 s hO => ?_
    refine au ?_
    refine Go1.retC3V Try.func139 rfl rfl (J03 (vs := [.int .i64 (0 : Int), .int .i64 (0 : Int), .slice none 0 0, .slice none 0 0]) 7 hO rfl rfl Try.underlying25 rfl ti25) (show _ = .slice none 0 0 from rfl) (show _ = .int .i64 (3 : Int) from rfl) ?_
    refine hR10 _ _ ?_
    refine au ?_
    refine sal hO fun w94 B95 s hO => ?_
    refine sba 0 hO fun w97 s hO => ?_
    refine au ?_
    refine sln0 ?_
    refine smk Fl.i (H aq.bd) hO fun w98 p99 s hO => ?_
    refine au ?_
    refine sln1 0 hO ?_
    refine au ?_
    refine sdr [2, 2, 2, 2, 2, 2, 2, 2, 3] hO fun s hO => ?_
    refine lw (H aq.bd).2.2 (fun (tP, number3_103) σ w => (fun Z => agrees σ [(2, .pointer (some ⟨B5, 0, none⟩)), (4, .pointer (some ⟨B95, 0, none⟩)), (5, .slice none 0 0), (7, .slice p99 d.Final.length d.Final.length), (31, .int .i64 ((List.replicate d.Final.length ((0 : Int))).length : Int)), (32, .int .i64 (tP : Int))] ∧ Owns w0.heap.size w Z A ∧ Fr (bl []) w0 (bl Z) w) [t1 Fl.i 3 p99 d.Final.length d.Final.length number3_103, .blk B95 (.cells #[.int .i64 (0 : Int), .int .i64 (0 : Int), .slice none 0 0, .slice none 0 0] 25 (0, 0)), .blk B5 (.cells #[.int .i64 (0 : Int), .int .i64 (0 : Int), .slice none 0 0, .slice none 0 0] 25 (0, 0))]) ⟨agr, hO, fr⟩ ?_
    refine fun X3 => p1 fun tP number3_103 => fun H hX3 σ uo => d2 fun hag hO hB => ?_
    dsimp only at H
    refine Go1.keep _ hag ?_
    revert hO; repeat (rename Owns _ _ _ _ => q; clear q)
    intro hO; repeat (rename Sq _ _ _ _ _ _ => q; clear q)
    refine au ?_
    refine scm H (fun Ip H => ?_) fun Ip H => ?_
    ·refine au ?_
     refine six1 0 hO H.1 H.2.1 ?_
     refine sst (u := (-1 : Int)) 0 hO H.1 H.2.1 fun qn s hO => ?_
     refine au ?_
     have kB := H.1
     have mS := H.2.1
     replace H := H.2.2
     obtain ⟨x9, H⟩ := H
     refine zo (J04 rfl rfl (wrap_i64 x9)) ?_
     refine au ?_
     exact hX3 _ H _ _ ⟨agr, hO, fr⟩
    refine au ?_
    refine sln0 ?_
    refine au ?_
    refine lw H (fun tQ σ w => (fun Z => agrees σ [(2, .pointer (some ⟨B5, 0, none⟩)), (4, .pointer (some ⟨B95, 0, none⟩)), (7, .slice p99 d.Final.length d.Final.length), (39, .slice none 0 0), (40, .int .i64 (0 : Int)), (41, .int .i64 (tQ : Int))] ∧ Owns w0.heap.size w Z A ∧ Fr (bl []) w0 (bl Z) w) [t1 Fl.i 3 p99 d.Final.length d.Final.length number3_103, .blk B95 (.cells #[.int .i64 (0 : Int), .int .i64 (0 : Int), .slice none 0 0, .slice none 0 0] 25 (0, 0)), .blk B5 (.cells #[.int .i64 (0 : Int), .int .i64 (0 : Int), .slice none 0 0, .slice none 0 0] 25 (0, 0))]) ⟨agr, hO, fr⟩ ?_
    refine fun X4 => fun tQ => fun H hX4 σ ya => d2 fun hag hO hB => ?_
    refine Go1.keep _ hag ?_
    revert hO; repeat (rename Owns _ _ _ _ => q; clear q)
    intro hO; repeat (rename Sq _ _ _ _ _ _ => q; clear q)
    refine au ?_
    refine scm H (fun mT H => ?_) fun mT H => ?_
    ·refine au ?_
     obtain ⟨kC, H⟩ := H
     obtain ⟨kD, H⟩ := H
     refine zo (J07 Try.underlying31 ti3 rfl rfl kC kD (absurd kD (by omega))) ?_
     exact absurd kD (by omega)
    refine au ?_
    refine zs (J05 (vs := [.int .i64 (0 : Int), .int .i64 (0 : Int), .slice none 0 0, .slice none 0 0]) (i := 0) 1 hO rfl rfl Try.underlying25 rfl ti25 rfl) ?_
    refine au ?_
    refine sba 2 hO fun Qf s hO => ?_
    refine au ?_
    refine sfz 0 hO fun s hO B9 Ca => ?_
    refine Go1.retC2 Try.func109 rfl rfl (J03 (vs := [.int .i64 (0 : Int), .int .i64 (0 : Int), .slice none 0 0, .slice none 0 0]) 1 hO rfl rfl Try.underlying25 rfl ti25) ⟨((⟨(0 : Int), (0 : Int), ([] : List Bool), ([] : List (List Int))⟩ : DFA)), _, _, _, _, _, _, _, ?_, frs, (ISl.null _ _ _), (ISl.null _ _ _), B9.r, H⟩
    exact (congrArg (fun l => Value.tuple (List.toArray l)) (J01 rfl (J01 (congrArg (fun nn => Value.slice p99 nn d.Final.length) Ca) rfl)))
   refine au ?_
   refine sfz 0 hO fun s hO qo wW => ?_
   have zz := J1l (r := Rp.sl (Rp.int .i64)) (n := 1) (parts := [(0, .slice p60 d.Letters.toNat d.Letters.toNat)]) (vs := [.slice p60 d.Letters.toNat d.Letters.toNat]) (xs := [fP]) rfl Try.underlying23 ti31 hO (by decide) (by kernel_rfl) (Els.cons rfl ⟨p60, d.Letters.toNat, congrArg some (congrArg (fun nn => Value.slice p60 nn d.Letters.toNat) wW), qo⟩ (Els.nil _ _ _) (by simp [mx])) rfl
   obtain ⟨uq, Iq, mU, Cb, NP, mV⟩ := zz
   refine zg (mV rfl) ?_
   refine nst mU fun s hO => ?_
   refine sfzR 0 hO Cb.u fun s hO qr qt => ?_
   obtain ⟨qu, H⟩ := H
   have zz := oapp Try.underlying23 ti31 rfl 0 hO rfl fw.u qr qt qu (by decide)
   obtain ⟨Ir, mW, qv, wX, yb, wY, yc⟩ := zz
   dsimp only [sS, sZ] at wY
   refine zg (yc (by exact rfl) (by exact rfl)) ?_
   refine nst yb fun s hO => ?_
   refine au ?_
   refine sbs 2 hO fun Qg s hO => ?_
   refine au ?_
   refine Go1.drawT (ok := fun _ => True) (CSv.tr [(some ⟨B34, 2, none⟩)]) [6, 8] 9 (.qp 0 (.qs 1 (.qp 2 (.qp 3 (.alt 4 (.alt 5 (.alt 6 (.qp 7 (.alt 8 .nil .fin)) .fin) .fin) .fin))))) mixed (by kernel_rfl) ?_
   intro mX Cc
   refine sm hO Cc fun s hO => ?_
   refine au ?_
   refine GoT.stable rfl (loadV (.head _) rfl (J00 2 hO rfl rfl) Try.underlying22 rfl rfl) rfl rfl ?_
   refine au ?_
   skip
   refine GoT.inl (vs := [.int .i64 (ix dE (eo : Int))]) (caps := [.pointer (some ⟨B2, 0, none⟩)]) rfl rfl rfl body141 Try.func141 rfl Try.ntmps141 rfl rfl rfl ?_
   intro RhR140 hR140
   have hOs141 := hO
   have hBs142 := (fr : Fr (bl []) w0 _ mX)
   have hB := Fr.refl (bl [.row 31 1 mW (n48 + 1) qv wX, t1 Fl.bool 4 p50 n52 c51 d_49, .blk B34 (.cells #[.int .i64 d.Letters, .int .i64 (0 : Int), .slice p50 n52 c51, .slice mW (n48 + 1) qv] 25 (0, 0)), t1 Fl.i 3 p66 n68 c67 d_65, .any (mapE (fun a : Int => Value.int .i64 a) (fun a : Int => Value.int .i64 a) B19 jd), .blk B15 (.cells #[.slice p66 n68 c67, .map (some B19)] 188 (0, 0)), .blk B12 (.cells #[.int .i64 (0 : Int), .int .i64 (0 : Int), .slice none 0 0, .slice none 0 0] 25 (0, 0)), .blk B5 (.cells #[.int .i64 (0 : Int), .int .i64 (0 : Int), .slice none 0 0, .slice none 0 0] 25 (0, 0)), .blk B2 (.cells #[.int .i64 d.Letters, .int .i64 d.Start, .slice aa d.Final.length ad, .slice ae d.Next.length af] 25 (0, 0))]) mX
   refine au ?_
   refine sxl hO aq.u H.1 H.2.1 ?_
   refine au ?_
   refine Go1.ret1V Try.func141 rfl (show _ = .bool (ix d.Final (ix dE (eo : Int))) from rfl) ?_
   refine hR140 _ _ (CSv.cons (cs_eq (J00 2 hOs141 rfl rfl) (J00 2 hO rfl rfl)) (CSv.nil _ _)) ?_
   replace hB := hBs142.trans (fr : Fr (bl [.row 31 1 mW (n48 + 1) qv wX, t1 Fl.bool 4 p50 n52 c51 d_49, .blk B34 (.cells #[.int .i64 d.Letters, .int .i64 (0 : Int), .slice p50 n52 c51, .slice mW (n48 + 1) qv] 25 (0, 0)), t1 Fl.i 3 p66 n68 c67 d_65, .any (mapE (fun a : Int => Value.int .i64 a) (fun a : Int => Value.int .i64 a) B19 jd), .blk B15 (.cells #[.slice p66 n68 c67, .map (some B19)] 188 (0, 0)), .blk B12 (.cells #[.int .i64 (0 : Int), .int .i64 (0 : Int), .slice none 0 0, .slice none 0 0] 25 (0, 0)), .blk B5 (.cells #[.int .i64 (0 : Int), .int .i64 (0 : Int), .slice none 0 0, .slice none 0 0] 25 (0, 0)), .blk B2 (.cells #[.int .i64 d.Letters, .int .i64 d.Start, .slice aa d.Final.length ad, .slice ae d.Next.length af] 25 (0, 0))]) mX _ mX)
   replace H := H.2.2
   skip
   refine sbuQ Fl.bool 4 [ix d.Final (ix dE (eo : Int))] hO (fun Iu Iv s hO => ?_) (g := fun _ _ _ hv _ hst h => GoT.step rfl hv (CSv.cons (cs_eq (J00 2 hO rfl rfl) (J00 3 hst.own rfl rfl)) (CSv.nil _ _)) rfl rfl h)
   skip
   refine sfz 0 hO fun s hO Cd xa => ?_
   refine sap 1 hO Cd H fun Qh Qi Qj s hO => ?_
   refine au ?_
   replace H := H.2
   skip
   refine sbs 2 hO fun Iw s hO => ?_
   refine au ?_
   obtain ⟨Ix, H⟩ := H
   refine zo (J04 rfl rfl (wrap_i64 Ix)) ?_
   refine au ?_
   exact hX1 _ H _ _ ⟨_, _, _, _, _, _, _, _, _, _, agr, hO, wY.u, fr⟩
  refine au ?_
  refine Go1.drawT (ok := fun _ => True) Same.tr [3] 6 (.qs 0 (.qp 1 (.alt 2 (.alt 3 (.qp 4 (.qp 5 .nil)) .fin) (.alt 3 (.alt 2 (.qp 4 (.qp 5 .nil)) .fin) .fin)))) mixed (by kernel_rfl) ?_
  intro yd Ce
  refine sm hO Ce fun s hO => ?_
  refine GoT.stable rfl (J05 (vs := [.int .i64 d.Letters, .int .i64 (0 : Int), .slice p50 n52 c51, .slice p46 n48 c47]) (i := 0) 2 hO rfl rfl Try.underlying25 rfl ti25 rfl) rfl rfl ?_
  refine au ?_
  refine GoT.both ?_ ?_
  ·skip
   replace H := H.1
   refine sbl 5 ?_
   skip
   refine sba 6 hO fun ye s hO => ?_
   refine au ?_
   refine Go1.retC3V Try.func139 rfl rfl (J03 (vs := [.int .i64 d.Letters, .int .i64 (0 : Int), .slice p50 n52 c51, .slice p46 n48 c47]) 6 hO rfl rfl Try.underlying25 rfl ti25) (show _ = .slice p54 n56 c55 from rfl) (show _ = .int .i64 (0 : Int) from rfl) ?_
   refine hR10 _ _ ?_
   refine au ?_
   refine sal hO fun Iy B157 s hO => ?_
   refine sba 0 hO fun Qk s hO => ?_
   refine au ?_
   refine sln0 ?_
   refine smk Fl.i (H aq.bd) hO fun Iz lU s hO => ?_
   refine au ?_
   refine sln1 0 hO ?_
   refine au ?_
   refine sdr [4, 5, 5, 5, 6] hO fun s hO => ?_
   refine lw (H aq.bd).2.2 (fun (tR, number5_165) σ w => (fun Z => agrees σ [(2, .pointer (some ⟨B5, 0, none⟩)), (4, .pointer (some ⟨B157, 0, none⟩)), (5, .slice p54 n56 c55), (7, .slice lU d.Final.length d.Final.length), (31, .int .i64 ((List.replicate d.Final.length ((0 : Int))).length : Int)), (32, .int .i64 (tR : Int))] ∧ Owns w0.heap.size w Z A ∧ Els (Rp.sl (Rp.int .i64)) (bl Z ++ A) w gM d_43 ∧ Fr (bl []) w0 (bl Z) w) [t1 Fl.i 3 lU d.Final.length d.Final.length number5_165, .blk B157 (.cells #[.int .i64 d.Letters, .int .i64 (0 : Int), .slice p50 n52 c51, .slice p46 n48 c47] 25 (0, 0)), .row 31 1 p46 n48 c47 gM, t1 Fl.bool 4 p50 n52 c51 d_49, t1 Fl.i 3 p54 n56 c55 dE, .blk B5 (.cells #[.int .i64 (0 : Int), .int .i64 (0 : Int), .slice none 0 0, .slice none 0 0] 25 (0, 0))]) ⟨agr, hO, fw.u, fr⟩ ?_
   refine fun X5 => p1 fun tR number5_165 => fun H hX5 σ IA => d3 fun hag hO fw hB => ?_
   dsimp only at H
   refine Go1.keep _ hag ?_
   revert hO; repeat (rename Owns _ _ _ _ => q; clear q)
   intro hO; repeat (rename Sq _ _ _ _ _ _ => q; clear q)
   refine au ?_
   refine scm H (fun ur H => ?_) fun ur H => ?_
   ·refine au ?_
    refine six1 0 hO H.1 H.2.1 ?_
    refine sst (u := (-1 : Int)) 0 hO H.1 H.2.1 fun yf s hO => ?_
    refine au ?_
    have Ql := H.1
    have Qm := H.2.1
    replace H := H.2.2
    obtain ⟨IB, H⟩ := H
    refine zo (J04 rfl rfl (wrap_i64 IB)) ?_
    refine au ?_
    exact hX5 _ H _ _ ⟨agr, hO, fw.u, fr⟩
   refine au ?_
   refine sln1 4 hO ?_
   refine au ?_
   refine lw H (fun (mY, number6_173) σ w => (fun Z => agrees σ [(2, .pointer (some ⟨B5, 0, none⟩)), (4, .pointer (some ⟨B157, 0, none⟩)), (7, .slice lU d.Final.length d.Final.length), (39, .slice p54 n56 c55), (40, .int .i64 (dE.length : Int)), (41, .int .i64 (mY : Int))] ∧ Owns w0.heap.size w Z A ∧ Els (Rp.sl (Rp.int .i64)) (bl Z ++ A) w gM d_43 ∧ Fr (bl []) w0 (bl Z) w) [t1 Fl.i 3 lU d.Final.length d.Final.length number6_173, .blk B157 (.cells #[.int .i64 d.Letters, .int .i64 (0 : Int), .slice p50 n52 c51, .slice p46 n48 c47] 25 (0, 0)), .row 31 1 p46 n48 c47 gM, t1 Fl.bool 4 p50 n52 c51 d_49, t1 Fl.i 3 p54 n56 c55 dE, .blk B5 (.cells #[.int .i64 (0 : Int), .int .i64 (0 : Int), .slice none 0 0, .slice none 0 0] 25 (0, 0))]) ⟨agr, hO, fw.u, fr⟩ ?_
   refine fun X6 => p1 fun mY number6_173 => fun H hX6 σ yg => d3 fun hag hO fw hB => ?_
   dsimp only at H
   refine Go1.keep _ hag ?_
   revert hO; repeat (rename Owns _ _ _ _ => q; clear q)
   intro hO; repeat (rename Sq _ _ _ _ _ _ => q; clear q)
   refine au ?_
   refine scm H (fun yh H => ?_) fun yh H => ?_
   ·refine au ?_
    refine sxl1 4 hO H.1 H.2.1 ?_
    refine au ?_
    refine six1 0 hO H.2.2.1 H.2.2.2.1 ?_
    refine sst (u := (mY : Int)) 0 hO H.2.2.1 H.2.2.2.1 fun IC s hO => ?_
    refine au ?_
    refine sinc (natbd yh (t1b 4 hO)) ?_
    refine au ?_
    exact hX6 _ H.2.2.2.2 _ _ ⟨agr, hO, fw.u, fr⟩
   refine au ?_
   refine zs (J05 (vs := [.int .i64 d.Letters, .int .i64 (0 : Int), .slice p50 n52 c51, .slice p46 n48 c47]) (i := 0) 1 hO rfl rfl Try.underlying25 rfl ti25 rfl) ?_
   refine au ?_
   refine sba 5 hO fun ID s hO => ?_
   refine au ?_
   refine sfz 3 hO fun s hO Cf Cg => ?_
   refine sfzR 2 hO fw.u fun s hO qw qz => ?_
   refine sfz 0 hO fun s hO Ci Cj => ?_
   refine Go1.retC2 Try.func109 rfl rfl (J03 (vs := [.int .i64 d.Letters, .int .i64 (0 : Int), .slice p50 n52 c51, .slice p46 n48 c47]) 2 hO rfl rfl Try.underlying25 rfl ti25) ⟨((⟨d.Letters, (0 : Int), d_49, d_43⟩ : DFA)), _, _, _, _, _, _, _, ?_, frs, Cf.r, qw.r, Ci.r, H⟩
   exact (congrArg (fun l => Value.tuple (List.toArray l)) (J01 (congrArg (fun l => Value.agg (List.toArray l)) (J01 rfl (J01 rfl (J01 (congrArg (fun nn => Value.slice p50 nn c51) Cg) (J01 (congrArg (fun nn => Value.slice p46 nn c47) qz) rfl))))) (J01 (congrArg (fun nn => Value.slice lU nn d.Final.length) Cj) rfl)))
  replace H := H.2
  refine sba 6 hO fun yj s hO => ?_
  skip
  refine sbl 5 ?_
  refine au ?_
  refine Go1.retC3V Try.func139 rfl rfl (J03 (vs := [.int .i64 d.Letters, .int .i64 (0 : Int), .slice p50 n52 c51, .slice p46 n48 c47]) 6 hO rfl rfl Try.underlying25 rfl ti25) (show _ = .slice p54 n56 c55 from rfl) (show _ = .int .i64 (0 : Int) from rfl) ?_
  refine hR10 _ _ ?_
  refine au ?_
  refine sal hO fun IE B185 s hO => ?_
  refine sba 0 hO fun IF s hO => ?_
  refine au ?_
  refine sln0 ?_
  refine smk Fl.i (H aq.bd) hO fun yk lV s hO => ?_
  refine au ?_
  refine sln1 0 hO ?_
  refine au ?_
  refine sdr [4, 5, 5, 5, 6] hO fun s hO => ?_
  refine lw (H aq.bd).2.2 (fun (tS, number7_193) σ w => (fun Z => agrees σ [(2, .pointer (some ⟨B5, 0, none⟩)), (4, .pointer (some ⟨B185, 0, none⟩)), (5, .slice p54 n56 c55), (7, .slice lV d.Final.length d.Final.length), (31, .int .i64 ((List.replicate d.Final.length ((0 : Int))).length : Int)), (32, .int .i64 (tS : Int))] ∧ Owns w0.heap.size w Z A ∧ Els (Rp.sl (Rp.int .i64)) (bl Z ++ A) w gM d_43 ∧ Fr (bl []) w0 (bl Z) w) [t1 Fl.i 3 lV d.Final.length d.Final.length number7_193, .blk B185 (.cells #[.int .i64 d.Letters, .int .i64 (0 : Int), .slice p50 n52 c51, .slice p46 n48 c47] 25 (0, 0)), .row 31 1 p46 n48 c47 gM, t1 Fl.bool 4 p50 n52 c51 d_49, t1 Fl.i 3 p54 n56 c55 dE, .blk B5 (.cells #[.int .i64 (0 : Int), .int .i64 (0 : Int), .slice none 0 0, .slice none 0 0] 25 (0, 0))]) ⟨agr, hO, fw.u, fr⟩ ?_
  refine fun X7 => p1 fun tS number7_193 => fun H hX7 σ ut => d3 fun hag hO fw hB => ?_
  dsimp only at H
  refine Go1.keep _ hag ?_
  revert hO; repeat (rename Owns _ _ _ _ => q; clear q)
  intro hO; repeat (rename Sq _ _ _ _ _ _ => q; clear q)
  refine au ?_
  refine scm H (fun IG H => ?_) fun IG H => ?_
  ·refine au ?_
   refine six1 0 hO H.1 H.2.1 ?_
   refine sst (u := (-1 : Int)) 0 hO H.1 H.2.1 fun yl s hO => ?_
   refine au ?_
   have ym := H.1
   have yo := H.2.1
   replace H := H.2.2
   obtain ⟨uu, H⟩ := H
   refine zo (J04 rfl rfl (wrap_i64 uu)) ?_
   refine au ?_
   exact hX7 _ H _ _ ⟨agr, hO, fw.u, fr⟩
  refine au ?_
  refine sln1 4 hO ?_
  refine au ?_
  refine lw H (fun (m3, number8_201) σ w => (fun Z => agrees σ [(2, .pointer (some ⟨B5, 0, none⟩)), (4, .pointer (some ⟨B185, 0, none⟩)), (7, .slice lV d.Final.length d.Final.length), (39, .slice p54 n56 c55), (40, .int .i64 (dE.length : Int)), (41, .int .i64 (m3 : Int))] ∧ Owns w0.heap.size w Z A ∧ Els (Rp.sl (Rp.int .i64)) (bl Z ++ A) w gM d_43 ∧ Fr (bl []) w0 (bl Z) w) [t1 Fl.i 3 lV d.Final.length d.Final.length number8_201, .blk B185 (.cells #[.int .i64 d.Letters, .int .i64 (0 : Int), .slice p50 n52 c51, .slice p46 n48 c47] 25 (0, 0)), .row 31 1 p46 n48 c47 gM, t1 Fl.bool 4 p50 n52 c51 d_49, t1 Fl.i 3 p54 n56 c55 dE, .blk B5 (.cells #[.int .i64 (0 : Int), .int .i64 (0 : Int), .slice none 0 0, .slice none 0 0] 25 (0, 0))]) ⟨agr, hO, fw.u, fr⟩ ?_
  refine fun X8 => p1 fun m3 number8_201 => fun H hX8 σ yr => d3 fun hag hO fw hB => ?_
  dsimp only at H
  refine Go1.keep _ hag ?_
  revert hO; repeat (rename Owns _ _ _ _ => q; clear q)
  intro hO; repeat (rename Sq _ _ _ _ _ _ => q; clear q)
  refine au ?_
  refine scm H (fun yu H => ?_) fun yu H => ?_
  ·refine au ?_
   refine sxl1 4 hO H.1 H.2.1 ?_
   refine au ?_
   refine six1 0 hO H.2.2.1 H.2.2.2.1 ?_
   refine sst (u := (m3 : Int)) 0 hO H.2.2.1 H.2.2.2.1 fun yv s hO => ?_
   refine au ?_
   refine sinc (natbd yu (t1b 4 hO)) ?_
   refine au ?_
   exact hX8 _ H.2.2.2.2 _ _ ⟨agr, hO, fw.u, fr⟩
  refine au ?_
  refine zs (J05 (vs := [.int .i64 d.Letters, .int .i64 (0 : Int), .slice p50 n52 c51, .slice p46 n48 c47]) (i := 0) 1 hO rfl rfl Try.underlying25 rfl ti25 rfl) ?_
  refine au ?_
  refine sba 5 hO fun IH s hO => ?_
  refine au ?_
  refine sfz 3 hO fun s hO Ck Cl => ?_
  refine sfzR 2 hO fw.u fun s hO qA xb => ?_
  refine sfz 0 hO fun s hO Cm Cn => ?_
  refine Go1.retC2 Try.func109 rfl rfl (J03 (vs := [.int .i64 d.Letters, .int .i64 (0 : Int), .slice p50 n52 c51, .slice p46 n48 c47]) 2 hO rfl rfl Try.underlying25 rfl ti25) ⟨((⟨d.Letters, (0 : Int), d_49, d_43⟩ : DFA)), _, _, _, _, _, _, _, ?_, frs, Ck.r, qA.r, Cm.r, H⟩
  exact (congrArg (fun l => Value.tuple (List.toArray l)) (J01 (congrArg (fun l => Value.agg (List.toArray l)) (J01 rfl (J01 rfl (J01 (congrArg (fun nn => Value.slice p50 nn c51) Cl) (J01 (congrArg (fun nn => Value.slice p46 nn c47) xb) rfl))))) (J01 (congrArg (fun nn => Value.slice lV nn d.Final.length) Cn) rfl)))
 refine au ?_
 refine zo (J06 Try.underlying25 ti25 (pl := [(0, 1), (1, 1), (2, 1), (3, 1)]) (vs := []) (cs := #[.int .i64 (0 : Int), .int .i64 (0 : Int), .slice none 0 0, .slice none 0 0]) (by kernel_rfl) rfl (by kernel_rfl)) ?_
 refine sba 0 hO fun Qn s hO => ?_
 refine au ?_
 refine Go1.retC2 Try.func109 rfl rfl (J03 (vs := [.int .i64 (0 : Int), .int .i64 (0 : Int), .slice none 0 0, .slice none 0 0]) 0 hO rfl rfl Try.underlying25 rfl ti25) ⟨((⟨(0 : Int), (0 : Int), ([] : List Bool), ([] : List (List Int))⟩ : DFA)), _, _, _, _, _, _, _, ?_, frs, (ISl.null _ _ _), (ISl.null _ _ _), (ISl.null _ _ _), H⟩
 exact rfl
theorem body110 : Body Try.prog 110 := ⟨Try.f110, Try.func110, rfl, by kernel_rfl⟩
theorem J2X {A : List Nat} {w0 : World} {ag : Option Addr} {ah : Nat} {ai : Option Addr} {aj : Nat} {a0 : DFA} (hA : ∀ b ∈ A, b < w0.heap.size) (am : ISl (Rp.bool) A w0 ag ah a0.Final) (cI : ISl (Rp.sl (Rp.int .i64)) A w0 ai aj a0.Next) {K : List Int → Prop} (H : J0z a0 K) :
    CallsV Try.prog 110 #[.agg #[.int .i64 a0.Letters, .int .i64 a0.Start, .slice ag a0.Final.length ah, .slice ai a0.Next.length aj]] w0 (fun v w' => ∃ (r0 : List Int), ∃ (bS : Option Addr), ∃ (bT : Nat), v = .slice bS r0.length bT ∧ Same w0 w' ∧ ISl (Rp.int .i64) A w' bS bT r0 ∧ K r0) := by
 refine CallsV.of (l := [.agg #[.int .i64 a0.Letters, .int .i64 a0.Start, .slice ag a0.Final.length ah, .slice ai a0.Next.length aj]]) Try.func110 rfl Try.ntmps110 rfl ?_
 have hO := Owns.start hA
 have hB := Fr.refl (bl []) w0
 unfold J0z at H
 refine au ?_
 refine sbx hO fun w1 B2 s hO => ?_
 refine au ?_
 refine zs (J05 (vs := [.int .i64 a0.Letters, .int .i64 a0.Start, .slice ag a0.Final.length ah, .slice ai a0.Next.length aj]) (i := 0) 0 hO rfl rfl Try.underlying25 rfl ti25 rfl) ?_
 refine zcr (J02 body61 rfl (J0I hO.lt am.u cI.u H)) fun _ w5 => e1 fun r4 => sc0 hO fun s hO => fun H => ?_
 refine scm H (fun h6 H => ?_) fun h6 H => ?_
 ·refine au ?_
  refine sln0 ?_
  refine smk Fl.i (H am.bd) hO fun w7 p8 s hO => ?_
  refine au ?_
  refine sln0 ?_
  refine au ?_
  refine lw (H am.bd).2.2 (fun (k1_11, k1_12, d_13) σ w => (fun Z => agrees σ [(1, .pointer (some ⟨B2, 0, none⟩)), (3, .slice p8 a0.Final.length a0.Final.length), (4, .int .i64 k1_11), (24, .slice ag a0.Final.length ah), (25, .int .i64 (a0.Final.length : Int)), (26, .int .i64 (k1_12 : Int))] ∧ Owns w0.heap.size w Z A ∧ Fr (bl []) w0 (bl Z) w) [t1 Fl.i 3 p8 a0.Final.length a0.Final.length d_13, .blk B2 (.cells #[.int .i64 a0.Letters, .int .i64 a0.Start, .slice ag a0.Final.length ah, .slice ai a0.Next.length aj] 25 (0, 0))]) ⟨agr, hO, fr⟩ ?_
  refine fun X1 => p2 fun k1_11 k1_12 d_13 => fun H hX1 σ w10 => d2 fun hag hO hB => ?_
  dsimp only at H
  refine Go1.keep _ hag ?_
  revert hO; repeat (rename Owns _ _ _ _ => q; clear q)
  intro hO; repeat (rename Sq _ _ _ _ _ _ => q; clear q)
  refine au ?_
  refine scm H (fun h14 H => ?_) fun h14 H => ?_
  ·refine au ?_
   have h15 := H.1
   have h16 := H.2.1
   refine sxb hO am.u H.1 H.2.1 H.2.2 (fun h17 H => ?_) fun h17 H => ?_
   ·refine au ?_
    have h18 := H.1
    have h19 := H.2.1
    refine sxb hO am.u H.1 H.2.1 H.2.2 (fun h20 H => ?_) fun h20 H => ?_
    ·refine zo (J3i Try.underlying4 rfl rfl) ?_
     refine au ?_
     refine sinc (natbd h14 am.bd) ?_
     refine au ?_
     exact hX1 _ H _ _ ⟨agr, hO, fr⟩
    refine zo (J3i Try.underlying4 rfl rfl) ?_
    refine au ?_
    refine six1 0 hO H.1 H.2.1 ?_
    refine sst (u := (1 : Int)) 0 hO H.1 H.2.1 fun w21 s hO => ?_
    refine au ?_
    refine sinc (natbd h14 am.bd) ?_
    refine au ?_
    exact hX1 _ H.2.2 _ _ ⟨agr, hO, fr⟩
   refine au ?_
   have h22 := H.1
   have h23 := H.2.1
   refine sxb hO am.u H.1 H.2.1 H.2.2 (fun h24 H => ?_) fun h24 H => ?_
   ·refine zo (J3i Try.underlying4 rfl rfl) ?_
    refine au ?_
    refine six1 0 hO H.1 H.2.1 ?_
    refine sst (u := (1 : Int)) 0 hO H.1 H.2.1 fun w25 s hO => ?_
    refine au ?_
    refine sinc (natbd h14 am.bd) ?_
    refine au ?_
    exact hX1 _ H.2.2 _ _ ⟨agr, hO, fr⟩
   refine zo (J3i Try.underlying4 rfl rfl) ?_
   refine au ?_
   refine sinc (natbd h14 am.bd) ?_
   refine au ?_
   exact hX1 _ H _ _ ⟨agr, hO, fr⟩
  refine au ?_
  refine sfz 0 hO fun s hO uv II => ?_
  refine lw H (fun (du, k2_33) σ w => ∃ p30 c31, (fun Z => agrees σ [(1, .pointer (some ⟨B2, 0, none⟩)), (3, .slice p30 du.length c31), (4, .int .i64 k2_33)] ∧ Owns w0.heap.size w Z A ∧ ISl (Rp.int .i64) (bl Z ++ A) w p30 c31 du ∧ Fr (bl []) w0 (bl Z) w) [.blk B2 (.cells #[.int .i64 a0.Letters, .int .i64 a0.Start, .slice ag a0.Final.length ah, .slice ai a0.Next.length aj] 25 (0, 0))]) ⟨_, _, ⟨rfl, (congrArg (fun nn => Value.slice p8 nn a0.Final.length) II), rfl, trivial⟩, hO, uv, fr⟩ ?_
  refine fun X2 => p1 fun du k2_33 => fun H hX2 σ w28 => e2 fun p30 c31 => d3 fun hag hO fe hB => ?_
  dsimp only at H
  refine Go1.keep _ hag ?_
  revert hO; repeat (rename Owns _ _ _ _ => q; clear q)
  intro hO; repeat (rename Sq _ _ _ _ _ _ => q; clear q)
  refine au ?_
  have zz := omakeMap (fun a : AN 7 => Value.agg (icells .i64 a.1).toArray) (fun a : Int => Value.int .i64 a) hO
  obtain ⟨w34, B35, Co, qB, Cp⟩ := zz
  refine zg Cp ?_
  refine nst Co fun s hO => ?_
  refine au ?_
  refine sln0 ?_
  refine smk Fl.i (H fe.bd) hO fun w40 p41 s hO => ?_
  refine au ?_
  refine sln0 ?_
  refine au ?_
  refine lw ((H fe.bd).2.2 cI.bd) (fun (gx, uw, je) σ w => (fun Z => agrees σ [(1, .pointer (some ⟨B2, 0, none⟩)), (3, .slice p30 du.length c31), (4, .int .i64 k2_33), (7, .map (some B35)), (8, .slice p41 du.length du.length), (46, .slice ai a0.Next.length aj), (47, .int .i64 (a0.Next.length : Int)), (48, .int .i64 (gx : Int))] ∧ Owns w0.heap.size w Z A ∧ ISl (Rp.int .i64) (bl Z ++ A) w p30 c31 du ∧ Fr (bl []) w0 (bl Z) w) [t1 Fl.i 3 p41 du.length du.length uw, .any (mapE (fun a : AN 7 => Value.agg (icells .i64 a.1).toArray) (fun a : Int => Value.int .i64 a) B35 je), .blk B2 (.cells #[.int .i64 a0.Letters, .int .i64 a0.Start, .slice ag a0.Final.length ah, .slice ai a0.Next.length aj] 25 (0, 0))]) ⟨agr, hO, fe.u, fr⟩ ?_
  refine fun X3 => p2 fun gx uw je => fun H hX3 σ w43 => d3 fun hag hO fe hB => ?_
  dsimp only at H
  refine Go1.keep _ hag ?_
  revert hO; repeat (rename Owns _ _ _ _ => q; clear q)
  intro hO; repeat (rename Sq _ _ _ _ _ _ => q; clear q)
  refine au ?_
  refine scm H (fun h47 H => ?_) fun h47 H => ?_
  ·refine au ?_
   refine sxls hO cI.u H.1 H.2.1 fun p48 c49 iV => ?_
   refine au ?_
   refine sxl hO fe H.2.2.1 H.2.2.2.1 ?_
   refine zo (J6K Try.underlying166 ti166 ti3 (vs := [(0, .int .i64 (ix du (gx : Int)))]) (cs := #[.int .i64 (ix du (gx : Int)), .int .i64 (0 : Int), .int .i64 (0 : Int), .int .i64 (0 : Int), .int .i64 (0 : Int), .int .i64 (0 : Int), .int .i64 (0 : Int)]) rfl (by kernel_rfl)) ?_
   have zz := oalloc (t := 166) (cs := (icells .i64 (([(0 : Int), (0 : Int), (0 : Int), (0 : Int), (0 : Int), (0 : Int), (0 : Int)] : List Int))).toArray) ti166 hO rfl
   obtain ⟨w51, B52, Cq, yw, Cr⟩ := zz
   refine zg Cr ?_
   refine nst Cq fun s hO => ?_
   have h60 := H.1
   have h61 := H.2.1
   have h62 := H.2.2.1
   have h63 := H.2.2.2.1
   replace H := H.2.2.2.2
   obtain ⟨h64, H⟩ := H
   have zz := oarrStA (M := [(ix du (gx : Int)), (0 : Int), (0 : Int), (0 : Int), (0 : Int), (0 : Int), (0 : Int)]) 0 hO rfl (by rw [h64]; rfl)
   obtain ⟨w57, qC, qD⟩ := zz
   refine zg (qD ti166 (by exact rfl) (by exact rfl)) ?_
   refine nst qC fun s hO => ?_
   refine au ?_
   refine sln0 ?_
   refine au ?_
   refine lw (H iV.bd) (fun (qE, y4_67) σ w => (fun Z => agrees σ [(1, .pointer (some ⟨B2, 0, none⟩)), (3, .slice p30 du.length c31), (4, .int .i64 k2_33), (7, .map (some B35)), (8, .slice p41 du.length du.length), (9, .int .i64 (gx : Int)), (11, .pointer (some ⟨B52, 0, none⟩)), (46, .slice ai a0.Next.length aj), (47, .int .i64 (a0.Next.length : Int)), (48, .int .i64 (gx : Int)), (58, .slice p48 ((ix a0.Next (gx : Int)).length) c49), (59, .int .i64 ((ix a0.Next (gx : Int)).length : Int)), (60, .int .i64 (qE : Int))] ∧ Owns w0.heap.size w Z A ∧ ISl (Rp.int .i64) (bl Z ++ A) w p30 c31 du ∧ ISl (Rp.int .i64) (bl Z ++ A) w p48 c49 (ix a0.Next (gx : Int)) ∧ Fr (bl []) w0 (bl Z) w) [.blk B52 (.cells (icells .i64 y4_67).toArray 166 (0, 0)), t1 Fl.i 3 p41 du.length du.length uw, .any (mapE (fun a : AN 7 => Value.agg (icells .i64 a.1).toArray) (fun a : Int => Value.int .i64 a) B35 je), .blk B2 (.cells #[.int .i64 a0.Letters, .int .i64 a0.Start, .slice ag a0.Final.length ah, .slice ai a0.Next.length aj] 25 (0, 0))]) ⟨agr, hO, fe.u, iV.u, fr⟩ ?_
   refine fun X4 => p1 fun qE y4_67 => fun H hX4 σ w65 => d4 fun hag hO fe iV hB => ?_
   dsimp only at H
   refine Go1.keep _ hag ?_
   revert hO; repeat (rename Owns _ _ _ _ => q; clear q)
   intro hO; repeat (rename Sq _ _ _ _ _ _ => q; clear q)
   refine au ?_
   refine scm H (fun h68 H => ?_) fun h68 H => ?_
   ·refine au ?_
    refine sxl hO iV H.1 H.2.1 ?_
    refine au ?_
    have h69 := H.1
    have h70 := H.2.1
    replace H := H.2.2
    obtain ⟨h71, H⟩ := H
    refine zo (J04 rfl rfl (wrap_i64 h71)) ?_
    refine au ?_
    refine sxl hO fe H.1 H.2.1 ?_
    have h72 := H.1
    have h73 := H.2.1
    replace H := H.2.2
    obtain ⟨h74, H⟩ := H
    obtain ⟨h75, H⟩ := H
    obtain ⟨h76, H⟩ := H
    refine zo (J6n (n := 7) Try.underlying166 ti3 rfl rfl h75 h76) ?_
    have zz := oarrSt (v := (ix du (ix (ix a0.Next (gx : Int)) (qE : Int)))) 0 hO rfl h75 (arrLt h74 h76)
    obtain ⟨w77, gQ, qF⟩ := zz
    refine zg (qF Try.underlying3 rfl ti3 (by exact rfl) (by exact rfl)) ?_
    refine nst gQ fun s hO => ?_
    refine au ?_
    refine sinc (natbd h68 iV.bd) ?_
    refine au ?_
    exact hX4 _ H _ _ ⟨agr, hO, fe.u, iV.u, fr⟩
   refine au ?_
   obtain ⟨h80, H⟩ := H
   refine zs (oarrLd 0 hO rfl h80 Try.underlying166 rfl ti166 rfl) ?_
   by_cases h81 : mhas je ((toAN 7 y4_67)) = true
   ·refine zs (olookT (a := (toAN 7 y4_67)) (MK.arrN Try.underlying166 Try.underlying3 ti3) 2 hO rfl Try.underlying164 rfl rfl h81) ?_
    refine au ?_
    refine six1 1 hO (ifp h81 H).1 (ifp h81 H).2.1 ?_
    refine sst (u := (mgt je ((toAN 7 y4_67)))) 1 hO (ifp h81 H).1 (ifp h81 H).2.1 fun w82 s hO => ?_
    refine au ?_
    refine sinc (natbd h47 cI.bd) ?_
    refine au ?_
    refine sdr [0] hO fun s hO => ?_
    exact hX3 _ (ifp h81 H).2.2 _ _ ⟨agr, hO, fe.u, fr⟩
   refine zs (olookF (a := (toAN 7 y4_67)) (MK.arrN Try.underlying166 Try.underlying3 ti3) 2 hO rfl Try.underlying164 ti3 rfl rfl h81) ?_
   refine au ?_
   refine zs (omapLen 2 hO rfl Try.underlying164 rfl) ?_
   refine au ?_
   replace H := (ifn h81 H)
   obtain ⟨h83, H⟩ := H
   refine zs (oarrLd 0 hO rfl h83 Try.underlying166 rfl ti166 rfl) ?_
   refine au ?_
   have zz := omapUpd (MK.arrN Try.underlying166 Try.underlying3 ti3) 2 hO rfl Try.underlying164 (toAN 7 y4_67) (je.length : Int)
   obtain ⟨w84, Cs, Ct⟩ := zz
   refine zg (Ct (by exact rfl) (by exact rfl) (by exact rfl)) ?_
   refine nst Cs fun s hO => ?_
   refine au ?_
   refine six1 1 hO H.1 H.2.1 ?_
   refine sst (u := (je.length : Int)) 1 hO H.1 H.2.1 fun w87 s hO => ?_
   refine au ?_
   refine sinc (natbd h47 cI.bd) ?_
   refine au ?_
   refine sdr [0] hO fun s hO => ?_
   exact hX3 _ H.2.2 _ _ ⟨agr, hO, fe.u, fr⟩
  refine au ?_
  refine zs (omapLen 1 hO rfl Try.underlying164 rfl) ?_
  refine au ?_
  refine scm H (fun h88 H => ?_) fun h88 H => ?_
  ·refine au ?_
   refine sfz 0 hO fun s hO ux IJ => ?_
   refine Go1.ret1 Try.func110 rfl ⟨_, _, _, ?_, frs, ux.r, H⟩
   exact (congrArg (fun nn => Value.slice p41 nn du.length) IJ)
  refine au ?_
  refine zs (omapLen 1 hO rfl Try.underlying164 rfl) ?_
  refine au ?_
  refine sfz 0 hO fun s hO IK uy => ?_
  refine sdr [0] hO fun s hO => ?_
  exact hX2 _ H _ _ ⟨_, _, ⟨rfl, (congrArg (fun nn => Value.slice p41 nn du.length) uy), rfl, trivial⟩, hO, IK.u, fr⟩
 refine au ?_
 refine Go1.ret1 Try.func110 rfl ⟨_, _, _, ?_, frs, (ISl.null _ _ _), H⟩
 exact rfl
theorem body66 : Body Try.prog 66 := ⟨Try.f66, Try.func66, rfl, by kernel_rfl⟩
theorem J3b {A : List Nat} {w0 : World} {ag : Option Addr} {ah : Nat} {ai : Option Addr} {aj : Nat} {a0 : DFA} (hA : ∀ b ∈ A, b < w0.heap.size) (am : ISl (Rp.bool) A w0 ag ah a0.Final) (cI : ISl (Rp.sl (Rp.int .i64)) A w0 ai aj a0.Next) {K : DFA → List Int → Prop} (H : J0y a0 K) :
    CallsV Try.prog 66 #[.agg #[.int .i64 a0.Letters, .int .i64 a0.Start, .slice ag a0.Final.length ah, .slice ai a0.Next.length aj]] w0 (fun v w' => ∃ (r0 : DFA), ∃ (r1 : List Int), ∃ (b8 : Option Addr), ∃ (b9 : Nat), ∃ (cz : Option Addr), ∃ (cA : Nat), ∃ (fh : Option Addr), ∃ (fk : Nat), v = .tuple #[.agg #[.int .i64 r0.Letters, .int .i64 r0.Start, .slice b8 r0.Final.length b9, .slice cz r0.Next.length cA], .slice fh r1.length fk] ∧ Same w0 w' ∧ ISl (Rp.bool) A w' b8 b9 r0.Final ∧ ISl (Rp.sl (Rp.int .i64)) A w' cz cA r0.Next ∧ ISl (Rp.int .i64) A w' fh fk r1 ∧ K r0 r1) := by
 refine CallsV.of (l := [.agg #[.int .i64 a0.Letters, .int .i64 a0.Start, .slice ag a0.Final.length ah, .slice ai a0.Next.length aj]]) Try.func66 rfl Try.ntmps66 rfl ?_
 have hO := Owns.start hA
 have hB := Fr.refl (bl []) w0
 unfold J0y at H
 refine au ?_
 refine sbx hO fun w1 B2 s hO => ?_
 refine sal hO fun w4 B5 s hO => ?_
 refine au ?_
 refine zs (J05 (vs := [.int .i64 a0.Letters, .int .i64 a0.Start, .slice ag a0.Final.length ah, .slice ai a0.Next.length aj]) (i := 0) 1 hO rfl rfl Try.underlying25 rfl ti25 rfl) ?_
 refine zcr (J02 body109 rfl (J3Q hO.lt am.u cI.u H)) fun _ w9 => e4 fun r7 r8 fN fO => e4 fun gt gv kE kF => sc0 hO fun s hO => d3 fun dO eA fB H => ?_
 refine au ?_
 refine sal hO fun w10 B11 s hO => ?_
 refine sba 0 hO fun w13 s hO => ?_
 refine au ?_
 refine zs (J05 (vs := [.int .i64 r7.Letters, .int .i64 r7.Start, .slice fN r7.Final.length fO, .slice gt r7.Next.length gv]) (i := 0) 0 hO rfl rfl Try.underlying25 rfl ti25 rfl) ?_
 refine zcr (J02 body110 rfl (J2X hO.lt dO.u eA.u H)) fun _ w15 => e3 fun r14 iK iL => sc0 hO fun s hO => d1 fun eB H => ?_
 refine au ?_
 refine zo (J06 Try.underlying25 ti25 (pl := [(0, 1), (1, 1), (2, 1), (3, 1)]) (vs := [(0, .int .i64 a0.Letters)]) (cs := #[.int .i64 a0.Letters, .int .i64 (0 : Int), .slice none 0 0, .slice none 0 0]) (by kernel_rfl) rfl (by kernel_rfl)) ?_
 refine sal hO fun w16 B17 s hO => ?_
 refine sba 0 hO fun w19 s hO => ?_
 refine au ?_
 refine sln0 ?_
 refine au ?_
 refine snil Fl.bool 4 hO fun s hO => ?_
 have Cu := Stp.nil (e := 31) (r := 1) hO
 refine nst Cu fun s hO => ?_
 have jN := Els.nil (Rp.sl (Rp.int .i64)) (bl (.row 31 1 none 0 0 [] :: [t1 Fl.bool 4 none 0 0 (([] : List Bool)), .blk B17 (.cells #[.int .i64 a0.Letters, .int .i64 (0 : Int), .slice none 0 0, .slice none 0 0] 25 (0, 0)), .blk B11 (.cells #[.int .i64 r7.Letters, .int .i64 r7.Start, .slice fN r7.Final.length fO, .slice gt r7.Next.length gv] 25 (0, 0)), .blk B5 (.cells #[.int .i64 (0 : Int), .int .i64 (0 : Int), .slice none 0 0, .slice none 0 0] 25 (0, 0)), .blk B2 (.cells #[.int .i64 a0.Letters, .int .i64 a0.Start, .slice ag a0.Final.length ah, .slice ai a0.Next.length aj] 25 (0, 0))]) ++ A) w19
 refine lw (H eB.bd) (fun (k1_25, m5, d_32) σ w => ∃ n31 p29 c30 m6 n35 p33 c34, (fun Z => agrees σ [(1, .pointer (some ⟨B2, 0, none⟩)), (2, .pointer (some ⟨B5, 0, none⟩)), (4, .pointer (some ⟨B11, 0, none⟩)), (5, .slice kE r8.length kF), (6, .slice iK r14.length iL), (7, .pointer (some ⟨B17, 0, none⟩)), (28, .slice iK r14.length iL), (29, .int .i64 (r14.length : Int)), (30, .int .i64 (k1_25 : Int))] ∧ Owns w0.heap.size w Z A ∧ Els (Rp.sl (Rp.int .i64)) (bl Z ++ A) w m6 m5 ∧ ISl (Rp.bool) (bl Z ++ A) w fN fO r7.Final ∧ ISl (Rp.sl (Rp.int .i64)) (bl Z ++ A) w gt gv r7.Next ∧ ISl (Rp.int .i64) (bl Z ++ A) w kE kF r8 ∧ ISl (Rp.int .i64) (bl Z ++ A) w iK iL r14 ∧ Fr (bl []) w0 (bl Z) w) [.row 31 1 p29 n31 c30 m6, t1 Fl.bool 4 p33 n35 c34 d_32, .blk B17 (.cells #[.int .i64 a0.Letters, .int .i64 (0 : Int), .slice p33 n35 c34, .slice p29 n31 c30] 25 (0, 0)), .blk B11 (.cells #[.int .i64 r7.Letters, .int .i64 r7.Start, .slice fN r7.Final.length fO, .slice gt r7.Next.length gv] 25 (0, 0)), .blk B5 (.cells #[.int .i64 (0 : Int), .int .i64 (0 : Int), .slice none 0 0, .slice none 0 0] 25 (0, 0)), .blk B2 (.cells #[.int .i64 a0.Letters, .int .i64 a0.Start, .slice ag a0.Final.length ah, .slice ai a0.Next.length aj] 25 (0, 0))]) ⟨_, _, _, _, _, _, _, agr, hO, jN.u, dO.u, eA.u, fB.u, eB.u, fr⟩ ?_
 refine fun X1 => p2 fun k1_25 m5 d_32 => fun H hX1 σ w24 => e4 fun n31 p29 c30 m6 => e3 fun n35 p33 c34 => d1 fun hag => d1 fun hO => d1 fun lW => d4 fun dO eA fB eB hB => ?_
 dsimp only at H
 refine Go1.keep _ hag ?_
 revert hO; repeat (rename Owns _ _ _ _ => q; clear q)
 intro hO; repeat (rename Sq _ _ _ _ _ _ => q; clear q)
 refine au ?_
 refine scm H (fun h36 H => ?_) fun h36 H => ?_
 ·refine au ?_
  refine sxl hO eB H.1 H.2.1 ?_
  refine au ?_
  refine sln1 1 hO ?_
  have h37 := H.1
  have h38 := H.2.1
  refine scm H.2.2 (fun h39 H => ?_) fun h39 H => ?_
  ·refine au ?_
   refine sinc (natbd h36 eB.bd) ?_
   refine au ?_
   exact hX1 _ H _ _ ⟨_, _, _, _, _, _, _, agr, hO, lW, dO, eA, fB, eB, fr⟩
  refine au ?_
  refine smk Fl.i H hO fun w40 p41 s hO => ?_
  refine au ?_
  refine sxls hO eA.u H.2.2.1 H.2.2.2.1 fun p43 c44 jO => ?_
  refine sln0 ?_
  refine au ?_
  refine lw (H.2.2.2.2 jO.bd) (fun (qG, d_48) σ w => (fun Z => agrees σ [(1, .pointer (some ⟨B2, 0, none⟩)), (2, .pointer (some ⟨B5, 0, none⟩)), (4, .pointer (some ⟨B11, 0, none⟩)), (5, .slice kE r8.length kF), (6, .slice iK r14.length iL), (7, .pointer (some ⟨B17, 0, none⟩)), (8, .int .i64 (k1_25 : Int)), (10, .slice p41 a0.Letters.toNat a0.Letters.toNat), (28, .slice iK r14.length iL), (29, .int .i64 (r14.length : Int)), (30, .int .i64 (k1_25 : Int)), (47, .slice p43 ((ix r7.Next (k1_25 : Int)).length) c44), (48, .int .i64 ((ix r7.Next (k1_25 : Int)).length : Int)), (49, .int .i64 (qG : Int))] ∧ Owns w0.heap.size w Z A ∧ Els (Rp.sl (Rp.int .i64)) (bl Z ++ A) w m6 m5 ∧ ISl (Rp.bool) (bl Z ++ A) w fN fO r7.Final ∧ ISl (Rp.sl (Rp.int .i64)) (bl Z ++ A) w gt gv r7.Next ∧ ISl (Rp.int .i64) (bl Z ++ A) w kE kF r8 ∧ ISl (Rp.int .i64) (bl Z ++ A) w iK iL r14 ∧ ISl (Rp.int .i64) (bl Z ++ A) w p43 c44 (ix r7.Next (k1_25 : Int)) ∧ Fr (bl []) w0 (bl Z) w) [t1 Fl.i 3 p41 a0.Letters.toNat a0.Letters.toNat d_48, .row 31 1 p29 n31 c30 m6, t1 Fl.bool 4 p33 n35 c34 d_32, .blk B17 (.cells #[.int .i64 a0.Letters, .int .i64 (0 : Int), .slice p33 n35 c34, .slice p29 n31 c30] 25 (0, 0)), .blk B11 (.cells #[.int .i64 r7.Letters, .int .i64 r7.Start, .slice fN r7.Final.length fO, .slice gt r7.Next.length gv] 25 (0, 0)), .blk B5 (.cells #[.int .i64 (0 : Int), .int .i64 (0 : Int), .slice none 0 0, .slice none 0 0] 25 (0, 0)), .blk B2 (.cells #[.int .i64 a0.Letters, .int .i64 a0.Start, .slice ag a0.Final.length ah, .slice ai a0.Next.length aj] 25 (0, 0))]) ⟨agr, hO, lW.u, dO.u, eA.u, fB.u, eB.u, jO.u, fr⟩ ?_
  refine fun X2 => p1 fun qG d_48 => fun H hX2 σ w46 => d1 fun hag => d1 fun hO => d1 fun lW => d1 fun dO => d4 fun eA fB eB jO hB => ?_
  dsimp only at H
  refine Go1.keep _ hag ?_
  revert hO; repeat (rename Owns _ _ _ _ => q; clear q)
  intro hO; repeat (rename Sq _ _ _ _ _ _ => q; clear q)
  refine au ?_
  refine scm H (fun h49 H => ?_) fun h49 H => ?_
  ·refine au ?_
   refine sxl hO jO H.1 H.2.1 ?_
   refine au ?_
   refine sxl hO eB H.2.2.1 H.2.2.2.1 ?_
   refine six1 0 hO H.2.2.2.2.1 H.2.2.2.2.2.1 ?_
   refine sst (u := (ix r14 (ix (ix r7.Next (k1_25 : Int)) (qG : Int)))) 0 hO H.2.2.2.2.1 H.2.2.2.2.2.1 fun w50 s hO => ?_
   refine au ?_
   refine sinc (natbd h49 jO.bd) ?_
   refine au ?_
   exact hX2 _ H.2.2.2.2.2.2 _ _ ⟨agr, hO, lW.u, dO.u, eA.u, fB.u, eB.u, jO.u, fr⟩
  refine au ?_
  refine drw 4 [(0, .pure), (1, .stable), (2, .pure), (3, .stable), (4, .pure), (5, .pure), (6, .stable), (7, .loud), (8, .last), (9, .pure), (10, .last)] hO fun w51 s hO => ?_
  refine au ?_
  refine sxl hO dO.u H.1 H.2.1 ?_
  refine sap1 (ix r7.Final (k1_25 : Int)) 2 hO H.2.2 fun _ w52 p53 c54 s hO => ?_
  refine au ?_
  refine sbs 3 hO fun w55 s hO => ?_
  refine au ?_
  refine sfz 0 hO fun s hO IL IM => ?_
  have zz := J1l (r := Rp.sl (Rp.int .i64)) (n := 1) (parts := [(0, .slice p41 a0.Letters.toNat a0.Letters.toNat)]) (vs := [.slice p41 a0.Letters.toNat a0.Letters.toNat]) (xs := [d_48]) rfl Try.underlying23 ti31 hO (by decide) (by kernel_rfl) (Els.cons rfl ⟨p41, a0.Letters.toNat, congrArg some (congrArg (fun nn => Value.slice p41 nn a0.Letters.toNat) IM), IL.u⟩ (Els.nil _ _ _) (by simp [mx])) rfl
  obtain ⟨w58, p59, qH, uz, Qo, Cv⟩ := zz
  refine zg (Cv rfl) ?_
  refine nst qH fun s hO => ?_
  refine sfzR 0 hO uz fun s hO uA uB => ?_
  have h67 := H.1
  have h68 := H.2.1
  replace H := H.2.2.2
  obtain ⟨h69, H⟩ := H
  have zz := oapp Try.underlying23 ti31 rfl 0 hO rfl lW.u uA uB h69 (by decide)
  obtain ⟨w70, p71, c72, Qp, Cw, yz, Cx⟩ := zz
  dsimp only [sS, sZ] at yz
  refine zg (Cx (by exact rfl) (by exact rfl)) ?_
  refine nst Cw fun s hO => ?_
  refine au ?_
  refine sbs 2 hO fun w78 s hO => ?_
  refine au ?_
  refine sinc (natbd h36 eB.bd) ?_
  refine au ?_
  exact hX1 _ H _ _ ⟨_, _, _, _, _, _, _, agr, hO, yz.u, dO.u, eA.u, fB.u, eB.u, fr⟩
 refine au ?_
 refine zs (J05 (vs := [.int .i64 a0.Letters, .int .i64 (0 : Int), .slice p33 n35 c34, .slice p29 n31 c30]) (i := 0) 2 hO rfl rfl Try.underlying25 rfl ti25 rfl) ?_
 refine sfz 1 hO fun s hO m7 qI => ?_
 refine sfzR 0 hO lW.u fun s hO uC uD => ?_
 refine zcr (J02 body109 (show ([.agg #[.int .i64 a0.Letters, .int .i64 (0 : Int), .slice p33 n35 c34, .slice p29 n31 c30]] : List Value) = [.agg #[.int .i64 a0.Letters, .int .i64 (0 : Int), .slice p33 d_32.length c34, .slice p29 m5.length c30]] from by rw [← qI, ← uD]) (J3Q (d := (⟨a0.Letters, (0 : Int), d_32, m5⟩ : DFA)) hO.lt m7.u uC H)) fun _ w85 => e4 fun r83 r84 gR gS => e4 fun g5 g6 xc xd => sc0 hO fun s hO => d3 fun f6 gy li H => ?_
 refine au ?_
 refine sal hO fun w86 B87 s hO => ?_
 refine sba 0 hO fun w89 s hO => ?_
 refine au ?_
 refine sln0 ?_
 refine smk Fl.i (H fB.bd) hO fun w90 p91 s hO => ?_
 refine au ?_
 refine sln0 ?_
 refine au ?_
 refine sdr [2, 2, 3] hO fun s hO => ?_
 refine lw (H fB.bd).2.2 (fun (qJ, yA) σ w => (fun Z => agrees σ [(2, .pointer (some ⟨B5, 0, none⟩)), (6, .slice iK r14.length iL), (13, .pointer (some ⟨B87, 0, none⟩)), (14, .slice xc r84.length xd), (15, .slice p91 r8.length r8.length), (87, .slice kE r8.length kF), (88, .int .i64 (r8.length : Int)), (89, .int .i64 (qJ : Int))] ∧ Owns w0.heap.size w Z A ∧ ISl (Rp.int .i64) (bl Z ++ A) w kE kF r8 ∧ ISl (Rp.int .i64) (bl Z ++ A) w iK iL r14 ∧ ISl (Rp.bool) (bl Z ++ A) w gR gS r83.Final ∧ ISl (Rp.sl (Rp.int .i64)) (bl Z ++ A) w g5 g6 r83.Next ∧ ISl (Rp.int .i64) (bl Z ++ A) w xc xd r84 ∧ Fr (bl []) w0 (bl Z) w) [t1 Fl.i 3 p91 r8.length r8.length yA, .blk B87 (.cells #[.int .i64 r83.Letters, .int .i64 r83.Start, .slice gR r83.Final.length gS, .slice g5 r83.Next.length g6] 25 (0, 0)), .blk B5 (.cells #[.int .i64 (0 : Int), .int .i64 (0 : Int), .slice none 0 0, .slice none 0 0] 25 (0, 0))]) ⟨agr, hO, fB.u, eB.u, f6.u, gy.u, li.u, fr⟩ ?_
 refine fun X3 => p1 fun qJ yA => fun H hX3 σ w93 => d1 fun hag => d1 fun hO => d1 fun fB => d4 fun eB f6 gy li hB => ?_
 dsimp only at H
 refine Go1.keep _ hag ?_
 revert hO; repeat (rename Owns _ _ _ _ => q; clear q)
 intro hO; repeat (rename Sq _ _ _ _ _ _ => q; clear q)
 refine au ?_
 refine scm H (fun h96 H => ?_) fun h96 H => ?_
 ·refine au ?_
  refine sxl hO fB H.1 H.2.1 ?_
  refine au ?_
  refine six1 0 hO H.2.2.1 H.2.2.2.1 ?_
  refine sst (u := (-1 : Int)) 0 hO H.2.2.1 H.2.2.2.1 fun w97 s hO => ?_
  refine au ?_
  have h98 := H.1
  have h99 := H.2.1
  have m8 := H.2.2.1
  have uE := H.2.2.2.1
  refine scm H.2.2.2.2 (fun IN H => ?_) fun IN H => ?_
  ·refine au ?_
   refine sxl hO eB.u H.1 H.2.1 ?_
   refine sxl hO li.u H.2.2.1 H.2.2.2.1 ?_
   refine six1 0 hO H.2.2.2.2.1 H.2.2.2.2.2.1 ?_
   refine sst (u := (ix r84 (ix r14 (ix r8 (qJ : Int))))) 0 hO H.2.2.2.2.1 H.2.2.2.2.2.1 fun IQ s hO => ?_
   refine au ?_
   refine sinc (natbd h96 fB.bd) ?_
   refine au ?_
   exact hX3 _ H.2.2.2.2.2.2 _ _ ⟨agr, hO, fB.u, eB.u, f6.u, gy.u, li.u, fr⟩
  refine au ?_
  refine sinc (natbd h96 fB.bd) ?_
  refine au ?_
  exact hX3 _ H _ _ ⟨agr, hO, fB.u, eB.u, f6.u, gy.u, li.u, fr⟩
 refine au ?_
 refine zs (J05 (vs := [.int .i64 r83.Letters, .int .i64 r83.Start, .slice gR r83.Final.length gS, .slice g5 r83.Next.length g6]) (i := 0) 1 hO rfl rfl Try.underlying25 rfl ti25 rfl) ?_
 refine au ?_
 refine sba 2 hO fun uF s hO => ?_
 refine au ?_
 refine sfz 0 hO fun s hO Cy Cz => ?_
 refine Go1.retC2 Try.func66 rfl rfl (J03 (vs := [.int .i64 r83.Letters, .int .i64 r83.Start, .slice gR r83.Final.length gS, .slice g5 r83.Next.length g6]) 1 hO rfl rfl Try.underlying25 rfl ti25) ⟨((⟨r83.Letters, r83.Start, r83.Final, r83.Next⟩ : DFA)), _, _, _, _, _, _, _, ?_, frs, f6.r, gy.r, Cy.r, H⟩
 exact (congrArg (fun l => Value.tuple (List.toArray l)) (J01 rfl (J01 (congrArg (fun nn => Value.slice p91 nn r8.length) Cz) rfl)))
theorem body22 : Body Try.prog 22 := ⟨Try.f22, Try.func22, rfl, by kernel_rfl⟩
theorem J3k {A : List Nat} {w0 : World} {aa : Option Addr} {ad : Nat} {ae : Option Addr} {af : Nat} {d : DFA} (hA : ∀ b ∈ A, b < w0.heap.size) (aq : ISl (Rp.bool) A w0 aa ad d.Final) (aA : ISl (Rp.sl (Rp.int .i64)) A w0 ae af d.Next) {K : DFA → Prop} (H : J0A d K) :
    CallsV Try.prog 22 #[.agg #[.int .i64 d.Letters, .int .i64 d.Start, .slice aa d.Final.length ad, .slice ae d.Next.length af]] w0 (fun v w' => ∃ (r0 : DFA), ∃ (b8 : Option Addr), ∃ (b9 : Nat), ∃ (cz : Option Addr), ∃ (cA : Nat), v = .agg #[.int .i64 r0.Letters, .int .i64 r0.Start, .slice b8 r0.Final.length b9, .slice cz r0.Next.length cA] ∧ Same w0 w' ∧ ISl (Rp.bool) A w' b8 b9 r0.Final ∧ ISl (Rp.sl (Rp.int .i64)) A w' cz cA r0.Next ∧ K r0) := by
 refine CallsV.of (l := [.agg #[.int .i64 d.Letters, .int .i64 d.Start, .slice aa d.Final.length ad, .slice ae d.Next.length af]]) Try.func22 rfl Try.ntmps22 rfl ?_
 have hO := Owns.start hA
 have hB := Fr.refl (bl []) w0
 unfold J0A at H
 refine au ?_
 refine sbx hO fun w1 B2 s hO => ?_
 refine sal hO fun w4 B5 s hO => ?_
 refine au ?_
 refine zs (J05 (vs := [.int .i64 d.Letters, .int .i64 d.Start, .slice aa d.Final.length ad, .slice ae d.Next.length af]) (i := 0) 1 hO rfl rfl Try.underlying25 rfl ti25 rfl) ?_
 refine zcr (J02 body61 rfl (J0I hO.lt aq.u aA.u H)) fun _ w8 => e1 fun r7 => sc0 hO fun s hO => fun H => ?_
 refine scm H (fun h9 H => ?_) fun h9 H => ?_
 ·refine au ?_
  refine zs (J05 (vs := [.int .i64 d.Letters, .int .i64 d.Start, .slice aa d.Final.length ad, .slice ae d.Next.length af]) (i := 0) 1 hO rfl rfl Try.underlying25 rfl ti25 rfl) ?_
  refine zcr (J02 body66 rfl (J3b hO.lt aq.u aA.u H)) fun _ w12 => e4 fun r10 r11 gT gU => e4 fun g7 g8 CA CB => sc0 hO fun s hO => d3 fun f7 jf NQ H => ?_
  refine au ?_
  refine sal hO fun w13 B14 s hO => ?_
  refine sba 0 hO fun w16 s hO => ?_
  refine au ?_
  refine zs (J05 (vs := [.int .i64 r10.Letters, .int .i64 r10.Start, .slice gT r10.Final.length gU, .slice g7 r10.Next.length g8]) (i := 0) 0 hO rfl rfl Try.underlying25 rfl ti25 rfl) ?_
  refine sba 1 hO fun w17 s hO => ?_
  refine au ?_
  refine Go1.retC1 Try.func22 rfl rfl (J03 (vs := [.int .i64 r10.Letters, .int .i64 r10.Start, .slice gT r10.Final.length gU, .slice g7 r10.Next.length g8]) 1 hO rfl rfl Try.underlying25 rfl ti25) ⟨((⟨r10.Letters, r10.Start, r10.Final, r10.Next⟩ : DFA)), _, _, _, _, ?_, frs, f7.r, jf.r, H⟩
  exact rfl
 refine au ?_
 refine zo (J06 Try.underlying25 ti25 (pl := [(0, 1), (1, 1), (2, 1), (3, 1)]) (vs := []) (cs := #[.int .i64 (0 : Int), .int .i64 (0 : Int), .slice none 0 0, .slice none 0 0]) (by kernel_rfl) rfl (by kernel_rfl)) ?_
 refine sba 0 hO fun w18 s hO => ?_
 refine au ?_
 refine Go1.retC1 Try.func22 rfl rfl (J03 (vs := [.int .i64 (0 : Int), .int .i64 (0 : Int), .slice none 0 0, .slice none 0 0]) 0 hO rfl rfl Try.underlying25 rfl ti25) ⟨((⟨(0 : Int), (0 : Int), ([] : List Bool), ([] : List (List Int))⟩ : DFA)), _, _, _, _, ?_, frs, (ISl.null _ _ _), (ISl.null _ _ _), H⟩
 exact rfl
theorem body154 : Body Try.prog 154 := ⟨Try.f154, Try.func154, rfl, by kernel_rfl⟩
theorem J1D {A : List Nat} {w0 : World} {p_f : Option Addr} {c_f : Nat} {f : List Int} (hA : ∀ b ∈ A, b < w0.heap.size) (h_f : ISl (Rp.int .i64) A w0 p_f c_f f) {K : Bool → Prop} (H : J1q f K) :
    CallsV Try.prog 154 #[.slice p_f f.length c_f] w0 (fun v w' => ∃ (r0 : Bool), v = .bool r0 ∧ Same w0 w' ∧ K r0) := by
 refine CallsV.of (l := [.slice p_f f.length c_f]) Try.func154 rfl Try.ntmps154 rfl ?_
 have hO := Owns.start hA
 have hB := Fr.refl (bl []) w0
 unfold J1q at H
 refine au ?_
 refine sln0 ?_
 refine scm (H h_f.bd) (fun h1 H => ?_) fun h1 H => ?_
 ·refine au ?_
  refine Go1.ret1 Try.func154 rfl ⟨_, ?_, frs, H⟩
  exact rfl
 refine au ?_
 refine sln0 ?_
 refine scm H (fun h2 H => ?_) fun h2 H => ?_
 ·refine au ?_
  refine Go1.ret1 Try.func154 rfl ⟨_, ?_, frs, H⟩
  exact rfl
 refine au ?_
 refine sln0 ?_
 refine au ?_
 refine lw H (fun k1_4 σ w => (fun Z => agrees σ [(0, .slice p_f f.length c_f), (13, .slice p_f f.length c_f), (14, .int .i64 (f.length : Int)), (15, .int .i64 (k1_4 : Int))] ∧ Owns w0.heap.size w Z A ∧ Fr (bl []) w0 (bl Z) w) []) ⟨agr, hO, fr⟩ ?_
 refine fun X1 => fun k1_4 => fun H hX1 σ w3 => d2 fun hag hO hB => ?_
 refine Go1.keep _ hag ?_
 refine au ?_
 refine scm H (fun h5 H => ?_) fun h5 H => ?_
 ·refine au ?_
  refine sxl hO h_f.u H.1 H.2.1 ?_
  refine au ?_
  have h6 := H.1
  have h7 := H.2.1
  refine scm H.2.2 (fun h8 H => ?_) fun h8 H => ?_
  ·refine au ?_
   refine Go1.ret1 Try.func154 rfl ⟨_, ?_, frs, H⟩
   exact rfl
  refine au ?_
  refine sln0 ?_
  refine scm H (fun h9 H => ?_) fun h9 H => ?_
  ·refine au ?_
   refine Go1.ret1 Try.func154 rfl ⟨_, ?_, frs, H⟩
   exact rfl
  refine au ?_
  refine sinc (natbd h5 h_f.bd) ?_
  refine au ?_
  exact hX1 _ H _ _ ⟨agr, hO, fr⟩
 refine au ?_
 refine Go1.ret1 Try.func154 rfl ⟨_, ?_, frs, H⟩
 exact rfl
theorem body86 : Body Try.prog 86 := ⟨Try.f86, Try.func86, rfl, by kernel_rfl⟩
theorem J0o {A : List Nat} {w0 : World} {gz : Option Addr} {gX : Nat} {s_ : List Int} (hA : ∀ b ∈ A, b < w0.heap.size) (jP : ISl (Rp.int .i64) A w0 gz gX s_) {K : List Int → Prop} (H : J0i s_ K) :
    CallsV Try.prog 86 #[.slice gz s_.length gX] w0 (fun v w' => ∃ (r0 : List Int), ∃ (gA : Nat), ∃ (bS : Option Addr), ∃ (bT : Nat), v = .slice bS gA bT ∧ Same w0 w' ∧ Owns w0.heap.size w' [t1 Fl.i 3 bS gA bT r0] A ∧ K r0) := by
 refine CallsV.of (l := [.slice gz s_.length gX]) Try.func86 rfl Try.ntmps86 rfl ?_
 have hO := Owns.start hA
 have hB := Fr.refl (bl []) w0
 unfold J0i at H
 refine au ?_
 replace H := H gz.isNone (fun h => jP.nilD h)
 by_cases hz2 : gz.isNone = true
 ·replace H := ifp hz2 H
  refine zo (fun w => opB (J3I Try.underlying31 rfl rfl w) (hz2)) ?_
  refine au ?_
  refine snil Fl.i 3 hO fun s hO => ?_
  refine Go1.ret1 Try.func86 rfl ⟨_, _, _, _, ?_, frs, hO, H⟩
  exact rfl
 ·replace H := ifn hz2 H
  refine zo (fun w => opB (J3I Try.underlying31 rfl rfl w) (Bool.eq_false_iff.2 hz2)) ?_
  refine au ?_
  refine sbu Fl.i 3 ([] : List Int) hO fun w4 p5 s hO => ?_
  refine au ?_
  refine sap 0 hO jP.u H fun w7 p8 c9 s hO => ?_
  refine au ?_
  refine Go1.ret1 Try.func86 rfl ⟨_, _, _, _, ?_, frs, hO, H.2⟩
  exact rfl
theorem body156 : Body Try.prog 156 := ⟨Try.f156, Try.func156, rfl, by kernel_rfl⟩
theorem J3L {A : List Nat} {w0 : World} {n : Int} (hA : ∀ b ∈ A, b < w0.heap.size) {K : List Int → Prop} (H : J0M n K) :
    CallsV Try.prog 156 #[.int .i64 n] w0 (fun v w' => ∃ (r0 : List Int), ∃ (bS : Option Addr), ∃ (bT : Nat), v = .slice bS r0.length bT ∧ Same w0 w' ∧ ISl (Rp.int .i64) A w' bS bT r0 ∧ K r0) := by
 refine CallsV.of (l := [.int .i64 n]) Try.func156 rfl Try.ntmps156 rfl ?_
 have hO := Owns.start hA
 have hB := Fr.refl (bl []) w0
 unfold J0M at H
 refine au ?_
 refine scm H (fun h1 H => ?_) fun h1 H => ?_
 ·refine au ?_
  refine Go1.ret1 Try.func156 rfl ⟨_, _, _, ?_, frs, (ISl.null _ _ _), H⟩
  exact rfl
 refine au ?_
 refine scm H (fun h2 H => ?_) fun h2 H => ?_
 ·refine au ?_
  refine Go1.ret1 Try.func156 rfl ⟨_, _, _, ?_, frs, (ISl.null _ _ _), H⟩
  exact rfl
 refine au ?_
 refine smk Fl.i H hO fun w3 p4 s hO => ?_
 refine au ?_
 refine sln1 0 hO ?_
 refine au ?_
 refine lw H.2.2 (fun (bC, f1_8) σ w => (fun Z => agrees σ [(3, .slice p4 n.toNat n.toNat), (14, .int .i64 ((List.replicate n.toNat ((0 : Int))).length : Int)), (15, .int .i64 (bC : Int))] ∧ Owns w0.heap.size w Z A ∧ Fr (bl []) w0 (bl Z) w) [t1 Fl.i 3 p4 n.toNat n.toNat f1_8]) ⟨agr, hO, fr⟩ ?_
 refine fun X1 => p1 fun bC f1_8 => fun H hX1 σ w6 => d2 fun hag hO hB => ?_
 dsimp only at H
 refine Go1.keep _ hag ?_
 revert hO; repeat (rename Owns _ _ _ _ => q; clear q)
 intro hO; repeat (rename Sq _ _ _ _ _ _ => q; clear q)
 refine au ?_
 refine scm H (fun h9 H => ?_) fun h9 H => ?_
 ·refine au ?_
  refine six1 0 hO H.1 H.2.1 ?_
  refine sst (u := (bC : Int)) 0 hO H.1 H.2.1 fun w10 s hO => ?_
  refine au ?_
  have h11 := H.1
  have h12 := H.2.1
  replace H := H.2.2
  obtain ⟨h13, H⟩ := H
  refine zo (J04 rfl rfl (wrap_i64 h13)) ?_
  refine au ?_
  exact hX1 _ H _ _ ⟨agr, hO, fr⟩
 refine au ?_
 refine sfz 0 hO fun s hO kG iW => ?_
 refine Go1.ret1 Try.func156 rfl ⟨_, _, _, ?_, frs, kG.r, H⟩
 exact (congrArg (fun nn => Value.slice p4 nn n.toNat) iW)
theorem body157 : Body Try.prog 157 := ⟨Try.f157, Try.func157, rfl, by kernel_rfl⟩
theorem J0b {A : List Nat} {w0 : World} {p_f : Option Addr} {c_f : Nat} {f : List Int} (hA : ∀ b ∈ A, b < w0.heap.size) (h_f : ISl (Rp.int .i64) A w0 p_f c_f f) {K : Str → Prop} (H : J0d f K) :
    CallsV Try.prog 157 #[.slice p_f f.length c_f] w0 (fun v w' => ∃ (r0 : Str), v = .string (gstr r0) ∧ Same w0 w' ∧ r0.length ≤ mx ∧ K r0) := by
 refine CallsV.of (l := [.slice p_f f.length c_f]) Try.func157 rfl Try.ntmps157 rfl ?_
 have hO := Owns.start hA
 have hB := Fr.refl (bl []) w0
 unfold J0d at H
 refine au ?_
 refine sln0 ?_
 refine smk (Fl.int .u8) (H h_f.bd) hO fun w1 p4 s hO => ?_
 refine au ?_
 refine sln0 ?_
 refine au ?_
 refine lw (H h_f.bd).2.2 (fun (bC, yB) σ w => (fun Z => agrees σ [(3, .slice p4 f.length f.length), (9, .slice p_f f.length c_f), (10, .int .i64 (f.length : Int)), (11, .int .i64 (bC : Int))] ∧ Owns w0.heap.size w Z A ∧ Fr (bl []) w0 (bl Z) w) [t1 (Fl.int .u8) 5 p4 f.length f.length yB]) ⟨agr, hO, fr⟩ ?_
 refine fun X1 => p1 fun bC yB => fun H hX1 σ w6 => d2 fun hag hO hB => ?_
 dsimp only at H
 refine Go1.keep _ hag ?_
 revert hO; repeat (rename Owns _ _ _ _ => q; clear q)
 intro hO; repeat (rename Sq _ _ _ _ _ _ => q; clear q)
 refine au ?_
 refine scm H (fun h9 H => ?_) fun h9 H => ?_
 ·refine au ?_
  refine sxl hO h_f.u H.1 H.2.1 ?_
  refine au ?_
  refine zo (J2H Try.underlying3 Try.underlying5 rfl rfl) ?_
  refine six1 0 hO H.2.2.1 H.2.2.2.1 ?_
  refine sst (u := (IntKind.u8.wrap (ix f (bC : Int)))) 0 hO H.2.2.1 H.2.2.2.1 fun w10 s hO => ?_
  refine au ?_
  refine sinc (natbd h9 h_f.bd) ?_
  refine au ?_
  exact hX1 _ H.2.2.2.2 _ _ ⟨agr, hO, fr⟩
 refine au ?_
 refine op1 0 hO fun Qq s hO yC => ?_
 have hle13 := J0p yC.bd
 refine zs (oldBytes 0 hO rfl yC.u Try.underlying126 Try.underlying5 Try.underlying9 rfl) ?_
 refine au ?_
 refine Go1.ret1 Try.func157 rfl ⟨_, ?_, frs, hle13, H⟩
 exact rfl
end Sg
