/- -/
import Derived.Test.YtlneebpmblkllaaVd
import Derived.Test.YtlneebpmblkllaaWSyntacticJointb
import Derived.Test.YtlneebpmblkllaaWSyntacticMonoids
import Derived.Test.YtlneebpmblkllaaWSyntacticMonoidsc
import Derived.Test.YtlneebpmblkllaaWSyntacticReduced
import Derived.Test.YtlneebpmblkllaaWSyntacticRefuses
import Derived.Test.YtlneebpmblkllaaWSyntacticValues
namespace Sg
open Go Go.RowKit Go.Proofs
set_option linter.unusedVariables false
set_option linter.unusedSimpArgs false
set_option maxRecDepth 100000
set_option maxHeartbeats 4000000
theorem body126 : Body Try.prog 126 := ⟨Try.f126, Try.func126, rfl, by kernel_rfl⟩
theorem J3u {A : List Nat} {w0 : World} {p_t eI : Option Addr} {c_t eK : Nat} {t : List (List Int)} {numbers : List Int} (hA : ∀ b ∈ A, b < w0.heap.size) (h_t : ISl (Rp.sl (Rp.int .i64)) A w0 p_t c_t t) (gx : ISl (Rp.int .i64) A w0 eI eK numbers) {K : Bool → Prop} (H : J0I t numbers K) :
    CallsV Try.prog 126 #[.slice p_t t.length c_t, .slice eI numbers.length eK] w0 (fun v w' => ∃ (r0 : Bool), v = .bool r0 ∧ Same w0 w' ∧ K r0) := by
 refine CallsV.of (l := [.slice p_t t.length c_t, .slice eI numbers.length eK]) Try.func126 rfl Try.ntmps126 rfl ?_
 have hO := Owns.start hA
 have hB := Fr.refl (bl []) w0
 unfold J0I at H
 refine sln0 ?_
 refine au ?_
 refine lw (H gx.bd) (fun k1_2 σ w => (fun Z => agrees σ [(0, .slice p_t t.length c_t), (7, .slice eI numbers.length eK), (8, .int .i64 (numbers.length : Int)), (9, .int .i64 (k1_2 : Int))] ∧ Owns w0.heap.size w Z A ∧ Fr (bl []) w0 (bl Z) w) []) ⟨agr, hO, fr⟩ ?_
 refine fun X1 => fun k1_2 => fun H hX1 σ w1 => d2 fun hag hO hB => ?_
 refine Go1.keep _ hag ?_
 refine scm H (fun h3 H => ?_) fun h3 H => ?_
 ·refine sxl hO gx.u H.1 H.2.1 ?_
  refine au ?_
  have h4 := H.1
  have h5 := H.2.1
  refine scm H.2.2 (fun h6 H => ?_) fun h6 H => ?_
  ·refine au ?_
   refine Go1.ret1 Try.func126 rfl ⟨_, ?_, frs, H⟩
   exact rfl
  refine sln0 ?_
  refine scm (H h_t.bd) (fun h7 H => ?_) fun h7 H => ?_
  ·refine au ?_
   refine Go1.ret1 Try.func126 rfl ⟨_, ?_, frs, H⟩
   exact rfl
  refine sinc (natbd h3 gx.bd) ?_
  refine au ?_
  exact hX1 _ H _ _ ⟨agr, hO, fr⟩
 refine au ?_
 refine Go1.ret1 Try.func126 rfl ⟨_, ?_, frs, H⟩
 exact rfl
theorem body94 : Body Try.prog 94 := ⟨Try.f94, Try.func94, rfl, by kernel_rfl⟩
theorem J3p {A : List Nat} {w0 : World} {p_t : Option Addr} {c_t : Nat} {t : List (List Int)} (hA : ∀ b ∈ A, b < w0.heap.size) (h_t : ISl (Rp.sl (Rp.int .i64)) A w0 p_t c_t t) {K : Bool → Prop} (H : J2b t K) :
    CallsV Try.prog 94 #[.slice p_t t.length c_t] w0 (fun v w' => ∃ (r0 : Bool), v = .bool r0 ∧ Same w0 w' ∧ K r0) := by
 refine CallsV.of (l := [.slice p_t t.length c_t]) Try.func94 rfl Try.ntmps94 rfl ?_
 have hO := Owns.start hA
 have hB := Fr.refl (bl []) w0
 unfold J2b at H
 refine au ?_
 refine zcr (J00 body54 rfl (J4u hO.lt h_t.u H)) fun _ w2 => e1 fun r1 => sc0 hO fun s hO => fun H => ?_
 refine scm H (fun h3 H => ?_) fun h3 H => ?_
 ·refine au ?_
  refine Go1.ret1 Try.func94 rfl ⟨_, ?_, frs, H⟩
  exact rfl
 refine au ?_
 refine Go1.ret1 Try.func94 rfl ⟨_, ?_, frs, H⟩
 exact rfl
theorem body90 : Body Try.prog 90 := ⟨Try.f90, Try.func90, rfl, by kernel_rfl⟩
theorem J67 {A : List Nat} {w0 : World} {p_t eI : Option Addr} {c_t eK : Nat} {t : List (List Int)} {numbers : List Int} (hA : ∀ b ∈ A, b < w0.heap.size) (h_t : ISl (Rp.sl (Rp.int .i64)) A w0 p_t c_t t) (gx : ISl (Rp.int .i64) A w0 eI eK numbers) {K : Bool → Prop} (H : J4q t numbers K) :
    CallsV Try.prog 90 #[.slice p_t t.length c_t, .slice eI numbers.length eK] w0 (fun v w' => ∃ (r0 : Bool), v = .bool r0 ∧ Same w0 w' ∧ K r0) := by
 refine CallsV.of (l := [.slice p_t t.length c_t, .slice eI numbers.length eK]) Try.func90 rfl Try.ntmps90 rfl ?_
 have hO := Owns.start hA
 have hB := Fr.refl (bl []) w0
 unfold J4q at H
 refine au ?_
 refine zcr (J00 body126 rfl (J3u hO.lt h_t.u gx.u H)) fun _ w2 => e1 fun r1 => sc0 hO fun s hO => fun H => ?_
 refine au ?_
 cases r1
 ·refine au ?_
  refine Go1.ret1 Try.func90 rfl ⟨_, ?_, frs, (iF H)⟩
  exact rfl
 refine au ?_
 refine zcr (J00 body94 rfl (J3p hO.lt h_t.u (iT H))) fun _ w4 => e1 fun r3 => sc0 hO fun s hO => fun H => ?_
 refine au ?_
 refine Go1.ret1 Try.func90 rfl ⟨_, ?_, frs, H⟩
 exact rfl
theorem body96 : Body Try.prog 96 := ⟨Try.f96, Try.func96, rfl, by kernel_rfl⟩
theorem J4i {A : List Nat} {w0 : World} {p_t : Option Addr} {c_t : Nat} {t : List (List Int)} (hA : ∀ b ∈ A, b < w0.heap.size) (h_t : ISl (Rp.sl (Rp.int .i64)) A w0 p_t c_t t) {K : List Int → Prop} (H : J1q t K) :
    CallsV Try.prog 96 #[.slice p_t t.length c_t] w0 (fun v w' => ∃ (r0 : List Int) (iK : Nat) (p_r0 : Option Addr) (c_r0 : Nat), v = .slice p_r0 iK c_r0 ∧ Same w0 w' ∧ Owns w0.heap.size w' [t1 Fl.i 3 p_r0 iK c_r0 r0] A ∧ K r0) := by
 refine CallsV.of (l := [.slice p_t t.length c_t]) Try.func96 rfl Try.ntmps96 rfl ?_
 have hO := Owns.start hA
 have hB := Fr.refl (bl []) w0
 unfold J1q at H
 refine sln0 ?_
 refine smk Fl.i (H h_t.bd) hO fun w1 p4 s hO => ?_
 refine sln1 0 hO ?_
 refine au ?_
 refine lw (H h_t.bd).2.2 (fun (a9, list1_8) σ w => (fun Z => agrees σ [(3, .slice p4 t.length t.length), (9, .int .i64 ((List.replicate t.length ((0 : Int))).length : Int)), (10, .int .i64 (a9 : Int))] ∧ Owns w0.heap.size w Z A ∧ Fr (bl []) w0 (bl Z) w) [t1 Fl.i 3 p4 t.length t.length list1_8]) ⟨agr, hO, fr⟩ ?_
 refine fun X1 => p1 fun a9 list1_8 => fun H hX1 σ w6 => d2 fun hag hO hB => ?_
 dsimp only at H
 refine Go1.keep _ hag ?_
 revert hO; repeat (rename Owns _ _ _ _ => q; clear q)
 intro hO; repeat (rename Sq _ _ _ _ _ _ => q; clear q)
 refine scm H (fun h9 H => ?_) fun h9 H => ?_
 ·refine six1 0 hO H.1 H.2.1 ?_
  refine sst (u := (a9 : Int)) 0 hO H.1 H.2.1 fun w10 s hO => ?_
  refine au ?_
  have h11 := H.1
  have h12 := H.2.1
  replace H := H.2.2
  obtain ⟨h13, H⟩ := H
  refine zo (J0i rfl rfl (wrap_i64 h13)) ?_
  refine au ?_
  exact hX1 _ H _ _ ⟨agr, hO, fr⟩
 refine au ?_
 refine Go1.ret1 Try.func96 rfl ⟨_, _, _, _, ?_, frs, hO, H⟩
 exact rfl
theorem body97 : Body Try.prog 97 := ⟨Try.f97, Try.func97, rfl, by kernel_rfl⟩
theorem body95 : Body Try.prog 95 := ⟨Try.f95, Try.func95, rfl, by kernel_rfl⟩
theorem body55 : Body Try.prog 55 := ⟨Try.f55, Try.func55, rfl, by kernel_rfl⟩
theorem J4o {A : List Nat} {w0 : World} {p_t : Option Addr} {c_t : Nat} {t : List (List Int)} (hA : ∀ b ∈ A, b < w0.heap.size) (h_t : ISl (Rp.sl (Rp.int .i64)) A w0 p_t c_t t) {K : Int → Prop} (H : J1m t K) :
    CallsV Try.prog 55 #[.slice p_t t.length c_t] w0 (fun v w' => ∃ (r0 : Int), v = .int .i64 r0 ∧ Same w0 w' ∧ K r0) := by
 refine CallsV.of (l := [.slice p_t t.length c_t]) Try.func55 rfl Try.ntmps55 rfl ?_
 have hO := Owns.start hA
 have hB := Fr.refl (bl []) w0
 unfold J1m at H
 refine sbx hO fun w1 B2 s hO => ?_
 refine au ?_
 refine zcr (J00 body94 rfl (J3p hO.lt h_t.u H)) fun _ w5 => e1 fun r4 => sc0 hO fun s hO => fun H => ?_
 cases r4
 ·refine au ?_
  refine Go1.ret1 Try.func55 rfl ⟨_, ?_, frs, (iF H)⟩
  exact rfl
 refine au ?_
 refine zcr (J00 body96 rfl (J4i hO.lt h_t.u (iT H))) fun _ w8 => e4 fun r6 mo mq mr => sc1 hO fun s hO => fun H => ?_
 refine zo (J3c (vs := [.pointer (some ⟨B2, 0, none⟩)]) rfl) ?_
 refine GoR.inl (vs := [.slice mq mo mr, .func (.func 97) #[] #[.pointer (some ⟨B2, 0, none⟩)]]) (caps := []) rfl rfl body95 Try.func95 rfl Try.ntmps95 rfl rfl rfl ?_
 intro RhR10 hR10
 refine sln1 0 hO ?_
 refine au ?_
 refine lw H (fun k1_12 σ w => (fun Z => agrees σ [(0, .slice mq mo mr), (1, .func (.func 97) #[] #[.pointer (some ⟨B2, 0, none⟩)]), (7, .int .i64 (r6.length : Int)), (8, .int .i64 (k1_12 : Int))] ∧ Owns w0.heap.size w Z A ∧ Fr (bl []) w0 (bl Z) w) [t1 Fl.i 3 mq mo mr r6, .blk B2 (.cells #[.slice p_t t.length c_t] 23 (0, 0))]) ⟨agr, hO, fr⟩ ?_
 refine fun X1 => fun k1_12 => fun H hX1 σ w11 => d2 fun hag hO hB => ?_
 refine Go1.keep _ hag ?_
 revert hO; repeat (rename Owns _ _ _ _ => q; clear q)
 intro hO; repeat (rename Sq _ _ _ _ _ _ => q; clear q)
 refine scm H (fun h13 H => ?_) fun h13 H => ?_
 ·refine sxl1 0 hO H.1 H.2.1 ?_
  refine GoR.inl (vs := [.int .i64 (ix r6 (k1_12 : Int))]) (caps := [.pointer (some ⟨B2, 0, none⟩)]) rfl rfl body97 Try.func97 rfl Try.ntmps97 rfl rfl rfl ?_
  intro RhR14 hR14
  refine sln0 ?_
  refine au ?_
  refine lw (H.2.2 h_t.bd) (fun rC σ w => (fun Z => agrees σ [(0, .int .i64 (ix r6 (k1_12 : Int))), (1, .pointer (some ⟨B2, 0, none⟩)), (6, .int .i64 (t.length : Int)), (7, .int .i64 (rC : Int))] ∧ Owns w0.heap.size w Z A ∧ Fr (bl []) w0 (bl Z) w) [t1 Fl.i 3 mq mo mr r6, .blk B2 (.cells #[.slice p_t t.length c_t] 23 (0, 0))]) ⟨agr, hO, fr⟩ ?_
  refine fun X2 => fun rC => fun H hX2 σ w15 => d2 fun hag hO hB => ?_
  refine Go1.keep _ hag ?_
  revert hO; repeat (rename Owns _ _ _ _ => q; clear q)
  intro hO; repeat (rename Sq _ _ _ _ _ _ => q; clear q)
  refine scm H (fun h17 H => ?_) fun h17 H => ?_
  ·refine sxls hO h_t.u H.1 H.2.1 fun p18 c19 kP => ?_
   refine sxl hO kP.u H.2.2.1 H.2.2.2.1 ?_
   refine au ?_
   have h21 := H.1
   have h22 := H.2.1
   have h23 := H.2.2.1
   have h24 := H.2.2.2.1
   refine scm H.2.2.2.2 (fun h25 H => ?_) fun h25 H => ?_
   ·refine six h_t H.1 H.2.1 ?_
    refine slds hO h_t.u H.1 H.2.1 fun p26 c27 sX => ?_
    refine six sX H.2.2.1 H.2.2.2.1 ?_
    refine sld hO sX.u H.2.2.1 H.2.2.2.1 ?_
    refine au ?_
    have h29 := H.1
    have h30 := H.2.1
    have h31 := H.2.2.1
    have h32 := H.2.2.2.1
    refine scm H.2.2.2.2 (fun h33 H => ?_) fun h33 H => ?_
    ·refine sinc (natbd h17 h_t.bd) ?_
     refine au ?_
     exact hX2 _ H _ _ ⟨agr, hO, fr⟩
    refine au ?_
    refine Go1.ret1V Try.func97 rfl (show _ = .bool false from rfl) ?_
    refine hR14 _ _ ?_
    refine sinc (natbd h13 (t1b 0 hO)) ?_
    refine au ?_
    exact hX1 _ H _ _ ⟨agr, hO, fr⟩
   refine au ?_
   refine Go1.ret1V Try.func97 rfl (show _ = .bool false from rfl) ?_
   refine hR14 _ _ ?_
   refine sinc (natbd h13 (t1b 0 hO)) ?_
   refine au ?_
   exact hX1 _ H _ _ ⟨agr, hO, fr⟩
  refine au ?_
  refine Go1.ret1V Try.func97 rfl (show _ = .bool true from rfl) ?_
  refine hR14 _ _ ?_
  refine au ?_
  refine Go1.ret1V Try.func95 rfl (show _ = .int .i64 (k1_12 : Int) from rfl) ?_
  refine hR10 _ _ ?_
  refine au ?_
  refine Go1.ret1 Try.func55 rfl ⟨_, ?_, frs, H⟩
  exact rfl
 refine au ?_
 refine Go1.ret1V Try.func95 rfl (show _ = .int .i64 (-1 : Int) from rfl) ?_
 refine hR10 _ _ ?_
 refine au ?_
 refine Go1.ret1 Try.func55 rfl ⟨_, ?_, frs, H⟩
 exact rfl
theorem body52 : Body Try.prog 52 := ⟨Try.f52, Try.func52, rfl, by kernel_rfl⟩
theorem J3O {A : List Nat} {w0 : World} {p_t iq : Option Addr} {c_t iu : Nat} {t : List (List Int)} {images : List Int} {w_ : Str} (hA : ∀ b ∈ A, b < w0.heap.size) (h_t : ISl (Rp.sl (Rp.int .i64)) A w0 p_t c_t t) (iv : ISl (Rp.int .i64) A w0 iq iu images) (dk : w_.length ≤ mx) {K : Int → Prop} (H : J2d t images w_ K) :
    CallsV Try.prog 52 #[.slice p_t t.length c_t, .slice iq images.length iu, .string (gstr w_)] w0 (fun v w' => ∃ (r0 : Int), v = .int .i64 r0 ∧ Same w0 w' ∧ K r0) := by
 refine CallsV.of (l := [.slice p_t t.length c_t, .slice iq images.length iu, .string (gstr w_)]) Try.func52 rfl Try.ntmps52 rfl ?_
 have hO := Owns.start hA
 have hB := Fr.refl (bl []) w0
 unfold J2d at H
 refine sln0 ?_
 refine scm (H iv.bd) (fun h1 H => ?_) fun h1 H => ?_
 ·refine au ?_
  refine Go1.ret1 Try.func52 rfl ⟨_, ?_, frs, H⟩
  exact rfl
 refine sln0 ?_
 refine zcr (J00 body89 rfl (J2o hO.lt dk H)) fun _ w3 => e1 fun r2 => sc0 hO fun s hO => fun H => ?_
 cases r2
 ·refine au ?_
  refine Go1.ret1 Try.func52 rfl ⟨_, ?_, frs, (iF H)⟩
  exact rfl
 refine au ?_
 refine zcr (J00 body90 rfl (J67 hO.lt h_t.u iv.u (iT H))) fun _ w5 => e1 fun r4 => sc0 hO fun s hO => fun H => ?_
 cases r4
 ·refine au ?_
  refine Go1.ret1 Try.func52 rfl ⟨_, ?_, frs, (iF H)⟩
  exact rfl
 refine scm (iT H) (fun h6 H => ?_) fun h6 H => ?_
 ·refine au ?_
  refine zcr (J00 body55 rfl (J4o hO.lt h_t.u H)) fun _ w8 => e1 fun r7 => sc0 hO fun s hO => fun H => ?_
  refine au ?_
  refine Go1.ret1 Try.func52 rfl ⟨_, ?_, frs, H⟩
  exact rfl
 refine au ?_
 obtain ⟨h9, H⟩ := H
 obtain ⟨h10, H⟩ := H
 refine zo (J1Q Try.underlying9 rfl rfl h9 h10) ?_
 refine zo (J5l rfl rfl rfl) ?_
 refine sxl hO iv.u H.1 H.2.1 ?_
 refine au ?_
 have h14 := H.1
 have h15 := H.2.1
 refine lw H.2.2 (fun (value1_12, i1_13) σ w => (fun Z => agrees σ [(0, .slice p_t t.length c_t), (1, .slice iq images.length iu), (2, .string (gstr w_)), (7, .int .i64 value1_12), (8, .int .i64 (i1_13 : Int))] ∧ Owns w0.heap.size w Z A ∧ Fr (bl []) w0 (bl Z) w) []) ⟨agr, hO, fr⟩ ?_
 refine fun X1 => p1 fun value1_12 i1_13 => fun H hX1 σ w11 => d2 fun hag hO hB => ?_
 dsimp only at H
 refine Go1.keep _ hag ?_
 revert hO; repeat (rename Owns _ _ _ _ => q; clear q)
 intro hO; repeat (rename Sq _ _ _ _ _ _ => q; clear q)
 refine au ?_
 refine zo (J41 Try.underlying9 rfl) ?_
 replace H := H dk
 refine scm H (fun h16 H => ?_) fun h16 H => ?_
 ·refine au ?_
  refine drw 0 [(0, .pure), (1, .pure), (2, .pure), (3, .stable), (4, .pure), (5, .pure), (6, .pure), (7, .pure), (8, .pure), (9, .pure), (10, .stable), (11, .pure), (12, .stable), (13, .pure)] hO fun w17 s hO => ?_
  refine sxls hO h_t.u H.1 H.2.1 fun p18 c19 kP => ?_
  refine au ?_
  have h21 := H.1
  have h22 := H.2.1
  replace H := H.2.2
  obtain ⟨h23, H⟩ := H
  obtain ⟨h24, H⟩ := H
  refine GoQ.pure rfl (J1Q Try.underlying9 rfl rfl h23 h24) rfl rfl ?_
  refine GoQ.pure rfl (J5l rfl rfl rfl) rfl rfl ?_
  refine sxl hO iv.u H.1 H.2.1 ?_
  refine sxl hO kP.u H.2.2.1 H.2.2.2.1 ?_
  refine sinc (natbd h16 dk) ?_
  refine au ?_
  exact hX1 _ H.2.2.2.2 _ _ ⟨agr, hO, fr⟩
 refine au ?_
 refine Go1.ret1 Try.func52 rfl ⟨_, ?_, frs, H⟩
 exact rfl
theorem J2D {A : List Nat} {w0 : World} {bj bA eM e8 : Option Addr} {bk bB eN e9 : Nat} {a0 a1 : DFA} {a2 a3 : Str} (hA : ∀ b ∈ A, b < w0.heap.size) (cd : ISl (Rp.bool) A w0 bj bk a0.Final) (di : ISl (Rp.sl (Rp.int .i64)) A w0 bA bB a0.Next) (eO : ISl (Rp.bool) A w0 eM eN a1.Final) (fd : ISl (Rp.sl (Rp.int .i64)) A w0 e8 e9 a1.Next) (eC : a2.length ≤ mx) (gn : a3.length ≤ mx) {K : Bool → Prop} (H : law21_SyntacticCommon a0 a1 a2 a3 K) :
    CallsV Try.prog 14 #[.agg #[.int .i64 a0.Letters, .int .i64 a0.Start, .slice bj a0.Final.length bk, .slice bA a0.Next.length bB], .agg #[.int .i64 a1.Letters, .int .i64 a1.Start, .slice eM a1.Final.length eN, .slice e8 a1.Next.length e9], .string (gstr a2), .string (gstr a3)] w0 (fun v w' => ∃ (r0 : Bool), v = .bool r0 ∧ Same w0 w' ∧ K r0) := by
 refine CallsV.of (l := [.agg #[.int .i64 a0.Letters, .int .i64 a0.Start, .slice bj a0.Final.length bk, .slice bA a0.Next.length bB], .agg #[.int .i64 a1.Letters, .int .i64 a1.Start, .slice eM a1.Final.length eN, .slice e8 a1.Next.length e9], .string (gstr a2), .string (gstr a3)]) Try.func14 rfl Try.ntmps14 rfl ?_
 have hO := Owns.start hA
 have hB := Fr.refl (bl []) w0
 unfold law21_SyntacticCommon at H
 refine sbx hO fun w1 B2 s hO => ?_
 refine sbx hO fun w4 B5 s hO => ?_
 refine sag 1 hO ?_
 refine zcr (J00 body17 rfl (J3f hO.lt cd.u di.u H)) fun _ w8 => e1 fun r7 => sc0 hO fun s hO => fun H => ?_
 cases r7
 ·refine au ?_
  refine zcr (J00 body18 rfl (J04 hO.lt (iF H))) fun _ w10 => e1 fun r9 => sc0 hO fun s hO => fun H => ?_
  refine au ?_
  refine Go1.ret1 Try.func14 rfl ⟨_, ?_, frs, H⟩
  exact rfl
 refine sag 0 hO ?_
 refine zcr (J00 body17 rfl (J3f hO.lt eO.u fd.u (iT H))) fun _ w12 => e1 fun r11 => sc0 hO fun s hO => fun H => ?_
 cases r11
 ·refine au ?_
  refine zcr (J00 body18 rfl (J04 hO.lt (iF H))) fun _ w14 => e1 fun r13 => sc0 hO fun s hO => fun H => ?_
  refine au ?_
  refine Go1.ret1 Try.func14 rfl ⟨_, ?_, frs, H⟩
  exact rfl
 refine scm (iT H) (fun h15 H => ?_) fun h15 H => ?_
 ·refine au ?_
  refine zcr (J00 body41 rfl (J3h hO.lt eC H)) fun _ w17 => e1 fun r16 => sc0 hO fun s hO => fun H => ?_
  cases r16
  ·refine au ?_
   refine zcr (J00 body18 rfl (J04 hO.lt (iF H))) fun _ w19 => e1 fun r18 => sc0 hO fun s hO => fun H => ?_
   refine au ?_
   refine Go1.ret1 Try.func14 rfl ⟨_, ?_, frs, H⟩
   exact rfl
  refine au ?_
  refine zcr (J00 body41 rfl (J3h hO.lt gn (iT H))) fun _ w21 => e1 fun r20 => sc0 hO fun s hO => fun H => ?_
  cases r20
  ·refine au ?_
   refine zcr (J00 body18 rfl (J04 hO.lt (iF H))) fun _ w23 => e1 fun r22 => sc0 hO fun s hO => fun H => ?_
   refine au ?_
   refine Go1.ret1 Try.func14 rfl ⟨_, ?_, frs, H⟩
   exact rfl
  refine sag 1 hO ?_
  refine sag 0 hO ?_
  have zz := obuildN (r := rpDFA) (n := 2) (parts := [(0, .agg #[.int .i64 a0.Letters, .int .i64 a0.Start, .slice bj a0.Final.length bk, .slice bA a0.Next.length bB]), (1, .agg #[.int .i64 a1.Letters, .int .i64 a1.Start, .slice eM a1.Final.length eN, .slice e8 a1.Next.length e9])]) (vs := [.int .i64 a0.Letters, .int .i64 a0.Start, .slice bj a0.Final.length bk, .slice bA a0.Next.length bB, .int .i64 a1.Letters, .int .i64 a1.Start, .slice eM a1.Final.length eN, .slice e8 a1.Next.length e9]) (xs := [a0, a1]) Try.underlying39 ti25 hO (by decide) (by decide) (by kernel_rfl) (Els.consR (us := [.int .i64 a0.Letters, .int .i64 a0.Start, .slice bj a0.Final.length bk, .slice bA a0.Next.length bB]) rfl ⟨rfl, rfl, ⟨bj, bk, rfl, cd.u⟩, ⟨bA, bB, rfl, di.u⟩⟩ (Els.consR (us := [.int .i64 a1.Letters, .int .i64 a1.Start, .slice eM a1.Final.length eN, .slice e8 a1.Next.length e9]) rfl ⟨rfl, rfl, ⟨eM, eN, rfl, eO.u⟩, ⟨e8, e9, rfl, fd.u⟩⟩ (Els.nil _ _ _) (by simp [mx])) (by simp [mx])) rfl
  obtain ⟨w24, p25, ms, C0, HN, x9⟩ := zz
  refine zg (x9 rfl) ?_
  refine nst ms fun s hO => ?_
  refine sfzR 0 hO C0 fun s hO kQ C1 => ?_
  refine zcr (J00 body25 (show ([.slice p25 2 2] : List Value) = [.slice p25 ([a0, a1]).length 2] from by rw [← C1]) (J3S hO.lt kQ (iT H))) fun _ w36 => e4 fun r33 r34 r35 ja => e4 fun jb xD xE sY => e4 fun ta tc te ya => e3 fun yb G1 G3 => sc0 hO fun s hO => d1 fun gq => d1 fun xF => d4 fun iL tf yc fO H => ?_
  refine sal hO fun w37 B38 s hO => ?_
  refine sba 0 hO fun w40 s hO => ?_
  refine sag 2 hO ?_
  refine zcr (J00 body19 rfl (J0Z hO.lt cd.u di.u H)) fun _ w43 => e4 fun r41 r42 xG xH => e4 fun xI xJ tg tj => e4 fun tm tn yd ye => sc0 hO fun s hO => d1 fun dS => d4 fun dT dA dB d6 H => ?_
  refine sal hO fun w44 B45 s hO => ?_
  refine sba 0 hO fun w47 s hO => ?_
  refine sag 2 hO ?_
  refine zcr (J00 body19 rfl (J0Z hO.lt eO.u fd.u H)) fun _ w50 => e4 fun r48 r49 xK xL => e4 fun xM xN tp tq => e4 fun tt tu yf yg => sc0 hO fun s hO => d1 fun dU => d4 fun dV dC dD d7 H => ?_
  refine sal hO fun w51 B52 s hO => ?_
  refine sba 0 hO fun w54 s hO => ?_
  refine scm H (fun h55 H => ?_) fun h55 H => ?_
  ·refine au ?_
   refine zcr (J00 body18 rfl (J04 hO.lt H)) fun _ w57 => e1 fun r56 => sc0 hO fun s hO => fun H => ?_
   refine au ?_
   refine Go1.ret1 Try.func14 rfl ⟨_, ?_, frs, H⟩
   exact rfl
  refine au ?_
  refine drw 0 [(0, .pure), (1, .pure), (2, .pure), (3, .pure), (4, .pure), (5, .pure), (6, .pure), (7, .pure), (8, .pure), (9, .pure), (10, .pure), (11, .pure), (12, .pure), (13, .pure), (14, .pure), (15, .pure), (16, .pure), (17, .pure), (18, .stable), (19, .pure), (20, .pure), (21, .stable), (22, .pure), (23, .pure), (24, .pure), (25, .pure), (26, .pure), (27, .pure), (28, .stable), (29, .pure), (30, .pure), (31, .stable), (32, .pure), (33, .pure), (34, .pure)] hO fun w58 s hO => ?_
  refine scm H (fun h59 H => ?_) fun h59 H => ?_
  ·refine scm H (fun h60 H => ?_) fun h60 H => ?_
   ·refine scm H (fun h61 H => ?_) fun h61 H => ?_
    ·refine sln0 ?_
     refine scm (H fO.bd) (fun h62 H => ?_) fun h62 H => ?_
     ·refine six fO H.1 H.2.1 ?_
      refine slds hO fO.u H.1 H.2.1 fun p63 c64 nU => ?_
      refine sln0 ?_
      refine sln0 ?_
      have h66 := H.1
      have h67 := H.2.1
      refine scm ((H.2.2 nU.bd) gq.bd) (fun h68 H => ?_) fun h68 H => ?_
      ·refine six fO H.1 H.2.1 ?_
       refine slds hO fO.u H.1 H.2.1 fun p69 c70 C2 => ?_
       refine sln0 ?_
       refine sln0 ?_
       have h72 := H.1
       have h73 := H.2.1
       refine scm (H.2.2 C2.bd) (fun h74 H => ?_) fun h74 H => ?_
       ·refine sln0 ?_
        refine scm H (fun h75 H => ?_) fun h75 H => ?_
        ·refine au ?_
         refine zcr (J00 body18 rfl (J04 hO.lt H)) fun _ w77 => e1 fun r76 => sc0 hO fun s hO => fun H => ?_
         refine au ?_
         refine Go1.ret1 Try.func14 rfl ⟨_, ?_, frs, H⟩
         exact rfl
        refine au ?_
        refine drw 0 [(0, .pure), (1, .stable), (2, .pure), (3, .stable), (4, .pure), (6, .pure), (7, .stable), (8, .pure), (9, .stable), (10, .pure), (5, .loud), (11, .loud), (12, .pure), (13, .pure)] hO fun w78 s hO => ?_
        refine au ?_
        refine zcq rfl (J00 body52 rfl (J3O hO.lt gq.u iL.u eC H)) fun _ w80 => e1 fun r79 => sq0 hO fun s hO => fun H => ?_
        refine zcq rfl (J00 body52 rfl (J3O hO.lt gq.u iL.u gn H)) fun _ w82 => e1 fun r81 => sq0 hO fun s hO => fun H => ?_
        refine au ?_
        refine drw 0 [(0, .pure), (1, .stable), (2, .pure), (3, .pure), (4, .loud), (5, .loud), (6, .pure), (7, .pure), (8, .pure), (9, .pure), (10, .stable), (11, .pure), (12, .pure), (13, .stable), (14, .stable), (15, .pure), (16, .loud), (17, .pure), (18, .pure), (19, .pure), (20, .pure), (21, .pure), (22, .stable), (23, .pure), (24, .pure), (25, .stable), (26, .stable), (27, .pure), (28, .loud), (29, .pure), (30, .pure)] hO fun w83 s hO => ?_
        refine sbu Fl.i 3 [r79, r81] hO fun w84 p85 s hO => ?_
        have C3 := t1lend 0 hO
        have nV := t1n 0 hO
        have hOc89 := hO.drop 0
        refine zcq rfl (J00 body30 (show ([.slice ja r33.Table.length jb, .slice p85 2 2] : List Value) = [.slice ja r33.Table.length jb, .slice p85 ([r79, r81]).length 2] from by rw [← nV]) (J5V hOc89.lt (gq.u.ch (Owns.J7a _ _ 0)) C3 H)) fun _ w91 => e1 fun r90 => sq0 hO fun s hO => fun H => ?_
        cases r90
        ·refine au ?_
         refine au ?_
         refine Go1.ret1 Try.func14 rfl ⟨_, ?_, frs, (iF H)⟩
         exact rfl
        refine six fO (iT H).1 (iT H).2.1 ?_
        refine slds hO fO.u (iT H).1 (iT H).2.1 fun p92 c93 tv => ?_
        refine six tv (iT H).2.2.1 (iT H).2.2.2.1 ?_
        have h95 := (iT H).1
        have h96 := (iT H).2.1
        have h97 := (iT H).2.2.1
        have h98 := (iT H).2.2.2.1
        refine sbd hO tv.u (iT H).2.2.1 (iT H).2.2.2.1 (iT H).2.2.2.2 (fun h99 H => ?_) fun h99 H => ?_
        ·refine sag 5 hO ?_
         refine au ?_
         refine zcq rfl (J00 body40 rfl (J0v hO.lt cd.u di.u eC H)) fun _ tw => e1 fun r100 => sq0 hO fun s hO => fun H => ?_
         cases r100
         ·refine GoQ.pure rfl (J0C Try.underlying4 rfl rfl) rfl rfl ?_
          refine au ?_
          refine au ?_
          refine Go1.ret1 Try.func14 rfl ⟨_, ?_, frs, (iF H)⟩
          exact rfl
         refine GoQ.pure rfl (J0C Try.underlying4 rfl rfl) rfl rfl ?_
         refine six fO (iT H).1 (iT H).2.1 ?_
         refine slds hO fO.u (iT H).1 (iT H).2.1 fun C4 C5 kx => ?_
         refine six kx (iT H).2.2.1 (iT H).2.2.2.1 ?_
         have kS := (iT H).1
         have j8 := (iT H).2.1
         have iM := (iT H).2.2.1
         have nW := (iT H).2.2.2.1
         refine sbd hO kx.u (iT H).2.2.1 (iT H).2.2.2.1 (iT H).2.2.2.2 (fun nX H => ?_) fun nX H => ?_
         ·refine sag 4 hO ?_
          refine au ?_
          refine zcq rfl (J00 body40 rfl (J0v hO.lt eO.u fd.u eC H)) fun _ C6 => e1 fun r110 => sq0 hO fun s hO => fun H => ?_
          cases r110
          ·refine GoQ.pure rfl (J0C Try.underlying4 rfl rfl) rfl rfl ?_
           refine au ?_
           refine au ?_
           refine Go1.ret1 Try.func14 rfl ⟨_, ?_, frs, (iF H)⟩
           exact rfl
          refine GoQ.pure rfl (J0C Try.underlying4 rfl rfl) rfl rfl ?_
          refine au ?_
          refine drw 0 [(0, .stable), (1, .pure), (3, .stable), (4, .pure), (2, .loud), (5, .loud), (6, .pure), (7, .pure), (8, .stable), (9, .pure), (11, .stable), (12, .pure), (10, .loud), (13, .loud), (14, .pure), (15, .pure), (16, .pure)] hO fun C7 s hO => ?_
          refine sag 2 hO ?_
          refine sag 2 hO ?_
          refine au ?_
          refine zcq rfl (J00 body37 rfl (J03 hO.lt dS.u dT.u dA.u dB.u d6.u eC (iT H))) fun _ C8 => e1 fun r113 => sq0 hO fun s hO => fun H => ?_
          refine zcq rfl (J00 body37 rfl (J03 hO.lt dS.u dT.u dA.u dB.u d6.u gn H)) fun _ C9 => e1 fun r115 => sq0 hO fun s hO => fun H => ?_
          refine scm H (fun Dc H => ?_) fun Dc H => ?_
          ·refine sag 1 hO ?_
           refine sag 1 hO ?_
           refine au ?_
           refine zcq rfl (J00 body37 rfl (J03 hO.lt dU.u dV.u dC.u dD.u d7.u eC H)) fun _ nY => e1 fun tx => sq0 hO fun s hO => fun H => ?_
           refine zcq rfl (J00 body37 rfl (J03 hO.lt dU.u dV.u dC.u dD.u d7.u gn H)) fun _ tz => e1 fun HO => sq0 hO fun s hO => fun H => ?_
           refine scm H (fun tA H => ?_) fun tA H => ?_
           ·refine scm H (fun n7 H => ?_) fun n7 H => ?_
            ·refine au ?_
             refine zo (J0r Try.underlying4 rfl rfl) ?_
             refine au ?_
             refine zcr (J00 body18 rfl (J04 hO.lt H)) fun _ tB => e1 fun HP => sc0 hO fun s hO => fun H => ?_
             refine au ?_
             refine Go1.ret1 Try.func14 rfl ⟨_, ?_, frs, H⟩
             exact rfl
            refine au ?_
            refine zo (J0r Try.underlying4 rfl rfl) ?_
            refine au ?_
            refine Go1.ret1 Try.func14 rfl ⟨_, ?_, frs, H⟩
            exact rfl
           refine scm H (fun Dd H => ?_) fun Dd H => ?_
           ·refine au ?_
            refine zo (J0r Try.underlying4 rfl rfl) ?_
            refine au ?_
            refine Go1.ret1 Try.func14 rfl ⟨_, ?_, frs, H⟩
            exact rfl
           refine au ?_
           refine zo (J0r Try.underlying4 rfl rfl) ?_
           refine au ?_
           refine zcr (J00 body18 rfl (J04 hO.lt H)) fun _ tC => e1 fun r127 => sc0 hO fun s hO => fun H => ?_
           refine au ?_
           refine Go1.ret1 Try.func14 rfl ⟨_, ?_, frs, H⟩
           exact rfl
          refine scm H (fun De H => ?_) fun De H => ?_
          ·refine au ?_
           refine zo (J0r Try.underlying4 rfl rfl) ?_
           refine au ?_
           refine Go1.ret1 Try.func14 rfl ⟨_, ?_, frs, H⟩
           exact rfl
          refine au ?_
          refine zo (J0r Try.underlying4 rfl rfl) ?_
          refine au ?_
          refine zcr (J00 body18 rfl (J04 hO.lt H)) fun _ tD => e1 fun HQ => sc0 hO fun s hO => fun H => ?_
          refine au ?_
          refine Go1.ret1 Try.func14 rfl ⟨_, ?_, frs, H⟩
          exact rfl
         refine sag 4 hO ?_
         refine au ?_
         refine zcq rfl (J00 body40 rfl (J0v hO.lt eO.u fd.u eC H)) fun _ Dg => e1 fun Dh => sq0 hO fun s hO => fun H => ?_
         cases Dh
         ·refine GoQ.pure rfl (J0C Try.underlying4 rfl rfl) rfl rfl ?_
          refine au ?_
          refine drw 0 [(0, .stable), (1, .pure), (3, .stable), (4, .pure), (2, .loud), (5, .loud), (6, .pure), (7, .pure), (8, .stable), (9, .pure), (11, .stable), (12, .pure), (10, .loud), (13, .loud), (14, .pure), (15, .pure), (16, .pure)] hO fun tE s hO => ?_
          refine sag 2 hO ?_
          refine sag 2 hO ?_
          refine au ?_
          refine zcq rfl (J00 body37 rfl (J03 hO.lt dS.u dT.u dA.u dB.u d6.u eC (iF H))) fun _ HR => e1 fun HS => sq0 hO fun s hO => fun H => ?_
          refine zcq rfl (J00 body37 rfl (J03 hO.lt dS.u dT.u dA.u dB.u d6.u gn H)) fun _ kT => e1 fun HT => sq0 hO fun s hO => fun H => ?_
          refine scm H (fun tF H => ?_) fun tF H => ?_
          ·refine sag 1 hO ?_
           refine sag 1 hO ?_
           refine au ?_
           refine zcq rfl (J00 body37 rfl (J03 hO.lt dU.u dV.u dC.u dD.u d7.u eC H)) fun _ tG => e1 fun HU => sq0 hO fun s hO => fun H => ?_
           refine zcq rfl (J00 body37 rfl (J03 hO.lt dU.u dV.u dC.u dD.u d7.u gn H)) fun _ tH => e1 fun HV => sq0 hO fun s hO => fun H => ?_
           refine scm H (fun n8 H => ?_) fun n8 H => ?_
           ·refine scm H (fun Di H => ?_) fun Di H => ?_
            ·refine au ?_
             refine zo (J0r Try.underlying4 rfl rfl) ?_
             refine au ?_
             refine zcr (J00 body18 rfl (J04 hO.lt H)) fun _ HW => e1 fun r146 => sc0 hO fun s hO => fun H => ?_
             refine au ?_
             refine Go1.ret1 Try.func14 rfl ⟨_, ?_, frs, H⟩
             exact rfl
            refine au ?_
            refine zo (J0r Try.underlying4 rfl rfl) ?_
            refine au ?_
            refine Go1.ret1 Try.func14 rfl ⟨_, ?_, frs, H⟩
            exact rfl
           refine scm H (fun Dj H => ?_) fun Dj H => ?_
           ·refine au ?_
            refine zo (J0r Try.underlying4 rfl rfl) ?_
            refine au ?_
            refine Go1.ret1 Try.func14 rfl ⟨_, ?_, frs, H⟩
            exact rfl
           refine au ?_
           refine zo (J0r Try.underlying4 rfl rfl) ?_
           refine au ?_
           refine zcr (J00 body18 rfl (J04 hO.lt H)) fun _ Dk => e1 fun HX => sc0 hO fun s hO => fun H => ?_
           refine au ?_
           refine Go1.ret1 Try.func14 rfl ⟨_, ?_, frs, H⟩
           exact rfl
          refine scm H (fun Dl H => ?_) fun Dl H => ?_
          ·refine au ?_
           refine zo (J0r Try.underlying4 rfl rfl) ?_
           refine au ?_
           refine Go1.ret1 Try.func14 rfl ⟨_, ?_, frs, H⟩
           exact rfl
          refine au ?_
          refine zo (J0r Try.underlying4 rfl rfl) ?_
          refine au ?_
          refine zcr (J00 body18 rfl (J04 hO.lt H)) fun _ n9 => e1 fun r152 => sc0 hO fun s hO => fun H => ?_
          refine au ?_
          refine Go1.ret1 Try.func14 rfl ⟨_, ?_, frs, H⟩
          exact rfl
         refine GoQ.pure rfl (J0C Try.underlying4 rfl rfl) rfl rfl ?_
         refine au ?_
         refine au ?_
         refine Go1.ret1 Try.func14 rfl ⟨_, ?_, frs, (iT H)⟩
         exact rfl
        refine sag 5 hO ?_
        refine au ?_
        refine zcq rfl (J00 body40 rfl (J0v hO.lt cd.u di.u eC H)) fun _ tI => e1 fun Dn => sq0 hO fun s hO => fun H => ?_
        cases Dn
        ·refine GoQ.pure rfl (J0C Try.underlying4 rfl rfl) rfl rfl ?_
         refine six fO (iF H).1 (iF H).2.1 ?_
         refine slds hO fO.u (iF H).1 (iF H).2.1 fun Do Dp rD => ?_
         refine six rD (iF H).2.2.1 (iF H).2.2.2.1 ?_
         have h159 := (iF H).1
         have mt := (iF H).2.1
         have HY := (iF H).2.2.1
         have mv := (iF H).2.2.2.1
         refine sbd hO rD.u (iF H).2.2.1 (iF H).2.2.2.1 (iF H).2.2.2.2 (fun kU H => ?_) fun kU H => ?_
         ·refine sag 4 hO ?_
          refine au ?_
          refine zcq rfl (J00 body40 rfl (J0v hO.lt eO.u fd.u eC H)) fun _ H0 => e1 fun Dq => sq0 hO fun s hO => fun H => ?_
          cases Dq
          ·refine GoQ.pure rfl (J0C Try.underlying4 rfl rfl) rfl rfl ?_
           refine au ?_
           refine au ?_
           refine Go1.ret1 Try.func14 rfl ⟨_, ?_, frs, (iF H)⟩
           exact rfl
          refine GoQ.pure rfl (J0C Try.underlying4 rfl rfl) rfl rfl ?_
          refine au ?_
          refine drw 0 [(0, .stable), (1, .pure), (3, .stable), (4, .pure), (2, .loud), (5, .loud), (6, .pure), (7, .pure), (8, .stable), (9, .pure), (11, .stable), (12, .pure), (10, .loud), (13, .loud), (14, .pure), (15, .pure), (16, .pure)] hO fun Dr s hO => ?_
          refine sag 2 hO ?_
          refine sag 2 hO ?_
          refine au ?_
          refine zcq rfl (J00 body37 rfl (J03 hO.lt dS.u dT.u dA.u dB.u d6.u eC (iT H))) fun _ oc => e1 fun r167 => sq0 hO fun s hO => fun H => ?_
          refine zcq rfl (J00 body37 rfl (J03 hO.lt dS.u dT.u dA.u dB.u d6.u gn H)) fun _ H1 => e1 fun H2 => sq0 hO fun s hO => fun H => ?_
          refine scm H (fun Du H => ?_) fun Du H => ?_
          ·refine sag 1 hO ?_
           refine sag 1 hO ?_
           refine au ?_
           refine zcq rfl (J00 body37 rfl (J03 hO.lt dU.u dV.u dC.u dD.u d7.u eC H)) fun _ tJ => e1 fun H3 => sq0 hO fun s hO => fun H => ?_
           refine zcq rfl (J00 body37 rfl (J03 hO.lt dU.u dV.u dC.u dD.u d7.u gn H)) fun _ tK => e1 fun H4 => sq0 hO fun s hO => fun H => ?_
           refine scm H (fun Dv H => ?_) fun Dv H => ?_
           ·refine scm H (fun od H => ?_) fun od H => ?_
            ·refine au ?_
             refine zo (J0r Try.underlying4 rfl rfl) ?_
             refine au ?_
             refine zcr (J00 body18 rfl (J04 hO.lt H)) fun _ tL => e1 fun H5 => sc0 hO fun s hO => fun H => ?_
             refine au ?_
             refine Go1.ret1 Try.func14 rfl ⟨_, ?_, frs, H⟩
             exact rfl
            refine au ?_
            refine zo (J0r Try.underlying4 rfl rfl) ?_
            refine au ?_
            refine Go1.ret1 Try.func14 rfl ⟨_, ?_, frs, H⟩
            exact rfl
           refine scm H (fun Dw H => ?_) fun Dw H => ?_
           ·refine au ?_
            refine zo (J0r Try.underlying4 rfl rfl) ?_
            refine au ?_
            refine Go1.ret1 Try.func14 rfl ⟨_, ?_, frs, H⟩
            exact rfl
           refine au ?_
           refine zo (J0r Try.underlying4 rfl rfl) ?_
           refine au ?_
           refine zcr (J00 body18 rfl (J04 hO.lt H)) fun _ Dx => e1 fun H6 => sc0 hO fun s hO => fun H => ?_
           refine au ?_
           refine Go1.ret1 Try.func14 rfl ⟨_, ?_, frs, H⟩
           exact rfl
          refine scm H (fun Dy H => ?_) fun Dy H => ?_
          ·refine au ?_
           refine zo (J0r Try.underlying4 rfl rfl) ?_
           refine au ?_
           refine Go1.ret1 Try.func14 rfl ⟨_, ?_, frs, H⟩
           exact rfl
          refine au ?_
          refine zo (J0r Try.underlying4 rfl rfl) ?_
          refine au ?_
          refine zcr (J00 body18 rfl (J04 hO.lt H)) fun _ H7 => e1 fun r184 => sc0 hO fun s hO => fun H => ?_
          refine au ?_
          refine Go1.ret1 Try.func14 rfl ⟨_, ?_, frs, H⟩
          exact rfl
         refine sag 4 hO ?_
         refine au ?_
         refine zcq rfl (J00 body40 rfl (J0v hO.lt eO.u fd.u eC H)) fun _ Dz => e1 fun r186 => sq0 hO fun s hO => fun H => ?_
         cases r186
         ·refine GoQ.pure rfl (J0C Try.underlying4 rfl rfl) rfl rfl ?_
          refine au ?_
          refine drw 0 [(0, .stable), (1, .pure), (3, .stable), (4, .pure), (2, .loud), (5, .loud), (6, .pure), (7, .pure), (8, .stable), (9, .pure), (11, .stable), (12, .pure), (10, .loud), (13, .loud), (14, .pure), (15, .pure), (16, .pure)] hO fun oe s hO => ?_
          refine sag 2 hO ?_
          refine sag 2 hO ?_
          refine au ?_
          refine zcq rfl (J00 body37 rfl (J03 hO.lt dS.u dT.u dA.u dB.u d6.u eC (iF H))) fun _ tM => e1 fun H8 => sq0 hO fun s hO => fun H => ?_
          refine zcq rfl (J00 body37 rfl (J03 hO.lt dS.u dT.u dA.u dB.u d6.u gn H)) fun _ DA => e1 fun r191 => sq0 hO fun s hO => fun H => ?_
          refine scm H (fun DB H => ?_) fun DB H => ?_
          ·refine sag 1 hO ?_
           refine sag 1 hO ?_
           refine au ?_
           refine zcq rfl (J00 body37 rfl (J03 hO.lt dU.u dV.u dC.u dD.u d7.u eC H)) fun _ tN => e1 fun H9 => sq0 hO fun s hO => fun H => ?_
           refine zcq rfl (J00 body37 rfl (J03 hO.lt dU.u dV.u dC.u dD.u d7.u gn H)) fun _ Ia => e1 fun Ib => sq0 hO fun s hO => fun H => ?_
           refine scm H (fun jl H => ?_) fun jl H => ?_
           ·refine scm H (fun og H => ?_) fun og H => ?_
            ·refine au ?_
             refine zo (J0r Try.underlying4 rfl rfl) ?_
             refine au ?_
             refine zcr (J00 body18 rfl (J04 hO.lt H)) fun _ oh => e1 fun Ic => sc0 hO fun s hO => fun H => ?_
             refine au ?_
             refine Go1.ret1 Try.func14 rfl ⟨_, ?_, frs, H⟩
             exact rfl
            refine au ?_
            refine zo (J0r Try.underlying4 rfl rfl) ?_
            refine au ?_
            refine Go1.ret1 Try.func14 rfl ⟨_, ?_, frs, H⟩
            exact rfl
           refine scm H (fun mw H => ?_) fun mw H => ?_
           ·refine au ?_
            refine zo (J0r Try.underlying4 rfl rfl) ?_
            refine au ?_
            refine Go1.ret1 Try.func14 rfl ⟨_, ?_, frs, H⟩
            exact rfl
           refine au ?_
           refine zo (J0r Try.underlying4 rfl rfl) ?_
           refine au ?_
           refine zcr (J00 body18 rfl (J04 hO.lt H)) fun _ DD => e1 fun Id => sc0 hO fun s hO => fun H => ?_
           refine au ?_
           refine Go1.ret1 Try.func14 rfl ⟨_, ?_, frs, H⟩
           exact rfl
          refine scm H (fun DE H => ?_) fun DE H => ?_
          ·refine au ?_
           refine zo (J0r Try.underlying4 rfl rfl) ?_
           refine au ?_
           refine Go1.ret1 Try.func14 rfl ⟨_, ?_, frs, H⟩
           exact rfl
          refine au ?_
          refine zo (J0r Try.underlying4 rfl rfl) ?_
          refine au ?_
          refine zcr (J00 body18 rfl (J04 hO.lt H)) fun _ DF => e1 fun r206 => sc0 hO fun s hO => fun H => ?_
          refine au ?_
          refine Go1.ret1 Try.func14 rfl ⟨_, ?_, frs, H⟩
          exact rfl
         refine GoQ.pure rfl (J0C Try.underlying4 rfl rfl) rfl rfl ?_
         refine au ?_
         refine au ?_
         refine Go1.ret1 Try.func14 rfl ⟨_, ?_, frs, (iT H)⟩
         exact rfl
        refine GoQ.pure rfl (J0C Try.underlying4 rfl rfl) rfl rfl ?_
        refine au ?_
        refine au ?_
        refine Go1.ret1 Try.func14 rfl ⟨_, ?_, frs, (iT H)⟩
        exact rfl
       refine au ?_
       refine Go1.ret1 Try.func14 rfl ⟨_, ?_, frs, H⟩
       exact rfl
      refine au ?_
      refine Go1.ret1 Try.func14 rfl ⟨_, ?_, frs, H⟩
      exact rfl
     refine au ?_
     refine Go1.ret1 Try.func14 rfl ⟨_, ?_, frs, H⟩
     exact rfl
    refine au ?_
    refine Go1.ret1 Try.func14 rfl ⟨_, ?_, frs, H⟩
    exact rfl
   refine au ?_
   refine Go1.ret1 Try.func14 rfl ⟨_, ?_, frs, H⟩
   exact rfl
  refine au ?_
  refine Go1.ret1 Try.func14 rfl ⟨_, ?_, frs, H⟩
  exact rfl
 refine au ?_
 refine zcr (J00 body18 rfl (J04 hO.lt H)) fun _ tO => e1 fun Ie => sc0 hO fun s hO => fun H => ?_
 refine au ?_
 refine Go1.ret1 Try.func14 rfl ⟨_, ?_, frs, H⟩
 exact rfl
end Sg
