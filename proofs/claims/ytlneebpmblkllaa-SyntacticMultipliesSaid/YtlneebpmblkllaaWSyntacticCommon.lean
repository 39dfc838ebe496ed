/- -/
import Derived.Test.YtlneebpmblkllaaVd
import Derived.Test.YtlneebpmblkllaaWSyntacticReduced
namespace Sg
open Go Go.RowKit Go.Proofs
set_option linter.unusedVariables false
set_option linter.unusedSimpArgs false
set_option maxRecDepth 100000
set_option maxHeartbeats 4000000
theorem body126 : Body Try.prog 126 := ⟨Try.f126, Try.func126, rfl, by kernel_rfl⟩
theorem J36 {A : List Nat} {w0 : World} {p_t dz : Option Addr} {c_t dA : Nat} {t : List (List Int)} {numbers : List Int} (hA : ∀ b ∈ A, b < w0.heap.size) (h_t : ISl (Rp.sl (Rp.int .i64)) A w0 p_t c_t t) (eP : ISl (Rp.int .i64) A w0 dz dA numbers) {K : Bool → Prop} (H : J0x t numbers K) :
    CallsV Try.prog 126 #[.slice p_t t.length c_t, .slice dz numbers.length dA] w0 (fun v w' => ∃ (r0 : Bool), v = .bool r0 ∧ Same w0 w' ∧ K r0) := by
 refine CallsV.of (l := [.slice p_t t.length c_t, .slice dz numbers.length dA]) Try.func126 rfl Try.ntmps126 rfl ?_
 have hO := Owns.start hA
 have hB := Fr.refl (bl []) w0
 unfold J0x at H
 refine sln0 ?_
 refine au ?_
 refine lw (H eP.bd) (fun k1_2 σ w => (fun Z => agrees σ [(0, .slice p_t t.length c_t), (7, .slice dz numbers.length dA), (8, .int .i64 (numbers.length : Int)), (9, .int .i64 (k1_2 : Int))] ∧ Owns w0.heap.size w Z A ∧ Fr (bl []) w0 (bl Z) w) []) ⟨agr, hO, fr⟩ ?_
 refine fun X1 => fun k1_2 => fun H hX1 σ w1 => d2 fun hag hO hB => ?_
 refine Go1.keep _ hag ?_
 refine scm H (fun h3 H => ?_) fun h3 H => ?_
 ·refine sxl hO eP.u H.1 H.2.1 ?_
  refine au ?_
  have h4 := H.1
  have h5 := H.2.1
  refine scm H.2.2 (fun h6 H => ?_) fun h6 H => ?_
  ·refine au ?_
   refine Go1.ret1 Try.func126 rfl ⟨_, ?_, frs, H⟩
   exact rfl
  refine sln0 ?_
  refine scm (H h_t.bd) (fun h7 H => ?_) fun h7 H => ?_
  ·refine au ?_
   refine Go1.ret1 Try.func126 rfl ⟨_, ?_, frs, H⟩
   exact rfl
  refine sinc (natbd h3 eP.bd) ?_
  refine au ?_
  exact hX1 _ H _ _ ⟨agr, hO, fr⟩
 refine au ?_
 refine Go1.ret1 Try.func126 rfl ⟨_, ?_, frs, H⟩
 exact rfl
theorem body94 : Body Try.prog 94 := ⟨Try.f94, Try.func94, rfl, by kernel_rfl⟩
theorem J3c {A : List Nat} {w0 : World} {p_t : Option Addr} {c_t : Nat} {t : List (List Int)} (hA : ∀ b ∈ A, b < w0.heap.size) (h_t : ISl (Rp.sl (Rp.int .i64)) A w0 p_t c_t t) {K : Bool → Prop} (H : J1W t K) :
    CallsV Try.prog 94 #[.slice p_t t.length c_t] w0 (fun v w' => ∃ (r0 : Bool), v = .bool r0 ∧ Same w0 w' ∧ K r0) := by
 refine CallsV.of (l := [.slice p_t t.length c_t]) Try.func94 rfl Try.ntmps94 rfl ?_
 have hO := Owns.start hA
 have hB := Fr.refl (bl []) w0
 unfold J1W at H
 refine au ?_
 refine zcr (J00 body54 rfl (J2n hO.lt h_t.u H)) fun _ w2 => e1 fun r1 => sc0 hO fun s hO => fun H => ?_
 refine scm H (fun h3 H => ?_) fun h3 H => ?_
 ·refine au ?_
  refine Go1.ret1 Try.func94 rfl ⟨_, ?_, frs, H⟩
  exact rfl
 refine au ?_
 refine Go1.ret1 Try.func94 rfl ⟨_, ?_, frs, H⟩
 exact rfl
theorem body90 : Body Try.prog 90 := ⟨Try.f90, Try.func90, rfl, by kernel_rfl⟩
theorem J5G {A : List Nat} {w0 : World} {p_t dz : Option Addr} {c_t dA : Nat} {t : List (List Int)} {numbers : List Int} (hA : ∀ b ∈ A, b < w0.heap.size) (h_t : ISl (Rp.sl (Rp.int .i64)) A w0 p_t c_t t) (eP : ISl (Rp.int .i64) A w0 dz dA numbers) {K : Bool → Prop} (H : J49 t numbers K) :
    CallsV Try.prog 90 #[.slice p_t t.length c_t, .slice dz numbers.length dA] w0 (fun v w' => ∃ (r0 : Bool), v = .bool r0 ∧ Same w0 w' ∧ K r0) := by
 refine CallsV.of (l := [.slice p_t t.length c_t, .slice dz numbers.length dA]) Try.func90 rfl Try.ntmps90 rfl ?_
 have hO := Owns.start hA
 have hB := Fr.refl (bl []) w0
 unfold J49 at H
 refine au ?_
 refine zcr (J00 body126 rfl (J36 hO.lt h_t.u eP.u H)) fun _ w2 => e1 fun r1 => sc0 hO fun s hO => fun H => ?_
 refine au ?_
 cases r1
 ·refine au ?_
  refine Go1.ret1 Try.func90 rfl ⟨_, ?_, frs, (iF H)⟩
  exact rfl
 refine au ?_
 refine zcr (J00 body94 rfl (J3c hO.lt h_t.u (iT H))) fun _ w4 => e1 fun r3 => sc0 hO fun s hO => fun H => ?_
 refine au ?_
 refine Go1.ret1 Try.func90 rfl ⟨_, ?_, frs, H⟩
 exact rfl
theorem body96 : Body Try.prog 96 := ⟨Try.f96, Try.func96, rfl, by kernel_rfl⟩
theorem J3V {A : List Nat} {w0 : World} {p_t : Option Addr} {c_t : Nat} {t : List (List Int)} (hA : ∀ b ∈ A, b < w0.heap.size) (h_t : ISl (Rp.sl (Rp.int .i64)) A w0 p_t c_t t) {K : List Int → Prop} (H : J18 t K) :
    CallsV Try.prog 96 #[.slice p_t t.length c_t] w0 (fun v w' => ∃ (r0 : List Int) (fm : Nat) (p_r0 : Option Addr) (c_r0 : Nat), v = .slice p_r0 fm c_r0 ∧ Same w0 w' ∧ Owns w0.heap.size w' [t1 Fl.i 3 p_r0 fm c_r0 r0] A ∧ K r0) := by
 refine CallsV.of (l := [.slice p_t t.length c_t]) Try.func96 rfl Try.ntmps96 rfl ?_
 have hO := Owns.start hA
 have hB := Fr.refl (bl []) w0
 unfold J18 at H
 refine sln0 ?_
 refine smk Fl.i (H h_t.bd) hO fun w1 p4 s hO => ?_
 refine sln1 0 hO ?_
 refine au ?_
 refine lw (H h_t.bd).2.2 (fun (bc, list1_8) σ w => (fun Z => agrees σ [(3, .slice p4 t.length t.length), (9, .int .i64 ((List.replicate t.length ((0 : Int))).length : Int)), (10, .int .i64 (bc : Int))] ∧ Owns w0.heap.size w Z A ∧ Fr (bl []) w0 (bl Z) w) [t1 Fl.i 3 p4 t.length t.length list1_8]) ⟨agr, hO, fr⟩ ?_
 refine fun X1 => p1 fun bc list1_8 => fun H hX1 σ w6 => d2 fun hag hO hB => ?_
 dsimp only at H
 refine Go1.keep _ hag ?_
 revert hO; repeat (rename Owns _ _ _ _ => q; clear q)
 intro hO; repeat (rename Sq _ _ _ _ _ _ => q; clear q)
 refine scm H (fun h9 H => ?_) fun h9 H => ?_
 ·refine six1 0 hO H.1 H.2.1 ?_
  refine sst (u := (bc : Int)) 0 hO H.1 H.2.1 fun w10 s hO => ?_
  refine au ?_
  have h11 := H.1
  have h12 := H.2.1
  replace H := H.2.2
  obtain ⟨h13, H⟩ := H
  refine zo (J0p rfl rfl (wrap_i64 h13)) ?_
  refine au ?_
  exact hX1 _ H _ _ ⟨agr, hO, fr⟩
 refine au ?_
 refine Go1.ret1 Try.func96 rfl ⟨_, _, _, _, ?_, frs, hO, H⟩
 exact rfl
theorem body97 : Body Try.prog 97 := ⟨Try.f97, Try.func97, rfl, by kernel_rfl⟩
theorem body95 : Body Try.prog 95 := ⟨Try.f95, Try.func95, rfl, by kernel_rfl⟩
theorem body55 : Body Try.prog 55 := ⟨Try.f55, Try.func55, rfl, by kernel_rfl⟩
theorem J4b {A : List Nat} {w0 : World} {p_t : Option Addr} {c_t : Nat} {t : List (List Int)} (hA : ∀ b ∈ A, b < w0.heap.size) (h_t : ISl (Rp.sl (Rp.int .i64)) A w0 p_t c_t t) {K : Int → Prop} (H : J1d t K) :
    CallsV Try.prog 55 #[.slice p_t t.length c_t] w0 (fun v w' => ∃ (r0 : Int), v = .int .i64 r0 ∧ Same w0 w' ∧ K r0) := by
 refine CallsV.of (l := [.slice p_t t.length c_t]) Try.func55 rfl Try.ntmps55 rfl ?_
 have hO := Owns.start hA
 have hB := Fr.refl (bl []) w0
 unfold J1d at H
 refine sbx hO fun w1 B2 s hO => ?_
 refine au ?_
 refine zcr (J00 body94 rfl (J3c hO.lt h_t.u H)) fun _ w5 => e1 fun r4 => sc0 hO fun s hO => fun H => ?_
 cases r4
 ·refine au ?_
  refine Go1.ret1 Try.func55 rfl ⟨_, ?_, frs, (iF H)⟩
  exact rfl
 refine au ?_
 refine zcr (J00 body96 rfl (J3V hO.lt h_t.u (iT H))) fun _ w8 => e4 fun r6 jO jP jQ => sc1 hO fun s hO => fun H => ?_
 refine zo (J2P (vs := [.pointer (some ⟨B2, 0, none⟩)]) rfl) ?_
 refine GoR.inl (vs := [.slice jP jO jQ, .func (.func 97) #[] #[.pointer (some ⟨B2, 0, none⟩)]]) (caps := []) rfl rfl body95 Try.func95 rfl Try.ntmps95 rfl rfl rfl ?_
 intro RhR10 hR10
 refine sln1 0 hO ?_
 refine au ?_
 refine lw H (fun k1_12 σ w => (fun Z => agrees σ [(0, .slice jP jO jQ), (1, .func (.func 97) #[] #[.pointer (some ⟨B2, 0, none⟩)]), (7, .int .i64 (r6.length : Int)), (8, .int .i64 (k1_12 : Int))] ∧ Owns w0.heap.size w Z A ∧ Fr (bl []) w0 (bl Z) w) [t1 Fl.i 3 jP jO jQ r6, .blk B2 (.cells #[.slice p_t t.length c_t] 23 (0, 0))]) ⟨agr, hO, fr⟩ ?_
 refine fun X1 => fun k1_12 => fun H hX1 σ w11 => d2 fun hag hO hB => ?_
 refine Go1.keep _ hag ?_
 revert hO; repeat (rename Owns _ _ _ _ => q; clear q)
 intro hO; repeat (rename Sq _ _ _ _ _ _ => q; clear q)
 refine scm H (fun h13 H => ?_) fun h13 H => ?_
 ·refine sxl1 0 hO H.1 H.2.1 ?_
  refine GoR.inl (vs := [.int .i64 (ix r6 (k1_12 : Int))]) (caps := [.pointer (some ⟨B2, 0, none⟩)]) rfl rfl body97 Try.func97 rfl Try.ntmps97 rfl rfl rfl ?_
  intro RhR14 hR14
  refine sln0 ?_
  refine au ?_
  refine lw (H.2.2 h_t.bd) (fun nP σ w => (fun Z => agrees σ [(0, .int .i64 (ix r6 (k1_12 : Int))), (1, .pointer (some ⟨B2, 0, none⟩)), (6, .int .i64 (t.length : Int)), (7, .int .i64 (nP : Int))] ∧ Owns w0.heap.size w Z A ∧ Fr (bl []) w0 (bl Z) w) [t1 Fl.i 3 jP jO jQ r6, .blk B2 (.cells #[.slice p_t t.length c_t] 23 (0, 0))]) ⟨agr, hO, fr⟩ ?_
  refine fun X2 => fun nP => fun H hX2 σ w15 => d2 fun hag hO hB => ?_
  refine Go1.keep _ hag ?_
  revert hO; repeat (rename Owns _ _ _ _ => q; clear q)
  intro hO; repeat (rename Sq _ _ _ _ _ _ => q; clear q)
  refine scm H (fun h17 H => ?_) fun h17 H => ?_
  ·refine sxls hO h_t.u H.1 H.2.1 fun p18 c19 lB => ?_
   refine sxl hO lB.u H.2.2.1 H.2.2.2.1 ?_
   refine au ?_
   have h21 := H.1
   have h22 := H.2.1
   have h23 := H.2.2.1
   have h24 := H.2.2.2.1
   refine scm H.2.2.2.2 (fun h25 H => ?_) fun h25 H => ?_
   ·refine six h_t H.1 H.2.1 ?_
    refine slds hO h_t.u H.1 H.2.1 fun p26 c27 o3 => ?_
    refine six o3 H.2.2.1 H.2.2.2.1 ?_
    refine sld hO o3.u H.2.2.1 H.2.2.2.1 ?_
    refine au ?_
    have h29 := H.1
    have h30 := H.2.1
    have h31 := H.2.2.1
    have h32 := H.2.2.2.1
    refine scm H.2.2.2.2 (fun h33 H => ?_) fun h33 H => ?_
    ·refine sinc (natbd h17 h_t.bd) ?_
     refine au ?_
     exact hX2 _ H _ _ ⟨agr, hO, fr⟩
    refine au ?_
    refine Go1.ret1V Try.func97 rfl (show _ = .bool false from rfl) ?_
    refine hR14 _ _ ?_
    refine sinc (natbd h13 (t1b 0 hO)) ?_
    refine au ?_
    exact hX1 _ H _ _ ⟨agr, hO, fr⟩
   refine au ?_
   refine Go1.ret1V Try.func97 rfl (show _ = .bool false from rfl) ?_
   refine hR14 _ _ ?_
   refine sinc (natbd h13 (t1b 0 hO)) ?_
   refine au ?_
   exact hX1 _ H _ _ ⟨agr, hO, fr⟩
  refine au ?_
  refine Go1.ret1V Try.func97 rfl (show _ = .bool true from rfl) ?_
  refine hR14 _ _ ?_
  refine au ?_
  refine Go1.ret1V Try.func95 rfl (show _ = .int .i64 (k1_12 : Int) from rfl) ?_
  refine hR10 _ _ ?_
  refine au ?_
  refine Go1.ret1 Try.func55 rfl ⟨_, ?_, frs, H⟩
  exact rfl
 refine au ?_
 refine Go1.ret1V Try.func95 rfl (show _ = .int .i64 (-1 : Int) from rfl) ?_
 refine hR10 _ _ ?_
 refine au ?_
 refine Go1.ret1 Try.func55 rfl ⟨_, ?_, frs, H⟩
 exact rfl
end Sg
