/- -/
import Derived.Test.YtlneebpmblkllaaVd
import Derived.Test.YtlneebpmblkllaaWSyntacticRefuses
namespace Sg
open Go Go.RowKit Go.Proofs
set_option linter.unusedVariables false
set_option linter.unusedSimpArgs false
set_option maxRecDepth 100000
set_option maxHeartbeats 4000000
theorem body89 : Body Try.prog 89 := ⟨Try.f89, Try.func89, rfl, by kernel_rfl⟩
theorem J50 {A : List Nat} {w0 : World} {w_ : Str} {letters : Int} (hA : ∀ b ∈ A, b < w0.heap.size) (d6 : w_.length ≤ mx) {K : Bool → Prop} (H : J2E w_ letters K) :
    CallsV Try.prog 89 #[.string (gstr w_), .int .i64 letters] w0 (fun v w' => ∃ (r0 : Bool), v = .bool r0 ∧ Same w0 w' ∧ K r0) := by
 refine CallsV.of (l := [.string (gstr w_), .int .i64 letters]) Try.func89 rfl Try.ntmps89 rfl ?_
 have hO := Owns.start hA
 have hB := Fr.refl (bl []) w0
 unfold J2E at H
 refine scm H (fun h1 H => ?_) fun h1 H => ?_
 ·refine au ?_
  refine Go1.ret1 Try.func89 rfl ⟨_, ?_, frs, H⟩
  exact rfl
 refine scm H (fun h2 H => ?_) fun h2 H => ?_
 ·refine au ?_
  refine Go1.ret1 Try.func89 rfl ⟨_, ?_, frs, H⟩
  exact rfl
 refine au ?_
 refine zo (J2S Try.underlying9 rfl) ?_
 replace H := H d6
 refine scm H (fun h3 H => ?_) fun h3 H => ?_
 ·refine au ?_
  refine Go1.ret1 Try.func89 rfl ⟨_, ?_, frs, H⟩
  exact rfl
 refine au ?_
 refine zo (J2S Try.underlying9 rfl) ?_
 refine au ?_
 refine lw H (fun k1_5 σ w => (fun Z => agrees σ [(0, .string (gstr w_)), (1, .int .i64 letters), (18, .int .i64 (w_.length : Int)), (19, .int .i64 (k1_5 : Int))] ∧ Owns w0.heap.size w Z A ∧ Fr (bl []) w0 (bl Z) w) []) ⟨agr, hO, fr⟩ ?_
 refine fun X1 => fun k1_5 => fun H hX1 σ w4 => d2 fun hag hO hB => ?_
 refine Go1.keep _ hag ?_
 refine scm H (fun h6 H => ?_) fun h6 H => ?_
 ·refine au ?_
  obtain ⟨h7, H⟩ := H
  obtain ⟨h8, H⟩ := H
  refine zo (J3f Try.underlying9 rfl rfl h7 h8) ?_
  refine scm H (fun h9 H => ?_) fun h9 H => ?_
  ·refine au ?_
   refine Go1.ret1 Try.func89 rfl ⟨_, ?_, frs, H⟩
   exact rfl
  refine au ?_
  obtain ⟨h10, H⟩ := H
  obtain ⟨h11, H⟩ := H
  refine zo (J3f Try.underlying9 rfl rfl h10 h11) ?_
  refine zo (J6a rfl rfl rfl) ?_
  refine zo (J3e Try.underlying5 Try.underlying3 rfl rfl) ?_
  refine scm H (fun h12 H => ?_) fun h12 H => ?_
  ·refine au ?_
   refine Go1.ret1 Try.func89 rfl ⟨_, ?_, frs, H⟩
   exact rfl
  refine sinc (natbd h6 d6) ?_
  refine au ?_
  exact hX1 _ H _ _ ⟨agr, hO, fr⟩
 refine au ?_
 refine Go1.ret1 Try.func89 rfl ⟨_, ?_, frs, H⟩
 exact rfl
theorem body80 : Body Try.prog 80 := ⟨Try.f80, Try.func80, rfl, by kernel_rfl⟩
theorem J3z {A : List Nat} {w0 : World} {p_s__Table p_s__Words p_s__Images p_s__Accept p_s__Plus : Option Addr} {c_s__Table c_s__Words c_s__Images c_s__Accept c_s__Plus : Nat} {s_ : Syntactic} {w_ : Str} (hA : ∀ b ∈ A, b < w0.heap.size) (h_s__Table : ISl (Rp.sl (Rp.int .i64)) A w0 p_s__Table c_s__Table s_.Table) (h_s__Words : ISl (Rp.str) A w0 p_s__Words c_s__Words s_.Words) (h_s__Images : ISl (Rp.int .i64) A w0 p_s__Images c_s__Images s_.Images) (h_s__Accept : ISl (Rp.bool) A w0 p_s__Accept c_s__Accept s_.Accept) (h_s__Plus : ISl (Rp.bool) A w0 p_s__Plus c_s__Plus s_.Plus) (d6 : w_.length ≤ mx) {K : Int → Prop} (H : J0K s_ w_ K) :
    CallsV Try.prog 80 #[.agg #[.int .i64 s_.Letters, .slice p_s__Table s_.Table.length c_s__Table, .slice p_s__Words s_.Words.length c_s__Words, .slice p_s__Images s_.Images.length c_s__Images, .slice p_s__Accept s_.Accept.length c_s__Accept, .slice p_s__Plus s_.Plus.length c_s__Plus], .string (gstr w_)] w0 (fun v w' => ∃ (r0 : Int), v = .int .i64 r0 ∧ Same w0 w' ∧ K r0) := by
 refine CallsV.of (l := [.agg #[.int .i64 s_.Letters, .slice p_s__Table s_.Table.length c_s__Table, .slice p_s__Words s_.Words.length c_s__Words, .slice p_s__Images s_.Images.length c_s__Images, .slice p_s__Accept s_.Accept.length c_s__Accept, .slice p_s__Plus s_.Plus.length c_s__Plus], .string (gstr w_)]) Try.func80 rfl Try.ntmps80 rfl ?_
 have hO := Owns.start hA
 have hB := Fr.refl (bl []) w0
 unfold J0K at H
 refine sbx hO fun w1 B2 s hO => ?_
 refine au ?_
 refine zcr (J00 body89 rfl (J50 hO.lt d6 H)) fun _ w5 => e1 fun r4 => sc0 hO fun s hO => fun H => ?_
 cases r4
 ·refine au ?_
  refine Go1.ret1 Try.func80 rfl ⟨_, ?_, frs, (iF H)⟩
  exact rfl
 refine au ?_
 refine zo (J2S Try.underlying9 rfl) ?_
 replace H := (iT H)
 replace H := H d6
 refine au ?_
 refine lw H (fun (rX, k1_8) σ w => (fun Z => agrees σ [(1, .string (gstr w_)), (2, .pointer (some ⟨B2, 0, none⟩)), (5, .int .i64 rX), (13, .int .i64 (w_.length : Int)), (14, .int .i64 (k1_8 : Int))] ∧ Owns w0.heap.size w Z A ∧ Fr (bl []) w0 (bl Z) w) [.blk B2 (.cells #[.int .i64 s_.Letters, .slice p_s__Table s_.Table.length c_s__Table, .slice p_s__Words s_.Words.length c_s__Words, .slice p_s__Images s_.Images.length c_s__Images, .slice p_s__Accept s_.Accept.length c_s__Accept, .slice p_s__Plus s_.Plus.length c_s__Plus] 33 (0, 0))]) ⟨agr, hO, fr⟩ ?_
 refine fun X1 => p1 fun rX k1_8 => fun H hX1 σ w6 => d2 fun hag hO hB => ?_
 dsimp only at H
 refine Go1.keep _ hag ?_
 revert hO; repeat (rename Owns _ _ _ _ => q; clear q)
 intro hO; repeat (rename Sq _ _ _ _ _ _ => q; clear q)
 refine scm H (fun h9 H => ?_) fun h9 H => ?_
 ·refine au ?_
  refine drw 0 [(0, .pure), (1, .stable), (2, .pure), (3, .pure), (4, .stable), (5, .pure), (6, .stable), (7, .pure), (8, .pure), (9, .pure), (10, .pure), (11, .pure), (12, .stable), (13, .pure), (14, .stable), (15, .pure)] hO fun w10 s hO => ?_
  refine sxls hO h_s__Table.u H.1 H.2.1 fun p11 c12 y3 => ?_
  refine au ?_
  have h14 := H.1
  have h15 := H.2.1
  replace H := H.2.2
  obtain ⟨h16, H⟩ := H
  obtain ⟨h17, H⟩ := H
  refine GoQ.pure rfl (J3f Try.underlying9 rfl rfl h16 h17) rfl rfl ?_
  refine GoQ.pure rfl (J6a rfl rfl rfl) rfl rfl ?_
  refine sxl hO h_s__Images.u H.1 H.2.1 ?_
  refine sxl hO y3.u H.2.2.1 H.2.2.2.1 ?_
  refine sinc (natbd h9 d6) ?_
  refine au ?_
  exact hX1 _ H.2.2.2.2 _ _ ⟨agr, hO, fr⟩
 refine au ?_
 refine Go1.ret1 Try.func80 rfl ⟨_, ?_, frs, H⟩
 exact rfl
theorem body37 : Body Try.prog 37 := ⟨Try.f37, Try.func37, rfl, by kernel_rfl⟩
theorem J0q {A : List Nat} {w0 : World} {p_s__Table p_s__Words p_s__Images p_s__Accept p_s__Plus : Option Addr} {c_s__Table c_s__Words c_s__Images c_s__Accept c_s__Plus : Nat} {s_ : Syntactic} {w_ : Str} (hA : ∀ b ∈ A, b < w0.heap.size) (h_s__Table : ISl (Rp.sl (Rp.int .i64)) A w0 p_s__Table c_s__Table s_.Table) (h_s__Words : ISl (Rp.str) A w0 p_s__Words c_s__Words s_.Words) (h_s__Images : ISl (Rp.int .i64) A w0 p_s__Images c_s__Images s_.Images) (h_s__Accept : ISl (Rp.bool) A w0 p_s__Accept c_s__Accept s_.Accept) (h_s__Plus : ISl (Rp.bool) A w0 p_s__Plus c_s__Plus s_.Plus) (d6 : w_.length ≤ mx) {K : Int → Prop} (H : J0a s_ w_ K) :
    CallsV Try.prog 37 #[.agg #[.int .i64 s_.Letters, .slice p_s__Table s_.Table.length c_s__Table, .slice p_s__Words s_.Words.length c_s__Words, .slice p_s__Images s_.Images.length c_s__Images, .slice p_s__Accept s_.Accept.length c_s__Accept, .slice p_s__Plus s_.Plus.length c_s__Plus], .string (gstr w_)] w0 (fun v w' => ∃ (r0 : Int), v = .int .i64 r0 ∧ Same w0 w' ∧ K r0) := by
 refine CallsV.of (l := [.agg #[.int .i64 s_.Letters, .slice p_s__Table s_.Table.length c_s__Table, .slice p_s__Words s_.Words.length c_s__Words, .slice p_s__Images s_.Images.length c_s__Images, .slice p_s__Accept s_.Accept.length c_s__Accept, .slice p_s__Plus s_.Plus.length c_s__Plus], .string (gstr w_)]) Try.func37 rfl Try.ntmps37 rfl ?_
 have hO := Owns.start hA
 have hB := Fr.refl (bl []) w0
 unfold J0a at H
 refine sbx hO fun w1 B2 s hO => ?_
 refine sag 0 hO ?_
 refine zcr (J00 body28 rfl (J2G hO.lt h_s__Table.u h_s__Words.u h_s__Images.u h_s__Accept.u h_s__Plus.u H)) fun _ w5 => e1 fun r4 => sc0 hO fun s hO => fun H => ?_
 refine scm H (fun h6 H => ?_) fun h6 H => ?_
 ·refine sag 0 hO ?_
  refine au ?_
  refine zcr (J00 body80 rfl (J3z hO.lt h_s__Table.u h_s__Words.u h_s__Images.u h_s__Accept.u h_s__Plus.u d6 H)) fun _ w8 => e1 fun r7 => sc0 hO fun s hO => fun H => ?_
  refine au ?_
  refine Go1.ret1 Try.func37 rfl ⟨_, ?_, frs, H⟩
  exact rfl
 refine au ?_
 refine Go1.ret1 Try.func37 rfl ⟨_, ?_, frs, H⟩
 exact rfl
end Sg
