/- -/
import Derived.Test.YtlneebpmblkllaaVd
import Derived.Test.YtlneebpmblkllaaSort
import Derived.Test.YtlneebpmblkllaaWSyntacticCommon
import Derived.Test.YtlneebpmblkllaaWSyntacticJointb
import Derived.Test.YtlneebpmblkllaaWSyntacticMonoids
import Derived.Test.YtlneebpmblkllaaWSyntacticMonoidsc
import Derived.Test.YtlneebpmblkllaaWSyntacticMonoidse
import Derived.Test.YtlneebpmblkllaaWSyntacticReduced
import Derived.Test.YtlneebpmblkllaaWSyntacticRefuses
import Derived.Test.YtlneebpmblkllaaWSyntacticValues
namespace Sg
open Go Go.RowKit Go.Proofs
set_option linter.unusedVariables false
set_option linter.unusedSimpArgs false
set_option maxRecDepth 100000
set_option maxHeartbeats 4000000
theorem body56 : Body Try.prog 56 := ⟨Try.f56, Try.func56, rfl, by kernel_rfl⟩
theorem J2r {A : List Nat} {w0 : World} {u v : Str} (hA : ∀ b ∈ A, b < w0.heap.size) (yu : u.length ≤ mx) (yv : v.length ≤ mx) {K : Int → Prop} (H : J0O u v K) :
    CallsV Try.prog 56 #[.string (gstr u), .string (gstr v)] w0 (fun v w' => ∃ (r0 : Int), v = .int .i64 r0 ∧ Same w0 w' ∧ K r0) := by
 refine CallsV.of (l := [.string (gstr u), .string (gstr v)]) Try.func56 rfl Try.ntmps56 rfl ?_
 have hO := Owns.start hA
 have hB := Fr.refl (bl []) w0
 unfold J0O at H
 refine au ?_
 refine zo (J2S Try.underlying9 rfl) ?_
 replace H := H yu
 refine au ?_
 refine zo (J2S Try.underlying9 rfl) ?_
 replace H := H yv
 refine scm H (fun h1 H => ?_) fun h1 H => ?_
 ·refine au ?_
  refine Go1.ret1 Try.func56 rfl ⟨_, ?_, frs, H⟩
  exact rfl
 refine au ?_
 refine zo (J2S Try.underlying9 rfl) ?_
 refine au ?_
 refine zo (J2S Try.underlying9 rfl) ?_
 refine scm H (fun h2 H => ?_) fun h2 H => ?_
 ·refine scm H (fun h3 H => ?_) fun h3 H => ?_
  ·refine au ?_
   refine Go1.ret1 Try.func56 rfl ⟨_, ?_, frs, H⟩
   exact rfl
  refine scm H (fun h4 H => ?_) fun h4 H => ?_
  ·refine au ?_
   refine Go1.ret1 Try.func56 rfl ⟨_, ?_, frs, H⟩
   exact rfl
  refine au ?_
  refine Go1.ret1 Try.func56 rfl ⟨_, ?_, frs, H⟩
  exact rfl
 refine scm H (fun h5 H => ?_) fun h5 H => ?_
 ·refine au ?_
  refine Go1.ret1 Try.func56 rfl ⟨_, ?_, frs, H⟩
  exact rfl
 refine au ?_
 refine Go1.ret1 Try.func56 rfl ⟨_, ?_, frs, H⟩
 exact rfl
theorem body100 : Body Try.prog 100 := ⟨Try.f100, Try.func100, rfl, by kernel_rfl⟩
theorem body128 : Body Try.prog 128 := ⟨Try.f128, Try.func128, rfl, by kernel_rfl⟩
theorem body99 : Body Try.prog 99 := ⟨Try.f99, Try.func99, rfl, by kernel_rfl⟩
theorem body98 : Body Try.prog 98 := ⟨Try.f98, Try.func98, rfl, by kernel_rfl⟩
theorem body57 : Body Try.prog 57 := ⟨Try.f57, Try.func57, rfl, by kernel_rfl⟩
theorem J3R {A : List Nat} {w0 : World} {p_t dg : Option Addr} {c_t dh : Nat} {t : List (List Int)} {gens : List Int} (hA : ∀ b ∈ A, b < w0.heap.size) (h_t : ISl (Rp.sl (Rp.int .i64)) A w0 p_t c_t t) (dD : ISl (Rp.int .i64) A w0 dg dh gens) {K : List Int → Prop} (H : J0U t gens K) :
    CallsV Try.prog 57 #[.slice p_t t.length c_t, .slice dg gens.length dh] w0 (fun v w' => ∃ (r0 : List Int) (p_r0 : Option Addr) (c_r0 : Nat), v = .slice p_r0 r0.length c_r0 ∧ Same w0 w' ∧ ISl (Rp.int .i64) A w' p_r0 c_r0 r0 ∧ K r0) := by
 refine CallsV.of (l := [.slice p_t t.length c_t, .slice dg gens.length dh]) Try.func57 rfl Try.ntmps57 rfl ?_
 have hO := Owns.start hA
 have hB := Fr.refl (bl []) w0
 unfold J0U at H
 refine au ?_
 refine zcr (J00 body90 rfl (J5G hO.lt h_t.u dD.u H)) fun _ w2 => e1 fun r1 => sc0 hO fun s hO => fun H => ?_
 cases r1
 ·refine au ?_
  refine Go1.ret1 Try.func57 rfl ⟨_, _, _, ?_, frs, (ISl.null _ _ _), (iF H)⟩
  exact rfl
 refine au ?_
 refine GoR.inl (vs := [.slice p_t t.length c_t]) (caps := []) rfl rfl body98 Try.func98 rfl Try.ntmps98 rfl rfl rfl ?_
 intro RhR3 hR3
 refine sln0 ?_
 refine smk Fl.bool ((iT H) h_t.bd) hO fun w4 p5 s hO => ?_
 refine zo (J09 Try.underlying117 ti117 (pl := [(0, 1), (1, 1), (2, 1), (3, 1)]) (vs := [(0, .slice p_t t.length c_t), (2, .slice p5 t.length t.length)]) (cs := #[.slice p_t t.length c_t, .slice none 0 0, .slice p5 t.length t.length, .slice none 0 0]) (by kernel_rfl) rfl (by kernel_rfl)) ?_
 refine sbx hO fun w7 B8 s hO => ?_
 refine au ?_
 refine Go1.ret1V Try.func98 rfl (show _ = .pointer (some ⟨B8, 0, none⟩) from rfl) ?_
 refine hR3 _ _ ?_
 refine sln0 ?_
 refine au ?_
 refine snil Fl.i 3 hO fun s hO => ?_
 refine snil Fl.i 3 hO fun s hO => ?_
 refine lw (((iT H) h_t.bd).2.2 dD.bd) (fun (dj, kO, gN, d_22) σ w => ∃ n17 p15 c16 n21 p19 c20, (fun Z => agrees σ [(5, .pointer (some ⟨B8, 0, none⟩)), (14, .slice dg gens.length dh), (15, .int .i64 (gens.length : Int)), (16, .int .i64 (dj : Int))] ∧ Owns w0.heap.size w Z A ∧ Fr (bl []) w0 (bl Z) w) [t1 Fl.i 3 p15 n17 c16 kO, t1 Fl.i 3 p19 n21 c20 gN, .blk B8 (.cells #[.slice p_t t.length c_t, .slice p19 n21 c20, .slice p5 t.length t.length, .slice p15 n17 c16] 117 (0, 0)), t1 Fl.bool 4 p5 t.length t.length d_22]) ⟨_, _, _, _, _, _, agr, hO, fr⟩ ?_
 refine fun X1 => p3 fun dj kO gN d_22 => fun H hX1 σ w12 => e4 fun n17 p15 c16 n21 => e2 fun p19 c20 => d2 fun hag hO hB => ?_
 dsimp only at H
 refine Go1.keep _ hag ?_
 revert hO; repeat (rename Owns _ _ _ _ => q; clear q)
 intro hO; repeat (rename Sq _ _ _ _ _ _ => q; clear q)
 refine scm H (fun h23 H => ?_) fun h23 H => ?_
 ·refine sxl hO dD.u H.1 H.2.1 ?_
  refine au ?_
  refine GoR.inl (vs := [.pointer (some ⟨B8, 0, none⟩), .int .i64 (ix gens (dj : Int))]) (caps := []) rfl rfl body99 Try.func99 rfl Try.ntmps99 rfl rfl rfl ?_
  intro RhR24 hR24
  refine au ?_
  have h25 := H.2.2.1
  have h26 := H.2.2.2.1
  refine sxb1 3 hO H.2.2.1 H.2.2.2.1 H.2.2.2.2 (fun h27 H => ?_) fun h27 H => ?_
  ·refine au ?_
   refine Go1.ret0V Try.func99 rfl ?_
   refine hR24 _ _ ?_
   refine sinc (natbd h23 dD.bd) ?_
   refine au ?_
   exact hX1 _ H _ _ ⟨_, _, _, _, _, _, agr, hO, fr⟩
  refine sln1 0 hO ?_
  refine au ?_
  refine sap1 ((ix gens (dj : Int))) 1 hO H fun _ w28 p29 c30 s hO => ?_
  refine sbs 2 hO fun w31 s hO => ?_
  refine au ?_
  refine GoR.inl (vs := [.pointer (some ⟨B8, 0, none⟩), .int .i64 (ix gens (dj : Int))]) (caps := []) rfl rfl body128 Try.func128 rfl Try.ntmps128 rfl rfl rfl ?_
  intro RhR32 hR32
  refine sxl1 3 hO H.2.1 H.2.2.1 ?_
  rw [Bool.eq_false_iff.2 h27]
  refine six1 3 hO H.2.2.2.1 H.2.2.2.2.1 ?_
  refine sst (u := true) 3 hO H.2.2.2.1 H.2.2.2.2.1 fun w33 s hO => ?_
  refine au ?_
  refine sap1 ((ix gens (dj : Int))) 0 hO H.2.2.2.2.2 fun _ w34 p35 c36 s hO => ?_
  refine sbs 2 hO fun w37 s hO => ?_
  refine au ?_
  refine Go1.fin0V Try.func128 rfl ?_
  refine hR32 _ _ ?_
  refine au ?_
  refine lw H.2.2.2.2.2.2 (fun (b8, d_40, d_44) σ w => ∃ n43 p41 c42, (fun Z => agrees σ [(0, .pointer (some ⟨B8, 0, none⟩)), (1, .int .i64 (ix gens (dj : Int))), (4, .int .i64 (kO.length : Int)), (5, .int .i64 (b8 : Int))] ∧ Owns w0.heap.size w Z A ∧ Fr (bl []) w0 (bl Z) w) [t1 Fl.i 3 p41 n43 c42 d_40, t1 Fl.i 3 p29 (n21 + 1) c30 (gN ++ ([(ix gens (dj : Int))])), .blk B8 (.cells #[.slice p_t t.length c_t, .slice p29 (n21 + 1) c30, .slice p5 t.length t.length, .slice p41 n43 c42] 117 (0, 0)), t1 Fl.bool 4 p5 t.length t.length d_44]) ⟨_, _, _, agr, hO, fr⟩ ?_
  refine fun X2 => p2 fun b8 d_40 d_44 => fun H hX2 σ w38 => e3 fun n43 p41 c42 => d2 fun hag hO hB => ?_
  dsimp only at H
  refine Go1.keep _ hag ?_
  revert hO; repeat (rename Owns _ _ _ _ => q; clear q)
  intro hO; repeat (rename Sq _ _ _ _ _ _ => q; clear q)
  refine sln1 0 hO ?_
  refine scm H (fun h45 H => ?_) fun h45 H => ?_
  ·refine scm H (fun h46 H => ?_) fun h46 H => ?_
   ·refine au ?_
    refine drw 7 [(0, .pure), (1, .pure), (2, .pure), (3, .pure), (4, .stable), (5, .pure), (6, .pure), (7, .pure), (8, .stable), (9, .pure), (10, .pure), (11, .stable), (12, .pure), (13, .stable), (14, .pure), (15, .pure), (16, .stable), (17, .last)] hO fun w47 s hO => ?_
    refine sxl1 0 hO H.1 H.2.1 ?_
    refine sxls hO h_t.u H.2.2.1 H.2.2.2.1 fun p48 c49 fK => ?_
    refine sxl hO fK.u H.2.2.2.2.1 H.2.2.2.2.2.1 ?_
    refine GoQ.inl (vs := [.pointer (some ⟨B8, 0, none⟩), .int .i64 (ix (ix t (ix d_40 (b8 : Int))) (ix gens (dj : Int)))]) (caps := []) rfl rfl rfl body128 Try.func128 rfl Try.ntmps128 rfl rfl rfl ?_
    intro RhR51 hR51
    refine au ?_
    have h52 := H.2.2.2.2.2.2.1
    have h53 := H.2.2.2.2.2.2.2.1
    refine sxb1 3 hO H.2.2.2.2.2.2.1 H.2.2.2.2.2.2.2.1 H.2.2.2.2.2.2.2.2 (fun h54 H => ?_) fun h54 H => ?_
    ·refine au ?_
     refine Go1.fin0V Try.func128 rfl ?_
     refine hR51 _ _ ?_
     refine sinc (natbd h45 (t1b 0 hO)) ?_
     refine au ?_
     exact hX2 _ H _ _ ⟨_, _, _, agr, hO, fr⟩
    refine six1 3 hO H.1 H.2.1 ?_
    refine sst (u := true) 3 hO H.1 H.2.1 fun w55 s hO => ?_
    refine au ?_
    refine sap1 ((ix (ix t (ix d_40 (b8 : Int))) (ix gens (dj : Int)))) 0 hO H.2.2 fun _ w56 p57 c58 s hO => ?_
    refine sbs 2 hO fun w59 s hO => ?_
    refine au ?_
    refine Go1.fin0V Try.func128 rfl ?_
    refine hR51 _ _ ?_
    refine au ?_
    replace H := H.2.2.2
    obtain ⟨h60, H⟩ := H
    refine zo (J0p rfl rfl (wrap_i64 h60)) ?_
    refine au ?_
    exact hX2 _ H _ _ ⟨_, _, _, agr, hO, fr⟩
   refine sln1 1 hO ?_
   refine au ?_
   refine lw H (fun (jc, kP, d_67) σ w => ∃ n66 p64 c65, (fun Z => agrees σ [(0, .pointer (some ⟨B8, 0, none⟩)), (1, .int .i64 (ix gens (dj : Int))), (4, .int .i64 (kO.length : Int)), (5, .int .i64 (b8 : Int)), (66, .slice p29 (n21 + 1) c30), (67, .int .i64 ((gN ++ ([(ix gens (dj : Int))])).length : Int)), (68, .int .i64 (jc : Int))] ∧ Owns w0.heap.size w Z A ∧ Fr (bl []) w0 (bl Z) w) [t1 Fl.i 3 p64 n66 c65 kP, t1 Fl.i 3 p29 (n21 + 1) c30 (gN ++ ([(ix gens (dj : Int))])), .blk B8 (.cells #[.slice p_t t.length c_t, .slice p29 (n21 + 1) c30, .slice p5 t.length t.length, .slice p64 n66 c65] 117 (0, 0)), t1 Fl.bool 4 p5 t.length t.length d_67]) ⟨_, _, _, agr, hO, fr⟩ ?_
   refine fun X3 => p2 fun jc kP d_67 => fun H hX3 σ w61 => e3 fun n66 p64 c65 => d2 fun hag hO hB => ?_
   dsimp only at H
   refine Go1.keep _ hag ?_
   revert hO; repeat (rename Owns _ _ _ _ => q; clear q)
   intro hO; repeat (rename Sq _ _ _ _ _ _ => q; clear q)
   refine scm H (fun h68 H => ?_) fun h68 H => ?_
   ·refine sxl1 1 hO H.1 H.2.1 ?_
    refine au ?_
    refine drw 7 [(0, .pure), (1, .pure), (2, .pure), (3, .pure), (4, .stable), (5, .pure), (6, .pure), (7, .pure), (8, .stable), (9, .pure), (10, .pure), (11, .stable), (12, .pure), (13, .stable), (14, .pure), (15, .pure), (16, .stable), (17, .last)] hO fun w69 s hO => ?_
    refine sxl1 0 hO H.2.2.1 H.2.2.2.1 ?_
    refine sxls hO h_t.u H.2.2.2.2.1 H.2.2.2.2.2.1 fun p70 c71 yw => ?_
    refine sxl hO yw.u H.2.2.2.2.2.2.1 H.2.2.2.2.2.2.2.1 ?_
    refine GoQ.inl (vs := [.pointer (some ⟨B8, 0, none⟩), .int .i64 (ix (ix t (ix kP (b8 : Int))) (ix (gN ++ ([(ix gens (dj : Int))])) (jc : Int)))]) (caps := []) rfl rfl rfl body128 Try.func128 rfl Try.ntmps128 rfl rfl rfl ?_
    intro RhR73 hR73
    refine au ?_
    have h74 := H.2.2.2.2.2.2.2.2.1
    have h75 := H.2.2.2.2.2.2.2.2.2.1
    refine sxb1 3 hO H.2.2.2.2.2.2.2.2.1 H.2.2.2.2.2.2.2.2.2.1 H.2.2.2.2.2.2.2.2.2.2 (fun h76 H => ?_) fun h76 H => ?_
    ·refine au ?_
     refine Go1.fin0V Try.func128 rfl ?_
     refine hR73 _ _ ?_
     refine sinc (natbd h68 (t1b 1 hO)) ?_
     refine au ?_
     exact hX3 _ H _ _ ⟨_, _, _, agr, hO, fr⟩
    refine six1 3 hO H.1 H.2.1 ?_
    refine sst (u := true) 3 hO H.1 H.2.1 fun w77 s hO => ?_
    refine au ?_
    refine sap1 ((ix (ix t (ix kP (b8 : Int))) (ix (gN ++ ([(ix gens (dj : Int))])) (jc : Int)))) 0 hO H.2.2 fun _ w78 p79 c80 s hO => ?_
    refine sbs 2 hO fun w81 s hO => ?_
    refine au ?_
    refine Go1.fin0V Try.func128 rfl ?_
    refine hR73 _ _ ?_
    refine sinc (natbd h68 (t1b 1 hO)) ?_
    refine au ?_
    exact hX3 _ H.2.2.2 _ _ ⟨_, _, _, agr, hO, fr⟩
   refine au ?_
   obtain ⟨h82, H⟩ := H
   refine zo (J0p rfl rfl (wrap_i64 h82)) ?_
   refine au ?_
   exact hX2 _ H _ _ ⟨_, _, _, agr, hO, fr⟩
  refine au ?_
  refine Go1.fin0V Try.func99 rfl ?_
  refine hR24 _ _ ?_
  refine sinc (natbd h23 dD.bd) ?_
  refine au ?_
  exact hX1 _ H _ _ ⟨_, _, _, _, _, _, agr, hO, fr⟩
 refine au ?_
 refine op1 0 hO fun qG s hO yz => ?_
 obtain ⟨h90, H⟩ := H
 refine GoR.call (osort body100 0 hO rfl yz.u h90 rfl) rfl rfl ?_
 rintro v89 w85 ⟨rfl, ER, vr, rQ⟩
 dsimp only [sS, sZ] at rQ
 refine nst vr fun s hO => ?_
 refine au ?_
 refine sfzR 0 hO rQ fun s hO lJ lK => ?_
 refine Go1.ret1 Try.func57 rfl ⟨_, _, _, ?_, frs, lJ.r, H⟩
 exact (congrArg (fun nn => Value.slice p15 nn c16) lK)
theorem J1C {A : List Nat} {w0 : World} {bG bS : Option Addr} {bH bT : Nat} {a0 : DFA} {a1 a2 : Str} (hA : ∀ b ∈ A, b < w0.heap.size) (cj : ISl (Rp.bool) A w0 bG bH a0.Final) (db : ISl (Rp.sl (Rp.int .i64)) A w0 bS bT a0.Next) (vu : a1.length ≤ mx) (vw : a2.length ≤ mx) {K : Bool → Prop} (H : law21_SyntacticMultiplies a0 a1 a2 K) :
    CallsV Try.prog 15 #[.agg #[.int .i64 a0.Letters, .int .i64 a0.Start, .slice bG a0.Final.length bH, .slice bS a0.Next.length bT], .string (gstr a1), .string (gstr a2)] w0 (fun v w' => ∃ (r0 : Bool), v = .bool r0 ∧ Same w0 w' ∧ K r0) := by
 refine CallsV.of (l := [.agg #[.int .i64 a0.Letters, .int .i64 a0.Start, .slice bG a0.Final.length bH, .slice bS a0.Next.length bT], .string (gstr a1), .string (gstr a2)]) Try.func15 rfl Try.ntmps15 rfl ?_
 have hO := Owns.start hA
 have hB := Fr.refl (bl []) w0
 unfold law21_SyntacticMultiplies at H
 refine sbx hO fun w1 B2 s hO => ?_
 refine sag 0 hO ?_
 refine zcr (J00 body17 rfl (J4F hO.lt cj.u db.u H)) fun _ w5 => e1 fun r4 => sc0 hO fun s hO => fun H => ?_
 cases r4
 ·refine au ?_
  refine zcr (J00 body18 rfl (J0W hO.lt (iF H))) fun _ w7 => e1 fun r6 => sc0 hO fun s hO => fun H => ?_
  refine au ?_
  refine Go1.ret1 Try.func15 rfl ⟨_, ?_, frs, H⟩
  exact rfl
 refine au ?_
 replace H := (iT H)
 obtain ⟨h8, H⟩ := H
 refine zo (J3S rfl rfl h8) ?_
 refine au ?_
 refine zcr (J00 body41 rfl (J4C hO.lt (lenApp h8) H)) fun _ w10 => e1 fun r9 => sc0 hO fun s hO => fun H => ?_
 cases r9
 ·refine au ?_
  refine zcr (J00 body18 rfl (J0W hO.lt (iF H))) fun _ w12 => e1 fun r11 => sc0 hO fun s hO => fun H => ?_
  refine au ?_
  refine Go1.ret1 Try.func15 rfl ⟨_, ?_, frs, H⟩
  exact rfl
 refine sag 0 hO ?_
 refine zcr (J00 body19 rfl (J1s hO.lt cj.u db.u (iT H))) fun _ w15 => e4 fun r13 r14 eK eM => e4 fun fM fN f8 f9 => e4 fun gf gh iw iA => sc0 hO fun s hO => d1 fun bP => d4 fun ba cD cE cC H => ?_
 refine sal hO fun w16 B17 s hO => ?_
 refine sba 0 hO fun w19 s hO => ?_
 refine sln0 ?_
 refine au ?_
 refine drw 0 [(0, .stable), (1, .pure), (3, .stable), (4, .pure), (6, .stable), (7, .pure), (8, .pure), (9, .pure), (2, .loud), (5, .loud), (10, .loud), (11, .pure), (12, .pure), (13, .pure)] hO fun w20 s hO => ?_
 refine sag 0 hO ?_
 refine sag 0 hO ?_
 refine sag 0 hO ?_
 refine au ?_
 replace H := (H bP.bd)
 obtain ⟨h21, H⟩ := H
 refine GoQ.pure rfl (J3S rfl rfl h21) rfl rfl ?_
 refine zcq rfl (J00 body37 rfl (J0q hO.lt bP.u ba.u cD.u cE.u cC.u vu H)) fun _ w23 => e1 fun r22 => sq0 hO fun s hO => fun H => ?_
 refine zcq rfl (J00 body37 rfl (J0q hO.lt bP.u ba.u cD.u cE.u cC.u vw H)) fun _ w25 => e1 fun r24 => sq0 hO fun s hO => fun H => ?_
 refine zcq rfl (J00 body37 rfl (J0q hO.lt bP.u ba.u cD.u cE.u cC.u (lenApp h21) H)) fun _ w27 => e1 fun r26 => sq0 hO fun s hO => fun H => ?_
 refine scm H (fun h28 H => ?_) fun h28 H => ?_
 ·refine au ?_
  refine Go1.ret1 Try.func15 rfl ⟨_, ?_, frs, H⟩
  exact rfl
 refine sln0 ?_
 refine scm (H ba.bd) (fun h29 H => ?_) fun h29 H => ?_
 ·refine sln0 ?_
  refine scm (H cC.bd) (fun h30 H => ?_) fun h30 H => ?_
  ·refine sln0 ?_
   refine scm (H cE.bd) (fun h31 H => ?_) fun h31 H => ?_
   ·refine au ?_
    refine zcr (J00 body53 rfl (J4K hO.lt bP.u H)) fun _ w33 => e1 fun r32 => sc0 hO fun s hO => fun H => ?_
    refine scm H (fun h34 H => ?_) fun h34 H => ?_
    ·refine scm H (fun h35 H => ?_) fun h35 H => ?_
     ·refine au ?_
      refine zcr (J00 body54 rfl (J2n hO.lt bP.u H)) fun _ w37 => e1 fun r36 => sc0 hO fun s hO => fun H => ?_
      refine scm H (fun h38 H => ?_) fun h38 H => ?_
      ·refine au ?_
       refine zcr (J00 body55 rfl (J4b hO.lt bP.u H)) fun _ w40 => e1 fun r39 => sc0 hO fun s hO => fun H => ?_
       refine scm H (fun h41 H => ?_) fun h41 H => ?_
       ·refine sbu Fl.i 3 [r22, r24, r26] hO fun w42 p43 s hO => ?_
        have yA := t1lend 0 hO
        have yB := t1n 0 hO
        have hOc47 := hO.drop 0
        refine zcr (J00 body30 (show ([.slice eK r13.Table.length eM, .slice p43 3 3] : List Value) = [.slice eK r13.Table.length eM, .slice p43 ([r22, r24, r26]).length 3] from by rw [← yB]) (J5u hOc47.lt (bP.u.ch (Owns.J62 _ _ 0)) yA H)) fun _ w49 => e1 fun r48 => sc0 hO fun s hO => fun H => ?_
        cases r48
        ·refine au ?_
         refine Go1.ret1 Try.func15 rfl ⟨_, ?_, frs, (iF H)⟩
         exact rfl
        refine six bP (iT H).1 (iT H).2.1 ?_
        refine slds hO bP.u (iT H).1 (iT H).2.1 fun p50 c51 rR => ?_
        refine six rR (iT H).2.2.1 (iT H).2.2.2.1 ?_
        refine sld hO rR.u (iT H).2.2.1 (iT H).2.2.2.1 ?_
        refine au ?_
        have h53 := (iT H).1
        have h54 := (iT H).2.1
        have h55 := (iT H).2.2.1
        have h56 := (iT H).2.2.2.1
        refine scm (iT H).2.2.2.2 (fun h57 H => ?_) fun h57 H => ?_
        ·refine sln0 ?_
         refine au ?_
         refine sdr [0, 1] hO fun s hO => ?_
         refine lw H (fun k1_59 σ w => (fun Z => agrees σ [(1, .string (gstr a1)), (2, .string (gstr a2)), (7, .pointer (some ⟨B17, 0, none⟩)), (12, .int .i64 r26), (114, .slice fM r13.Words.length fN), (115, .int .i64 (r13.Words.length : Int)), (116, .int .i64 (k1_59 : Int))] ∧ Owns w0.heap.size w Z A ∧ ISl (Rp.sl (Rp.int .i64)) (bl Z ++ A) w eK eM r13.Table ∧ ISl (Rp.str) (bl Z ++ A) w fM fN r13.Words ∧ ISl (Rp.int .i64) (bl Z ++ A) w f8 f9 r13.Images ∧ ISl (Rp.bool) (bl Z ++ A) w gf gh r13.Accept ∧ ISl (Rp.bool) (bl Z ++ A) w iw iA r13.Plus ∧ Fr (bl []) w0 (bl Z) w) [.blk B17 (.cells #[.int .i64 r13.Letters, .slice eK r13.Table.length eM, .slice fM r13.Words.length fN, .slice f8 r13.Images.length f9, .slice gf r13.Accept.length gh, .slice iw r13.Plus.length iA] 33 (0, 0))]) ⟨agr, hO, bP.u, ba.u, cD.u, cE.u, cC.u, fr⟩ ?_
         refine fun X1 => fun k1_59 => fun H hX1 σ w58 => d1 fun hag => d1 fun hO => d1 fun bP => d4 fun ba cD cE cC hB => ?_
         refine Go1.keep _ hag ?_
         revert hO; repeat (rename Owns _ _ _ _ => q; clear q)
         intro hO; repeat (rename Sq _ _ _ _ _ _ => q; clear q)
         refine scm H (fun h60 H => ?_) fun h60 H => ?_
         ·refine sxl hO ba H.1 H.2.1 ?_
          have hle61 := ISl.J59 ba H.1 H.2.1
          refine sag 0 hO ?_
          refine au ?_
          have h64 := H.1
          have h65 := H.2.1
          refine zcr (J00 body37 rfl (J0q hO.lt bP ba cD cE cC hle61 H.2.2)) fun _ w63 => e1 fun r62 => sc0 hO fun s hO => fun H => ?_
          refine scm H (fun h66 H => ?_) fun h66 H => ?_
          ·refine scm H (fun h67 H => ?_) fun h67 H => ?_
           ·refine au ?_
            obtain ⟨h68, H⟩ := H
            refine zo (J6a rfl rfl (wrap_i64 h68)) ?_
            refine six ba H.1 H.2.1 ?_
            refine sld hO ba.u H.1 H.2.1 ?_
            have hle69 := ISl.J59 ba H.1 H.2.1
            refine au ?_
            have h72 := H.1
            have h73 := H.2.1
            refine zcr (J00 body56 rfl (J2r hO.lt hle69 hle61 H.2.2)) fun _ w71 => e1 fun r70 => sc0 hO fun s hO => fun H => ?_
            refine scm H (fun h74 H => ?_) fun h74 H => ?_
            ·refine au ?_
             refine Go1.ret1 Try.func15 rfl ⟨_, ?_, frs, H⟩
             exact rfl
            refine sinc (natbd h60 ba.bd) ?_
            refine au ?_
            exact hX1 _ H _ _ ⟨agr, hO, bP.u, ba.u, cD.u, cE.u, cC.u, fr⟩
           refine sinc (natbd h60 ba.bd) ?_
           refine au ?_
           exact hX1 _ H _ _ ⟨agr, hO, bP.u, ba.u, cD.u, cE.u, cC.u, fr⟩
          refine au ?_
          refine Go1.ret1 Try.func15 rfl ⟨_, ?_, frs, H⟩
          exact rfl
         refine au ?_
         refine zcr (J00 body57 rfl (J3R hO.lt bP.u cD.u H)) fun _ w76 => e3 fun r75 oN oO => sc0 hO fun s hO => d1 fun vy H => ?_
         refine au ?_
         refine zcr (J00 body58 rfl (J4a hO.lt cC.u H)) fun _ w79 => e4 fun r77 vz oP oQ => sc1 hO fun s hO => fun H => ?_
         refine au ?_
         have yC := t1lend 0 hO
         have jp := t1n 0 hO
         have hOc83 := hO.drop 0
         refine zcr (J00 body49 (show ([.slice oP vz oQ, .slice oN r75.length oO] : List Value) = [.slice oP r77.length oQ, .slice oN r75.length oO] from by rw [← jp]) (J4U hOc83.lt yC (vy.u.ch (Owns.J62 _ _ 0)) H)) fun _ w85 => e1 fun r84 => sc0 hO fun s hO => fun H => ?_
         refine au ?_
         cases r84
         ·refine au ?_
          refine Go1.ret1 Try.func15 rfl ⟨_, ?_, frs, (iF H)⟩
          exact rfl
         refine six ba (iT H).1 (iT H).2.1 ?_
         refine sld hO ba.u (iT H).1 (iT H).2.1 ?_
         have hle86 := ISl.J59 ba (iT H).1 (iT H).2.1
         refine au ?_
         have h87 := (iT H).1
         have h88 := (iT H).2.1
         replace H := (iT H).2.2
         obtain ⟨h89, H⟩ := H
         refine zo (J3S rfl rfl h89) ?_
         refine zcr (J00 body56 rfl (J2r hO.lt hle86 (lenApp h89) H)) fun _ w91 => e1 fun r90 => sc0 hO fun s hO => fun H => ?_
         refine scm H (fun h92 H => ?_) fun h92 H => ?_
         ·refine au ?_
          obtain ⟨h93, H⟩ := H
          refine zo (J3S rfl rfl h93) ?_
          refine scm H (fun h94 H => ?_) fun h94 H => ?_
          ·refine au ?_
           refine zcr (J00 body18 rfl (J0W hO.lt H)) fun _ w96 => e1 fun r95 => sc0 hO fun s hO => fun H => ?_
           refine au ?_
           refine Go1.ret1 Try.func15 rfl ⟨_, ?_, frs, H⟩
           exact rfl
          refine six cC H.1 H.2.1 ?_
          have h97 := H.1
          have h98 := H.2.1
          refine sbd hO cC.u H.1 H.2.1 H.2.2 (fun h99 H => ?_) fun h99 H => ?_
          ·refine au ?_
           refine zcr (J00 body18 rfl (J0W hO.lt H)) fun _ o4 => e1 fun r100 => sc0 hO fun s hO => fun H => ?_
           refine au ?_
           refine Go1.ret1 Try.func15 rfl ⟨_, ?_, frs, H⟩
           exact rfl
          refine au ?_
          refine Go1.ret1 Try.func15 rfl ⟨_, ?_, frs, H⟩
          exact rfl
         refine au ?_
         refine Go1.ret1 Try.func15 rfl ⟨_, ?_, frs, H⟩
         exact rfl
        refine au ?_
        refine Go1.ret1 Try.func15 rfl ⟨_, ?_, frs, H⟩
        exact rfl
       refine au ?_
       refine Go1.ret1 Try.func15 rfl ⟨_, ?_, frs, H⟩
       exact rfl
      refine au ?_
      refine Go1.ret1 Try.func15 rfl ⟨_, ?_, frs, H⟩
      exact rfl
     refine au ?_
     refine Go1.ret1 Try.func15 rfl ⟨_, ?_, frs, H⟩
     exact rfl
    refine au ?_
    refine Go1.ret1 Try.func15 rfl ⟨_, ?_, frs, H⟩
    exact rfl
   refine au ?_
   refine Go1.ret1 Try.func15 rfl ⟨_, ?_, frs, H⟩
   exact rfl
  refine au ?_
  refine Go1.ret1 Try.func15 rfl ⟨_, ?_, frs, H⟩
  exact rfl
 refine au ?_
 refine Go1.ret1 Try.func15 rfl ⟨_, ?_, frs, H⟩
 exact rfl
end Sg
