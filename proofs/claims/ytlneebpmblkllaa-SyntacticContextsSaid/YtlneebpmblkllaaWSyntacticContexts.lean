/- -/
import Derived.Test.YtlneebpmblkllaaFnx
import Derived.Test.YtlneebpmblkllaaVd
import Derived.Test.YtlneebpmblkllaaWSyntacticJointb
import Derived.Test.YtlneebpmblkllaaWSyntacticMonoids
import Derived.Test.YtlneebpmblkllaaWSyntacticMonoidsc
import Derived.Test.YtlneebpmblkllaaWSyntacticSeparates
import Derived.Test.YtlneebpmblkllaaWSyntacticValues
namespace Sg
open Go Go.RowKit Go.Proofs
set_option linter.unusedVariables false
set_option linter.unusedSimpArgs false
set_option maxRecDepth 100000
set_option maxHeartbeats 4000000
theorem J1M {A : List Nat} {w0 : World} {bV cd : Option Addr} {bW ce : Nat} {a0 : DFA} {a1 a2 a3 a4 : Str} (hA : ∀ b ∈ A, b < w0.heap.size) (bE : ISl (Rp.bool) A w0 bV bW a0.Final) (cN : ISl (Rp.sl (Rp.int .i64)) A w0 cd ce a0.Next) (mT : a1.length ≤ mx) (mU : a2.length ≤ mx) (rh : a3.length ≤ mx) (rk : a4.length ≤ mx) {K : Bool → Prop} (H : law21_SyntacticContexts a0 a1 a2 a3 a4 K) :
    CallsV Try.prog 11 #[.agg #[.int .i64 a0.Letters, .int .i64 a0.Start, .slice bV a0.Final.length bW, .slice cd a0.Next.length ce], .string (gstr a1), .string (gstr a2), .string (gstr a3), .string (gstr a4)] w0 (fun v w' => ∃ (r0 : Bool), v = .bool r0 ∧ Same w0 w' ∧ K r0) := by
 refine CallsV.of (l := [.agg #[.int .i64 a0.Letters, .int .i64 a0.Start, .slice bV a0.Final.length bW, .slice cd a0.Next.length ce], .string (gstr a1), .string (gstr a2), .string (gstr a3), .string (gstr a4)]) Try.func11 rfl Try.ntmps11 rfl ?_
 have hO := Owns.start hA
 have hB := Fr.refl (bl []) w0
 unfold law21_SyntacticContexts at H
 refine sbx hO fun w1 B2 s hO => ?_
 refine sag 0 hO ?_
 refine zcr (J00 body17 rfl (J4c hO.lt bE.u cN.u H)) fun _ w5 => e1 fun r4 => sc0 hO fun s hO => fun H => ?_
 cases r4
 ·refine au ?_
  refine zcr (J00 body18 rfl (J0g hO.lt (iF H))) fun _ w7 => e1 fun r6 => sc0 hO fun s hO => fun H => ?_
  refine au ?_
  refine Go1.ret1 Try.func11 rfl ⟨_, ?_, frs, H⟩
  exact rfl
 refine au ?_
 replace H := (iT H)
 obtain ⟨h8, H⟩ := H
 refine zo (J1i rfl rfl h8) ?_
 refine au ?_
 obtain ⟨h9, H⟩ := H
 refine zo (J1i rfl rfl h9) ?_
 refine au ?_
 obtain ⟨h10, H⟩ := H
 refine zo (J1i rfl rfl h10) ?_
 refine au ?_
 refine zcr (J00 body41 rfl (J49 hO.lt (lenApp h10) H)) fun _ w12 => e1 fun r11 => sc0 hO fun s hO => fun H => ?_
 cases r11
 ·refine au ?_
  refine zcr (J00 body18 rfl (J0g hO.lt (iF H))) fun _ w14 => e1 fun r13 => sc0 hO fun s hO => fun H => ?_
  refine au ?_
  refine Go1.ret1 Try.func11 rfl ⟨_, ?_, frs, H⟩
  exact rfl
 refine au ?_
 refine zo (J1F Try.underlying9 rfl) ?_
 replace H := (iT H)
 replace H := H mT
 refine au ?_
 refine zo (J1F Try.underlying9 rfl) ?_
 replace H := H mU
 obtain ⟨h15, H⟩ := H
 refine zo (J0l rfl rfl (wrap_i64 h15)) ?_
 refine au ?_
 refine zo (J1F Try.underlying9 rfl) ?_
 replace H := H rh
 obtain ⟨h16, H⟩ := H
 refine zo (J0l rfl rfl (wrap_i64 h16)) ?_
 refine au ?_
 refine zo (J1F Try.underlying9 rfl) ?_
 replace H := H rk
 obtain ⟨h17, H⟩ := H
 refine zo (J0l rfl rfl (wrap_i64 h17)) ?_
 refine scm H (fun h18 H => ?_) fun h18 H => ?_
 ·refine au ?_
  refine zcr (J00 body18 rfl (J0g hO.lt H)) fun _ w20 => e1 fun r19 => sc0 hO fun s hO => fun H => ?_
  refine au ?_
  refine Go1.ret1 Try.func11 rfl ⟨_, ?_, frs, H⟩
  exact rfl
 refine sag 0 hO ?_
 refine zcr (J00 body19 rfl (J1u hO.lt bE.u cN.u H)) fun _ w23 => e4 fun r21 r22 qH qI => e4 fun qJ qK nU nV => e4 fun nW nX ro rp => sc0 hO fun s hO => d1 fun fm => d4 fun fo eH eI fw H => ?_
 refine sal hO fun w24 B25 s hO => ?_
 refine sba 0 hO fun w27 s hO => ?_
 refine scm H (fun h28 H => ?_) fun h28 H => ?_
 ·refine au ?_
  refine drw 0 [(0, .stable), (1, .pure), (3, .stable), (4, .pure), (2, .loud), (5, .loud), (6, .pure), (7, .pure)] hO fun w29 s hO => ?_
  refine sag 0 hO ?_
  refine sag 0 hO ?_
  refine au ?_
  refine zcq rfl (J00 body37 rfl (J1I hO.lt fm.u fo.u eH.u eI.u fw.u mT H)) fun _ w31 => e1 fun r30 => sq0 hO fun s hO => fun H => ?_
  refine zcq rfl (J00 body37 rfl (J1I hO.lt fm.u fo.u eH.u eI.u fw.u mU H)) fun _ w33 => e1 fun r32 => sq0 hO fun s hO => fun H => ?_
  refine sag 0 hO ?_
  refine au ?_
  refine zcr (J00 body35 rfl (J2y hO.lt fm.u fo.u eH.u eI.u fw.u H)) fun _ w37 => e3 fun r34 r35 r36 => sc0 hO fun s hO => d2 fun ye yf H => ?_
  refine scm H (fun h38 H => ?_) fun h38 H => ?_
  ·refine au ?_
   refine drw 0 [(0, .pure), (1, .pure), (2, .pure), (3, .stable), (4, .pure), (5, .pure), (6, .pure), (7, .pure), (8, .pure), (10, .stable), (11, .pure), (12, .pure), (13, .pure), (14, .pure), (15, .pure), (9, .loud), (16, .loud), (17, .pure), (18, .pure), (19, .pure), (20, .loud), (21, .pure), (22, .pure)] hO fun w39 s hO => ?_
   refine au ?_
   cases r36
   ·refine sag 1 hO ?_
    refine au ?_
    replace H := (iF H)
    obtain ⟨h40, H⟩ := H
    refine GoQ.pure rfl (J1i rfl rfl h40) rfl rfl ?_
    refine au ?_
    obtain ⟨h41, H⟩ := H
    refine GoQ.pure rfl (J1i rfl rfl h41) rfl rfl ?_
    refine sag 1 hO ?_
    refine au ?_
    obtain ⟨h42, H⟩ := H
    refine GoQ.pure rfl (J1i rfl rfl h42) rfl rfl ?_
    refine au ?_
    obtain ⟨h43, H⟩ := H
    refine GoQ.pure rfl (J1i rfl rfl h43) rfl rfl ?_
    refine zcq rfl (J00 body40 rfl (J12 hO.lt bE.u cN.u (lenApp h41) H)) fun _ w45 => e1 fun r44 => sq0 hO fun s hO => fun H => ?_
    refine zcq rfl (J00 body40 rfl (J12 hO.lt bE.u cN.u (lenApp h43) H)) fun _ w47 => e1 fun r46 => sq0 hO fun s hO => fun H => ?_
    cases r44
    ·cases r46
     ·refine GoQ.pure rfl (J5j Try.underlying4 rfl rfl) rfl rfl ?_
      refine au ?_
      refine zcq rfl (J00 body18 rfl (J0g hO.lt (iF (iF H)))) fun _ w49 => e1 fun r48 => sq0 hO fun s hO => fun H => ?_
      refine au ?_
      refine Go1.ret1 Try.func11 rfl ⟨_, ?_, frs, H⟩
      exact rfl
     refine GoQ.pure rfl (J5j Try.underlying4 rfl rfl) rfl rfl ?_
     refine au ?_
     refine Go1.ret1 Try.func11 rfl ⟨_, ?_, frs, (iT (iF H))⟩
     exact rfl
    cases r46
    ·refine GoQ.pure rfl (J5j Try.underlying4 rfl rfl) rfl rfl ?_
     refine au ?_
     refine Go1.ret1 Try.func11 rfl ⟨_, ?_, frs, (iF (iT H))⟩
     exact rfl
    refine GoQ.pure rfl (J5j Try.underlying4 rfl rfl) rfl rfl ?_
    refine au ?_
    refine zcq rfl (J00 body18 rfl (J0g hO.lt (iT (iT H)))) fun _ w51 => e1 fun r50 => sq0 hO fun s hO => fun H => ?_
    refine au ?_
    refine Go1.ret1 Try.func11 rfl ⟨_, ?_, frs, H⟩
    exact rfl
   refine au ?_
   refine Go1.ret1 Try.func11 rfl ⟨_, ?_, frs, (iT H)⟩
   exact rfl
  refine au ?_
  refine drw 0 [(0, .pure), (1, .pure), (2, .stable), (3, .pure), (4, .pure), (5, .pure), (6, .pure), (7, .pure), (9, .stable), (10, .pure), (11, .pure), (12, .pure), (13, .pure), (14, .pure), (8, .loud), (15, .loud), (16, .pure), (17, .pure), (18, .pure), (19, .loud), (20, .pure), (21, .pure)] hO fun w52 s hO => ?_
  refine au ?_
  cases r36
  ·refine au ?_
   refine Go1.ret1 Try.func11 rfl ⟨_, ?_, frs, (iF H)⟩
   exact rfl
  refine sag 1 hO ?_
  refine au ?_
  replace H := (iT H)
  obtain ⟨h53, H⟩ := H
  refine GoQ.pure rfl (J1i rfl rfl h53) rfl rfl ?_
  refine au ?_
  obtain ⟨h54, H⟩ := H
  refine GoQ.pure rfl (J1i rfl rfl h54) rfl rfl ?_
  refine sag 1 hO ?_
  refine au ?_
  obtain ⟨h55, H⟩ := H
  refine GoQ.pure rfl (J1i rfl rfl h55) rfl rfl ?_
  refine au ?_
  obtain ⟨h56, H⟩ := H
  refine GoQ.pure rfl (J1i rfl rfl h56) rfl rfl ?_
  refine zcq rfl (J00 body40 rfl (J12 hO.lt bE.u cN.u (lenApp h54) H)) fun _ w58 => e1 fun r57 => sq0 hO fun s hO => fun H => ?_
  refine zcq rfl (J00 body40 rfl (J12 hO.lt bE.u cN.u (lenApp h56) H)) fun _ w60 => e1 fun r59 => sq0 hO fun s hO => fun H => ?_
  cases r57
  ·cases r59
   ·refine GoQ.pure rfl (J0Z Try.underlying4 rfl rfl) rfl rfl ?_
    refine au ?_
    refine Go1.ret1 Try.func11 rfl ⟨_, ?_, frs, (iF (iF H))⟩
    exact rfl
   refine GoQ.pure rfl (J0Z Try.underlying4 rfl rfl) rfl rfl ?_
   refine au ?_
   refine zcq rfl (J00 body18 rfl (J0g hO.lt (iT (iF H)))) fun _ w62 => e1 fun r61 => sq0 hO fun s hO => fun H => ?_
   refine au ?_
   refine Go1.ret1 Try.func11 rfl ⟨_, ?_, frs, H⟩
   exact rfl
  cases r59
  ·refine GoQ.pure rfl (J0Z Try.underlying4 rfl rfl) rfl rfl ?_
   refine au ?_
   refine zcq rfl (J00 body18 rfl (J0g hO.lt (iF (iT H)))) fun _ w64 => e1 fun r63 => sq0 hO fun s hO => fun H => ?_
   refine au ?_
   refine Go1.ret1 Try.func11 rfl ⟨_, ?_, frs, H⟩
   exact rfl
  refine GoQ.pure rfl (J0Z Try.underlying4 rfl rfl) rfl rfl ?_
  refine au ?_
  refine Go1.ret1 Try.func11 rfl ⟨_, ?_, frs, (iT (iT H))⟩
  exact rfl
 refine au ?_
 refine Go1.ret1 Try.func11 rfl ⟨_, ?_, frs, H⟩
 exact rfl
end Sg
