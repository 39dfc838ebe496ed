/- The walks: each call keeps to its plain transformer. Printed by walkgen.py. -/
import Derived.Test.YtolobiljalelgaaWMultMakes
namespace Sg
open Go Go.RowKit Go.Proofs
set_option linter.unusedVariables false
set_option maxRecDepth 100000
set_option maxHeartbeats 4000000
theorem body11 : Body Try.prog 11 := ⟨Try.f11, Try.func11, rfl, by kernel_rfl⟩
theorem walk_law14_MultInherits {A : List Nat} {w0 : World} {p_a0 : Option Addr} {c_a0 : Nat} {p_a1 : Option Addr} {c_a1 : Nat} {a0 : List (List Int)} {a1 : List (List Int)} (hA : ∀ b ∈ A, b < w0.heap.size) (h_a0 : ISl (Rp.sl (Rp.int .i64)) A w0 p_a0 c_a0 a0) (h_a1 : ISl (Rp.sl (Rp.int .i64)) A w0 p_a1 c_a1 a1) {K : Bool → Prop} (H : law14_MultInherits a0 a1 K) :
    CallsV Try.prog 11 #[.slice p_a0 a0.length c_a0, .slice p_a1 a1.length c_a1] w0 (fun v w' => ∃ (r0 : Bool), v = .bool r0 ∧ Same w0 w' ∧ K r0) := by
 refine CallsV.of (l := [.slice p_a0 a0.length c_a0, .slice p_a1 a1.length c_a1]) Try.func11 rfl Try.ntmps11 rfl ?_
 have hO := Owns.start hA
 have hB := Fr.refl (bl []) w0
 unfold law14_MultInherits at H
 replace h_a0 := h_a0.ch (Ch.start A w0)
 replace h_a1 := h_a1.ch (Ch.start A w0)
 refine Go1.seq ?_
 refine Go1.region ?_
 refine GoR.op ((op_assign rfl) _) rfl rfl ?_
 refine GoR.nil ?_
 refine Go1.seq ?_
 refine Go1.seq ?_
 refine Go1.region ?_
 refine GoR.op ((op_move rfl) _) rfl rfl ?_
 refine GoR.call (op_call body30 rfl (walk_law14_small hO.lt h_a0 H)) rfl rfl ?_
 rintro v5 w2 ⟨r1, rfl, hs3, H⟩
 have hst6 := Stp.same hO hs3
 replace hO := hst6.own
 replace h_a0 := h_a0.ch hst6.ch
 replace h_a1 := h_a1.ch hst6.ch
 replace hB := hB.trans hst6.fr
 cases r1
 ·replace H := ifn Bool.false_ne_true H
  refine GoR.op ((op_not rfl) _) rfl rfl ?_
  refine GoR.op ((op_move rfl) _) rfl rfl ?_
  refine GoR.pass rfl rfl ?_
  refine GoR.pass rfl rfl ?_
  refine GoR.pass rfl rfl ?_
  refine GoR.op ((op_pickT rfl rfl rfl) _) rfl rfl ?_
  refine GoR.nil ?_
  refine Go1.condT rfl rfl ?_
  refine Go1.seq ?_
  refine Go1.region ?_
  refine GoR.call (op_call body16 rfl (walk_law14_awake hO.lt H)) rfl rfl ?_
  rintro v11 w8 ⟨r7, rfl, hs9, H⟩
  have hst12 := Stp.same hO hs9
  replace hO := hst12.own
  replace h_a0 := h_a0.ch hst12.ch
  replace h_a1 := h_a1.ch hst12.ch
  replace hB := hB.trans hst12.fr
  refine GoR.op ((op_assign rfl) _) rfl rfl ?_
  refine GoR.nil ?_
  refine Go1.ret1 Try.func11 rfl ?_
  exact ⟨r7, rfl, hB.same, H⟩
 ·replace H := ifp rfl H
  refine GoR.op ((op_not rfl) _) rfl rfl ?_
  refine GoR.op ((op_move rfl) _) rfl rfl ?_
  refine GoR.op ((op_move rfl) _) rfl rfl ?_
  refine GoR.call (op_call body30 rfl (walk_law14_small hO.lt h_a1 H)) rfl rfl ?_
  rintro v17 w14 ⟨r13, rfl, hs15, H⟩
  have hst18 := Stp.same hO hs15
  replace hO := hst18.own
  replace h_a0 := h_a0.ch hst18.ch
  replace h_a1 := h_a1.ch hst18.ch
  replace hB := hB.trans hst18.fr
  cases r13
  ·replace H := ifn Bool.false_ne_true H
   refine GoR.op ((op_not rfl) _) rfl rfl ?_
   refine GoR.op ((op_pickF rfl rfl rfl) _) rfl rfl ?_
   refine GoR.nil ?_
   refine Go1.condT rfl rfl ?_
   refine Go1.seq ?_
   refine Go1.region ?_
   refine GoR.call (op_call body16 rfl (walk_law14_awake hO.lt H)) rfl rfl ?_
   rintro v23 w20 ⟨r19, rfl, hs21, H⟩
   have hst24 := Stp.same hO hs21
   replace hO := hst24.own
   replace h_a0 := h_a0.ch hst24.ch
   replace h_a1 := h_a1.ch hst24.ch
   replace hB := hB.trans hst24.fr
   refine GoR.op ((op_assign rfl) _) rfl rfl ?_
   refine GoR.nil ?_
   refine Go1.ret1 Try.func11 rfl ?_
   exact ⟨r19, rfl, hB.same, H⟩
  ·replace H := ifp rfl H
   refine GoR.op ((op_not rfl) _) rfl rfl ?_
   refine GoR.op ((op_pickF rfl rfl rfl) _) rfl rfl ?_
   refine GoR.nil ?_
   refine Go1.condF rfl rfl ?_
   refine Go1.skip ?_
   refine Go1.seq ?_
   refine Go1.region ?_
   refine GoR.op ((op_move rfl) _) rfl rfl ?_
   refine GoR.call (op_call body45 rfl (walk_mult_Opposite hO.lt h_a0 H)) rfl rfl ?_
   rintro v29 w26 ⟨r25, p_r25, c_r25, rfl, hs27, h_r25, H⟩
   have hst30 := Stp.same hO hs27
   replace hO := hst30.own
   replace h_a0 := h_a0.ch hst30.ch
   replace h_a1 := h_a1.ch hst30.ch
   replace hB := hB.trans hst30.fr
   refine GoR.op ((op_move rfl) _) rfl rfl ?_
   refine GoR.call (op_call body46 rfl (walk_mult_Adjoin hO.lt h_a0 H)) rfl rfl ?_
   rintro v35 w32 ⟨r31, p_r31, c_r31, rfl, hs33, h_r31, H⟩
   have hst36 := Stp.same hO hs33
   replace hO := hst36.own
   replace h_a0 := h_a0.ch hst36.ch
   replace h_a1 := h_a1.ch hst36.ch
   replace h_r25 := h_r25.ch hst36.ch
   replace hB := hB.trans hst36.fr
   refine GoR.op ((op_move rfl) _) rfl rfl ?_
   refine GoR.op ((op_move rfl) _) rfl rfl ?_
   refine GoR.call (op_call body33 rfl (walk_mult_Direct hO.lt h_a0 h_a1 H)) rfl rfl ?_
   rintro v41 w38 ⟨r37, p_r37, c_r37, rfl, hs39, h_r37, H⟩
   have hst42 := Stp.same hO hs39
   replace hO := hst42.own
   replace h_a0 := h_a0.ch hst42.ch
   replace h_a1 := h_a1.ch hst42.ch
   replace h_r25 := h_r25.ch hst42.ch
   replace h_r31 := h_r31.ch hst42.ch
   replace hB := hB.trans hst42.fr
   refine GoR.op ((op_assign rfl) _) rfl rfl ?_
   refine GoR.op ((op_assign rfl) _) rfl rfl ?_
   refine GoR.op ((op_assign rfl) _) rfl rfl ?_
   refine GoR.nil ?_
   refine Go1.seq ?_
   refine Go1.seq ?_
   refine Go1.region ?_
   refine GoR.op ((op_move rfl) _) rfl rfl ?_
   refine GoR.call (op_call body22 rfl (walk_mult_Validate hO.lt h_r25 H)) rfl rfl ?_
   rintro v47 w44 ⟨r43, rfl, hs45, H⟩
   have hst48 := Stp.same hO hs45
   replace hO := hst48.own
   replace h_a0 := h_a0.ch hst48.ch
   replace h_a1 := h_a1.ch hst48.ch
   replace h_r25 := h_r25.ch hst48.ch
   replace h_r31 := h_r31.ch hst48.ch
   replace h_r37 := h_r37.ch hst48.ch
   replace hB := hB.trans hst48.fr
   by_cases h49 : r43 = (0 : Int)
   ·replace H := ifp h49 H
    refine GoR.op ((fun w => opB (op_neq rfl rfl w) (ndT h49)) _) rfl rfl ?_
    refine GoR.op ((op_move rfl) _) rfl rfl ?_
    refine GoR.op ((op_move rfl) _) rfl rfl ?_
    refine GoR.call (op_call body22 rfl (walk_mult_Validate hO.lt h_r31 H)) rfl rfl ?_
    rintro v54 w51 ⟨r50, rfl, hs52, H⟩
    have hst55 := Stp.same hO hs52
    replace hO := hst55.own
    replace h_a0 := h_a0.ch hst55.ch
    replace h_a1 := h_a1.ch hst55.ch
    replace h_r25 := h_r25.ch hst55.ch
    replace h_r31 := h_r31.ch hst55.ch
    replace h_r37 := h_r37.ch hst55.ch
    replace hB := hB.trans hst55.fr
    by_cases h56 : r50 = (0 : Int)
    ·replace H := ifp h56 H
     refine GoR.op ((fun w => opB (op_neq rfl rfl w) (ndT h56)) _) rfl rfl ?_
     refine GoR.op ((op_pickF rfl rfl rfl) _) rfl rfl ?_
     refine GoR.op ((op_move rfl) _) rfl rfl ?_
     refine GoR.op ((op_move rfl) _) rfl rfl ?_
     refine GoR.call (op_call body22 rfl (walk_mult_Validate hO.lt h_r37 H)) rfl rfl ?_
     rintro v61 w58 ⟨r57, rfl, hs59, H⟩
     have hst62 := Stp.same hO hs59
     replace hO := hst62.own
     replace h_a0 := h_a0.ch hst62.ch
     replace h_a1 := h_a1.ch hst62.ch
     replace h_r25 := h_r25.ch hst62.ch
     replace h_r31 := h_r31.ch hst62.ch
     replace h_r37 := h_r37.ch hst62.ch
     replace hB := hB.trans hst62.fr
     by_cases h63 : r57 = (0 : Int)
     ·replace H := ifp h63 H
      refine GoR.op ((fun w => opB (op_neq rfl rfl w) (ndT h63)) _) rfl rfl ?_
      refine GoR.op ((op_pickF rfl rfl rfl) _) rfl rfl ?_
      refine GoR.nil ?_
      refine Go1.condF rfl rfl ?_
      refine Go1.skip ?_
      refine Go1.seq ?_
      refine Go1.region ?_
      refine GoR.op ((op_move rfl) _) rfl rfl ?_
      refine GoR.call (op_call body35 rfl (walk_mult_Identity hO.lt h_a0 H)) rfl rfl ?_
      rintro v68 w65 ⟨r64, rfl, hs66, H⟩
      have hst69 := Stp.same hO hs66
      replace hO := hst69.own
      replace h_a0 := h_a0.ch hst69.ch
      replace h_a1 := h_a1.ch hst69.ch
      replace h_r25 := h_r25.ch hst69.ch
      replace h_r31 := h_r31.ch hst69.ch
      replace h_r37 := h_r37.ch hst69.ch
      replace hB := hB.trans hst69.fr
      refine GoR.op ((op_move rfl) _) rfl rfl ?_
      refine GoR.call (op_call body35 rfl (walk_mult_Identity hO.lt h_a1 H)) rfl rfl ?_
      rintro v74 w71 ⟨r70, rfl, hs72, H⟩
      have hst75 := Stp.same hO hs72
      replace hO := hst75.own
      replace h_a0 := h_a0.ch hst75.ch
      replace h_a1 := h_a1.ch hst75.ch
      replace h_r25 := h_r25.ch hst75.ch
      replace h_r31 := h_r31.ch hst75.ch
      replace h_r37 := h_r37.ch hst75.ch
      replace hB := hB.trans hst75.fr
      refine GoR.op ((op_assign rfl) _) rfl rfl ?_
      refine GoR.op ((op_assign rfl) _) rfl rfl ?_
      refine GoR.nil ?_
      refine Go1.seq ?_
      refine Go1.region ?_
      refine GoR.op ((op_assign rfl) _) rfl rfl ?_
      refine GoR.nil ?_
      refine Go1.seq ?_
      refine Go1.seq ?_
      refine Go1.region ?_
      refine GoR.op ((op_move rfl) _) rfl rfl ?_
      by_cases h76 : (0 : Int) ≤ r64
      ·replace H := ifp h76 H
       refine GoR.op ((fun w => opB (op_geq rfl rfl w) (decide_eq_true h76)) _) rfl rfl ?_
       refine GoR.op ((op_move rfl) _) rfl rfl ?_
       refine GoR.op ((op_move rfl) _) rfl rfl ?_
       by_cases h77 : (0 : Int) ≤ r70
       ·replace H := ifp h77 H
        refine GoR.op ((fun w => opB (op_geq rfl rfl w) (decide_eq_true h77)) _) rfl rfl ?_
        refine GoR.op ((op_pickT rfl rfl rfl) _) rfl rfl ?_
        refine GoR.nil ?_
        refine Go1.condT rfl rfl ?_
        refine Go1.region ?_
        refine GoR.op ((op_move rfl) _) rfl rfl ?_
        refine GoR.op ((op_move rfl) _) rfl rfl ?_
        refine GoR.op ((op_len Try.underlying22 rfl) _) rfl rfl ?_
        replace H := H h_a1.bd
        obtain ⟨h78, H⟩ := H
        refine GoR.op ((op_mul rfl rfl (wrap_i64 h78)) _) rfl rfl ?_
        refine GoR.op ((op_move rfl) _) rfl rfl ?_
        obtain ⟨h79, H⟩ := H
        refine GoR.op ((op_add rfl rfl (wrap_i64 h79)) _) rfl rfl ?_
        refine GoR.op ((op_assign rfl) _) rfl rfl ?_
        refine GoR.nil ?_
        refine Go1.seq ?_
        refine Go1.region ?_
        refine GoR.op ((op_move rfl) _) rfl rfl ?_
        refine GoR.call (op_call body35 rfl (walk_mult_Identity hO.lt h_r25 H)) rfl rfl ?_
        rintro v84 w81 ⟨r80, rfl, hs82, H⟩
        have hst85 := Stp.same hO hs82
        replace hO := hst85.own
        replace h_a0 := h_a0.ch hst85.ch
        replace h_a1 := h_a1.ch hst85.ch
        replace h_r25 := h_r25.ch hst85.ch
        replace h_r31 := h_r31.ch hst85.ch
        replace h_r37 := h_r37.ch hst85.ch
        replace hB := hB.trans hst85.fr
        refine GoR.op ((op_move rfl) _) rfl rfl ?_
        by_cases h86 : r80 = r64
        ·replace H := ifp h86 H
         refine GoR.op ((fun w => opB (op_eql rfl rfl w) (decide_eq_true h86)) _) rfl rfl ?_
         refine GoR.op ((op_move rfl) _) rfl rfl ?_
         refine GoR.op ((op_move rfl) _) rfl rfl ?_
         refine GoR.call (op_call body35 rfl (walk_mult_Identity hO.lt h_r31 H)) rfl rfl ?_
         rintro v91 w88 ⟨r87, rfl, hs89, H⟩
         have hst92 := Stp.same hO hs89
         replace hO := hst92.own
         replace h_a0 := h_a0.ch hst92.ch
         replace h_a1 := h_a1.ch hst92.ch
         replace h_r25 := h_r25.ch hst92.ch
         replace h_r31 := h_r31.ch hst92.ch
         replace h_r37 := h_r37.ch hst92.ch
         replace hB := hB.trans hst92.fr
         refine GoR.op ((op_move rfl) _) rfl rfl ?_
         refine GoR.op ((op_len Try.underlying22 rfl) _) rfl rfl ?_
         replace H := H h_a0.bd
         by_cases h93 : r87 = (a0.length : Int)
         ·replace H := ifp h93 H
          refine GoR.op ((fun w => opB (op_eql rfl rfl w) (decide_eq_true h93)) _) rfl rfl ?_
          refine GoR.op ((op_pickT rfl rfl rfl) _) rfl rfl ?_
          refine GoR.op ((op_move rfl) _) rfl rfl ?_
          refine GoR.op ((op_move rfl) _) rfl rfl ?_
          refine GoR.call (op_call body35 rfl (walk_mult_Identity hO.lt h_r37 H)) rfl rfl ?_
          rintro v98 w95 ⟨r94, rfl, hs96, H⟩
          have hst99 := Stp.same hO hs96
          replace hO := hst99.own
          replace h_a0 := h_a0.ch hst99.ch
          replace h_a1 := h_a1.ch hst99.ch
          replace h_r25 := h_r25.ch hst99.ch
          replace h_r31 := h_r31.ch hst99.ch
          replace h_r37 := h_r37.ch hst99.ch
          replace hB := hB.trans hst99.fr
          refine GoR.op ((op_move rfl) _) rfl rfl ?_
          by_cases h100 : r94 = ((r64 * (a1.length : Int)) + r70)
          ·replace H := ifp h100 H
           refine GoR.op ((fun w => opB (op_eql rfl rfl w) (decide_eq_true h100)) _) rfl rfl ?_
           refine GoR.op ((op_pickT rfl rfl rfl) _) rfl rfl ?_
           refine GoR.op ((op_move rfl) _) rfl rfl ?_
           refine GoR.op ((op_move rfl) _) rfl rfl ?_
           refine GoR.call (op_call body37 rfl (walk_mult_Idempotents hO.lt h_r37 H)) rfl rfl ?_
           rintro v105 w102 ⟨r101, p_r101, c_r101, rfl, hs103, h_r101, H⟩
           have hst106 := Stp.same hO hs103
           replace hO := hst106.own
           replace h_a0 := h_a0.ch hst106.ch
           replace h_a1 := h_a1.ch hst106.ch
           replace h_r25 := h_r25.ch hst106.ch
           replace h_r31 := h_r31.ch hst106.ch
           replace h_r37 := h_r37.ch hst106.ch
           replace hB := hB.trans hst106.fr
           refine GoR.op ((op_len Try.underlying23 rfl) _) rfl rfl ?_
           replace H := H h_r101.bd
           refine GoR.op ((op_move rfl) _) rfl rfl ?_
           refine GoR.call (op_call body37 rfl (walk_mult_Idempotents hO.lt h_a0 H)) rfl rfl ?_
           rintro v111 w108 ⟨r107, p_r107, c_r107, rfl, hs109, h_r107, H⟩
           have hst112 := Stp.same hO hs109
           replace hO := hst112.own
           replace h_a0 := h_a0.ch hst112.ch
           replace h_a1 := h_a1.ch hst112.ch
           replace h_r25 := h_r25.ch hst112.ch
           replace h_r31 := h_r31.ch hst112.ch
           replace h_r37 := h_r37.ch hst112.ch
           replace h_r101 := h_r101.ch hst112.ch
           replace hB := hB.trans hst112.fr
           refine GoR.op ((op_len Try.underlying23 rfl) _) rfl rfl ?_
           replace H := H h_r107.bd
           refine GoR.op ((op_move rfl) _) rfl rfl ?_
           refine GoR.call (op_call body37 rfl (walk_mult_Idempotents hO.lt h_a1 H)) rfl rfl ?_
           rintro v117 w114 ⟨r113, p_r113, c_r113, rfl, hs115, h_r113, H⟩
           have hst118 := Stp.same hO hs115
           replace hO := hst118.own
           replace h_a0 := h_a0.ch hst118.ch
           replace h_a1 := h_a1.ch hst118.ch
           replace h_r25 := h_r25.ch hst118.ch
           replace h_r31 := h_r31.ch hst118.ch
           replace h_r37 := h_r37.ch hst118.ch
           replace h_r101 := h_r101.ch hst118.ch
           replace h_r107 := h_r107.ch hst118.ch
           replace hB := hB.trans hst118.fr
           refine GoR.op ((op_len Try.underlying23 rfl) _) rfl rfl ?_
           replace H := H h_r113.bd
           obtain ⟨h119, H⟩ := H
           refine GoR.op ((op_mul rfl rfl (wrap_i64 h119)) _) rfl rfl ?_
           by_cases h120 : (r101.length : Int) = ((r107.length : Int) * (r113.length : Int))
           ·replace H := ifp h120 H
            refine GoR.op ((fun w => opB (op_eql rfl rfl w) (decide_eq_true h120)) _) rfl rfl ?_
            refine GoR.op ((op_pickT rfl rfl rfl) _) rfl rfl ?_
            refine GoR.op ((op_move rfl) _) rfl rfl ?_
            refine GoR.op ((op_move rfl) _) rfl rfl ?_
            refine GoR.call (op_call body45 rfl (walk_mult_Opposite hO.lt h_r25 H)) rfl rfl ?_
            rintro v125 w122 ⟨r121, p_r121, c_r121, rfl, hs123, h_r121, H⟩
            have hst126 := Stp.same hO hs123
            replace hO := hst126.own
            replace h_a0 := h_a0.ch hst126.ch
            replace h_a1 := h_a1.ch hst126.ch
            replace h_r25 := h_r25.ch hst126.ch
            replace h_r31 := h_r31.ch hst126.ch
            replace h_r37 := h_r37.ch hst126.ch
            replace h_r101 := h_r101.ch hst126.ch
            replace h_r107 := h_r107.ch hst126.ch
            replace h_r113 := h_r113.ch hst126.ch
            replace hB := hB.trans hst126.fr
            refine GoR.op ((op_move rfl) _) rfl rfl ?_
            refine GoR.call (op_call body47 rfl (walk_ref03_SameRows hO.lt h_r121 h_a0 H)) rfl rfl ?_
            rintro v131 w128 ⟨r127, rfl, hs129, H⟩
            have hst132 := Stp.same hO hs129
            replace hO := hst132.own
            replace h_a0 := h_a0.ch hst132.ch
            replace h_a1 := h_a1.ch hst132.ch
            replace h_r25 := h_r25.ch hst132.ch
            replace h_r31 := h_r31.ch hst132.ch
            replace h_r37 := h_r37.ch hst132.ch
            replace h_r101 := h_r101.ch hst132.ch
            replace h_r107 := h_r107.ch hst132.ch
            replace h_r113 := h_r113.ch hst132.ch
            replace h_r121 := h_r121.ch hst132.ch
            replace hB := hB.trans hst132.fr
            refine GoR.op ((op_pickT rfl rfl rfl) _) rfl rfl ?_
            refine GoR.op ((op_move rfl) _) rfl rfl ?_
            cases r127
            ·replace H := ifn Bool.false_ne_true H
             refine GoR.pass rfl rfl ?_
             refine GoR.op ((op_pickF rfl rfl rfl) _) rfl rfl ?_
             refine GoR.op ((op_assign rfl) _) rfl rfl ?_
             refine GoR.nil ?_
             refine Go1.ret1 Try.func11 rfl ?_
             exact ⟨false, rfl, hB.same, H⟩
            ·replace H := ifp rfl H
             refine GoR.call (op_call body16 rfl (walk_law14_awake hO.lt H)) rfl rfl ?_
             rintro v137 w134 ⟨r133, rfl, hs135, H⟩
             have hst138 := Stp.same hO hs135
             replace hO := hst138.own
             replace h_a0 := h_a0.ch hst138.ch
             replace h_a1 := h_a1.ch hst138.ch
             replace h_r25 := h_r25.ch hst138.ch
             replace h_r31 := h_r31.ch hst138.ch
             replace h_r37 := h_r37.ch hst138.ch
             replace h_r101 := h_r101.ch hst138.ch
             replace h_r107 := h_r107.ch hst138.ch
             replace h_r113 := h_r113.ch hst138.ch
             replace h_r121 := h_r121.ch hst138.ch
             replace hB := hB.trans hst138.fr
             refine GoR.op ((op_pickT rfl rfl rfl) _) rfl rfl ?_
             refine GoR.op ((op_assign rfl) _) rfl rfl ?_
             refine GoR.nil ?_
             refine Go1.ret1 Try.func11 rfl ?_
             exact ⟨r133, rfl, hB.same, H⟩
           ·replace H := ifn h120 H
            refine GoR.op ((fun w => opB (op_eql rfl rfl w) (decide_eq_false h120)) _) rfl rfl ?_
            refine GoR.op ((op_pickT rfl rfl rfl) _) rfl rfl ?_
            refine GoR.op ((op_move rfl) _) rfl rfl ?_
            refine GoR.pass rfl rfl ?_
            refine GoR.pass rfl rfl ?_
            refine GoR.pass rfl rfl ?_
            refine GoR.pass rfl rfl ?_
            refine GoR.op ((op_pickF rfl rfl rfl) _) rfl rfl ?_
            refine GoR.op ((op_move rfl) _) rfl rfl ?_
            refine GoR.pass rfl rfl ?_
            refine GoR.op ((op_pickF rfl rfl rfl) _) rfl rfl ?_
            refine GoR.op ((op_assign rfl) _) rfl rfl ?_
            refine GoR.nil ?_
            refine Go1.ret1 Try.func11 rfl ?_
            exact ⟨false, rfl, hB.same, H⟩
          ·replace H := ifn h100 H
           refine GoR.op ((fun w => opB (op_eql rfl rfl w) (decide_eq_false h100)) _) rfl rfl ?_
           refine GoR.op ((op_pickT rfl rfl rfl) _) rfl rfl ?_
           refine GoR.op ((op_move rfl) _) rfl rfl ?_
           refine GoR.pass rfl rfl ?_
           refine GoR.pass rfl rfl ?_
           refine GoR.pass rfl rfl ?_
           refine GoR.pass rfl rfl ?_
           refine GoR.pass rfl rfl ?_
           refine GoR.pass rfl rfl ?_
           refine GoR.pass rfl rfl ?_
           refine GoR.pass rfl rfl ?_
           refine GoR.pass rfl rfl ?_
           refine GoR.pass rfl rfl ?_
           refine GoR.pass rfl rfl ?_
           refine GoR.op ((op_pickF rfl rfl rfl) _) rfl rfl ?_
           refine GoR.op ((op_move rfl) _) rfl rfl ?_
           refine GoR.pass rfl rfl ?_
           refine GoR.pass rfl rfl ?_
           refine GoR.pass rfl rfl ?_
           refine GoR.pass rfl rfl ?_
           refine GoR.op ((op_pickF rfl rfl rfl) _) rfl rfl ?_
           refine GoR.op ((op_move rfl) _) rfl rfl ?_
           refine GoR.pass rfl rfl ?_
           refine GoR.op ((op_pickF rfl rfl rfl) _) rfl rfl ?_
           refine GoR.op ((op_assign rfl) _) rfl rfl ?_
           refine GoR.nil ?_
           refine Go1.ret1 Try.func11 rfl ?_
           exact ⟨false, rfl, hB.same, H⟩
         ·replace H := ifn h93 H
          refine GoR.op ((fun w => opB (op_eql rfl rfl w) (decide_eq_false h93)) _) rfl rfl ?_
          refine GoR.op ((op_pickT rfl rfl rfl) _) rfl rfl ?_
          refine GoR.op ((op_move rfl) _) rfl rfl ?_
          refine GoR.pass rfl rfl ?_
          refine GoR.pass rfl rfl ?_
          refine GoR.pass rfl rfl ?_
          refine GoR.pass rfl rfl ?_
          refine GoR.op ((op_pickF rfl rfl rfl) _) rfl rfl ?_
          refine GoR.op ((op_move rfl) _) rfl rfl ?_
          refine GoR.pass rfl rfl ?_
          refine GoR.pass rfl rfl ?_
          refine GoR.pass rfl rfl ?_
          refine GoR.pass rfl rfl ?_
          refine GoR.pass rfl rfl ?_
          refine GoR.pass rfl rfl ?_
          refine GoR.pass rfl rfl ?_
          refine GoR.pass rfl rfl ?_
          refine GoR.pass rfl rfl ?_
          refine GoR.pass rfl rfl ?_
          refine GoR.pass rfl rfl ?_
          refine GoR.op ((op_pickF rfl rfl rfl) _) rfl rfl ?_
          refine GoR.op ((op_move rfl) _) rfl rfl ?_
          refine GoR.pass rfl rfl ?_
          refine GoR.pass rfl rfl ?_
          refine GoR.pass rfl rfl ?_
          refine GoR.pass rfl rfl ?_
          refine GoR.op ((op_pickF rfl rfl rfl) _) rfl rfl ?_
          refine GoR.op ((op_move rfl) _) rfl rfl ?_
          refine GoR.pass rfl rfl ?_
          refine GoR.op ((op_pickF rfl rfl rfl) _) rfl rfl ?_
          refine GoR.op ((op_assign rfl) _) rfl rfl ?_
          refine GoR.nil ?_
          refine Go1.ret1 Try.func11 rfl ?_
          exact ⟨false, rfl, hB.same, H⟩
        ·replace H := ifn h86 H
         refine GoR.op ((fun w => opB (op_eql rfl rfl w) (decide_eq_false h86)) _) rfl rfl ?_
         refine GoR.op ((op_move rfl) _) rfl rfl ?_
         refine GoR.pass rfl rfl ?_
         refine GoR.pass rfl rfl ?_
         refine GoR.pass rfl rfl ?_
         refine GoR.pass rfl rfl ?_
         refine GoR.pass rfl rfl ?_
         refine GoR.op ((op_pickF rfl rfl rfl) _) rfl rfl ?_
         refine GoR.op ((op_move rfl) _) rfl rfl ?_
         refine GoR.pass rfl rfl ?_
         refine GoR.pass rfl rfl ?_
         refine GoR.pass rfl rfl ?_
         refine GoR.pass rfl rfl ?_
         refine GoR.op ((op_pickF rfl rfl rfl) _) rfl rfl ?_
         refine GoR.op ((op_move rfl) _) rfl rfl ?_
         refine GoR.pass rfl rfl ?_
         refine GoR.pass rfl rfl ?_
         refine GoR.pass rfl rfl ?_
         refine GoR.pass rfl rfl ?_
         refine GoR.pass rfl rfl ?_
         refine GoR.pass rfl rfl ?_
         refine GoR.pass rfl rfl ?_
         refine GoR.pass rfl rfl ?_
         refine GoR.pass rfl rfl ?_
         refine GoR.pass rfl rfl ?_
         refine GoR.pass rfl rfl ?_
         refine GoR.op ((op_pickF rfl rfl rfl) _) rfl rfl ?_
         refine GoR.op ((op_move rfl) _) rfl rfl ?_
         refine GoR.pass rfl rfl ?_
         refine GoR.pass rfl rfl ?_
         refine GoR.pass rfl rfl ?_
         refine GoR.pass rfl rfl ?_
         refine GoR.op ((op_pickF rfl rfl rfl) _) rfl rfl ?_
         refine GoR.op ((op_move rfl) _) rfl rfl ?_
         refine GoR.pass rfl rfl ?_
         refine GoR.op ((op_pickF rfl rfl rfl) _) rfl rfl ?_
         refine GoR.op ((op_assign rfl) _) rfl rfl ?_
         refine GoR.nil ?_
         refine Go1.ret1 Try.func11 rfl ?_
         exact ⟨false, rfl, hB.same, H⟩
       ·replace H := ifn h77 H
        refine GoR.op ((fun w => opB (op_geq rfl rfl w) (decide_eq_false h77)) _) rfl rfl ?_
        refine GoR.op ((op_pickT rfl rfl rfl) _) rfl rfl ?_
        refine GoR.nil ?_
        refine Go1.condF rfl rfl ?_
        refine Go1.skip ?_
        refine Go1.seq ?_
        refine Go1.region ?_
        refine GoR.op ((op_move rfl) _) rfl rfl ?_
        refine GoR.call (op_call body35 rfl (walk_mult_Identity hO.lt h_r25 H)) rfl rfl ?_
        rintro v143 w140 ⟨r139, rfl, hs141, H⟩
        have hst144 := Stp.same hO hs141
        replace hO := hst144.own
        replace h_a0 := h_a0.ch hst144.ch
        replace h_a1 := h_a1.ch hst144.ch
        replace h_r25 := h_r25.ch hst144.ch
        replace h_r31 := h_r31.ch hst144.ch
        replace h_r37 := h_r37.ch hst144.ch
        replace hB := hB.trans hst144.fr
        refine GoR.op ((op_move rfl) _) rfl rfl ?_
        by_cases h145 : r139 = r64
        ·replace H := ifp h145 H
         refine GoR.op ((fun w => opB (op_eql rfl rfl w) (decide_eq_true h145)) _) rfl rfl ?_
         refine GoR.op ((op_move rfl) _) rfl rfl ?_
         refine GoR.op ((op_move rfl) _) rfl rfl ?_
         refine GoR.call (op_call body35 rfl (walk_mult_Identity hO.lt h_r31 H)) rfl rfl ?_
         rintro v150 w147 ⟨r146, rfl, hs148, H⟩
         have hst151 := Stp.same hO hs148
         replace hO := hst151.own
         replace h_a0 := h_a0.ch hst151.ch
         replace h_a1 := h_a1.ch hst151.ch
         replace h_r25 := h_r25.ch hst151.ch
         replace h_r31 := h_r31.ch hst151.ch
         replace h_r37 := h_r37.ch hst151.ch
         replace hB := hB.trans hst151.fr
         refine GoR.op ((op_move rfl) _) rfl rfl ?_
         refine GoR.op ((op_len Try.underlying22 rfl) _) rfl rfl ?_
         replace H := H h_a0.bd
         by_cases h152 : r146 = (a0.length : Int)
         ·replace H := ifp h152 H
          refine GoR.op ((fun w => opB (op_eql rfl rfl w) (decide_eq_true h152)) _) rfl rfl ?_
          refine GoR.op ((op_pickT rfl rfl rfl) _) rfl rfl ?_
          refine GoR.op ((op_move rfl) _) rfl rfl ?_
          refine GoR.op ((op_move rfl) _) rfl rfl ?_
          refine GoR.call (op_call body35 rfl (walk_mult_Identity hO.lt h_r37 H)) rfl rfl ?_
          rintro v157 w154 ⟨r153, rfl, hs155, H⟩
          have hst158 := Stp.same hO hs155
          replace hO := hst158.own
          replace h_a0 := h_a0.ch hst158.ch
          replace h_a1 := h_a1.ch hst158.ch
          replace h_r25 := h_r25.ch hst158.ch
          replace h_r31 := h_r31.ch hst158.ch
          replace h_r37 := h_r37.ch hst158.ch
          replace hB := hB.trans hst158.fr
          refine GoR.op ((op_move rfl) _) rfl rfl ?_
          by_cases h159 : r153 = (-1 : Int)
          ·replace H := ifp h159 H
           refine GoR.op ((fun w => opB (op_eql rfl rfl w) (decide_eq_true h159)) _) rfl rfl ?_
           refine GoR.op ((op_pickT rfl rfl rfl) _) rfl rfl ?_
           refine GoR.op ((op_move rfl) _) rfl rfl ?_
           refine GoR.op ((op_move rfl) _) rfl rfl ?_
           refine GoR.call (op_call body37 rfl (walk_mult_Idempotents hO.lt h_r37 H)) rfl rfl ?_
           rintro v164 w161 ⟨r160, p_r160, c_r160, rfl, hs162, h_r160, H⟩
           have hst165 := Stp.same hO hs162
           replace hO := hst165.own
           replace h_a0 := h_a0.ch hst165.ch
           replace h_a1 := h_a1.ch hst165.ch
           replace h_r25 := h_r25.ch hst165.ch
           replace h_r31 := h_r31.ch hst165.ch
           replace h_r37 := h_r37.ch hst165.ch
           replace hB := hB.trans hst165.fr
           refine GoR.op ((op_len Try.underlying23 rfl) _) rfl rfl ?_
           replace H := H h_r160.bd
           refine GoR.op ((op_move rfl) _) rfl rfl ?_
           refine GoR.call (op_call body37 rfl (walk_mult_Idempotents hO.lt h_a0 H)) rfl rfl ?_
           rintro v170 w167 ⟨r166, p_r166, c_r166, rfl, hs168, h_r166, H⟩
           have hst171 := Stp.same hO hs168
           replace hO := hst171.own
           replace h_a0 := h_a0.ch hst171.ch
           replace h_a1 := h_a1.ch hst171.ch
           replace h_r25 := h_r25.ch hst171.ch
           replace h_r31 := h_r31.ch hst171.ch
           replace h_r37 := h_r37.ch hst171.ch
           replace h_r160 := h_r160.ch hst171.ch
           replace hB := hB.trans hst171.fr
           refine GoR.op ((op_len Try.underlying23 rfl) _) rfl rfl ?_
           replace H := H h_r166.bd
           refine GoR.op ((op_move rfl) _) rfl rfl ?_
           refine GoR.call (op_call body37 rfl (walk_mult_Idempotents hO.lt h_a1 H)) rfl rfl ?_
           rintro v176 w173 ⟨r172, p_r172, c_r172, rfl, hs174, h_r172, H⟩
           have hst177 := Stp.same hO hs174
           replace hO := hst177.own
           replace h_a0 := h_a0.ch hst177.ch
           replace h_a1 := h_a1.ch hst177.ch
           replace h_r25 := h_r25.ch hst177.ch
           replace h_r31 := h_r31.ch hst177.ch
           replace h_r37 := h_r37.ch hst177.ch
           replace h_r160 := h_r160.ch hst177.ch
           replace h_r166 := h_r166.ch hst177.ch
           replace hB := hB.trans hst177.fr
           refine GoR.op ((op_len Try.underlying23 rfl) _) rfl rfl ?_
           replace H := H h_r172.bd
           obtain ⟨h178, H⟩ := H
           refine GoR.op ((op_mul rfl rfl (wrap_i64 h178)) _) rfl rfl ?_
           by_cases h179 : (r160.length : Int) = ((r166.length : Int) * (r172.length : Int))
           ·replace H := ifp h179 H
            refine GoR.op ((fun w => opB (op_eql rfl rfl w) (decide_eq_true h179)) _) rfl rfl ?_
            refine GoR.op ((op_pickT rfl rfl rfl) _) rfl rfl ?_
            refine GoR.op ((op_move rfl) _) rfl rfl ?_
            refine GoR.op ((op_move rfl) _) rfl rfl ?_
            refine GoR.call (op_call body45 rfl (walk_mult_Opposite hO.lt h_r25 H)) rfl rfl ?_
            rintro v184 w181 ⟨r180, p_r180, c_r180, rfl, hs182, h_r180, H⟩
            have hst185 := Stp.same hO hs182
            replace hO := hst185.own
            replace h_a0 := h_a0.ch hst185.ch
            replace h_a1 := h_a1.ch hst185.ch
            replace h_r25 := h_r25.ch hst185.ch
            replace h_r31 := h_r31.ch hst185.ch
            replace h_r37 := h_r37.ch hst185.ch
            replace h_r160 := h_r160.ch hst185.ch
            replace h_r166 := h_r166.ch hst185.ch
            replace h_r172 := h_r172.ch hst185.ch
            replace hB := hB.trans hst185.fr
            refine GoR.op ((op_move rfl) _) rfl rfl ?_
            refine GoR.call (op_call body47 rfl (walk_ref03_SameRows hO.lt h_r180 h_a0 H)) rfl rfl ?_
            rintro v190 w187 ⟨r186, rfl, hs188, H⟩
            have hst191 := Stp.same hO hs188
            replace hO := hst191.own
            replace h_a0 := h_a0.ch hst191.ch
            replace h_a1 := h_a1.ch hst191.ch
            replace h_r25 := h_r25.ch hst191.ch
            replace h_r31 := h_r31.ch hst191.ch
            replace h_r37 := h_r37.ch hst191.ch
            replace h_r160 := h_r160.ch hst191.ch
            replace h_r166 := h_r166.ch hst191.ch
            replace h_r172 := h_r172.ch hst191.ch
            replace h_r180 := h_r180.ch hst191.ch
            replace hB := hB.trans hst191.fr
            refine GoR.op ((op_pickT rfl rfl rfl) _) rfl rfl ?_
            refine GoR.op ((op_move rfl) _) rfl rfl ?_
            cases r186
            ·replace H := ifn Bool.false_ne_true H
             refine GoR.pass rfl rfl ?_
             refine GoR.op ((op_pickF rfl rfl rfl) _) rfl rfl ?_
             refine GoR.op ((op_assign rfl) _) rfl rfl ?_
             refine GoR.nil ?_
             refine Go1.ret1 Try.func11 rfl ?_
             exact ⟨false, rfl, hB.same, H⟩
            ·replace H := ifp rfl H
             refine GoR.call (op_call body16 rfl (walk_law14_awake hO.lt H)) rfl rfl ?_
             rintro v196 w193 ⟨r192, rfl, hs194, H⟩
             have hst197 := Stp.same hO hs194
             replace hO := hst197.own
             replace h_a0 := h_a0.ch hst197.ch
             replace h_a1 := h_a1.ch hst197.ch
             replace h_r25 := h_r25.ch hst197.ch
             replace h_r31 := h_r31.ch hst197.ch
             replace h_r37 := h_r37.ch hst197.ch
             replace h_r160 := h_r160.ch hst197.ch
             replace h_r166 := h_r166.ch hst197.ch
             replace h_r172 := h_r172.ch hst197.ch
             replace h_r180 := h_r180.ch hst197.ch
             replace hB := hB.trans hst197.fr
             refine GoR.op ((op_pickT rfl rfl rfl) _) rfl rfl ?_
             refine GoR.op ((op_assign rfl) _) rfl rfl ?_
             refine GoR.nil ?_
             refine Go1.ret1 Try.func11 rfl ?_
             exact ⟨r192, rfl, hB.same, H⟩
           ·replace H := ifn h179 H
            refine GoR.op ((fun w => opB (op_eql rfl rfl w) (decide_eq_false h179)) _) rfl rfl ?_
            refine GoR.op ((op_pickT rfl rfl rfl) _) rfl rfl ?_
            refine GoR.op ((op_move rfl) _) rfl rfl ?_
            refine GoR.pass rfl rfl ?_
            refine GoR.pass rfl rfl ?_
            refine GoR.pass rfl rfl ?_
            refine GoR.pass rfl rfl ?_
            refine GoR.op ((op_pickF rfl rfl rfl) _) rfl rfl ?_
            refine GoR.op ((op_move rfl) _) rfl rfl ?_
            refine GoR.pass rfl rfl ?_
            refine GoR.op ((op_pickF rfl rfl rfl) _) rfl rfl ?_
            refine GoR.op ((op_assign rfl) _) rfl rfl ?_
            refine GoR.nil ?_
            refine Go1.ret1 Try.func11 rfl ?_
            exact ⟨false, rfl, hB.same, H⟩
          ·replace H := ifn h159 H
           refine GoR.op ((fun w => opB (op_eql rfl rfl w) (decide_eq_false h159)) _) rfl rfl ?_
           refine GoR.op ((op_pickT rfl rfl rfl) _) rfl rfl ?_
           refine GoR.op ((op_move rfl) _) rfl rfl ?_
           refine GoR.pass rfl rfl ?_
           refine GoR.pass rfl rfl ?_
           refine GoR.pass rfl rfl ?_
           refine GoR.pass rfl rfl ?_
           refine GoR.pass rfl rfl ?_
           refine GoR.pass rfl rfl ?_
           refine GoR.pass rfl rfl ?_
           refine GoR.pass rfl rfl ?_
           refine GoR.pass rfl rfl ?_
           refine GoR.pass rfl rfl ?_
           refine GoR.pass rfl rfl ?_
           refine GoR.op ((op_pickF rfl rfl rfl) _) rfl rfl ?_
           refine GoR.op ((op_move rfl) _) rfl rfl ?_
           refine GoR.pass rfl rfl ?_
           refine GoR.pass rfl rfl ?_
           refine GoR.pass rfl rfl ?_
           refine GoR.pass rfl rfl ?_
           refine GoR.op ((op_pickF rfl rfl rfl) _) rfl rfl ?_
           refine GoR.op ((op_move rfl) _) rfl rfl ?_
           refine GoR.pass rfl rfl ?_
           refine GoR.op ((op_pickF rfl rfl rfl) _) rfl rfl ?_
           refine GoR.op ((op_assign rfl) _) rfl rfl ?_
           refine GoR.nil ?_
           refine Go1.ret1 Try.func11 rfl ?_
           exact ⟨false, rfl, hB.same, H⟩
         ·replace H := ifn h152 H
          refine GoR.op ((fun w => opB (op_eql rfl rfl w) (decide_eq_false h152)) _) rfl rfl ?_
          refine GoR.op ((op_pickT rfl rfl rfl) _) rfl rfl ?_
          refine GoR.op ((op_move rfl) _) rfl rfl ?_
          refine GoR.pass rfl rfl ?_
          refine GoR.pass rfl rfl ?_
          refine GoR.pass rfl rfl ?_
          refine GoR.pass rfl rfl ?_
          refine GoR.op ((op_pickF rfl rfl rfl) _) rfl rfl ?_
          refine GoR.op ((op_move rfl) _) rfl rfl ?_
          refine GoR.pass rfl rfl ?_
          refine GoR.pass rfl rfl ?_
          refine GoR.pass rfl rfl ?_
          refine GoR.pass rfl rfl ?_
          refine GoR.pass rfl rfl ?_
          refine GoR.pass rfl rfl ?_
          refine GoR.pass rfl rfl ?_
          refine GoR.pass rfl rfl ?_
          refine GoR.pass rfl rfl ?_
          refine GoR.pass rfl rfl ?_
          refine GoR.pass rfl rfl ?_
          refine GoR.op ((op_pickF rfl rfl rfl) _) rfl rfl ?_
          refine GoR.op ((op_move rfl) _) rfl rfl ?_
          refine GoR.pass rfl rfl ?_
          refine GoR.pass rfl rfl ?_
          refine GoR.pass rfl rfl ?_
          refine GoR.pass rfl rfl ?_
          refine GoR.op ((op_pickF rfl rfl rfl) _) rfl rfl ?_
          refine GoR.op ((op_move rfl) _) rfl rfl ?_
          refine GoR.pass rfl rfl ?_
          refine GoR.op ((op_pickF rfl rfl rfl) _) rfl rfl ?_
          refine GoR.op ((op_assign rfl) _) rfl rfl ?_
          refine GoR.nil ?_
          refine Go1.ret1 Try.func11 rfl ?_
          exact ⟨false, rfl, hB.same, H⟩
        ·replace H := ifn h145 H
         refine GoR.op ((fun w => opB (op_eql rfl rfl w) (decide_eq_false h145)) _) rfl rfl ?_
         refine GoR.op ((op_move rfl) _) rfl rfl ?_
         refine GoR.pass rfl rfl ?_
         refine GoR.pass rfl rfl ?_
         refine GoR.pass rfl rfl ?_
         refine GoR.pass rfl rfl ?_
         refine GoR.pass rfl rfl ?_
         refine GoR.op ((op_pickF rfl rfl rfl) _) rfl rfl ?_
         refine GoR.op ((op_move rfl) _) rfl rfl ?_
         refine GoR.pass rfl rfl ?_
         refine GoR.pass rfl rfl ?_
         refine GoR.pass rfl rfl ?_
         refine GoR.pass rfl rfl ?_
         refine GoR.op ((op_pickF rfl rfl rfl) _) rfl rfl ?_
         refine GoR.op ((op_move rfl) _) rfl rfl ?_
         refine GoR.pass rfl rfl ?_
         refine GoR.pass rfl rfl ?_
         refine GoR.pass rfl rfl ?_
         refine GoR.pass rfl rfl ?_
         refine GoR.pass rfl rfl ?_
         refine GoR.pass rfl rfl ?_
         refine GoR.pass rfl rfl ?_
         refine GoR.pass rfl rfl ?_
         refine GoR.pass rfl rfl ?_
         refine GoR.pass rfl rfl ?_
         refine GoR.pass rfl rfl ?_
         refine GoR.op ((op_pickF rfl rfl rfl) _) rfl rfl ?_
         refine GoR.op ((op_move rfl) _) rfl rfl ?_
         refine GoR.pass rfl rfl ?_
         refine GoR.pass rfl rfl ?_
         refine GoR.pass rfl rfl ?_
         refine GoR.pass rfl rfl ?_
         refine GoR.op ((op_pickF rfl rfl rfl) _) rfl rfl ?_
         refine GoR.op ((op_move rfl) _) rfl rfl ?_
         refine GoR.pass rfl rfl ?_
         refine GoR.op ((op_pickF rfl rfl rfl) _) rfl rfl ?_
         refine GoR.op ((op_assign rfl) _) rfl rfl ?_
         refine GoR.nil ?_
         refine Go1.ret1 Try.func11 rfl ?_
         exact ⟨false, rfl, hB.same, H⟩
      ·replace H := ifn h76 H
       refine GoR.op ((fun w => opB (op_geq rfl rfl w) (decide_eq_false h76)) _) rfl rfl ?_
       refine GoR.op ((op_move rfl) _) rfl rfl ?_
       refine GoR.pass rfl rfl ?_
       refine GoR.pass rfl rfl ?_
       refine GoR.op ((op_pickF rfl rfl rfl) _) rfl rfl ?_
       refine GoR.nil ?_
       refine Go1.condF rfl rfl ?_
       refine Go1.skip ?_
       refine Go1.seq ?_
       refine Go1.region ?_
       refine GoR.op ((op_move rfl) _) rfl rfl ?_
       refine GoR.call (op_call body35 rfl (walk_mult_Identity hO.lt h_r25 H)) rfl rfl ?_
       rintro v202 w199 ⟨r198, rfl, hs200, H⟩
       have hst203 := Stp.same hO hs200
       replace hO := hst203.own
       replace h_a0 := h_a0.ch hst203.ch
       replace h_a1 := h_a1.ch hst203.ch
       replace h_r25 := h_r25.ch hst203.ch
       replace h_r31 := h_r31.ch hst203.ch
       replace h_r37 := h_r37.ch hst203.ch
       replace hB := hB.trans hst203.fr
       refine GoR.op ((op_move rfl) _) rfl rfl ?_
       by_cases h204 : r198 = r64
       ·replace H := ifp h204 H
        refine GoR.op ((fun w => opB (op_eql rfl rfl w) (decide_eq_true h204)) _) rfl rfl ?_
        refine GoR.op ((op_move rfl) _) rfl rfl ?_
        refine GoR.op ((op_move rfl) _) rfl rfl ?_
        refine GoR.call (op_call body35 rfl (walk_mult_Identity hO.lt h_r31 H)) rfl rfl ?_
        rintro v209 w206 ⟨r205, rfl, hs207, H⟩
        have hst210 := Stp.same hO hs207
        replace hO := hst210.own
        replace h_a0 := h_a0.ch hst210.ch
        replace h_a1 := h_a1.ch hst210.ch
        replace h_r25 := h_r25.ch hst210.ch
        replace h_r31 := h_r31.ch hst210.ch
        replace h_r37 := h_r37.ch hst210.ch
        replace hB := hB.trans hst210.fr
        refine GoR.op ((op_move rfl) _) rfl rfl ?_
        refine GoR.op ((op_len Try.underlying22 rfl) _) rfl rfl ?_
        replace H := H h_a0.bd
        by_cases h211 : r205 = (a0.length : Int)
        ·replace H := ifp h211 H
         refine GoR.op ((fun w => opB (op_eql rfl rfl w) (decide_eq_true h211)) _) rfl rfl ?_
         refine GoR.op ((op_pickT rfl rfl rfl) _) rfl rfl ?_
         refine GoR.op ((op_move rfl) _) rfl rfl ?_
         refine GoR.op ((op_move rfl) _) rfl rfl ?_
         refine GoR.call (op_call body35 rfl (walk_mult_Identity hO.lt h_r37 H)) rfl rfl ?_
         rintro v216 w213 ⟨r212, rfl, hs214, H⟩
         have hst217 := Stp.same hO hs214
         replace hO := hst217.own
         replace h_a0 := h_a0.ch hst217.ch
         replace h_a1 := h_a1.ch hst217.ch
         replace h_r25 := h_r25.ch hst217.ch
         replace h_r31 := h_r31.ch hst217.ch
         replace h_r37 := h_r37.ch hst217.ch
         replace hB := hB.trans hst217.fr
         refine GoR.op ((op_move rfl) _) rfl rfl ?_
         by_cases h218 : r212 = (-1 : Int)
         ·replace H := ifp h218 H
          refine GoR.op ((fun w => opB (op_eql rfl rfl w) (decide_eq_true h218)) _) rfl rfl ?_
          refine GoR.op ((op_pickT rfl rfl rfl) _) rfl rfl ?_
          refine GoR.op ((op_move rfl) _) rfl rfl ?_
          refine GoR.op ((op_move rfl) _) rfl rfl ?_
          refine GoR.call (op_call body37 rfl (walk_mult_Idempotents hO.lt h_r37 H)) rfl rfl ?_
          rintro v223 w220 ⟨r219, p_r219, c_r219, rfl, hs221, h_r219, H⟩
          have hst224 := Stp.same hO hs221
          replace hO := hst224.own
          replace h_a0 := h_a0.ch hst224.ch
          replace h_a1 := h_a1.ch hst224.ch
          replace h_r25 := h_r25.ch hst224.ch
          replace h_r31 := h_r31.ch hst224.ch
          replace h_r37 := h_r37.ch hst224.ch
          replace hB := hB.trans hst224.fr
          refine GoR.op ((op_len Try.underlying23 rfl) _) rfl rfl ?_
          replace H := H h_r219.bd
          refine GoR.op ((op_move rfl) _) rfl rfl ?_
          refine GoR.call (op_call body37 rfl (walk_mult_Idempotents hO.lt h_a0 H)) rfl rfl ?_
          rintro v229 w226 ⟨r225, p_r225, c_r225, rfl, hs227, h_r225, H⟩
          have hst230 := Stp.same hO hs227
          replace hO := hst230.own
          replace h_a0 := h_a0.ch hst230.ch
          replace h_a1 := h_a1.ch hst230.ch
          replace h_r25 := h_r25.ch hst230.ch
          replace h_r31 := h_r31.ch hst230.ch
          replace h_r37 := h_r37.ch hst230.ch
          replace h_r219 := h_r219.ch hst230.ch
          replace hB := hB.trans hst230.fr
          refine GoR.op ((op_len Try.underlying23 rfl) _) rfl rfl ?_
          replace H := H h_r225.bd
          refine GoR.op ((op_move rfl) _) rfl rfl ?_
          refine GoR.call (op_call body37 rfl (walk_mult_Idempotents hO.lt h_a1 H)) rfl rfl ?_
          rintro v235 w232 ⟨r231, p_r231, c_r231, rfl, hs233, h_r231, H⟩
          have hst236 := Stp.same hO hs233
          replace hO := hst236.own
          replace h_a0 := h_a0.ch hst236.ch
          replace h_a1 := h_a1.ch hst236.ch
          replace h_r25 := h_r25.ch hst236.ch
          replace h_r31 := h_r31.ch hst236.ch
          replace h_r37 := h_r37.ch hst236.ch
          replace h_r219 := h_r219.ch hst236.ch
          replace h_r225 := h_r225.ch hst236.ch
          replace hB := hB.trans hst236.fr
          refine GoR.op ((op_len Try.underlying23 rfl) _) rfl rfl ?_
          replace H := H h_r231.bd
          obtain ⟨h237, H⟩ := H
          refine GoR.op ((op_mul rfl rfl (wrap_i64 h237)) _) rfl rfl ?_
          by_cases h238 : (r219.length : Int) = ((r225.length : Int) * (r231.length : Int))
          ·replace H := ifp h238 H
           refine GoR.op ((fun w => opB (op_eql rfl rfl w) (decide_eq_true h238)) _) rfl rfl ?_
           refine GoR.op ((op_pickT rfl rfl rfl) _) rfl rfl ?_
           refine GoR.op ((op_move rfl) _) rfl rfl ?_
           refine GoR.op ((op_move rfl) _) rfl rfl ?_
           refine GoR.call (op_call body45 rfl (walk_mult_Opposite hO.lt h_r25 H)) rfl rfl ?_
           rintro v243 w240 ⟨r239, p_r239, c_r239, rfl, hs241, h_r239, H⟩
           have hst244 := Stp.same hO hs241
           replace hO := hst244.own
           replace h_a0 := h_a0.ch hst244.ch
           replace h_a1 := h_a1.ch hst244.ch
           replace h_r25 := h_r25.ch hst244.ch
           replace h_r31 := h_r31.ch hst244.ch
           replace h_r37 := h_r37.ch hst244.ch
           replace h_r219 := h_r219.ch hst244.ch
           replace h_r225 := h_r225.ch hst244.ch
           replace h_r231 := h_r231.ch hst244.ch
           replace hB := hB.trans hst244.fr
           refine GoR.op ((op_move rfl) _) rfl rfl ?_
           refine GoR.call (op_call body47 rfl (walk_ref03_SameRows hO.lt h_r239 h_a0 H)) rfl rfl ?_
           rintro v249 w246 ⟨r245, rfl, hs247, H⟩
           have hst250 := Stp.same hO hs247
           replace hO := hst250.own
           replace h_a0 := h_a0.ch hst250.ch
           replace h_a1 := h_a1.ch hst250.ch
           replace h_r25 := h_r25.ch hst250.ch
           replace h_r31 := h_r31.ch hst250.ch
           replace h_r37 := h_r37.ch hst250.ch
           replace h_r219 := h_r219.ch hst250.ch
           replace h_r225 := h_r225.ch hst250.ch
           replace h_r231 := h_r231.ch hst250.ch
           replace h_r239 := h_r239.ch hst250.ch
           replace hB := hB.trans hst250.fr
           refine GoR.op ((op_pickT rfl rfl rfl) _) rfl rfl ?_
           refine GoR.op ((op_move rfl) _) rfl rfl ?_
           cases r245
           ·replace H := ifn Bool.false_ne_true H
            refine GoR.pass rfl rfl ?_
            refine GoR.op ((op_pickF rfl rfl rfl) _) rfl rfl ?_
            refine GoR.op ((op_assign rfl) _) rfl rfl ?_
            refine GoR.nil ?_
            refine Go1.ret1 Try.func11 rfl ?_
            exact ⟨false, rfl, hB.same, H⟩
           ·replace H := ifp rfl H
            refine GoR.call (op_call body16 rfl (walk_law14_awake hO.lt H)) rfl rfl ?_
            rintro v255 w252 ⟨r251, rfl, hs253, H⟩
            have hst256 := Stp.same hO hs253
            replace hO := hst256.own
            replace h_a0 := h_a0.ch hst256.ch
            replace h_a1 := h_a1.ch hst256.ch
            replace h_r25 := h_r25.ch hst256.ch
            replace h_r31 := h_r31.ch hst256.ch
            replace h_r37 := h_r37.ch hst256.ch
            replace h_r219 := h_r219.ch hst256.ch
            replace h_r225 := h_r225.ch hst256.ch
            replace h_r231 := h_r231.ch hst256.ch
            replace h_r239 := h_r239.ch hst256.ch
            replace hB := hB.trans hst256.fr
            refine GoR.op ((op_pickT rfl rfl rfl) _) rfl rfl ?_
            refine GoR.op ((op_assign rfl) _) rfl rfl ?_
            refine GoR.nil ?_
            refine Go1.ret1 Try.func11 rfl ?_
            exact ⟨r251, rfl, hB.same, H⟩
          ·replace H := ifn h238 H
           refine GoR.op ((fun w => opB (op_eql rfl rfl w) (decide_eq_false h238)) _) rfl rfl ?_
           refine GoR.op ((op_pickT rfl rfl rfl) _) rfl rfl ?_
           refine GoR.op ((op_move rfl) _) rfl rfl ?_
           refine GoR.pass rfl rfl ?_
           refine GoR.pass rfl rfl ?_
           refine GoR.pass rfl rfl ?_
           refine GoR.pass rfl rfl ?_
           refine GoR.op ((op_pickF rfl rfl rfl) _) rfl rfl ?_
           refine GoR.op ((op_move rfl) _) rfl rfl ?_
           refine GoR.pass rfl rfl ?_
           refine GoR.op ((op_pickF rfl rfl rfl) _) rfl rfl ?_
           refine GoR.op ((op_assign rfl) _) rfl rfl ?_
           refine GoR.nil ?_
           refine Go1.ret1 Try.func11 rfl ?_
           exact ⟨false, rfl, hB.same, H⟩
         ·replace H := ifn h218 H
          refine GoR.op ((fun w => opB (op_eql rfl rfl w) (decide_eq_false h218)) _) rfl rfl ?_
          refine GoR.op ((op_pickT rfl rfl rfl) _) rfl rfl ?_
          refine GoR.op ((op_move rfl) _) rfl rfl ?_
          refine GoR.pass rfl rfl ?_
          refine GoR.pass rfl rfl ?_
          refine GoR.pass rfl rfl ?_
          refine GoR.pass rfl rfl ?_
          refine GoR.pass rfl rfl ?_
          refine GoR.pass rfl rfl ?_
          refine GoR.pass rfl rfl ?_
          refine GoR.pass rfl rfl ?_
          refine GoR.pass rfl rfl ?_
          refine GoR.pass rfl rfl ?_
          refine GoR.pass rfl rfl ?_
          refine GoR.op ((op_pickF rfl rfl rfl) _) rfl rfl ?_
          refine GoR.op ((op_move rfl) _) rfl rfl ?_
          refine GoR.pass rfl rfl ?_
          refine GoR.pass rfl rfl ?_
          refine GoR.pass rfl rfl ?_
          refine GoR.pass rfl rfl ?_
          refine GoR.op ((op_pickF rfl rfl rfl) _) rfl rfl ?_
          refine GoR.op ((op_move rfl) _) rfl rfl ?_
          refine GoR.pass rfl rfl ?_
          refine GoR.op ((op_pickF rfl rfl rfl) _) rfl rfl ?_
          refine GoR.op ((op_assign rfl) _) rfl rfl ?_
          refine GoR.nil ?_
          refine Go1.ret1 Try.func11 rfl ?_
          exact ⟨false, rfl, hB.same, H⟩
        ·replace H := ifn h211 H
         refine GoR.op ((fun w => opB (op_eql rfl rfl w) (decide_eq_false h211)) _) rfl rfl ?_
         refine GoR.op ((op_pickT rfl rfl rfl) _) rfl rfl ?_
         refine GoR.op ((op_move rfl) _) rfl rfl ?_
         refine GoR.pass rfl rfl ?_
         refine GoR.pass rfl rfl ?_
         refine GoR.pass rfl rfl ?_
         refine GoR.pass rfl rfl ?_
         refine GoR.op ((op_pickF rfl rfl rfl) _) rfl rfl ?_
         refine GoR.op ((op_move rfl) _) rfl rfl ?_
         refine GoR.pass rfl rfl ?_
         refine GoR.pass rfl rfl ?_
         refine GoR.pass rfl rfl ?_
         refine GoR.pass rfl rfl ?_
         refine GoR.pass rfl rfl ?_
         refine GoR.pass rfl rfl ?_
         refine GoR.pass rfl rfl ?_
         refine GoR.pass rfl rfl ?_
         refine GoR.pass rfl rfl ?_
         refine GoR.pass rfl rfl ?_
         refine GoR.pass rfl rfl ?_
         refine GoR.op ((op_pickF rfl rfl rfl) _) rfl rfl ?_
         refine GoR.op ((op_move rfl) _) rfl rfl ?_
         refine GoR.pass rfl rfl ?_
         refine GoR.pass rfl rfl ?_
         refine GoR.pass rfl rfl ?_
         refine GoR.pass rfl rfl ?_
         refine GoR.op ((op_pickF rfl rfl rfl) _) rfl rfl ?_
         refine GoR.op ((op_move rfl) _) rfl rfl ?_
         refine GoR.pass rfl rfl ?_
         refine GoR.op ((op_pickF rfl rfl rfl) _) rfl rfl ?_
         refine GoR.op ((op_assign rfl) _) rfl rfl ?_
         refine GoR.nil ?_
         refine Go1.ret1 Try.func11 rfl ?_
         exact ⟨false, rfl, hB.same, H⟩
       ·replace H := ifn h204 H
        refine GoR.op ((fun w => opB (op_eql rfl rfl w) (decide_eq_false h204)) _) rfl rfl ?_
        refine GoR.op ((op_move rfl) _) rfl rfl ?_
        refine GoR.pass rfl rfl ?_
        refine GoR.pass rfl rfl ?_
        refine GoR.pass rfl rfl ?_
        refine GoR.pass rfl rfl ?_
        refine GoR.pass rfl rfl ?_
        refine GoR.op ((op_pickF rfl rfl rfl) _) rfl rfl ?_
        refine GoR.op ((op_move rfl) _) rfl rfl ?_
        refine GoR.pass rfl rfl ?_
        refine GoR.pass rfl rfl ?_
        refine GoR.pass rfl rfl ?_
        refine GoR.pass rfl rfl ?_
        refine GoR.op ((op_pickF rfl rfl rfl) _) rfl rfl ?_
        refine GoR.op ((op_move rfl) _) rfl rfl ?_
        refine GoR.pass rfl rfl ?_
        refine GoR.pass rfl rfl ?_
        refine GoR.pass rfl rfl ?_
        refine GoR.pass rfl rfl ?_
        refine GoR.pass rfl rfl ?_
        refine GoR.pass rfl rfl ?_
        refine GoR.pass rfl rfl ?_
        refine GoR.pass rfl rfl ?_
        refine GoR.pass rfl rfl ?_
        refine GoR.pass rfl rfl ?_
        refine GoR.pass rfl rfl ?_
        refine GoR.op ((op_pickF rfl rfl rfl) _) rfl rfl ?_
        refine GoR.op ((op_move rfl) _) rfl rfl ?_
        refine GoR.pass rfl rfl ?_
        refine GoR.pass rfl rfl ?_
        refine GoR.pass rfl rfl ?_
        refine GoR.pass rfl rfl ?_
        refine GoR.op ((op_pickF rfl rfl rfl) _) rfl rfl ?_
        refine GoR.op ((op_move rfl) _) rfl rfl ?_
        refine GoR.pass rfl rfl ?_
        refine GoR.op ((op_pickF rfl rfl rfl) _) rfl rfl ?_
        refine GoR.op ((op_assign rfl) _) rfl rfl ?_
        refine GoR.nil ?_
        refine Go1.ret1 Try.func11 rfl ?_
        exact ⟨false, rfl, hB.same, H⟩
     ·replace H := ifn h63 H
      refine GoR.op ((fun w => opB (op_neq rfl rfl w) (ndF h63)) _) rfl rfl ?_
      refine GoR.op ((op_pickF rfl rfl rfl) _) rfl rfl ?_
      refine GoR.nil ?_
      refine Go1.condT rfl rfl ?_
      refine Go1.seq ?_
      refine Go1.region ?_
      refine GoR.op ((op_assign rfl) _) rfl rfl ?_
      refine GoR.nil ?_
      refine Go1.ret1 Try.func11 rfl ?_
      exact ⟨false, rfl, hB.same, H⟩
    ·replace H := ifn h56 H
     refine GoR.op ((fun w => opB (op_neq rfl rfl w) (ndF h56)) _) rfl rfl ?_
     refine GoR.op ((op_pickF rfl rfl rfl) _) rfl rfl ?_
     refine GoR.op ((op_move rfl) _) rfl rfl ?_
     refine GoR.pass rfl rfl ?_
     refine GoR.pass rfl rfl ?_
     refine GoR.pass rfl rfl ?_
     refine GoR.op ((op_pickT rfl rfl rfl) _) rfl rfl ?_
     refine GoR.nil ?_
     refine Go1.condT rfl rfl ?_
     refine Go1.seq ?_
     refine Go1.region ?_
     refine GoR.op ((op_assign rfl) _) rfl rfl ?_
     refine GoR.nil ?_
     refine Go1.ret1 Try.func11 rfl ?_
     exact ⟨false, rfl, hB.same, H⟩
   ·replace H := ifn h49 H
    refine GoR.op ((fun w => opB (op_neq rfl rfl w) (ndF h49)) _) rfl rfl ?_
    refine GoR.op ((op_move rfl) _) rfl rfl ?_
    refine GoR.pass rfl rfl ?_
    refine GoR.pass rfl rfl ?_
    refine GoR.pass rfl rfl ?_
    refine GoR.op ((op_pickT rfl rfl rfl) _) rfl rfl ?_
    refine GoR.op ((op_move rfl) _) rfl rfl ?_
    refine GoR.pass rfl rfl ?_
    refine GoR.pass rfl rfl ?_
    refine GoR.pass rfl rfl ?_
    refine GoR.op ((op_pickT rfl rfl rfl) _) rfl rfl ?_
    refine GoR.nil ?_
    refine Go1.condT rfl rfl ?_
    refine Go1.seq ?_
    refine Go1.region ?_
    refine GoR.op ((op_assign rfl) _) rfl rfl ?_
    refine GoR.nil ?_
    refine Go1.ret1 Try.func11 rfl ?_
    exact ⟨false, rfl, hB.same, H⟩
end Sg
