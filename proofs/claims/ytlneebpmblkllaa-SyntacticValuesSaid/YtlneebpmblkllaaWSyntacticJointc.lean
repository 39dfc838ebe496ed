/- -/
import Derived.Test.YtlneebpmblkllaaTi
import Derived.Test.YtlneebpmblkllaaWSyntacticMonoids
import Derived.Test.YtlneebpmblkllaaAl
namespace Sg
open Go Go.RowKit Go.Proofs
set_option linter.unusedVariables false
set_option linter.unusedSimpArgs false
set_option maxRecDepth 100000
set_option maxHeartbeats 4000000
theorem body41 : Body Try.prog 41 := ⟨Try.f41, Try.func41, rfl, by kernel_rfl⟩
theorem walk_ref01_Valid {A : List Nat} {w0 : World} {w_ : Str} {letters : Int} (hA : ∀ b ∈ A, b < w0.heap.size) (iN : w_.length ≤ mx) {K : Bool → Prop} (H : ref01_Valid w_ letters K) :
    CallsV Try.prog 41 #[.string (gstr w_), .int .i64 letters] w0 (fun v w' => ∃ (r0 : Bool), v = .bool r0 ∧ Same w0 w' ∧ K r0) := by
 refine CallsV.of (l := [.string (gstr w_), .int .i64 letters]) Try.func41 rfl Try.ntmps41 rfl ?_
 have hO := Owns.start hA
 have hB := Fr.refl (bl []) w0
 unfold ref01_Valid at H
 refine zq (zr (za rfl (zn (zq (zq ?_)))))
 refine zr (zm rfl ?_)
 refine GoR.call (J0a body59 rfl (walk_ref01_MayLetters hO.lt H)) rfl rfl ?_
 rintro v5 w2 ⟨r1, rfl, hs3, H⟩
 have v8 := Stp.same hO hs3
 replace hO := v8.own
 cases r1
 ·replace H := ifn Bool.false_ne_true H
  refine zo (J0l rfl) (zm rfl (zp (zp (zp (zo (J05 rfl rfl rfl) ?_)))))
  refine zn (zt rfl rfl (zq (zr (za rfl (zn ?_)))))
  refine Go1.ret1 Try.func41 rfl ?_
  replace hB := hB.trans v8.fr
  exact ⟨false, rfl, hB.same, H⟩
 replace H := ifp rfl H
 refine zo (J0l rfl) (zm rfl (zm rfl (zo (op_lenS Try.underlying9 rfl) ?_)))
 replace H := H iN
 by_cases h7 : (2048 : Int) < (w_.length : Int)
 ·replace H := ifp h7 H
  refine zo (fun w => opB (J0M rfl rfl w) (decide_eq_true h7)) (zo (J04 rfl rfl rfl) (zn (zt rfl rfl (zq (zr ?_)))))
  refine za rfl (zn ?_)
  refine Go1.ret1 Try.func41 rfl ?_
  replace hB := hB.trans v8.fr
  exact ⟨false, rfl, hB.same, H⟩
 replace H := ifn h7 H
 refine zo (fun w => opB (J0M rfl rfl w) (decide_eq_false h7)) (zo (J04 rfl rfl rfl) (zn (zf rfl rfl (zk (zq ?_)))))
 refine zq ?_
 refine Go1.cut [(0, .string (gstr w_)), (1, .int .i64 letters)] ⟨rfl, rfl, trivial⟩ ?_
 intro σ _
 refine zr (za rfl (zn (zb ?_)))
 replace hB := hB.trans v8.fr
 refine Go1.loopW (S := Nat) (fun s σ w => agrees σ [(0, .string (gstr w_)), (1, .int .i64 letters), (5, .int .i64 (s : Int))] ∧ Owns w0.heap.size w [] A ∧ Fr (bl []) w0 (bl []) w) H ⟨⟨rfl, rfl, rfl, trivial⟩, hO, hB⟩ ?_
 intro X1 i1_9
 intro H hX1 σ w8
 refine andE fun hag => andE fun hO => fun hB => ?_
 refine Go1.keep [(0, .string (gstr w_)), (1, .int .i64 letters), (5, .int .i64 (i1_9 : Int))] hag ?_
 refine zq (zq (zr (zm rfl (zm rfl (zo (op_lenS Try.underlying9 rfl) ?_)))))
 by_cases h10 : (i1_9 : Int) < (w_.length : Int)
 ·replace H := ifp h10 H
  refine zo (fun w => opB (J08 rfl rfl w) (decide_eq_true h10)) (zn (zt rfl rfl (zk (zq (zb ?_)))))
  refine zq (zr (zm rfl (zm rfl ?_)))
  obtain ⟨h11, H⟩ := H
  obtain ⟨h12, H⟩ := H
  refine zo (op_indexS Try.underlying9 rfl rfl h11 h12) ?_
  by_cases h13 : ((ix w_ (i1_9 : Int)).toNat : Int) < (97 : Int)
  ·replace H := ifp h13 H
   refine zo (fun w => opB (J08 rfl rfl w) (decide_eq_true h13)) (zm rfl (zp (zp (zp (zp ?_)))))
   refine zp (zp (zp (zo (J05 rfl rfl rfl) (zn (zt rfl rfl ?_)))))
   refine zq (zr (za rfl (zn ?_)))
   refine Go1.ret1 Try.func41 rfl ?_
   exact ⟨false, rfl, hB.same, H⟩
  replace H := ifn h13 H
  refine zo (fun w => opB (J08 rfl rfl w) (decide_eq_false h13)) (zm rfl (zm rfl (zm rfl ?_)))
  obtain ⟨h14, H⟩ := H
  obtain ⟨h15, H⟩ := H
  refine zo (op_indexS Try.underlying9 rfl rfl h14 h15) (zo (op_sub rfl rfl rfl) (zo (op_conv Try.underlying5 Try.underlying3 rfl rfl) (zm rfl ?_)))
  by_cases h16 : letters ≤ (IntKind.i64.wrap (IntKind.u8.wrap (((ix w_ (i1_9 : Int)).toNat : Int) - (97 : Int))))
  ·replace H := ifp h16 H
   refine zo (fun w => opB (J0L rfl rfl w) (decide_eq_true h16)) (zo (J04 rfl rfl rfl) (zn (zt rfl rfl (zq ?_))))
   refine Go1.cut [] trivial ?_
   intro σ _
   refine zr (za rfl (zn ?_))
   refine Go1.ret1 Try.func41 rfl ?_
   exact ⟨false, rfl, hB.same, H⟩
  replace H := ifn h16 H
  refine zo (fun w => opB (J0L rfl rfl w) (decide_eq_false h16)) (zo (J04 rfl rfl rfl) (zn (zf rfl rfl (zk ?_))))
  refine Go1.inBlock ?_
  refine zr (zm rfl (zo (J0c rfl rfl (wrap_i64 (natbd h10 iN))) (za rfl (zn ?_))))
  exact hX1 _ H _ _ ⟨⟨rfl, rfl, rfl, trivial⟩, hO, hB⟩
 replace H := ifn h10 H
 refine zo (fun w => opB (J08 rfl rfl w) (decide_eq_false h10)) (zn (zf rfl rfl ?_))
 refine Go1.exit rfl ?_
 refine zq (zr (za rfl (zn ?_)))
 refine Go1.ret1 Try.func41 rfl ?_
 exact ⟨true, rfl, hB.same, H⟩
end Sg
