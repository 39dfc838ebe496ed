/- The walks: each call keeps to its plain transformer. Printed by walkgen.py. -/
import Derived.Test.YtjegjjdfgefkoaaTi
import Derived.Test.YtjegjjdfgefkoaaAl
namespace Sg
open Go Go.RowKit Go.Proofs
set_option linter.unusedVariables false
set_option linter.unusedSimpArgs false
set_option maxRecDepth 100000
set_option maxHeartbeats 4000000
theorem body48 : Body Try.prog 48 := ⟨Try.f48, Try.func48, rfl, by kernel_rfl⟩
theorem walk_ref11_Valid {A : List Nat} {w0 : World} {p_f : Option Addr} {c_f : Nat} {f : List Int} (hA : ∀ b ∈ A, b < w0.heap.size) (h_f : ISl (Rp.int .i64) A w0 p_f c_f f) {K : Bool → Prop} (H : ref11_Valid f K) :
    CallsV Try.prog 48 #[.slice p_f f.length c_f] w0 (fun v w' => ∃ (r0 : Bool), v = .bool r0 ∧ Same w0 w' ∧ K r0) := by
 refine CallsV.of (l := [.slice p_f f.length c_f]) Try.func48 rfl Try.ntmps48 rfl ?_
 have hO := Owns.start hA
 have hB := Fr.refl (bl []) w0
 unfold ref11_Valid at H
 refine zq (zr (za rfl (zn (zq (zq ?_)))))
 refine zr (zm rfl (zo (op_len Try.underlying26 rfl) ?_))
 replace h_f := h_f.ch (Ch.start A w0)
 replace H := H h_f.bd
 by_cases h1 : (f.length : Int) < (1 : Int)
 ·replace H := ifp h1 H
  refine zo (fun w => opB (op_lss rfl rfl w) (decide_eq_true h1)) (zm rfl (zp (zp (zp (zo (op_pickT rfl rfl rfl) ?_)))))
  refine zn (zt rfl rfl (zq (zr (za rfl (zn ?_)))))
  refine Go1.ret1 Try.func48 rfl ?_
  exact ⟨false, rfl, hB.same, H⟩
 replace H := ifn h1 H
 refine zo (fun w => opB (op_lss rfl rfl w) (decide_eq_false h1)) (zm rfl (zm rfl (zo (op_len Try.underlying26 rfl) ?_)))
 by_cases h2 : (32 : Int) < (f.length : Int)
 ·replace H := ifp h2 H
  refine zo (fun w => opB (op_gtr rfl rfl w) (decide_eq_true h2)) (zo (op_pickF rfl rfl rfl) (zn (zt rfl rfl (zq (zr ?_)))))
  refine za rfl (zn ?_)
  refine Go1.ret1 Try.func48 rfl ?_
  exact ⟨false, rfl, hB.same, H⟩
 replace H := ifn h2 H
 refine zo (fun w => opB (op_gtr rfl rfl w) (decide_eq_false h2)) (zo (op_pickF rfl rfl rfl) (zn (zf rfl rfl (zk (zq ?_)))))
 refine zq (zr (zm rfl (zo (op_len Try.underlying26 rfl) (zm rfl (zn ?_)))))
 refine zb ?_
 refine Go1.loopW (S := Nat) (fun s σ w => agrees σ [(0, .slice p_f f.length c_f), (13, .slice p_f f.length c_f), (14, .int .i64 (f.length : Int)), (15, .int .i64 (s : Int))] ∧ Owns w0.heap.size w [] A ∧ ISl (Rp.int .i64) (bl [] ++ A) w p_f c_f f ∧ Fr (bl []) w0 (bl []) w) H ⟨⟨rfl, rfl, rfl, rfl, trivial⟩, hO, h_f, hB⟩ ?_
 intro X1 k1_4
 intro H hX1 σ w3
 refine andE fun hag => andE fun hO => andE fun h_f => fun hB => ?_
 refine Go1.keep [(0, .slice p_f f.length c_f), (13, .slice p_f f.length c_f), (14, .int .i64 (f.length : Int)), (15, .int .i64 (k1_4 : Int))] hag ?_
 refine zq (zr ?_)
 by_cases h5 : (k1_4 : Int) < (f.length : Int)
 ·replace H := ifp h5 H
  refine zo (fun w => opB (op_lss rfl rfl w) (decide_eq_true h5)) (zn (zq (zt rfl rfl (zk (zq ?_)))))
  refine zb (zq (zr ?_))
  obtain ⟨h6, H⟩ := H
  obtain ⟨h7, H⟩ := H
  refine zo (op_index Try.underlying26 ti3 rfl rfl h6 h7 (h_f.some_ h6 h7)) (zs (ldInt h_f h6 h7 Try.underlying3 rfl rfl) (za rfl (zn (zq (zr ?_)))))
  refine zm rfl ?_
  by_cases h8 : (ix f (k1_4 : Int)) < (0 : Int)
  ·replace H := ifp h8 H
   refine zo (fun w => opB (op_lss rfl rfl w) (decide_eq_true h8)) (zm rfl (zp (zp (zp (zp ?_)))))
   refine zo (op_pickT rfl rfl rfl) (zn (zt rfl rfl (zq (zr (za rfl ?_)))))
   refine zn ?_
   refine Go1.ret1 Try.func48 rfl ?_
   exact ⟨false, rfl, hB.same, H⟩
  replace H := ifn h8 H
  refine zo (fun w => opB (op_lss rfl rfl w) (decide_eq_false h8)) (zm rfl (zm rfl (zm rfl (zo (op_len Try.underlying26 rfl) ?_))))
  by_cases h9 : (f.length : Int) ≤ (ix f (k1_4 : Int))
  ·replace H := ifp h9 H
   refine zo (fun w => opB (op_geq rfl rfl w) (decide_eq_true h9)) (zo (op_pickF rfl rfl rfl) (zn (zt rfl rfl (zq ?_))))
   refine Go1.cut [] trivial ?_
   intro σ _
   refine zr (za rfl (zn ?_))
   refine Go1.ret1 Try.func48 rfl ?_
   exact ⟨false, rfl, hB.same, H⟩
  replace H := ifn h9 H
  refine zo (fun w => opB (op_geq rfl rfl w) (decide_eq_false h9)) (zo (op_pickF rfl rfl rfl) (zn (zf rfl rfl (zk ?_))))
  refine Go1.inBlock ?_
  refine zr (zo (op_add rfl rfl (wrap_i64 (natbd h5 h_f.bd))) (zm rfl (zn ?_)))
  exact hX1 _ H _ _ ⟨⟨rfl, rfl, rfl, rfl, trivial⟩, hO, h_f, hB⟩
 replace H := ifn h5 H
 refine zo (fun w => opB (op_lss rfl rfl w) (decide_eq_false h5)) (zn (zq (zf rfl rfl ?_)))
 refine Go1.exit rfl ?_
 refine zq (zr (za rfl (zn ?_)))
 refine Go1.ret1 Try.func48 rfl ?_
 exact ⟨true, rfl, hB.same, H⟩
theorem body14 : Body Try.prog 14 := ⟨Try.f14, Try.func14, rfl, by kernel_rfl⟩
theorem walk_ref11_MayGens {A : List Nat} {w0 : World} {o7 : Option Addr} {o8 : Nat} {gens : List (List Int)} (hA : ∀ b ∈ A, b < w0.heap.size) (iq : ISl (Rp.sl (Rp.int .i64)) A w0 o7 o8 gens) {K : Bool → Prop} (H : ref11_MayGens gens K) :
    CallsV Try.prog 14 #[.slice o7 gens.length o8] w0 (fun v w' => ∃ (r0 : Bool), v = .bool r0 ∧ Same w0 w' ∧ K r0) := by
 refine CallsV.of (l := [.slice o7 gens.length o8]) Try.func14 rfl Try.ntmps14 rfl ?_
 have hO := Owns.start hA
 have hB := Fr.refl (bl []) w0
 unfold ref11_MayGens at H
 refine zq (zr (za rfl (zn (zq (zq ?_)))))
 refine zr (zm rfl (zo (op_len Try.underlying22 rfl) ?_))
 replace iq := iq.ch (Ch.start A w0)
 replace H := H iq.bd
 by_cases h1 : (gens.length : Int) < (1 : Int)
 ·replace H := ifp h1 H
  refine zo (fun w => opB (op_lss rfl rfl w) (decide_eq_true h1)) (zm rfl (zp (zp (zp (zo (op_pickT rfl rfl rfl) ?_)))))
  refine zn (zt rfl rfl (zq (zr (za rfl (zn ?_)))))
  refine Go1.ret1 Try.func14 rfl ?_
  exact ⟨false, rfl, hB.same, H⟩
 replace H := ifn h1 H
 refine zo (fun w => opB (op_lss rfl rfl w) (decide_eq_false h1)) (zm rfl (zm rfl (zo (op_len Try.underlying22 rfl) ?_)))
 by_cases h2 : (6 : Int) < (gens.length : Int)
 ·replace H := ifp h2 H
  refine zo (fun w => opB (op_gtr rfl rfl w) (decide_eq_true h2)) (zo (op_pickF rfl rfl rfl) (zn (zt rfl rfl (zq (zr ?_)))))
  refine za rfl (zn ?_)
  refine Go1.ret1 Try.func14 rfl ?_
  exact ⟨false, rfl, hB.same, H⟩
 replace H := ifn h2 H
 refine zo (fun w => opB (op_gtr rfl rfl w) (decide_eq_false h2)) (zo (op_pickF rfl rfl rfl) (zn (zf rfl rfl (zk (zq ?_)))))
 refine zq (zr (zm rfl (zo (op_len Try.underlying22 rfl) (zm rfl (zn ?_)))))
 refine zb ?_
 refine Go1.loopW (S := Nat) (fun s σ w => agrees σ [(0, .slice o7 gens.length o8), (13, .slice o7 gens.length o8), (14, .int .i64 (gens.length : Int)), (15, .int .i64 (s : Int))] ∧ Owns w0.heap.size w [] A ∧ ISl (Rp.sl (Rp.int .i64)) (bl [] ++ A) w o7 o8 gens ∧ Fr (bl []) w0 (bl []) w) H ⟨⟨rfl, rfl, rfl, rfl, trivial⟩, hO, iq, hB⟩ ?_
 intro X1 k1_4
 intro H hX1 σ w3
 refine andE fun hag => andE fun hO => andE fun iq => fun hB => ?_
 refine Go1.keep [(0, .slice o7 gens.length o8), (13, .slice o7 gens.length o8), (14, .int .i64 (gens.length : Int)), (15, .int .i64 (k1_4 : Int))] hag ?_
 refine zq (zr ?_)
 by_cases h5 : (k1_4 : Int) < (gens.length : Int)
 ·replace H := ifp h5 H
  refine zo (fun w => opB (op_lss rfl rfl w) (decide_eq_true h5)) (zn (zq (zt rfl rfl (zk (zq ?_)))))
  refine zb (zq (zr ?_))
  obtain ⟨h6, H⟩ := H
  obtain ⟨h7, H⟩ := H
  refine zo (op_index Try.underlying22 ti26 rfl rfl h6 h7 (iq.some_ h6 h7)) ?_
  have hobt := ldSl iq h6 h7
  obtain ⟨p8, c9, FW, So⟩ := hobt
  refine zs (So Try.underlying26 rfl rfl) (za rfl (zn (zq (zr (zm rfl ?_)))))
  refine GoR.call (op_call body48 rfl (walk_ref11_Valid hO.lt FW H)) rfl rfl ?_
  rintro v16 w13 ⟨r12, rfl, HE, H⟩
  have rS := Stp.same hO HE
  replace hO := rS.own
  cases r12
  ·replace H := ifn Bool.false_ne_true H
   refine zo (op_not rfl) (zm rfl (zp (zp (zp (zp ?_)))))
   refine zp (zp (zp (zo (op_pickT rfl rfl rfl) (zn (zt rfl rfl ?_)))))
   refine zq (zr (za rfl (zn ?_)))
   refine Go1.ret1 Try.func14 rfl ?_
   replace hB := hB.trans rS.fr
   exact ⟨false, rfl, hB.same, H⟩
  replace H := ifp rfl H
  refine zo (op_not rfl) (zm rfl (zm rfl (zo (op_len Try.underlying26 rfl) ?_)))
  replace FW := FW.ch rS.ch
  replace H := H FW.bd
  refine zm rfl ?_
  obtain ⟨h18, H⟩ := H
  obtain ⟨h19, H⟩ := H
  replace iq := iq.ch rS.ch
  refine zo (op_index Try.underlying22 ti26 rfl rfl h18 h19 (iq.some_ h18 h19)) ?_
  have hobt := ldSl iq h18 h19
  obtain ⟨p20, c21, Sp, Sq⟩ := hobt
  refine zs (Sq Try.underlying26 rfl rfl) (zo (op_len Try.underlying26 rfl) ?_)
  replace H := H Sp.bd
  by_cases h24 : ((ix gens (k1_4 : Int)).length : Int) = ((ix gens (0 : Int)).length : Int)
  ·replace H := ifp h24 H
   refine zo (fun w => opB (op_neq rfl rfl w) (ndT h24)) (zo (op_pickF rfl rfl rfl) (zn (zf rfl rfl (zk ?_))))
   refine Go1.inBlock ?_
   refine Go1.cut [(0, .slice o7 gens.length o8), (13, .slice o7 gens.length o8), (14, .int .i64 (gens.length : Int)), (15, .int .i64 (k1_4 : Int))] ⟨rfl, rfl, rfl, rfl, trivial⟩ ?_
   intro σ _
   refine zr (zo (op_add rfl rfl (wrap_i64 (natbd h5 iq.bd))) (zm rfl (zn ?_)))
   replace hB := hB.trans rS.fr
   exact hX1 _ H _ _ ⟨⟨rfl, rfl, rfl, rfl, trivial⟩, hO, iq, hB⟩
  replace H := ifn h24 H
  refine zo (fun w => opB (op_neq rfl rfl w) (ndF h24)) (zo (op_pickF rfl rfl rfl) (zn (zt rfl rfl (zq (zr ?_)))))
  refine za rfl (zn ?_)
  refine Go1.ret1 Try.func14 rfl ?_
  replace hB := hB.trans rS.fr
  exact ⟨false, rfl, hB.same, H⟩
 replace H := ifn h5 H
 refine zo (fun w => opB (op_lss rfl rfl w) (decide_eq_false h5)) (zn (zq (zf rfl rfl ?_)))
 refine Go1.exit rfl ?_
 refine zq (zr (za rfl (zn ?_)))
 refine Go1.ret1 Try.func14 rfl ?_
 exact ⟨true, rfl, hB.same, H⟩
theorem body15 : Body Try.prog 15 := ⟨Try.f15, Try.func15, rfl, by kernel_rfl⟩
theorem walk_law12_little {A : List Nat} {w0 : World} {o7 : Option Addr} {o8 : Nat} {gens : List (List Int)} {points : Int} {letters : Int} (hA : ∀ b ∈ A, b < w0.heap.size) (iq : ISl (Rp.sl (Rp.int .i64)) A w0 o7 o8 gens) {K : Bool → Prop} (H : law12_little gens points letters K) :
    CallsV Try.prog 15 #[.slice o7 gens.length o8, .int .i64 points, .int .i64 letters] w0 (fun v w' => ∃ (r0 : Bool), v = .bool r0 ∧ Same w0 w' ∧ K r0) := by
 refine CallsV.of (l := [.slice o7 gens.length o8, .int .i64 points, .int .i64 letters]) Try.func15 rfl Try.ntmps15 rfl ?_
 have hO := Owns.start hA
 have hB := Fr.refl (bl []) w0
 unfold law12_little at H
 refine zq (zr (za rfl (zn (zq (zr ?_)))))
 refine zm rfl ?_
 replace iq := iq.ch (Ch.start A w0)
 refine GoR.call (op_call body14 rfl (walk_ref11_MayGens hO.lt iq H)) rfl rfl ?_
 rintro v5 w2 ⟨r1, rfl, hs3, H⟩
 have AQ := Stp.same hO hs3
 replace hO := AQ.own
 refine zm rfl ?_
 cases r1
 ·replace H := ifn Bool.false_ne_true H
  refine zp (zp (zp (zp (zo (op_pickF rfl rfl rfl) (zm rfl ?_)))))
  refine zp (zp (zp (zp (zp (zp ?_)))))
  refine zo (op_pickF rfl rfl rfl) (za rfl (zn ?_))
  refine Go1.ret1 Try.func15 rfl ?_
  replace hB := hB.trans AQ.fr
  exact ⟨false, rfl, hB.same, H⟩
 replace H := ifp rfl H
 refine zm rfl (zo (op_len Try.underlying22 rfl) ?_)
 replace iq := iq.ch AQ.ch
 replace H := H iq.bd
 refine zm rfl ?_
 by_cases h7 : (gens.length : Int) ≤ letters
 ·replace H := ifp h7 H
  refine zo (fun w => opB (op_leq rfl rfl w) (decide_eq_true h7)) (zo (op_pickT rfl rfl rfl) (zm rfl (zm rfl ?_)))
  obtain ⟨h8, H⟩ := H
  obtain ⟨h9, H⟩ := H
  refine zo (op_index Try.underlying22 ti26 rfl rfl h8 h9 (iq.some_ h8 h9)) ?_
  have hobt := ldSl iq h8 h9
  obtain ⟨p10, c11, Fg, HF⟩ := hobt
  refine zs (HF Try.underlying26 rfl rfl) (zo (op_len Try.underlying26 rfl) ?_)
  replace H := H Fg.bd
  refine zm rfl ?_
  by_cases h14 : ((ix gens (0 : Int)).length : Int) ≤ points
  ·replace H := ifp h14 H
   refine zo (fun w => opB (op_leq rfl rfl w) (decide_eq_true h14)) (zo (op_pickT rfl rfl rfl) (za rfl (zn ?_)))
   refine Go1.ret1 Try.func15 rfl ?_
   replace hB := hB.trans AQ.fr
   exact ⟨true, rfl, hB.same, H⟩
  replace H := ifn h14 H
  refine zo (fun w => opB (op_leq rfl rfl w) (decide_eq_false h14)) (zo (op_pickT rfl rfl rfl) (za rfl (zn ?_)))
  refine Go1.ret1 Try.func15 rfl ?_
  replace hB := hB.trans AQ.fr
  exact ⟨false, rfl, hB.same, H⟩
 replace H := ifn h7 H
 refine zo (fun w => opB (op_leq rfl rfl w) (decide_eq_false h7)) (zo (op_pickT rfl rfl rfl) (zm rfl (zp (zp (zp ?_)))))
 refine zp (zp (zp (zo (op_pickF rfl rfl rfl) (za rfl (zn ?_)))))
 refine Go1.ret1 Try.func15 rfl ?_
 replace hB := hB.trans AQ.fr
 exact ⟨false, rfl, hB.same, H⟩
theorem body60 : Body Try.prog 60 := ⟨Try.f60, Try.func60, rfl, by kernel_rfl⟩
theorem walk_trans_Valid {A : List Nat} {w0 : World} {p_f : Option Addr} {c_f : Nat} {f : List Int} (hA : ∀ b ∈ A, b < w0.heap.size) (h_f : ISl (Rp.int .i64) A w0 p_f c_f f) {K : Bool → Prop} (H : trans_Valid f K) :
    CallsV Try.prog 60 #[.slice p_f f.length c_f] w0 (fun v w' => ∃ (r0 : Bool), v = .bool r0 ∧ Same w0 w' ∧ K r0) := by
 refine CallsV.of (l := [.slice p_f f.length c_f]) Try.func60 rfl Try.ntmps60 rfl ?_
 have hO := Owns.start hA
 have hB := Fr.refl (bl []) w0
 unfold trans_Valid at H
 refine zq (zr (za rfl (zn (zq (zq ?_)))))
 refine zr (zm rfl (zo (op_len Try.underlying26 rfl) ?_))
 replace h_f := h_f.ch (Ch.start A w0)
 replace H := H h_f.bd
 by_cases h1 : (f.length : Int) < (1 : Int)
 ·replace H := ifp h1 H
  refine zo (fun w => opB (op_lss rfl rfl w) (decide_eq_true h1)) (zm rfl (zp (zp (zp (zo (op_pickT rfl rfl rfl) ?_)))))
  refine zn (zt rfl rfl (zq (zr (za rfl (zn ?_)))))
  refine Go1.ret1 Try.func60 rfl ?_
  exact ⟨false, rfl, hB.same, H⟩
 replace H := ifn h1 H
 refine zo (fun w => opB (op_lss rfl rfl w) (decide_eq_false h1)) (zm rfl (zm rfl (zo (op_len Try.underlying26 rfl) ?_)))
 by_cases h2 : (32 : Int) < (f.length : Int)
 ·replace H := ifp h2 H
  refine zo (fun w => opB (op_gtr rfl rfl w) (decide_eq_true h2)) (zo (op_pickF rfl rfl rfl) (zn (zt rfl rfl (zq (zr ?_)))))
  refine za rfl (zn ?_)
  refine Go1.ret1 Try.func60 rfl ?_
  exact ⟨false, rfl, hB.same, H⟩
 replace H := ifn h2 H
 refine zo (fun w => opB (op_gtr rfl rfl w) (decide_eq_false h2)) (zo (op_pickF rfl rfl rfl) (zn (zf rfl rfl (zk (zq ?_)))))
 refine zq (zr (zm rfl (zo (op_len Try.underlying26 rfl) (zm rfl (zn ?_)))))
 refine zb ?_
 refine Go1.loopW (S := Nat) (fun s σ w => agrees σ [(0, .slice p_f f.length c_f), (13, .slice p_f f.length c_f), (14, .int .i64 (f.length : Int)), (15, .int .i64 (s : Int))] ∧ Owns w0.heap.size w [] A ∧ ISl (Rp.int .i64) (bl [] ++ A) w p_f c_f f ∧ Fr (bl []) w0 (bl []) w) H ⟨⟨rfl, rfl, rfl, rfl, trivial⟩, hO, h_f, hB⟩ ?_
 intro X1 k1_4
 intro H hX1 σ w3
 refine andE fun hag => andE fun hO => andE fun h_f => fun hB => ?_
 refine Go1.keep [(0, .slice p_f f.length c_f), (13, .slice p_f f.length c_f), (14, .int .i64 (f.length : Int)), (15, .int .i64 (k1_4 : Int))] hag ?_
 refine zq (zr ?_)
 by_cases h5 : (k1_4 : Int) < (f.length : Int)
 ·replace H := ifp h5 H
  refine zo (fun w => opB (op_lss rfl rfl w) (decide_eq_true h5)) (zn (zq (zt rfl rfl (zk (zq ?_)))))
  refine zb (zq (zr ?_))
  obtain ⟨h6, H⟩ := H
  obtain ⟨h7, H⟩ := H
  refine zo (op_index Try.underlying26 ti3 rfl rfl h6 h7 (h_f.some_ h6 h7)) (zs (ldInt h_f h6 h7 Try.underlying3 rfl rfl) (za rfl (zn (zq (zr ?_)))))
  refine zm rfl ?_
  by_cases h8 : (ix f (k1_4 : Int)) < (0 : Int)
  ·replace H := ifp h8 H
   refine zo (fun w => opB (op_lss rfl rfl w) (decide_eq_true h8)) (zm rfl (zp (zp (zp (zp ?_)))))
   refine zo (op_pickT rfl rfl rfl) (zn (zt rfl rfl (zq (zr (za rfl ?_)))))
   refine zn ?_
   refine Go1.ret1 Try.func60 rfl ?_
   exact ⟨false, rfl, hB.same, H⟩
  replace H := ifn h8 H
  refine zo (fun w => opB (op_lss rfl rfl w) (decide_eq_false h8)) (zm rfl (zm rfl (zm rfl (zo (op_len Try.underlying26 rfl) ?_))))
  by_cases h9 : (f.length : Int) ≤ (ix f (k1_4 : Int))
  ·replace H := ifp h9 H
   refine zo (fun w => opB (op_geq rfl rfl w) (decide_eq_true h9)) (zo (op_pickF rfl rfl rfl) (zn (zt rfl rfl (zq ?_))))
   refine Go1.cut [] trivial ?_
   intro σ _
   refine zr (za rfl (zn ?_))
   refine Go1.ret1 Try.func60 rfl ?_
   exact ⟨false, rfl, hB.same, H⟩
  replace H := ifn h9 H
  refine zo (fun w => opB (op_geq rfl rfl w) (decide_eq_false h9)) (zo (op_pickF rfl rfl rfl) (zn (zf rfl rfl (zk ?_))))
  refine Go1.inBlock ?_
  refine zr (zo (op_add rfl rfl (wrap_i64 (natbd h5 h_f.bd))) (zm rfl (zn ?_)))
  exact hX1 _ H _ _ ⟨⟨rfl, rfl, rfl, rfl, trivial⟩, hO, h_f, hB⟩
 replace H := ifn h5 H
 refine zo (fun w => opB (op_lss rfl rfl w) (decide_eq_false h5)) (zn (zq (zf rfl rfl ?_)))
 refine Go1.exit rfl ?_
 refine zq (zr (za rfl (zn ?_)))
 refine Go1.ret1 Try.func60 rfl ?_
 exact ⟨true, rfl, hB.same, H⟩
theorem body64 : Body Try.prog 64 := ⟨Try.f64, Try.func64, rfl, by kernel_rfl⟩
theorem walk_slices_Clone_int {A : List Nat} {w0 : World} {p_s : Option Addr} {c_s : Nat} {s : List Int} (hA : ∀ b ∈ A, b < w0.heap.size) (h_s : ISl (Rp.int .i64) A w0 p_s c_s s) {K : List Int → Prop} (H : slices_Clone_int s K) :
    CallsV Try.prog 64 #[.slice p_s s.length c_s] w0 (fun v w' => ∃ (r0 : List Int), ∃ (Ei : Nat), ∃ (nt : Option Addr), ∃ (nu : Nat), ∃ (FX : List Value), v = .slice nt Ei nu ∧ Same w0 w' ∧ Owns w0.heap.size w' [.row 3 1 nt Ei nu FX] A ∧ Els (Rp.int .i64) (bl [.row 3 1 nt Ei nu FX] ++ A) w' FX r0 ∧ K r0) := by
 refine CallsV.of (l := [.slice p_s s.length c_s]) Try.func64 rfl Try.ntmps64 rfl ?_
 have hO := Owns.start hA
 have hB := Fr.refl (bl []) w0
 unfold slices_Clone_int at H
 refine zq (zr (za rfl (zn (zq (zq ?_)))))
 refine zr (zm rfl ?_)
 replace h_s := h_s.ch (Ch.start A w0)
 replace H := H p_s.isNone (fun h => h_s.nilD h)
 by_cases hz2 : p_s.isNone = true
 ·replace H := ifp hz2 H
  refine zo (fun w => opB (op_nilSlice Try.underlying26 rfl rfl w) (hz2)) (zn (zt rfl rfl (zq (zr (za rfl ?_)))))
  refine zn ?_
  have nv := Stp.nil (e := 3) (r := 1) hO
  replace hO := nv.own
  have hE5 := Els.nil (Rp.int .i64) (bl (.row 3 1 none 0 0 [] :: []) ++ A) w0
  refine Go1.ret1 Try.func64 rfl ?_
  replace hB := hB.trans nv.fr
  exact ⟨(([] : List Int)), 0, none, 0, ([]), rfl, hB.same, hO, hE5, H⟩
 ·replace H := ifn hz2 H
  refine zo (fun w => opB (op_nilSlice Try.underlying26 rfl rfl w) (Bool.eq_false_iff.2 hz2)) (zn (zf rfl rfl (zk (zq (zr ?_)))))
  have hobt := obuild (r := Rp.int .i64) (n := 0) (parts := []) (vs := []) (xs := ([] : List Int)) rfl Try.underlying26 ti3 hO (by decide) (by kernel_rfl) (Els.nil _ _ _) rfl
  obtain ⟨w6, p7, sO, hE9, Fh, Bu⟩ := hobt
  refine zg (Bu rfl) ?_
  replace hO := sO.own
  refine zm rfl ?_
  obtain ⟨h13, H⟩ := H
  replace h_s := h_s.ch sO.ch
  have hobt := oapp Try.underlying26 ti3 rfl 0 hO rfl hE9 h_s rfl h13 (by decide)
  obtain ⟨w14, p15, c16, qF, oW, Sr, FY⟩ := hobt
  refine zg (FY (by exact rfl) (by exact rfl)) ?_
  replace hO := oW.own
  refine za rfl (zn ?_)
  refine Go1.ret1 Try.func64 rfl ?_
  replace hB := (hB.trans sO.fr).trans oW.fr
  exact ⟨((([] : List Int)) ++ s), (0 + s.length), p15, c16, qF, rfl, hB.same, hO, Sr, H⟩
theorem body62 : Body Try.prog 62 := ⟨Try.f62, Try.func62, rfl, by kernel_rfl⟩
theorem walk_trans_Identity {A : List Nat} {w0 : World} {n : Int} (hA : ∀ b ∈ A, b < w0.heap.size) {K : List Int → Prop} (H : trans_Identity n K) :
    CallsV Try.prog 62 #[.int .i64 n] w0 (fun v w' => ∃ (r0 : List Int), ∃ (nt : Option Addr), ∃ (nu : Nat), v = .slice nt r0.length nu ∧ Same w0 w' ∧ ISl (Rp.int .i64) A w' nt nu r0 ∧ K r0) := by
 refine CallsV.of (l := [.int .i64 n]) Try.func62 rfl Try.ntmps62 rfl ?_
 have hO := Owns.start hA
 have hB := Fr.refl (bl []) w0
 unfold trans_Identity at H
 refine zq (zr (za rfl (zn (zq (zq ?_)))))
 refine zr (zm rfl ?_)
 by_cases h1 : n < (1 : Int)
 ·replace H := ifp h1 H
  refine zo (fun w => opB (op_lss rfl rfl w) (decide_eq_true h1)) (zm rfl (zp (zp (zo (op_pickT rfl rfl rfl) (zn ?_)))))
  refine zt rfl rfl (zq (zr (za rfl (zn ?_))))
  refine Go1.ret1 Try.func62 rfl ?_
  exact ⟨([] : List Int), none, 0, rfl, hB.same, (ISl.null _ _ _), H⟩
 replace H := ifn h1 H
 refine zo (fun w => opB (op_lss rfl rfl w) (decide_eq_false h1)) (zm rfl (zm rfl ?_))
 by_cases h2 : (32 : Int) < n
 ·replace H := ifp h2 H
  refine zo (fun w => opB (op_gtr rfl rfl w) (decide_eq_true h2)) (zo (op_pickF rfl rfl rfl) (zn (zt rfl rfl (zq (zr ?_)))))
  refine za rfl (zn ?_)
  refine Go1.ret1 Try.func62 rfl ?_
  exact ⟨([] : List Int), none, 0, rfl, hB.same, (ISl.null _ _ _), H⟩
 replace H := ifn h2 H
 refine zo (fun w => opB (op_gtr rfl rfl w) (decide_eq_false h2)) (zo (op_pickF rfl rfl rfl) (zn (zf rfl rfl (zk (zq ?_)))))
 refine zr (zm rfl ?_)
 obtain ⟨h10, H⟩ := H
 obtain ⟨h11, H⟩ := H
 have hobt := omake (n := n) (r := Rp.int .i64) (d := (0 : Int)) Try.underlying26 ti3 (fun _ _ => rfl) rfl hO h10 h11 (by decide)
 obtain ⟨w3, p4, vs5, AQ, hE7, hs8, Ss⟩ := hobt
 refine zg (Ss rfl rfl) ?_
 replace hO := AQ.own
 refine za rfl (zn (zq (zq (zr (zm rfl ?_)))))
 refine zo (op_lenN Try.underlying26 rfl (hE7.neq hO 0 rfl)) (zm rfl (zn (zb ?_)))
 replace hB := hB.trans AQ.fr
 refine Go1.loopW (S := Nat × List Int) (fun s σ w => match s with | (k1_14, f1_15) => ∃ (Ds : List Value), agrees σ [(3, .slice p4 n.toNat n.toNat), (14, .int .i64 ((List.replicate n.toNat ((0 : Int))).length : Int)), (15, .int .i64 (k1_14 : Int))] ∧ (fun Z0 => Owns w0.heap.size w Z0 A ∧ Els (Rp.int .i64) (bl Z0 ++ A) w Ds f1_15 ∧ Fr (bl []) w0 (bl Z0) w) [.row 3 1 p4 n.toNat n.toNat Ds]) H ⟨vs5, ⟨rfl, rfl, rfl, trivial⟩, hO, hE7, hB⟩ ?_
 intro X1
 refine prE fun k1_14 => fun f1_15 => ?_
 intro H hX1 σ w13
 refine exE fun Ds => andE fun hag => andE fun hO => andE fun F0 => fun hB => ?_
 dsimp only at H
 refine Go1.keep [(3, .slice p4 n.toNat n.toNat), (14, .int .i64 ((List.replicate n.toNat ((0 : Int))).length : Int)), (15, .int .i64 (k1_14 : Int))] hag ?_
 refine zq (zr ?_)
 by_cases h18 : (k1_14 : Int) < ((List.replicate n.toNat ((0 : Int))).length : Int)
 ·replace H := ifp h18 H
  refine zo (fun w => opB (op_lss rfl rfl w) (decide_eq_true h18)) (zn (zq (zt rfl rfl (zk (zq ?_)))))
  refine zb (zq (zr (zm rfl (za rfl (zn ?_)))))
  refine zr (zm rfl (zm rfl (zm rfl ?_)))
  obtain ⟨h19, H⟩ := H
  obtain ⟨h20, H⟩ := H
  refine zo (op_index Try.underlying26 ti3 rfl rfl h19 (ltn (F0.neq hO 0 rfl) h20) (F0.psome hO 0 rfl h19 h20)) ?_
  have hobt := ost (r := Rp.int .i64) rfl 0 hO rfl F0 h19 h20 (v := .int .i64 (k1_14 : Int)) (u := (k1_14 : Int)) rfl rfl
  obtain ⟨w21, HG, tX, d9, D0⟩ := hobt
  refine zg (D0 Try.underlying3 rfl ti3 (by exact rfl) (by exact rfl)) ?_
  replace hO := tX.own
  refine zn ?_
  refine Go1.inBlock ?_
  refine zr ?_
  obtain ⟨h26, H⟩ := H
  refine zo (op_add rfl rfl (wrap_i64 h26)) (zm rfl (zn ?_))
  replace hB := hB.trans tX.fr
  exact hX1 _ H _ _ ⟨HG, ⟨rfl, rfl, rfl, trivial⟩, hO, d9, hB⟩
 replace H := ifn h18 H
 refine zo (fun w => opB (op_lss rfl rfl w) (decide_eq_false h18)) (zn (zq (zf rfl rfl ?_)))
 refine Go1.exit rfl ?_
 refine zq (zr (zm rfl (za rfl (zn ?_))))
 have hobt := freeze 0 hO rfl F0
 obtain ⟨hO1, Cv, St, Su⟩ := hobt
 replace hO := hO1; clear hO1
 refine Go1.ret1 Try.func62 rfl ?_
 replace hB := hB.trans (Owns.dropFr _ _ 0)
 exact ⟨f1_15, p4, n.toNat, (congrArg (fun nn => Value.slice p4 nn n.toNat) Su), hB.same, (St.ch (Ch.weak _ _ _)), H⟩
theorem body61 : Body Try.prog 61 := ⟨Try.f61, Try.func61, rfl, by kernel_rfl⟩
theorem walk_enumerate_text {A : List Nat} {w0 : World} {p_f : Option Addr} {c_f : Nat} {f : List Int} (hA : ∀ b ∈ A, b < w0.heap.size) (h_f : ISl (Rp.int .i64) A w0 p_f c_f f) {K : Str → Prop} (H : enumerate_text f K) :
    CallsV Try.prog 61 #[.slice p_f f.length c_f] w0 (fun v w' => ∃ (r0 : Str), v = .string (gstr r0) ∧ Same w0 w' ∧ r0.length ≤ mx ∧ K r0) := by
 refine CallsV.of (l := [.slice p_f f.length c_f]) Try.func61 rfl Try.ntmps61 rfl ?_
 have hO := Owns.start hA
 have hB := Fr.refl (bl []) w0
 unfold enumerate_text at H
 refine zq (zr (za rfl (zn (zq (zr ?_)))))
 refine zm rfl (zo (op_len Try.underlying26 rfl) ?_)
 replace h_f := h_f.ch (Ch.start A w0)
 replace H := H h_f.bd
 obtain ⟨h8, H⟩ := H
 obtain ⟨h9, H⟩ := H
 have hobt := omake (n := (f.length : Int)) (r := Rp.int .u8) (d := (0 : Int)) Try.underlying84 ti5 (fun _ _ => rfl) rfl hO h8 h9 (by decide)
 obtain ⟨w1, p2, vs3, nv, hE5, hs6, zY⟩ := hobt
 refine zg (zY rfl rfl) ?_
 replace hO := nv.own
 refine za rfl (zn (zq (zq (zr (zm rfl ?_)))))
 refine zo (op_len Try.underlying26 rfl) (zm rfl (zn (zb ?_)))
 replace h_f := h_f.ch nv.ch
 replace hB := hB.trans nv.fr
 refine Go1.loopW (S := Nat × List Int) (fun s σ w => match s with | (k1_12, b1_13) => ∃ (lB : List Value), agrees σ [(3, .slice p2 f.length f.length), (9, .slice p_f f.length c_f), (10, .int .i64 (f.length : Int)), (11, .int .i64 (k1_12 : Int))] ∧ (fun Z0 => Owns w0.heap.size w Z0 A ∧ Els (Rp.int .u8) (bl Z0 ++ A) w lB b1_13 ∧ ISl (Rp.int .i64) (bl Z0 ++ A) w p_f c_f f ∧ Fr (bl []) w0 (bl Z0) w) [.row 5 1 p2 f.length f.length lB]) H ⟨vs3, ⟨rfl, rfl, rfl, rfl, trivial⟩, hO, hE5, h_f, hB⟩ ?_
 intro X1
 refine prE fun k1_12 => fun b1_13 => ?_
 intro H hX1 σ w11
 refine exE fun lB => andE fun hag => andE fun hO => andE fun cH => andE fun h_f => fun hB => ?_
 dsimp only at H
 refine Go1.keep [(3, .slice p2 f.length f.length), (9, .slice p_f f.length c_f), (10, .int .i64 (f.length : Int)), (11, .int .i64 (k1_12 : Int))] hag ?_
 refine zq (zr ?_)
 by_cases h16 : (k1_12 : Int) < (f.length : Int)
 ·replace H := ifp h16 H
  refine zo (fun w => opB (op_lss rfl rfl w) (decide_eq_true h16)) (zn (zq (zt rfl rfl (zk (zq ?_)))))
  refine zb (zq (zr (zm rfl ?_)))
  obtain ⟨h17, H⟩ := H
  obtain ⟨h18, H⟩ := H
  refine zo (op_index Try.underlying26 ti3 rfl rfl h17 h18 (h_f.some_ h17 h18)) (zs (ldInt h_f h17 h18 Try.underlying3 rfl rfl) (za rfl (za rfl (zn (zr ?_)))))
  refine zm rfl (zm rfl (zm rfl (zo (op_conv Try.underlying3 Try.underlying5 rfl rfl) ?_)))
  obtain ⟨h19, H⟩ := H
  obtain ⟨h20, H⟩ := H
  refine zo (op_index Try.underlying84 ti5 rfl rfl h19 (ltn (cH.neq hO 0 rfl) h20) (cH.psome hO 0 rfl h19 h20)) ?_
  have hobt := ost (r := Rp.int .u8) rfl 0 hO rfl cH h19 h20 (v := .int .u8 (IntKind.u8.wrap (ix f (k1_12 : Int)))) (u := (IntKind.u8.wrap (ix f (k1_12 : Int)))) rfl rfl
  obtain ⟨w21, HG, tX, d9, D0⟩ := hobt
  refine zg (D0 Try.underlying5 rfl ti5 (by exact rfl) (by exact rfl)) ?_
  replace hO := tX.own
  refine zn ?_
  refine Go1.inBlock ?_
  refine zr ?_
  replace h_f := h_f.ch tX.ch
  refine zo (op_add rfl rfl (wrap_i64 (natbd h16 h_f.bd))) (zm rfl (zn ?_))
  replace hB := hB.trans tX.fr
  exact hX1 _ H _ _ ⟨HG, ⟨rfl, rfl, rfl, rfl, trivial⟩, hO, d9, h_f, hB⟩
 replace H := ifn h16 H
 refine zo (fun w => opB (op_lss rfl rfl w) (decide_eq_false h16)) (zn (zq (zf rfl rfl ?_)))
 refine Go1.exit rfl ?_
 refine zq (zr (zm rfl ?_))
 have hle26 := byt_le cH.bd
 refine zs (oldBytes 0 hO rfl cH Try.underlying84 Try.underlying5 Try.underlying9 rfl) (za rfl (zn ?_))
 refine Go1.ret1 Try.func61 rfl ?_
 exact ⟨byt b1_13, rfl, hB.same, hle26, H⟩
theorem body65 : Body Try.prog 65 := ⟨Try.f65, Try.func65, rfl, by kernel_rfl⟩
theorem body49 : Body Try.prog 49 := ⟨Try.f49, Try.func49, rfl, by kernel_rfl⟩
theorem walk_enumerate_begin {A : List Nat} {w0 : World} {nU : Option Addr} {nV : Nat} {a0 : List (List Int)} {a1 : Bool} (hA : ∀ b ∈ A, b < w0.heap.size) (am : ISl (Rp.sl (Rp.int .i64)) A w0 nU nV a0) {K : Option run → Int → Prop} (H : enumerate_begin a0 a1 K) :
    CallsV Try.prog 49 #[.slice nU a0.length nV, .bool a1] w0 (fun v w' => (∃ (r1 : Int), v = .tuple #[.pointer none, .int .i64 r1] ∧ Same w0 w' ∧ K none r1) ∨ (∃ (q : run), ∃ (r1 : Int), ∃ (b_q : Nat), ∃ (bm : Nat), ∃ (bn : Option Addr), ∃ (bo : Nat), ∃ (dG : List Value), ∃ (aX : Nat), ∃ (aY : Option Addr), ∃ (a7 : Nat), ∃ (dk : List Value), ∃ (aQ : Nat), ∃ (aR : Option Addr), ∃ (aS : Nat), ∃ (c5 : List Value), ∃ (bp : Nat), ∃ (bq : Option Addr), ∃ (bt : Nat), ∃ (dH : List Value), ∃ (a8 : Nat), ∃ (a9 : Option Addr), ∃ (ba : Nat), ∃ (dl : List Value), ∃ (bc : Nat), ∃ (bf : Option Addr), ∃ (bg : Nat), ∃ (dm : List Value), ∃ (eO : Nat), ∃ (db : Nat), ∃ (de : Option Addr), ∃ (dg : Nat), ∃ (fI : List Value), ∃ (cI : Nat), ∃ (cJ : Option Addr), ∃ (cK : Nat), ∃ (fe : List Value), ∃ (cL : Nat), ∃ (cM : Option Addr), ∃ (cN : Nat), ∃ (ff : List Value), v = .tuple #[.pointer (some ⟨b_q, 0, none⟩), .int .i64 r1] ∧ Same w0 w' ∧ (fun Z0 => Owns w0.heap.size w' Z0 A ∧ Els (Rp.sl (Rp.int .i64)) (bl Z0 ++ A) w' dG q.Enum.Gens ∧ Els (Rp.sl (Rp.int .i64)) (bl Z0 ++ A) w' dk q.Enum.Elems ∧ Els (Rp.int .i64) (bl Z0 ++ A) w' c5 q.Enum.Prefix ∧ Els (Rp.int .i64) (bl Z0 ++ A) w' dH q.Enum.Last ∧ Els (Rp.sl (Rp.int .i64)) (bl Z0 ++ A) w' dl q.Enum.Right ∧ Els (rpRule) (bl Z0 ++ A) w' dm q.Enum.Rules ∧ Els (Rp.str) (bl Z0 ++ A) w' fI q.words ∧ Els (Rp.int .i64) (bl Z0 ++ A) w' fe q.behind ∧ Els (Rp.int .i64) (bl Z0 ++ A) w' ff q.single ∧ K (some q) r1) [.blk b_q (.cells #[.int .i64 q.Enum.Points, .bool q.Enum.Monoid, .slice bn bm bo, .slice aY aX a7, .slice aR aQ aS, .slice bq bp bt, .slice a9 a8 ba, .slice bf bc bg, .int .i64 q.Enum.Done, .map (some eO), .slice de db dg, .slice cJ cI cK, .slice cM cL cN] 72 (0, 0)), .row 26 1 bn bm bo dG, .row 26 1 aY aX a7 dk, .row 3 1 aR aQ aS c5, .row 3 1 bq bp bt dH, .row 26 1 a9 a8 ba dl, .row 39 2 bf bc bg dm, .row 9 1 de db dg fI, .row 3 1 cJ cI cK fe, .row 3 1 cM cL cN ff, .any (mapE (fun a : List UInt8 => Value.string (gstr a)) (fun a : Int => Value.int .i64 a) eO q.number)])) := by
 refine CallsV.of (l := [.slice nU a0.length nV, .bool a1]) Try.func49 rfl Try.ntmps49 rfl ?_
 have hO := Owns.start hA
 have hB := Fr.refl (bl []) w0
 unfold enumerate_begin at H
 refine zq (zr (za rfl (za rfl (zn (zq ?_)))))
 refine zq (zr (zm rfl (zo (op_len Try.underlying22 rfl) ?_)))
 replace am := am.ch (Ch.start A w0)
 replace H := H am.bd
 by_cases h1 : (a0.length : Int) = (0 : Int)
 ·replace H := ifp h1 H
  refine zo (fun w => opB (op_eql rfl rfl w) (decide_eq_true h1)) (zm rfl (zp (zp (zp (zo (op_pickT rfl rfl rfl) ?_)))))
  refine zn (zt rfl rfl (zq (zr (za rfl (za rfl ?_)))))
  refine zn ?_
  refine Go1.ret2 Try.func49 rfl ?_
  exact Or.inl ⟨((1 : Int)), rfl, hB.same, H⟩
 replace H := ifn h1 H
 refine zo (fun w => opB (op_eql rfl rfl w) (decide_eq_false h1)) (zm rfl (zm rfl (zo (op_len Try.underlying22 rfl) ?_)))
 by_cases h2 : (6 : Int) < (a0.length : Int)
 ·replace H := ifp h2 H
  refine zo (fun w => opB (op_gtr rfl rfl w) (decide_eq_true h2)) (zo (op_pickF rfl rfl rfl) (zn (zt rfl rfl (zq (zr ?_)))))
  refine za rfl (za rfl (zn ?_))
  refine Go1.ret2 Try.func49 rfl ?_
  exact Or.inl ⟨((1 : Int)), rfl, hB.same, H⟩
 replace H := ifn h2 H
 refine zo (fun w => opB (op_gtr rfl rfl w) (decide_eq_false h2)) (zo (op_pickF rfl rfl rfl) (zn (zf rfl rfl (zk (zq ?_)))))
 refine Go1.cut [(0, .slice nU a0.length nV), (1, .bool a1)] ⟨rfl, rfl, trivial⟩ ?_
 intro σ _
 refine zr ?_
 have hobt := omakeMap (fun a : List UInt8 => Value.string (gstr a)) (fun a : Int => Value.int .i64 a) hO
 obtain ⟨w3, B4, HH, hs6, zY⟩ := hobt
 refine GoR.op zY rfl rfl ?_
 replace hO := HH.own
 refine zo (op_build Try.underlying72 ti72 (pl := [(0, 9), (9, 1), (10, 1), (11, 1), (12, 1)]) (vs := [(1, .map (some B4))]) (cs := #[.int .i64 (0 : Int), .bool false, .slice none 0 0, .slice none 0 0, .slice none 0 0, .slice none 0 0, .slice none 0 0, .slice none 0 0, .int .i64 (0 : Int), .map (some B4), .slice none 0 0, .slice none 0 0, .slice none 0 0]) (by kernel_rfl) rfl (by kernel_rfl)) ?_
 have hobt := obox (t := 72) (v := .agg #[.int .i64 (0 : Int), .bool false, .slice none 0 0, .slice none 0 0, .slice none 0 0, .slice none 0 0, .slice none 0 0, .slice none 0 0, .int .i64 (0 : Int), .map (some B4), .slice none 0 0, .slice none 0 0, .slice none 0 0]) (cs := #[.int .i64 (0 : Int), .bool false, .slice none 0 0, .slice none 0 0, .slice none 0 0, .slice none 0 0, .slice none 0 0, .slice none 0 0, .int .i64 (0 : Int), .map (some B4), .slice none 0 0, .slice none 0 0, .slice none 0 0]) hO rfl
 obtain ⟨w9, B10, F1, HI, F2⟩ := hobt
 refine zg (F2 rfl) ?_
 replace hO := F1.own
 refine za rfl (zn (zq (zr (zm rfl (zm rfl ?_)))))
 refine zm rfl ?_
 obtain ⟨h15, H⟩ := H
 obtain ⟨h16, H⟩ := H
 replace am := (am.ch HH.ch).ch F1.ch
 refine zo (op_index Try.underlying22 ti26 rfl rfl h15 h16 (am.some_ h15 h16)) ?_
 have hobt := ldSl am h15 h16
 obtain ⟨p17, c18, Dt, Sv⟩ := hobt
 refine zs (Sv Try.underlying26 rfl rfl) (zo (op_len Try.underlying26 rfl) ?_)
 replace H := H Dt.bd
 refine zm rfl (zo (op_nilCheck rfl) (zo (op_fieldAddr Try.underlying72 rfl ti29 rfl (by decide)) (zo (op_fieldAddr Try.underlying29 rfl ti3 rfl (by decide)) ?_)))
 have hobt := oblkSt2 (v := .int .i64 ((ix a0 (0 : Int)).length : Int)) (i := 0) (cs' := #[.int .i64 ((ix a0 (0 : Int)).length : Int), .bool false, .slice none 0 0, .slice none 0 0, .slice none 0 0, .slice none 0 0, .slice none 0 0, .slice none 0 0, .int .i64 (0 : Int), .map (some B4), .slice none 0 0, .slice none 0 0, .slice none 0 0]) 0 hO rfl rfl rfl rfl
 obtain ⟨w21, f0, Bv⟩ := hobt
 refine zg (Bv Try.underlying3 rfl ti3 (by exact rfl) (by exact rfl)) ?_
 replace hO := f0.own
 refine zo (op_nilCheck rfl) (zo (op_fieldAddr Try.underlying72 rfl ti29 rfl (by decide)) (zo (op_fieldAddr Try.underlying29 rfl ti4 rfl (by decide)) ?_))
 have hobt := oblkSt2 (v := .bool a1) (i := 1) (cs' := #[.int .i64 ((ix a0 (0 : Int)).length : Int), .bool a1, .slice none 0 0, .slice none 0 0, .slice none 0 0, .slice none 0 0, .slice none 0 0, .slice none 0 0, .int .i64 (0 : Int), .map (some B4), .slice none 0 0, .slice none 0 0, .slice none 0 0]) 0 hO rfl rfl rfl rfl
 obtain ⟨w24, sU, F3⟩ := hobt
 refine zg (F3 Try.underlying4 rfl ti4 (by exact rfl) (by exact rfl)) ?_
 replace hO := sU.own
 refine zn (zq (zq ?_))
 refine Go1.cut [(0, .slice nU a0.length nV), (1, .bool a1), (6, .pointer (some ⟨B10, 0, none⟩))] ⟨rfl, rfl, rfl, trivial⟩ ?_
 intro σ _
 refine zr (zm rfl (zo (op_len Try.underlying22 rfl) (zm rfl (zn (zb ?_)))))
 have jP := Stp.nil (e := 26) (r := 1) hO
 replace hO := jP.own
 have Sw := Els.nil (Rp.sl (Rp.int .i64)) (bl (.row 26 1 none 0 0 [] :: [.blk B10 (.cells #[.int .i64 ((ix a0 (0 : Int)).length : Int), .bool a1, .slice none 0 0, .slice none 0 0, .slice none 0 0, .slice none 0 0, .slice none 0 0, .slice none 0 0, .int .i64 (0 : Int), .map (some B4), .slice none 0 0, .slice none 0 0, .slice none 0 0] 72 (0, 0)), .any (mapE (fun a : List UInt8 => Value.string (gstr a)) (fun a : Int => Value.int .i64 a) B4 (([] : List (Str × Int))))]) ++ A) w24
 have Z1 := (f0.ch.trans sU.ch).trans jP.ch
 replace am := am.ch Z1
 replace hB := ((((hB.trans HH.fr).trans F1.fr).trans f0.fr).trans sU.fr).trans jP.fr
 refine Go1.loopW (S := Nat × List (List Int)) (fun s σ w => match s with | (k1_31, d_32) => ∃ (n37 : Nat), ∃ (p35 : Option Addr), ∃ (c36 : Nat), ∃ (i7 : List Value), agrees σ [(1, .bool a1), (6, .pointer (some ⟨B10, 0, none⟩)), (39, .slice nU a0.length nV), (40, .int .i64 (a0.length : Int)), (41, .int .i64 (k1_31 : Int))] ∧ (fun Z0 => Owns w0.heap.size w Z0 A ∧ Els (Rp.sl (Rp.int .i64)) (bl Z0 ++ A) w i7 d_32 ∧ ISl (Rp.sl (Rp.int .i64)) (bl Z0 ++ A) w nU nV a0 ∧ Fr (bl []) w0 (bl Z0) w) [.row 26 1 p35 n37 c36 i7, .blk B10 (.cells #[.int .i64 ((ix a0 (0 : Int)).length : Int), .bool a1, .slice p35 n37 c36, .slice none 0 0, .slice none 0 0, .slice none 0 0, .slice none 0 0, .slice none 0 0, .int .i64 (0 : Int), .map (some B4), .slice none 0 0, .slice none 0 0, .slice none 0 0] 72 (0, 0)), .any (mapE (fun a : List UInt8 => Value.string (gstr a)) (fun a : Int => Value.int .i64 a) B4 (([] : List (Str × Int))))]) H ⟨0, none, 0, [], ⟨rfl, rfl, rfl, rfl, rfl, trivial⟩, hO, Sw, am, hB⟩ ?_
 intro X1
 refine prE fun k1_31 => fun d_32 => ?_
 intro H hX1 σ w30
 refine exE fun n37 => exE fun p35 => exE fun c36 => exE fun i7 => andE fun hag => andE fun hO => andE fun aC => andE fun am => fun hB => ?_
 dsimp only at H
 refine Go1.keep [(1, .bool a1), (6, .pointer (some ⟨B10, 0, none⟩)), (39, .slice nU a0.length nV), (40, .int .i64 (a0.length : Int)), (41, .int .i64 (k1_31 : Int))] hag ?_
 refine zq (zr ?_)
 by_cases h38 : (k1_31 : Int) < (a0.length : Int)
 ·replace H := ifp h38 H
  refine zo (fun w => opB (op_lss rfl rfl w) (decide_eq_true h38)) (zn (zq (zt rfl rfl (zk (zq ?_)))))
  refine zb (zq (zr ?_))
  obtain ⟨h39, H⟩ := H
  obtain ⟨h40, H⟩ := H
  refine zo (op_index Try.underlying22 ti26 rfl rfl h39 h40 (am.some_ h39 h40)) ?_
  have hobt := ldSl am h39 h40
  obtain ⟨p41, c42, tY, Sx⟩ := hobt
  refine zs (Sx Try.underlying26 rfl rfl) (za rfl (zn (zq (zq (zr ?_)))))
  refine zm rfl (zo (op_len Try.underlying26 rfl) ?_)
  replace H := H tY.bd
  refine zm rfl (zo (op_nilCheck rfl) (zo (op_fieldAddr Try.underlying72 rfl ti29 rfl (by decide)) (zo (op_fieldAddr Try.underlying29 rfl ti3 rfl (by decide)) (zs (oblk (i := 0) 1 hO rfl rfl Try.underlying3 rfl rfl) ?_))))
  by_cases h45 : ((ix a0 (k1_31 : Int)).length : Int) = ((ix a0 (0 : Int)).length : Int)
  ·replace H := ifp h45 H
   refine zo (fun w => opB (op_neq rfl rfl w) (ndT h45)) (zm rfl (zm rfl ?_))
   refine GoR.call (op_call body60 rfl (walk_trans_Valid hO.lt tY H)) rfl rfl ?_
   rintro v50 w47 ⟨r46, rfl, HJ, H⟩
   have rT := Stp.same hO HJ
   replace hO := rT.own
   cases r46
   ·replace H := ifn Bool.false_ne_true H
    refine zo (op_not rfl) (zo (op_pickF rfl rfl rfl) (zn (zt rfl rfl (zq (zr ?_)))))
    refine za rfl (za rfl (zn ?_))
    refine Go1.ret2 Try.func49 rfl ?_
    replace hB := hB.trans rT.fr
    exact Or.inl ⟨((4 : Int)), rfl, hB.same, H⟩
   replace H := ifp rfl H
   refine zo (op_not rfl) (zo (op_pickF rfl rfl rfl) (zn (zf rfl rfl (zk ?_))))
   refine Go1.cut [(1, .bool a1), (6, .pointer (some ⟨B10, 0, none⟩)), (8, .slice p41 ((ix a0 (k1_31 : Int)).length) c42), (39, .slice nU a0.length nV), (40, .int .i64 (a0.length : Int)), (41, .int .i64 (k1_31 : Int))] ⟨rfl, rfl, rfl, rfl, rfl, rfl, trivial⟩ ?_
   intro σ _
   refine Go1.drawS 1 [(0, .pure), (1, .pure), (2, .pure), (3, .pure), (4, .pure), (5, .stable), (6, .pure), (7, .loud), (8, .loud), (9, .last), (10, .pure), (11, .pure), (12, .pure), (13, .last)] mixed (by kernel_rfl) ?_
   intro w52 Sy
   have oX := Stp.same hO Sy
   replace hO := oX.own
   refine GoQ.pure rfl (op_move rfl) rfl rfl ?_
   refine GoQ.pure rfl (op_move rfl) rfl rfl ?_
   refine GoQ.pure rfl (op_nilCheck rfl) rfl rfl ?_
   refine GoQ.pure rfl (op_fieldAddr Try.underlying72 rfl ti29 rfl (by decide)) rfl rfl ?_
   refine GoQ.pure rfl (op_fieldAddr Try.underlying29 rfl ti22 rfl (by decide)) rfl rfl ?_
   refine GoQ.stable rfl (oblk (i := 2) 1 hO rfl rfl Try.underlying22 rfl rfl) rfl rfl ?_
   refine GoQ.pure rfl (op_move rfl) rfl rfl ?_
   replace tY := (tY.ch rT.ch).ch oX.ch
   refine GoQ.call rfl (op_call body64 rfl (walk_slices_Clone_int hO.lt tY H)) (fun v w hr => by obtain ⟨_, _, _, _, _, _, hs, _, _, _⟩ := hr; assumption) rfl rfl ?_
   rintro v60 w57 ⟨r55, Jd, EJ, EK, VQ, rfl, J0, hN59, HK, H⟩
   have xE := Stp.more hO J0 hN59
   replace hO := xE.own
   replace HK := HK.ch (Ch.assoc _ _ _ _)
   have hobt := freeze 0 hO rfl HK
   obtain ⟨hO1, HL, Bw, Sz⟩ := hobt
   replace hO := hO1; clear hO1
   have hobt := obuild (r := Rp.sl (Rp.int .i64)) (n := 1) (parts := [(0, .slice EJ Jd EK)]) (vs := [.slice EJ Jd EK]) (xs := [r55]) rfl Try.underlying22 ti26 hO (by decide) (by kernel_rfl) (Els.cons rfl ⟨EJ, EK, congrArg some (congrArg (fun nn => Value.slice EJ nn EK) Sz), Bw⟩ (Els.nil _ _ _) (by simp [mx])) rfl
   obtain ⟨w66, p67, mf, q8, SA, F4⟩ := hobt
   refine GoQ.loud rfl (F4 rfl) SA rfl rfl ?_
   replace hO := mf.own
   have hobt := freeze 0 hO rfl q8
   obtain ⟨hO1, zj, yd, HM⟩ := hobt
   replace hO := hO1; clear hO1
   obtain ⟨h76, H⟩ := H
   have Z2 := ((((rT.ch.trans oX.ch).trans xE.ch).trans HL).trans mf.ch).trans zj
   replace aC := aC.ch Z2
   have hobt := oapp Try.underlying22 ti26 rfl 0 hO rfl aC yd HM h76 (by decide)
   obtain ⟨w77, p78, c79, tm, CW, HN, NA⟩ := hobt
   refine GoQ.last rfl (NA (by exact rfl) (by exact rfl)) rfl rfl ?_
   replace hO := CW.own
   refine GoQ.pure rfl (op_nilCheck rfl) rfl rfl ?_
   refine GoQ.pure rfl (op_fieldAddr Try.underlying72 rfl ti29 rfl (by decide)) rfl rfl ?_
   refine GoQ.pure rfl (op_fieldAddr Try.underlying29 rfl ti22 rfl (by decide)) rfl rfl ?_
   have hobt := oblkSt2 (v := .slice p78 (n37 + 1) c79) (i := 2) (cs' := #[.int .i64 ((ix a0 (0 : Int)).length : Int), .bool a1, .slice p78 (n37 + 1) c79, .slice none 0 0, .slice none 0 0, .slice none 0 0, .slice none 0 0, .slice none 0 0, .int .i64 (0 : Int), .map (some B4), .slice none 0 0, .slice none 0 0, .slice none 0 0]) 1 hO rfl rfl rfl rfl
   obtain ⟨w85, ii, NB⟩ := hobt
   refine GoQ.last rfl (NB Try.underlying22 rfl ti22 (by exact rfl) (by exact rfl)) rfl rfl ?_
   replace hO := ii.own
   refine GoQ.nil ?_
   refine Go1.inBlock ?_
   refine zr ?_
   replace am := ((am.ch Z2).ch CW.ch).ch ii.ch
   refine zo (op_add rfl rfl (wrap_i64 (natbd h38 am.bd))) (zm rfl (zn ?_))
   replace HN := HN.ch ii.ch
   replace hB := (((((((hB.trans rT.fr).trans oX.fr).trans xE.fr).trans (Owns.dropFr _ _ 0)).trans mf.fr).trans (Owns.dropFr _ _ 0)).trans CW.fr).trans ii.fr
   exact hX1 _ H _ _ ⟨n37 + 1, p78, c79, tm, ⟨rfl, rfl, rfl, rfl, rfl, trivial⟩, hO, HN, am, hB⟩
  replace H := ifn h45 H
  refine zo (fun w => opB (op_neq rfl rfl w) (ndF h45)) (zm rfl (zp (zp (zp (zo (op_pickT rfl rfl rfl) ?_)))))
  refine zn (zt rfl rfl (zq ?_))
  refine Go1.cut [] trivial ?_
  intro σ _
  refine zr (za rfl (za rfl (zn ?_)))
  refine Go1.ret2 Try.func49 rfl ?_
  exact Or.inl ⟨((4 : Int)), rfl, hB.same, H⟩
 replace H := ifn h38 H
 refine zo (fun w => opB (op_lss rfl rfl w) (decide_eq_false h38)) (zn (zq (zf rfl rfl ?_)))
 refine Go1.exit rfl ?_
 refine zq (zr (za rfl (zn (zq (zq ?_)))))
 refine zr (zm rfl (zn ?_))
 cases a1
 ·replace H := ifn Bool.false_ne_true H
  refine zf rfl rfl (zk (zq (zq (zr (zm rfl ?_)))))
  refine zo (op_nilCheck rfl) (zo (op_fieldAddr Try.underlying72 rfl ti29 rfl (by decide)) (zo (op_fieldAddr Try.underlying29 rfl ti22 rfl (by decide)) (zs (oblk (i := 2) 1 hO rfl rfl Try.underlying22 rfl rfl) (zo (op_lenN Try.underlying22 rfl (aC.neq hO 0 rfl)) (zm rfl ?_)))))
  refine zn (zb ?_)
  have EL := Stp.nil (e := 26) (r := 1) hO
  replace hO := EL.own
  have ye := Els.nil (Rp.sl (Rp.int .i64)) (bl (.row 26 1 none 0 0 [] :: [.row 26 1 p35 n37 c36 i7, .blk B10 (.cells #[.int .i64 ((ix a0 (0 : Int)).length : Int), .bool false, .slice p35 n37 c36, .slice none 0 0, .slice none 0 0, .slice none 0 0, .slice none 0 0, .slice none 0 0, .int .i64 (0 : Int), .map (some B4), .slice none 0 0, .slice none 0 0, .slice none 0 0] 72 (0, 0)), .any (mapE (fun a : List UInt8 => Value.string (gstr a)) (fun a : Int => Value.int .i64 a) B4 (([] : List (Str × Int))))]) ++ A) w30
  have qw := Stp.nil (e := 3) (r := 1) hO
  replace hO := qw.own
  have nW := Els.nil (Rp.int .i64) (bl (.row 3 1 none 0 0 [] :: [.row 26 1 none 0 0 [], .row 26 1 p35 n37 c36 i7, .blk B10 (.cells #[.int .i64 ((ix a0 (0 : Int)).length : Int), .bool false, .slice p35 n37 c36, .slice none 0 0, .slice none 0 0, .slice none 0 0, .slice none 0 0, .slice none 0 0, .int .i64 (0 : Int), .map (some B4), .slice none 0 0, .slice none 0 0, .slice none 0 0] 72 (0, 0)), .any (mapE (fun a : List UInt8 => Value.string (gstr a)) (fun a : Int => Value.int .i64 a) B4 (([] : List (Str × Int))))]) ++ A) w30
  have rU := Stp.nil (e := 3) (r := 1) hO
  replace hO := rU.own
  have z3 := Els.nil (Rp.int .i64) (bl (.row 3 1 none 0 0 [] :: [.row 3 1 none 0 0 [], .row 26 1 none 0 0 [], .row 26 1 p35 n37 c36 i7, .blk B10 (.cells #[.int .i64 ((ix a0 (0 : Int)).length : Int), .bool false, .slice p35 n37 c36, .slice none 0 0, .slice none 0 0, .slice none 0 0, .slice none 0 0, .slice none 0 0, .int .i64 (0 : Int), .map (some B4), .slice none 0 0, .slice none 0 0, .slice none 0 0] 72 (0, 0)), .any (mapE (fun a : List UInt8 => Value.string (gstr a)) (fun a : Int => Value.int .i64 a) B4 (([] : List (Str × Int))))]) ++ A) w30
  have Bx := Stp.nil (e := 39) (r := 2) hO
  replace hO := Bx.own
  have Du := Els.nil (rpRule) (bl (.row 39 2 none 0 0 [] :: [.row 3 1 none 0 0 [], .row 3 1 none 0 0 [], .row 26 1 none 0 0 [], .row 26 1 p35 n37 c36 i7, .blk B10 (.cells #[.int .i64 ((ix a0 (0 : Int)).length : Int), .bool false, .slice p35 n37 c36, .slice none 0 0, .slice none 0 0, .slice none 0 0, .slice none 0 0, .slice none 0 0, .int .i64 (0 : Int), .map (some B4), .slice none 0 0, .slice none 0 0, .slice none 0 0] 72 (0, 0)), .any (mapE (fun a : List UInt8 => Value.string (gstr a)) (fun a : Int => Value.int .i64 a) B4 (([] : List (Str × Int))))]) ++ A) w30
  have ia := Stp.nil (e := 9) (r := 1) hO
  replace hO := ia.own
  have D1 := Els.nil (Rp.str) (bl (.row 9 1 none 0 0 [] :: [.row 39 2 none 0 0 [], .row 3 1 none 0 0 [], .row 3 1 none 0 0 [], .row 26 1 none 0 0 [], .row 26 1 p35 n37 c36 i7, .blk B10 (.cells #[.int .i64 ((ix a0 (0 : Int)).length : Int), .bool false, .slice p35 n37 c36, .slice none 0 0, .slice none 0 0, .slice none 0 0, .slice none 0 0, .slice none 0 0, .int .i64 (0 : Int), .map (some B4), .slice none 0 0, .slice none 0 0, .slice none 0 0] 72 (0, 0)), .any (mapE (fun a : List UInt8 => Value.string (gstr a)) (fun a : Int => Value.int .i64 a) B4 (([] : List (Str × Int))))]) ++ A) w30
  have iC := Stp.nil (e := 3) (r := 1) hO
  replace hO := iC.own
  have F5 := Els.nil (Rp.int .i64) (bl (.row 3 1 none 0 0 [] :: [.row 9 1 none 0 0 [], .row 39 2 none 0 0 [], .row 3 1 none 0 0 [], .row 3 1 none 0 0 [], .row 26 1 none 0 0 [], .row 26 1 p35 n37 c36 i7, .blk B10 (.cells #[.int .i64 ((ix a0 (0 : Int)).length : Int), .bool false, .slice p35 n37 c36, .slice none 0 0, .slice none 0 0, .slice none 0 0, .slice none 0 0, .slice none 0 0, .int .i64 (0 : Int), .map (some B4), .slice none 0 0, .slice none 0 0, .slice none 0 0] 72 (0, 0)), .any (mapE (fun a : List UInt8 => Value.string (gstr a)) (fun a : Int => Value.int .i64 a) B4 (([] : List (Str × Int))))]) ++ A) w30
  have wE := Stp.nil (e := 3) (r := 1) hO
  replace hO := wE.own
  have NC := Els.nil (Rp.int .i64) (bl (.row 3 1 none 0 0 [] :: [.row 3 1 none 0 0 [], .row 9 1 none 0 0 [], .row 39 2 none 0 0 [], .row 3 1 none 0 0 [], .row 3 1 none 0 0 [], .row 26 1 none 0 0 [], .row 26 1 p35 n37 c36 i7, .blk B10 (.cells #[.int .i64 ((ix a0 (0 : Int)).length : Int), .bool false, .slice p35 n37 c36, .slice none 0 0, .slice none 0 0, .slice none 0 0, .slice none 0 0, .slice none 0 0, .int .i64 (0 : Int), .map (some B4), .slice none 0 0, .slice none 0 0, .slice none 0 0] 72 (0, 0)), .any (mapE (fun a : List UInt8 => Value.string (gstr a)) (fun a : Int => Value.int .i64 a) B4 (([] : List (Str × Int))))]) ++ A) w30
  replace F5 := F5.ch wE.ch
  replace D1 := (D1.ch iC.ch).ch wE.ch
  have Z3 := (ia.ch.trans iC.ch).trans wE.ch
  replace Du := Du.ch Z3
  have Z4 := ((Bx.ch.trans ia.ch).trans iC.ch).trans wE.ch
  replace z3 := z3.ch Z4
  have Z5 := (((rU.ch.trans Bx.ch).trans ia.ch).trans iC.ch).trans wE.ch
  replace nW := nW.ch Z5
  have Z6 := ((((qw.ch.trans rU.ch).trans Bx.ch).trans ia.ch).trans iC.ch).trans wE.ch
  replace ye := ye.ch Z6
  have Z7 := (((((EL.ch.trans qw.ch).trans rU.ch).trans Bx.ch).trans ia.ch).trans iC.ch).trans wE.ch
  replace aC := aC.ch Z7
  replace hB := ((((((hB.trans EL.fr).trans qw.fr).trans rU.fr).trans Bx.fr).trans ia.fr).trans iC.fr).trans wE.fr
  refine Go1.loopW (S := Nat × List Int × List Int × List Str × List Rule × List Int × List Int × List (List Int) × (List (Str × Int))) (fun s σ w => match s with | (k2_110, d_111, d_117, d_123, d_129, d_135, d_141, d_147, m2_153) => ∃ (lj : Nat), ∃ (nw : Option Addr), ∃ (ny : Nat), ∃ (vo : List Value), ∃ (lC : Nat), ∃ (mh : Option Addr), ∃ (mS : Nat), ∃ (t0 : List Value), ∃ (lD : Nat), ∃ (nA : Option Addr), ∃ (nB : Nat), ∃ (t3 : List Value), ∃ (lE : Nat), ∃ (mT : Option Addr), ∃ (mU : Nat), ∃ (t4 : List Value), ∃ (lF : Nat), ∃ (nX : Option Addr), ∃ (nY : Nat), ∃ (t5 : List Value), ∃ (lG : Nat), ∃ (oP : Option Addr), ∃ (oQ : Nat), ∃ (t6 : List Value), ∃ (lH : Nat), ∃ (pD : Option Addr), ∃ (pE : Nat), ∃ (t7 : List Value), agrees σ [(6, .pointer (some ⟨B10, 0, none⟩)), (9, .int .i64 (-1 : Int)), (85, .slice p35 n37 c36), (86, .int .i64 (d_32.length : Int)), (87, .int .i64 (k2_110 : Int))] ∧ (fun Z0 => Owns w0.heap.size w Z0 A ∧ Els (Rp.int .i64) (bl Z0 ++ A) w vo d_111 ∧ Els (Rp.int .i64) (bl Z0 ++ A) w t0 d_117 ∧ Els (Rp.str) (bl Z0 ++ A) w t3 d_123 ∧ Els (rpRule) (bl Z0 ++ A) w t4 d_129 ∧ Els (Rp.int .i64) (bl Z0 ++ A) w t5 d_135 ∧ Els (Rp.int .i64) (bl Z0 ++ A) w t6 d_141 ∧ Els (Rp.sl (Rp.int .i64)) (bl Z0 ++ A) w t7 d_147 ∧ Els (Rp.sl (Rp.int .i64)) (bl Z0 ++ A) w i7 d_32 ∧ Fr (bl []) w0 (bl Z0) w) [.row 3 1 nw lj ny vo, .row 3 1 mh lC mS t0, .row 9 1 nA lD nB t3, .row 39 2 mT lE mU t4, .row 3 1 nX lF nY t5, .row 3 1 oP lG oQ t6, .row 26 1 pD lH pE t7, .row 26 1 p35 n37 c36 i7, .blk B10 (.cells #[.int .i64 ((ix a0 (0 : Int)).length : Int), .bool false, .slice p35 n37 c36, .slice pD lH pE, .slice oP lG oQ, .slice nX lF nY, .slice none 0 0, .slice mT lE mU, .int .i64 (0 : Int), .map (some B4), .slice nA lD nB, .slice mh lC mS, .slice nw lj ny] 72 (0, 0)), .any (mapE (fun a : List UInt8 => Value.string (gstr a)) (fun a : Int => Value.int .i64 a) B4 m2_153)]) H ⟨0, none, 0, [], 0, none, 0, [], 0, none, 0, [], 0, none, 0, [], 0, none, 0, [], 0, none, 0, [], 0, none, 0, [], ⟨rfl, rfl, rfl, rfl, rfl, trivial⟩, hO, NC, F5, D1, Du, z3, nW, ye, aC, hB⟩ ?_
  intro X2
  refine prE fun k2_110 => prE fun d_111 => prE fun d_117 => prE fun d_123 => prE fun d_129 => prE fun d_135 => prE fun d_141 => prE fun d_147 => fun m2_153 => ?_
  intro H hX2 σ SB
  refine exE fun lj => exE fun nw => exE fun ny => exE fun vo => exE fun lC => exE fun mh => exE fun mS => exE fun t0 => exE fun lD => exE fun nA => exE fun nB => exE fun t3 => exE fun lE => exE fun mT => exE fun mU => exE fun t4 => exE fun lF => exE fun nX => exE fun nY => exE fun t5 => exE fun lG => exE fun oP => exE fun oQ => exE fun t6 => exE fun lH => exE fun pD => exE fun pE => exE fun t7 => andE fun hag => andE fun hO => andE fun dM => andE fun dV => andE fun eg => andE fun dW => andE fun fo => andE fun fJ => andE fun gh => andE fun aC => fun hB => ?_
  dsimp only at H
  refine Go1.keep [(6, .pointer (some ⟨B10, 0, none⟩)), (9, .int .i64 (-1 : Int)), (85, .slice p35 n37 c36), (86, .int .i64 (d_32.length : Int)), (87, .int .i64 (k2_110 : Int))] hag ?_
  refine zq (zr ?_)
  by_cases Ej : (k2_110 : Int) < (d_32.length : Int)
  ·replace H := ifp Ej H
   refine zo (fun w => opB (op_lss rfl rfl w) (decide_eq_true Ej)) (zn (zq (zt rfl rfl (zk (zq ?_)))))
   refine zb (zq (zr (zm rfl ?_)))
   obtain ⟨Dv, H⟩ := H
   obtain ⟨Dw, H⟩ := H
   refine zo (op_index Try.underlying22 ti26 rfl rfl Dv (ltn (aC.neq hO 7 rfl) Dw) (aC.psome hO 7 rfl Dv Dw)) ?_
   have hobt := oldSl 7 hO rfl aC Dv Dw
   obtain ⟨J1, J2, eo, ND⟩ := hobt
   refine zs (ND Try.underlying26 rfl rfl) (za rfl (za rfl (zn (zq (zr ?_)))))
   refine zm rfl ?_
   obtain ⟨SC, H⟩ := H
   refine zo (op_add rfl rfl (wrap_i64 SC)) (zo (op_conv Try.underlying3 Try.underlying21 rfl rfl) ?_)
   obtain ⟨Dx, H⟩ := H
   obtain ⟨Fi, H⟩ := H
   refine zo (op_convRS Try.underlying21 Try.underlying9 rfl Dx Fi) (za rfl (zn (zq ?_)))
   refine Go1.drawS 0 [(0, .pure), (1, .pure), (2, .pure), (3, .stable), (4, .pure), (5, .loud), (6, .stable), (7, .pure), (8, .pure), (9, .pure), (10, .pure), (11, .pure)] mixed (by kernel_rfl) ?_
   intro WN NE
   have kT := Stp.same hO NE
   replace hO := kT.own
   refine GoQ.pure rfl (op_move rfl) rfl rfl ?_
   refine GoQ.pure rfl (op_nilCheck rfl) rfl rfl ?_
   refine GoQ.pure rfl (op_fieldAddr Try.underlying72 rfl ti69 rfl (by decide)) rfl rfl ?_
   refine GoQ.stable rfl (oblk (i := 9) 8 hO rfl rfl Try.underlying69 rfl rfl) rfl rfl ?_
   refine GoQ.pure rfl (op_move rfl) rfl rfl ?_
   replace eo := eo.ch kT.ch
   refine GoQ.call rfl (op_call body61 rfl (walk_enumerate_text hO.lt eo H)) (fun v w hr => by obtain ⟨_, _, hs, _, _⟩ := hr; assumption) rfl rfl ?_
   rintro SD J3 ⟨r167, rfl, F6, VG, H⟩
   have gW := Stp.same hO F6
   replace hO := gW.own
   by_cases Cw : mhas m2_153 r167 = true
   ·replace H := ifp Cw H
    refine GoQ.stable rfl (olookT (a := r167) (MK.str Try.underlying9) 9 hO rfl Try.underlying69 rfl rfl Cw) rfl rfl ?_
    refine GoQ.pure rfl (op_move rfl) rfl rfl ?_
    refine GoQ.pure rfl (op_extract rfl rfl) rfl rfl ?_
    refine GoQ.pure rfl (op_extract rfl rfl) rfl rfl ?_
    refine GoQ.pure rfl (op_assign rfl) rfl rfl ?_
    refine GoQ.pure rfl (op_assign rfl) rfl rfl ?_
    refine GoQ.nil ?_
    refine zq (zq ?_)
    refine Go1.cut [(6, .pointer (some ⟨B10, 0, none⟩)), (9, .int .i64 (-1 : Int)), (10, .int .i64 (k2_110 : Int)), (11, .slice J1 ((ix d_32 (k2_110 : Int)).length) J2), (12, .string (gstr (chr (IntKind.i32.wrap ((97 : Int) + (k2_110 : Int)))))), (13, .int .i64 (mgt m2_153 r167)), (14, .bool true), (85, .slice p35 n37 c36), (86, .int .i64 (d_32.length : Int)), (87, .int .i64 (k2_110 : Int))] ⟨rfl, rfl, rfl, rfl, rfl, rfl, rfl, rfl, rfl, rfl, trivial⟩ ?_
    intro σ _
    refine zr (zm rfl (zn (zt rfl rfl ?_)))
    refine Go1.drawS 5 [(0, .pure), (1, .pure), (2, .pure), (3, .pure), (4, .pure), (5, .stable), (6, .pure), (7, .pure), (8, .pure), (9, .pure), (10, .stable), (11, .pure), (12, .pure), (13, .stable), (14, .pure), (15, .loud), (16, .last), (17, .pure), (18, .pure), (19, .pure), (20, .last)] mixed (by kernel_rfl) ?_
    intro SE F7
    have vO := Stp.same hO F7
    replace hO := vO.own
    refine GoQ.pure rfl (op_move rfl) rfl rfl ?_
    refine GoQ.pure rfl (op_move rfl) rfl rfl ?_
    refine GoQ.pure rfl (op_nilCheck rfl) rfl rfl ?_
    refine GoQ.pure rfl (op_fieldAddr Try.underlying72 rfl ti29 rfl (by decide)) rfl rfl ?_
    refine GoQ.pure rfl (op_fieldAddr Try.underlying29 rfl ti27 rfl (by decide)) rfl rfl ?_
    refine GoQ.stable rfl (oblk (i := 7) 8 hO rfl rfl Try.underlying27 rfl rfl) rfl rfl ?_
    refine GoQ.pure rfl (op_move rfl) rfl rfl ?_
    refine GoQ.pure rfl (op_move rfl) rfl rfl ?_
    refine GoQ.pure rfl (op_nilCheck rfl) rfl rfl ?_
    refine GoQ.pure rfl (op_fieldAddr Try.underlying72 rfl ti70 rfl (by decide)) rfl rfl ?_
    refine GoQ.stable rfl (oblk (i := 10) 8 hO rfl rfl Try.underlying70 rfl rfl) rfl rfl ?_
    refine GoQ.pure rfl (op_move rfl) rfl rfl ?_
    obtain ⟨AR, H⟩ := H
    obtain ⟨F8, H⟩ := H
    have Z8 := (kT.ch.trans gW.ch).trans vO.ch
    replace eg := eg.ch Z8
    refine GoQ.pure rfl (op_index Try.underlying70 ti9 rfl rfl AR (ltn (eg.neq hO 2 rfl) F8) (eg.psome hO 2 rfl AR F8)) rfl rfl ?_
    refine GoQ.stable rfl (oldStr 2 hO rfl eg AR F8 Try.underlying9 rfl rfl) rfl rfl ?_
    have hle179 := Els.str_le eg AR F8
    refine GoQ.pure rfl (op_build Try.underlying39 ti39 (pl := [(0, 1), (1, 1)]) (vs := [(0, .string (gstr (chr (IntKind.i32.wrap ((97 : Int) + (k2_110 : Int)))))), (1, .string (gstr (ix d_123 (mgt m2_153 r167))))]) (cs := #[.string (gstr (chr (IntKind.i32.wrap ((97 : Int) + (k2_110 : Int))))), .string (gstr (ix d_123 (mgt m2_153 r167)))]) (by kernel_rfl) rfl (by kernel_rfl)) rfl rfl ?_
    have hobt := obuildN (r := rpRule) (n := 1) (parts := [(0, .agg #[.string (gstr (chr (IntKind.i32.wrap ((97 : Int) + (k2_110 : Int))))), .string (gstr (ix d_123 (mgt m2_153 r167)))])]) (vs := [.string (gstr (chr (IntKind.i32.wrap ((97 : Int) + (k2_110 : Int))))), .string (gstr (ix d_123 (mgt m2_153 r167)))]) (xs := [(⟨chr (IntKind.i32.wrap ((97 : Int) + (k2_110 : Int))), ix d_123 (mgt m2_153 r167)⟩ : Rule)]) Try.underlying27 ti39 hO (by decide) (by decide) (by kernel_rfl) (Els.flat1 (⟨chr (IntKind.i32.wrap ((97 : Int) + (k2_110 : Int))), ix d_123 (mgt m2_153 r167)⟩ : Rule) ⟨(chr_le _), hle179⟩) rfl
    obtain ⟨HO, WO, vP, NF, NG, J4⟩ := hobt
    refine GoQ.loud rfl (J4 rfl) NG rfl rfl ?_
    replace hO := vP.own
    have hobt := freeze 0 hO rfl NF
    obtain ⟨hO1, yo, vp, F9⟩ := hobt
    dsimp only [eS, eZ] at hO1 yo vp
    replace hB := ((((hB.trans kT.fr).trans gW.fr).trans vO.fr).trans vP.fr).trans (Owns.dropFr _ _ 0)
    dsimp only [eS, eZ] at hB
    replace hO := hO1; clear hO1
    obtain ⟨SF, H⟩ := H
    replace dW := ((dW.ch Z8).ch vP.ch).ch yo
    have hobt := oapp Try.underlying27 ti39 rfl 3 hO rfl dW vp F9 SF (by decide)
    obtain ⟨SG, Ga, Gb, NH, uy, wP, J5⟩ := hobt
    dsimp only [sS, sZ] at uy wP
    refine GoQ.last rfl (J5 (by exact rfl) (by exact rfl)) rfl rfl ?_
    replace hO := uy.own
    refine GoQ.pure rfl (op_nilCheck rfl) rfl rfl ?_
    refine GoQ.pure rfl (op_fieldAddr Try.underlying72 rfl ti29 rfl (by decide)) rfl rfl ?_
    refine GoQ.pure rfl (op_fieldAddr Try.underlying29 rfl ti27 rfl (by decide)) rfl rfl ?_
    have hobt := oblkSt2 (v := .slice Ga (lE + 1) Gb) (i := 7) (cs' := #[.int .i64 ((ix a0 (0 : Int)).length : Int), .bool false, .slice p35 n37 c36, .slice pD lH pE, .slice oP lG oQ, .slice nX lF nY, .slice none 0 0, .slice Ga (lE + 1) Gb, .int .i64 (0 : Int), .map (some B4), .slice nA lD nB, .slice mh lC mS, .slice nw lj ny]) 8 hO rfl rfl rfl rfl
    obtain ⟨SJ, tn, Fj⟩ := hobt
    dsimp only [sS, sZ] at tn
    refine GoQ.last rfl (Fj Try.underlying27 rfl ti27 (by exact rfl) (by exact rfl)) rfl rfl ?_
    replace hO := tn.own
    refine GoQ.nil ?_
    refine Go1.cut [(6, .pointer (some ⟨B10, 0, none⟩)), (9, .int .i64 (-1 : Int)), (13, .int .i64 (mgt m2_153 r167)), (85, .slice p35 n37 c36), (86, .int .i64 (d_32.length : Int)), (87, .int .i64 (k2_110 : Int))] ⟨rfl, rfl, rfl, rfl, rfl, rfl, trivial⟩ ?_
    intro σ _
    refine zr (zm rfl (zm rfl (zo (op_nilCheck rfl) (zo (op_fieldAddr Try.underlying72 rfl ti26 rfl (by decide)) (zs (oblk (i := 12) 8 hO rfl rfl Try.underlying26 rfl rfl) ?_)))))
    refine zm rfl ?_
    have hobt := obuild (r := Rp.int .i64) (n := 1) (parts := [(0, .int .i64 (mgt m2_153 r167))]) (vs := [.int .i64 (mgt m2_153 r167)]) (xs := [(mgt m2_153 r167)]) rfl Try.underlying26 ti3 hO (by decide) (by kernel_rfl) (Els.cons rfl rfl (Els.nil _ _ _) (by simp [mx])) rfl
    obtain ⟨WP, WQ, uz, NI, VV, J6⟩ := hobt
    refine zg (J6 rfl) ?_
    replace hO := uz.own
    have hobt := freeze 0 hO rfl NI
    obtain ⟨hO1, xF, CX, NJ⟩ := hobt
    dsimp only [eS, eZ] at hO1 xF CX
    replace hB := (((hB.trans uy.fr).trans tn.fr).trans uz.fr).trans (Owns.dropFr _ _ 0)
    dsimp only [eS, eZ] at hB
    replace hO := hO1; clear hO1
    obtain ⟨Fk, H⟩ := H
    have Z9 := (((((Z8.trans vP.ch).trans yo).trans uy.ch).trans tn.ch).trans uz.ch).trans xF
    replace dM := dM.ch Z9
    have hobt := oapp Try.underlying26 ti3 rfl 0 hO rfl dM CX NJ Fk (by decide)
    obtain ⟨SK, HP, HQ, NK, tp, EM, J7⟩ := hobt
    dsimp only [sS, sZ] at tp EM
    refine zg (J7 (by exact rfl) (by exact rfl)) ?_
    replace hO := tp.own
    refine zo (op_nilCheck rfl) (zo (op_fieldAddr Try.underlying72 rfl ti26 rfl (by decide)) ?_)
    have hobt := oblkSt2 (v := .slice HP (lj + 1) HQ) (i := 12) (cs' := #[.int .i64 ((ix a0 (0 : Int)).length : Int), .bool false, .slice p35 n37 c36, .slice pD lH pE, .slice oP lG oQ, .slice nX lF nY, .slice none 0 0, .slice Ga (lE + 1) Gb, .int .i64 (0 : Int), .map (some B4), .slice nA lD nB, .slice mh lC mS, .slice HP (lj + 1) HQ]) 8 hO rfl rfl rfl rfl
    obtain ⟨SM, gO, Fm⟩ := hobt
    dsimp only [sS, sZ] at gO
    refine zg (Fm Try.underlying26 rfl ti26 (by exact rfl) (by exact rfl)) ?_
    replace hO := gO.own
    refine zn ?_
    refine Go1.inBlock ?_
    refine zr ?_
    replace aC := ((aC.ch Z9).ch tp.ch).ch gO.ch
    refine zo (op_add rfl rfl (wrap_i64 (natbd Ej aC.bd))) (zm rfl (zn ?_))
    replace EM := EM.ch gO.ch
    replace hB := (hB.trans tp.fr).trans gO.fr
    have Z10 := (((tn.ch.trans uz.ch).trans xF).trans tp.ch).trans gO.ch
    replace wP := wP.ch Z10
    have Z11 := ((((((vP.ch.trans yo).trans uy.ch).trans tn.ch).trans uz.ch).trans xF).trans tp.ch).trans gO.ch
    replace eg := eg.ch Z11
    have Z12 := (Z9.trans tp.ch).trans gO.ch
    replace dV := dV.ch Z12
    replace fo := fo.ch Z12
    replace fJ := fJ.ch Z12
    replace gh := gh.ch Z12
    exact hX2 _ H _ _ ⟨lj + 1, HP, HQ, NK, lC, mh, mS, t0, lD, nA, nB, t3, lE + 1, Ga, Gb, NH, lF, nX, nY, t5, lG, oP, oQ, t6, lH, pD, pE, t7, ⟨rfl, rfl, rfl, rfl, rfl, trivial⟩, hO, EM, dV, eg, wP, fo, fJ, gh, aC, hB⟩
   replace H := ifn Cw H
   refine GoQ.stable rfl (olookF (a := r167) (MK.str Try.underlying9) 9 hO rfl Try.underlying69 ti3 rfl rfl Cw) rfl rfl ?_
   refine GoQ.pure rfl (op_move rfl) rfl rfl ?_
   refine GoQ.pure rfl (op_extract rfl rfl) rfl rfl ?_
   refine GoQ.pure rfl (op_extract rfl rfl) rfl rfl ?_
   refine GoQ.pure rfl (op_assign rfl) rfl rfl ?_
   refine GoQ.pure rfl (op_assign rfl) rfl rfl ?_
   refine GoQ.nil ?_
   refine zq (zq (zr (zm rfl (zn (zf rfl rfl ?_)))))
   refine Go1.cut [(6, .pointer (some ⟨B10, 0, none⟩)), (9, .int .i64 (-1 : Int)), (10, .int .i64 (k2_110 : Int)), (11, .slice J1 ((ix d_32 (k2_110 : Int)).length) J2), (12, .string (gstr (chr (IntKind.i32.wrap ((97 : Int) + (k2_110 : Int)))))), (85, .slice p35 n37 c36), (86, .int .i64 (d_32.length : Int)), (87, .int .i64 (k2_110 : Int))] ⟨rfl, rfl, rfl, rfl, rfl, rfl, rfl, rfl, trivial⟩ ?_
   intro σ _
   refine zr (zm rfl (zm rfl ?_))
   replace eo := eo.ch gW.ch
   refine GoR.call (op_call body64 rfl (walk_slices_Clone_int hO.lt eo H)) rfl rfl ?_
   rintro WR WS ⟨r224, Cx, yS, yT, VH, rfl, NL, hN228, yp, H⟩
   have uA := Stp.more hO NL hN228
   dsimp only [List.cons_append, List.nil_append] at uA
   replace hO := uA.own
   refine zm rfl (zm rfl (zm rfl (zm rfl ?_)))
   refine GoR.inl (vs := [.pointer (some ⟨B10, 0, none⟩), .slice yS Cx yT, .int .i64 (-1 : Int), .int .i64 (k2_110 : Int), .string (gstr (chr (IntKind.i32.wrap ((97 : Int) + (k2_110 : Int))))), .int .i64 (-1 : Int)]) (caps := []) rfl rfl body65 Try.func65 rfl Try.ntmps65 rfl rfl rfl ?_
   intro RhR232 hR232
   refine zq (zr (za rfl (zn (zq (zr ?_)))))
   refine zm rfl (zo (op_nilCheck rfl) (zo (op_fieldAddr Try.underlying72 rfl ti29 rfl (by decide)) (zo (op_fieldAddr Try.underlying29 rfl ti22 rfl (by decide)) (zs (oblk (i := 3) 9 hO rfl rfl Try.underlying22 rfl rfl) ?_))))
   have Z13 := (kT.ch.trans gW.ch).trans uA.ch
   replace gh := gh.ch Z13
   refine zo (op_lenN Try.underlying22 rfl (gh.neq hO 7 rfl)) (za rfl (zn (zq ?_)))
   refine Go1.drawS 1 [(0, .pure), (1, .pure), (2, .pure), (3, .stable), (4, .pure), (6, .pure), (5, .loud), (7, .last)] mixed (by kernel_rfl) ?_
   intro WT NM
   have uB := Stp.same hO NM
   replace hO := uB.own
   refine GoQ.pure rfl (op_move rfl) rfl rfl ?_
   refine GoQ.pure rfl (op_nilCheck rfl) rfl rfl ?_
   refine GoQ.pure rfl (op_fieldAddr Try.underlying72 rfl ti69 rfl (by decide)) rfl rfl ?_
   refine GoQ.stable rfl (oblk (i := 9) 9 hO rfl rfl Try.underlying69 rfl rfl) rfl rfl ?_
   refine GoQ.pure rfl (op_move rfl) rfl rfl ?_
   refine GoQ.pure rfl (op_move rfl) rfl rfl ?_
   replace yp := (yp.ch (Ch.assoc _ _ _ _)).ch uB.ch
   have hobt := rowlend 0 hO rfl yp
   obtain ⟨NN, NO⟩ := hobt
   have hOc238 := hO.drop 0
   refine GoQ.call rfl (op_call body61 (show ([.slice yS Cx yT] : List Value) = [.slice yS r224.length yT] from by rw [← NO]) (walk_enumerate_text hOc238.lt NN H)) (fun v w hr => by obtain ⟨_, _, hs, _, _⟩ := hr; assumption) rfl rfl ?_
   rintro WU SN ⟨r239, rfl, Gc, VI, H⟩
   have uC := Stp.same hO Gc
   replace hO := uC.own
   have hobt := omapUpd (MK.str Try.underlying9) 10 hO rfl Try.underlying69 r239 (d_147.length : Int)
   obtain ⟨SO, tq, J8⟩ := hobt
   dsimp only [sS, sZ] at tq
   refine GoQ.last rfl (J8 (by exact rfl) (by exact rfl) (by exact rfl)) rfl rfl ?_
   replace hO := tq.own
   refine GoQ.nil ?_
   refine zq ?_
   refine Go1.cut [(0, .pointer (some ⟨B10, 0, none⟩)), (1, .slice yS Cx yT), (2, .int .i64 (-1 : Int)), (3, .int .i64 (k2_110 : Int)), (4, .string (gstr (chr (IntKind.i32.wrap ((97 : Int) + (k2_110 : Int)))))), (5, .int .i64 (-1 : Int)), (13, .int .i64 (d_147.length : Int))] ⟨rfl, rfl, rfl, rfl, rfl, rfl, rfl, trivial⟩ ?_
   intro σ _
   refine zr (zm rfl (zm rfl (zo (op_nilCheck rfl) (zo (op_fieldAddr Try.underlying72 rfl ti29 rfl (by decide)) (zo (op_fieldAddr Try.underlying29 rfl ti22 rfl (by decide)) ?_)))))
   refine zs (oblk (i := 3) 9 hO rfl rfl Try.underlying22 rfl rfl) (zm rfl ?_)
   replace yp := (yp.ch uC.ch).ch tq.ch
   have hobt := freeze 0 hO rfl yp
   obtain ⟨hO1, qx, fd, Gd⟩ := hobt
   dsimp only [eS, eZ] at hO1 qx fd
   replace hB := ((((((hB.trans kT.fr).trans gW.fr).trans uA.fr).trans uB.fr).trans uC.fr).trans tq.fr).trans (Owns.dropFr _ _ 0)
   dsimp only [eS, eZ] at hB
   replace hO := hO1; clear hO1
   have hobt := obuild (r := Rp.sl (Rp.int .i64)) (n := 1) (parts := [(0, .slice yS Cx yT)]) (vs := [.slice yS Cx yT]) (xs := [r224]) rfl Try.underlying22 ti26 hO (by decide) (by kernel_rfl) (Els.cons rfl ⟨yS, yT, congrArg some (congrArg (fun nn => Value.slice yS nn yT) Gd), fd⟩ (Els.nil _ _ _) (by simp [mx])) rfl
   obtain ⟨WW, WX, uD, t8, VW, J9⟩ := hobt
   refine zg (J9 rfl) ?_
   replace hO := uD.own
   have hobt := freeze 0 hO rfl t8
   obtain ⟨hO1, xG, g9, NP⟩ := hobt
   dsimp only [eS, eZ] at hO1 xG g9
   replace hB := (hB.trans uD.fr).trans (Owns.dropFr _ _ 0)
   dsimp only [eS, eZ] at hB
   replace hO := hO1; clear hO1
   obtain ⟨SP, H⟩ := H
   have Z14 := ((((uB.ch.trans uC.ch).trans tq.ch).trans qx).trans uD.ch).trans xG
   replace gh := gh.ch Z14
   have hobt := oapp Try.underlying22 ti26 rfl 6 hO rfl gh g9 NP SP (by decide)
   obtain ⟨WY, Cy, Cz, NQ, tt, ik, Ka⟩ := hobt
   dsimp only [sS, sZ] at tt ik
   refine zg (Ka (by exact rfl) (by exact rfl)) ?_
   replace hO := tt.own
   refine zo (op_nilCheck rfl) (zo (op_fieldAddr Try.underlying72 rfl ti29 rfl (by decide)) (zo (op_fieldAddr Try.underlying29 rfl ti22 rfl (by decide)) ?_))
   have hobt := oblkSt2 (v := .slice Cy (lH + 1) Cz) (i := 3) (cs' := #[.int .i64 ((ix a0 (0 : Int)).length : Int), .bool false, .slice p35 n37 c36, .slice Cy (lH + 1) Cz, .slice oP lG oQ, .slice nX lF nY, .slice none 0 0, .slice mT lE mU, .int .i64 (0 : Int), .map (some B4), .slice nA lD nB, .slice mh lC mS, .slice nw lj ny]) 8 hO rfl rfl rfl rfl
   obtain ⟨W0, si, Kb⟩ := hobt
   dsimp only [sS, sZ] at si
   refine zg (Kb Try.underlying22 rfl ti22 (by exact rfl) (by exact rfl)) ?_
   replace hO := si.own
   refine zn (zq (zr (zm rfl (zm rfl (zo (op_nilCheck rfl) ?_)))))
   refine zo (op_fieldAddr Try.underlying72 rfl ti29 rfl (by decide)) (zo (op_fieldAddr Try.underlying29 rfl ti26 rfl (by decide)) (zs (oblk (i := 4) 8 hO rfl rfl Try.underlying26 rfl rfl) (zm rfl ?_)))
   have hobt := obuild (r := Rp.int .i64) (n := 1) (parts := [(0, .int .i64 (-1 : Int))]) (vs := [.int .i64 (-1 : Int)]) (xs := [(-1 : Int)]) rfl Try.underlying26 ti3 hO (by decide) (by kernel_rfl) (Els.cons rfl rfl (Els.nil _ _ _) (by simp [mx])) rfl
   obtain ⟨W1, W2, tu, dD, VX, Kc⟩ := hobt
   refine zg (Kc rfl) ?_
   replace hO := tu.own
   have hobt := freeze 0 hO rfl dD
   obtain ⟨hO1, wQ, iM, NR⟩ := hobt
   dsimp only [eS, eZ] at hO1 wQ iM
   replace hB := (((hB.trans tt.fr).trans si.fr).trans tu.fr).trans (Owns.dropFr _ _ 0)
   dsimp only [eS, eZ] at hB
   replace hO := hO1; clear hO1
   obtain ⟨SQ, H⟩ := H
   have Z15 := (((((((((Z13.trans uB.ch).trans uC.ch).trans tq.ch).trans qx).trans uD.ch).trans xG).trans tt.ch).trans si.ch).trans tu.ch).trans wQ
   replace fJ := fJ.ch Z15
   have hobt := oapp Try.underlying26 ti3 rfl 5 hO rfl fJ iM NR SQ (by decide)
   obtain ⟨W3, Dy, Dz, NS, sj, bE, Kd⟩ := hobt
   dsimp only [sS, sZ] at sj bE
   refine zg (Kd (by exact rfl) (by exact rfl)) ?_
   replace hO := sj.own
   refine zo (op_nilCheck rfl) (zo (op_fieldAddr Try.underlying72 rfl ti29 rfl (by decide)) (zo (op_fieldAddr Try.underlying29 rfl ti26 rfl (by decide)) ?_))
   have hobt := oblkSt2 (v := .slice Dy (lG + 1) Dz) (i := 4) (cs' := #[.int .i64 ((ix a0 (0 : Int)).length : Int), .bool false, .slice p35 n37 c36, .slice Cy (lH + 1) Cz, .slice Dy (lG + 1) Dz, .slice nX lF nY, .slice none 0 0, .slice mT lE mU, .int .i64 (0 : Int), .map (some B4), .slice nA lD nB, .slice mh lC mS, .slice nw lj ny]) 8 hO rfl rfl rfl rfl
   obtain ⟨W4, rk, Ke⟩ := hobt
   dsimp only [sS, sZ] at rk
   refine zg (Ke Try.underlying26 rfl ti26 (by exact rfl) (by exact rfl)) ?_
   replace hO := rk.own
   refine zn (zq ?_)
   refine Go1.cut [(0, .pointer (some ⟨B10, 0, none⟩)), (3, .int .i64 (k2_110 : Int)), (4, .string (gstr (chr (IntKind.i32.wrap ((97 : Int) + (k2_110 : Int)))))), (5, .int .i64 (-1 : Int)), (13, .int .i64 (d_147.length : Int))] ⟨rfl, rfl, rfl, rfl, rfl, trivial⟩ ?_
   intro σ _
   refine zr (zm rfl (zm rfl (zo (op_nilCheck rfl) (zo (op_fieldAddr Try.underlying72 rfl ti29 rfl (by decide)) (zo (op_fieldAddr Try.underlying29 rfl ti26 rfl (by decide)) ?_)))))
   refine zs (oblk (i := 5) 8 hO rfl rfl Try.underlying26 rfl rfl) (zm rfl ?_)
   have hobt := obuild (r := Rp.int .i64) (n := 1) (parts := [(0, .int .i64 (k2_110 : Int))]) (vs := [.int .i64 (k2_110 : Int)]) (xs := [(k2_110 : Int)]) rfl Try.underlying26 ti3 hO (by decide) (by kernel_rfl) (Els.cons rfl rfl (Els.nil _ _ _) (by simp [mx])) rfl
   obtain ⟨W5, jr, jt, NT, VY, Kf⟩ := hobt
   refine zg (Kf rfl) ?_
   replace hO := jt.own
   have hobt := freeze 0 hO rfl NT
   obtain ⟨hO1, wa, kX, NU⟩ := hobt
   dsimp only [eS, eZ] at hO1 wa kX
   replace hB := (((hB.trans sj.fr).trans rk.fr).trans jt.fr).trans (Owns.dropFr _ _ 0)
   dsimp only [eS, eZ] at hB
   replace hO := hO1; clear hO1
   obtain ⟨SR, H⟩ := H
   have Z16 := (((Z15.trans sj.ch).trans rk.ch).trans jt.ch).trans wa
   replace fo := fo.ch Z16
   have hobt := oapp Try.underlying26 ti3 rfl 4 hO rfl fo kX NU SR (by decide)
   obtain ⟨W6, Ek, El, NV, lb, lp, Kg⟩ := hobt
   dsimp only [sS, sZ] at lb lp
   refine zg (Kg (by exact rfl) (by exact rfl)) ?_
   replace hO := lb.own
   refine zo (op_nilCheck rfl) (zo (op_fieldAddr Try.underlying72 rfl ti29 rfl (by decide)) (zo (op_fieldAddr Try.underlying29 rfl ti26 rfl (by decide)) ?_))
   have hobt := oblkSt2 (v := .slice Ek (lF + 1) El) (i := 5) (cs' := #[.int .i64 ((ix a0 (0 : Int)).length : Int), .bool false, .slice p35 n37 c36, .slice Cy (lH + 1) Cz, .slice Dy (lG + 1) Dz, .slice Ek (lF + 1) El, .slice none 0 0, .slice mT lE mU, .int .i64 (0 : Int), .map (some B4), .slice nA lD nB, .slice mh lC mS, .slice nw lj ny]) 8 hO rfl rfl rfl rfl
   obtain ⟨W7, qG, Kh⟩ := hobt
   dsimp only [sS, sZ] at qG
   refine zg (Kh Try.underlying26 rfl ti26 (by exact rfl) (by exact rfl)) ?_
   replace hO := qG.own
   refine zn (zq (zr (zm rfl (zm rfl (zo (op_nilCheck rfl) ?_)))))
   refine zo (op_fieldAddr Try.underlying72 rfl ti70 rfl (by decide)) (zs (oblk (i := 10) 8 hO rfl rfl Try.underlying70 rfl rfl) (zm rfl ?_))
   have hobt := obuild (r := Rp.str) (n := 1) (parts := [(0, .string (gstr (chr (IntKind.i32.wrap ((97 : Int) + (k2_110 : Int))))))]) (vs := [.string (gstr (chr (IntKind.i32.wrap ((97 : Int) + (k2_110 : Int)))))]) (xs := [chr (IntKind.i32.wrap ((97 : Int) + (k2_110 : Int)))]) rfl Try.underlying70 ti9 hO (by decide) (by kernel_rfl) (Els.cons rfl ⟨rfl, (chr_le _)⟩ (Els.nil _ _ _) (by simp [mx])) rfl
   obtain ⟨W8, W9, rm, NW, V0, Ki⟩ := hobt
   refine zg (Ki rfl) ?_
   replace hO := rm.own
   have hobt := freeze 0 hO rfl NW
   obtain ⟨hO1, pI, my, Ge⟩ := hobt
   dsimp only [eS, eZ] at hO1 pI my
   replace hB := (((hB.trans lb.fr).trans qG.fr).trans rm.fr).trans (Owns.dropFr _ _ 0)
   dsimp only [eS, eZ] at hB
   replace hO := hO1; clear hO1
   obtain ⟨SS, H⟩ := H
   have Z17 := (((Z16.trans lb.ch).trans qG.ch).trans rm.ch).trans pI
   replace eg := eg.ch Z17
   have hobt := oapp Try.underlying70 ti9 rfl 2 hO rfl eg my Ge SS (by decide)
   obtain ⟨Kj, Fn, Fo, NX, iD, qy, Kk⟩ := hobt
   dsimp only [sS, sZ] at iD qy
   refine zg (Kk (by exact rfl) (by exact rfl)) ?_
   replace hO := iD.own
   refine zo (op_nilCheck rfl) (zo (op_fieldAddr Try.underlying72 rfl ti70 rfl (by decide)) ?_)
   have hobt := oblkSt2 (v := .slice Fn (lD + 1) Fo) (i := 10) (cs' := #[.int .i64 ((ix a0 (0 : Int)).length : Int), .bool false, .slice p35 n37 c36, .slice Cy (lH + 1) Cz, .slice Dy (lG + 1) Dz, .slice Ek (lF + 1) El, .slice none 0 0, .slice mT lE mU, .int .i64 (0 : Int), .map (some B4), .slice Fn (lD + 1) Fo, .slice mh lC mS, .slice nw lj ny]) 8 hO rfl rfl rfl rfl
   obtain ⟨Xa, pS, Fp⟩ := hobt
   dsimp only [sS, sZ] at pS
   refine zg (Fp Try.underlying70 rfl ti70 (by exact rfl) (by exact rfl)) ?_
   replace hO := pS.own
   refine zn (zq ?_)
   refine Go1.cut [(0, .pointer (some ⟨B10, 0, none⟩)), (5, .int .i64 (-1 : Int)), (13, .int .i64 (d_147.length : Int))] ⟨rfl, rfl, rfl, trivial⟩ ?_
   intro σ _
   refine zr (zm rfl (zm rfl (zo (op_nilCheck rfl) (zo (op_fieldAddr Try.underlying72 rfl ti26 rfl (by decide)) (zs (oblk (i := 11) 8 hO rfl rfl Try.underlying26 rfl rfl) ?_)))))
   refine zm rfl ?_
   have hobt := obuild (r := Rp.int .i64) (n := 1) (parts := [(0, .int .i64 (-1 : Int))]) (vs := [.int .i64 (-1 : Int)]) (xs := [(-1 : Int)]) rfl Try.underlying26 ti3 hO (by decide) (by kernel_rfl) (Els.cons rfl rfl (Els.nil _ _ _) (by simp [mx])) rfl
   obtain ⟨Xb, Xc, jb, NY, V1, Kl⟩ := hobt
   refine zg (Kl rfl) ?_
   replace hO := jb.own
   have hobt := freeze 0 hO rfl NY
   obtain ⟨hO1, t9, vq, N1⟩ := hobt
   dsimp only [eS, eZ] at hO1 t9 vq
   replace hB := (((hB.trans iD.fr).trans pS.fr).trans jb.fr).trans (Owns.dropFr _ _ 0)
   dsimp only [eS, eZ] at hB
   replace hO := hO1; clear hO1
   obtain ⟨Em, H⟩ := H
   have Z18 := (((Z17.trans iD.ch).trans pS.ch).trans jb.ch).trans t9
   replace dV := dV.ch Z18
   have hobt := oapp Try.underlying26 ti3 rfl 1 hO rfl dV vq N1 Em (by decide)
   obtain ⟨Xd, Gf, Gg, N2, pT, wR, Fq⟩ := hobt
   dsimp only [sS, sZ] at pT wR
   refine zg (Fq (by exact rfl) (by exact rfl)) ?_
   replace hO := pT.own
   refine zo (op_nilCheck rfl) (zo (op_fieldAddr Try.underlying72 rfl ti26 rfl (by decide)) ?_)
   have hobt := oblkSt2 (v := .slice Gf (lC + 1) Gg) (i := 11) (cs' := #[.int .i64 ((ix a0 (0 : Int)).length : Int), .bool false, .slice p35 n37 c36, .slice Cy (lH + 1) Cz, .slice Dy (lG + 1) Dz, .slice Ek (lF + 1) El, .slice none 0 0, .slice mT lE mU, .int .i64 (0 : Int), .map (some B4), .slice Fn (lD + 1) Fo, .slice Gf (lC + 1) Gg, .slice nw lj ny]) 8 hO rfl rfl rfl rfl
   obtain ⟨Xe, o9, Km⟩ := hobt
   dsimp only [sS, sZ] at o9
   refine zg (Km Try.underlying26 rfl ti26 (by exact rfl) (by exact rfl)) ?_
   replace hO := o9.own
   refine zn (zq (zr (zm rfl (za rfl (zn ?_)))))
   refine Go1.ret1V Try.func65 rfl (show _ = .int .i64 (d_147.length : Int) from rfl) ?_
   refine hR232 _ _ ?_
   refine za rfl (zn (zr (zm rfl (zm rfl (zo (op_nilCheck rfl) ?_)))))
   refine zo (op_fieldAddr Try.underlying72 rfl ti26 rfl (by decide)) (zs (oblk (i := 12) 8 hO rfl rfl Try.underlying26 rfl rfl) (zm rfl ?_))
   have hobt := obuild (r := Rp.int .i64) (n := 1) (parts := [(0, .int .i64 (d_147.length : Int))]) (vs := [.int .i64 (d_147.length : Int)]) (xs := [(d_147.length : Int)]) rfl Try.underlying26 ti3 hO (by decide) (by kernel_rfl) (Els.cons rfl rfl (Els.nil _ _ _) (by simp [mx])) rfl
   obtain ⟨Xf, Xg, pU, N3, V2, Kn⟩ := hobt
   refine zg (Kn rfl) ?_
   replace hO := pU.own
   have hobt := freeze 0 hO rfl N3
   obtain ⟨hO1, ld, C0, N4⟩ := hobt
   dsimp only [eS, eZ] at hO1 ld C0
   replace hB := (((hB.trans pT.fr).trans o9.fr).trans pU.fr).trans (Owns.dropFr _ _ 0)
   dsimp only [eS, eZ] at hB
   replace hO := hO1; clear hO1
   obtain ⟨ST, H⟩ := H
   have Z19 := (((Z18.trans pT.ch).trans o9.ch).trans pU.ch).trans ld
   replace dM := dM.ch Z19
   have hobt := oapp Try.underlying26 ti3 rfl 0 hO rfl dM C0 N4 ST (by decide)
   obtain ⟨Xh, HR, HS, qz, pc, EO, Ko⟩ := hobt
   dsimp only [sS, sZ] at pc EO
   refine zg (Ko (by exact rfl) (by exact rfl)) ?_
   replace hO := pc.own
   refine zo (op_nilCheck rfl) (zo (op_fieldAddr Try.underlying72 rfl ti26 rfl (by decide)) ?_)
   have hobt := oblkSt2 (v := .slice HR (lj + 1) HS) (i := 12) (cs' := #[.int .i64 ((ix a0 (0 : Int)).length : Int), .bool false, .slice p35 n37 c36, .slice Cy (lH + 1) Cz, .slice Dy (lG + 1) Dz, .slice Ek (lF + 1) El, .slice none 0 0, .slice mT lE mU, .int .i64 (0 : Int), .map (some B4), .slice Fn (lD + 1) Fo, .slice Gf (lC + 1) Gg, .slice HR (lj + 1) HS]) 8 hO rfl rfl rfl rfl
   obtain ⟨Xi, n7, Kq⟩ := hobt
   dsimp only [sS, sZ] at n7
   refine zg (Kq Try.underlying26 rfl ti26 (by exact rfl) (by exact rfl)) ?_
   replace hO := n7.own
   refine zn ?_
   refine Go1.inBlock ?_
   refine Go1.cut [(6, .pointer (some ⟨B10, 0, none⟩)), (9, .int .i64 (-1 : Int)), (85, .slice p35 n37 c36), (86, .int .i64 (d_32.length : Int)), (87, .int .i64 (k2_110 : Int))] ⟨rfl, rfl, rfl, rfl, rfl, trivial⟩ ?_
   intro σ _
   refine zr ?_
   replace aC := ((aC.ch Z19).ch pc.ch).ch n7.ch
   refine zo (op_add rfl rfl (wrap_i64 (natbd Ej aC.bd))) (zm rfl (zn ?_))
   replace EO := EO.ch n7.ch
   replace hB := (hB.trans pc.fr).trans n7.fr
   have Z20 := (((o9.ch.trans pU.ch).trans ld).trans pc.ch).trans n7.ch
   replace wR := wR.ch Z20
   have Z21 := (((((((pS.ch.trans jb.ch).trans t9).trans pT.ch).trans o9.ch).trans pU.ch).trans ld).trans pc.ch).trans n7.ch
   replace qy := qy.ch Z21
   have Z22 := (((((((((((qG.ch.trans rm.ch).trans pI).trans iD.ch).trans pS.ch).trans jb.ch).trans t9).trans pT.ch).trans o9.ch).trans pU.ch).trans ld).trans pc.ch).trans n7.ch
   replace lp := lp.ch Z22
   have Z23 := (((((((((((((((rk.ch.trans jt.ch).trans wa).trans lb.ch).trans qG.ch).trans rm.ch).trans pI).trans iD.ch).trans pS.ch).trans jb.ch).trans t9).trans pT.ch).trans o9.ch).trans pU.ch).trans ld).trans pc.ch).trans n7.ch
   replace bE := bE.ch Z23
   have Z24 := (((((((((((((((((((si.ch.trans tu.ch).trans wQ).trans sj.ch).trans rk.ch).trans jt.ch).trans wa).trans lb.ch).trans qG.ch).trans rm.ch).trans pI).trans iD.ch).trans pS.ch).trans jb.ch).trans t9).trans pT.ch).trans o9.ch).trans pU.ch).trans ld).trans pc.ch).trans n7.ch
   replace ik := ik.ch Z24
   replace dW := ((dW.ch Z19).ch pc.ch).ch n7.ch
   exact hX2 _ H _ _ ⟨lj + 1, HR, HS, qz, lC + 1, Gf, Gg, N2, lD + 1, Fn, Fo, NX, lE, mT, mU, t4, lF + 1, Ek, El, NV, lG + 1, Dy, Dz, NS, lH + 1, Cy, Cz, NQ, ⟨rfl, rfl, rfl, rfl, rfl, trivial⟩, hO, EO, wR, qy, dW, lp, bE, ik, aC, hB⟩
  replace H := ifn Ej H
  refine zo (fun w => opB (op_lss rfl rfl w) (decide_eq_false Ej)) (zn (zq (zf rfl rfl ?_)))
  refine Go1.exit rfl ?_
  refine zq (zr (zm rfl (za rfl (za rfl (zn ?_)))))
  have wF := Stp.nil (e := 26) (r := 1) hO
  replace hO := wF.own
  have n9 := Els.nil (Rp.sl (Rp.int .i64)) (bl (.row 26 1 none 0 0 [] :: [.row 3 1 nw lj ny vo, .row 3 1 mh lC mS t0, .row 9 1 nA lD nB t3, .row 39 2 mT lE mU t4, .row 3 1 nX lF nY t5, .row 3 1 oP lG oQ t6, .row 26 1 pD lH pE t7, .row 26 1 p35 n37 c36 i7, .blk B10 (.cells #[.int .i64 ((ix a0 (0 : Int)).length : Int), .bool false, .slice p35 n37 c36, .slice pD lH pE, .slice oP lG oQ, .slice nX lF nY, .slice none 0 0, .slice mT lE mU, .int .i64 (0 : Int), .map (some B4), .slice nA lD nB, .slice mh lC mS, .slice nw lj ny] 72 (0, 0)), .any (mapE (fun a : List UInt8 => Value.string (gstr a)) (fun a : Int => Value.int .i64 a) B4 m2_153)]) ++ A) SB
  have ju := Stp.front 10 hO rfl
  dsimp only [eS, eZ] at ju
  replace hO := ju.own
  have uE := Stp.front 2 hO rfl
  dsimp only [eS, eZ] at uE
  replace hO := uE.own
  have jc := Stp.front 3 hO rfl
  dsimp only [eS, eZ] at jc
  replace hO := jc.own
  have uF := Stp.front 4 hO rfl
  dsimp only [eS, eZ] at uF
  replace hO := uF.own
  have uG := Stp.front 5 hO rfl
  dsimp only [eS, eZ] at uG
  replace hO := uG.own
  have uH := Stp.front 5 hO rfl
  dsimp only [eS, eZ] at uH
  replace hO := uH.own
  have jv := Stp.front 6 hO rfl
  dsimp only [eS, eZ] at jv
  replace hO := jv.own
  have uI := Stp.front 7 hO rfl
  dsimp only [eS, eZ] at uI
  replace hO := uI.own
  have uJ := Stp.front 8 hO rfl
  dsimp only [eS, eZ] at uJ
  replace hO := uJ.own
  have uK := Stp.front 9 hO rfl
  dsimp only [eS, eZ] at uK
  replace hO := uK.own
  have uL := Stp.front 10 hO rfl
  dsimp only [eS, eZ] at uL
  replace hO := uL.own
  refine Go1.ret2 Try.func49 rfl ?_
  have Z25 := (((((((((ju.ch.trans uE.ch).trans jc.ch).trans uF.ch).trans uG.ch).trans uH.ch).trans jv.ch).trans uI.ch).trans uJ.ch).trans uK.ch).trans uL.ch
  replace n9 := n9.ch Z25
  have Z26 := ((((((((((wF.ch.trans ju.ch).trans uE.ch).trans jc.ch).trans uF.ch).trans uG.ch).trans uH.ch).trans jv.ch).trans uI.ch).trans uJ.ch).trans uK.ch).trans uL.ch
  replace dM := dM.ch Z26
  replace dV := dV.ch Z26
  replace eg := eg.ch Z26
  replace dW := dW.ch Z26
  replace fo := fo.ch Z26
  replace fJ := fJ.ch Z26
  replace gh := gh.ch Z26
  replace aC := aC.ch Z26
  replace hB := (((((((((((hB.trans wF.fr).trans ju.fr).trans uE.fr).trans jc.fr).trans uF.fr).trans uG.fr).trans uH.fr).trans jv.fr).trans uI.fr).trans uJ.fr).trans uK.fr).trans uL.fr
  exact Or.inr ⟨(⟨(⟨((ix a0 (0 : Int)).length : Int), false, d_32, d_147, d_141, d_135, ([] : List (List Int)), d_129, (0 : Int)⟩ : Enum), m2_153, d_123, d_117, d_111⟩ : run), ((0 : Int)), B10, n37, p35, c36, i7, lH, pD, pE, t7, lG, oP, oQ, t6, lF, nX, nY, t5, 0, none, 0, ([]), lE, mT, mU, t4, B4, lD, nA, nB, t3, lC, mh, mS, t0, lj, nw, ny, vo, rfl, hB.same, hO, aC, gh, fJ, fo, n9, dW, eg, dV, dM, H⟩
 replace H := ifp rfl H
 refine zt rfl rfl (zr (zm rfl (zm rfl (zo (op_nilCheck rfl) (zo (op_fieldAddr Try.underlying72 rfl ti29 rfl (by decide)) ?_)))))
 refine zo (op_fieldAddr Try.underlying29 rfl ti3 rfl (by decide)) (zs (oblk (i := 0) 1 hO rfl rfl Try.underlying3 rfl rfl) ?_)
 refine GoR.call (op_call body62 rfl (walk_trans_Identity hO.lt H)) rfl rfl ?_
 rintro Xj SU ⟨r397, CA, CB, rfl, N5, fH, H⟩
 have D2 := Stp.same hO N5
 replace hO := D2.own
 refine GoR.inl (vs := [.pointer (some ⟨B10, 0, none⟩), .slice CA r397.length CB, .int .i64 (-1 : Int), .int .i64 (-1 : Int), .string (gstr (([] : Str))), .int .i64 (-1 : Int)]) (caps := []) rfl rfl body65 Try.func65 rfl Try.ntmps65 rfl rfl rfl ?_
 intro RhR403 hR403
 refine zq (zr (za rfl (zn (zq (zr ?_)))))
 refine zm rfl (zo (op_nilCheck rfl) (zo (op_fieldAddr Try.underlying72 rfl ti29 rfl (by decide)) (zo (op_fieldAddr Try.underlying29 rfl ti22 rfl (by decide)) (zs (oblk (i := 3) 1 hO rfl rfl Try.underlying22 rfl rfl) (zo (op_len Try.underlying22 rfl) ?_)))))
 refine za rfl (zn (zq ?_))
 refine Go1.cut [(0, .pointer (some ⟨B10, 0, none⟩)), (1, .slice CA r397.length CB), (2, .int .i64 (-1 : Int)), (3, .int .i64 (-1 : Int)), (4, .string (gstr (([] : Str)))), (5, .int .i64 (-1 : Int)), (13, .int .i64 (0 : Int))] ⟨rfl, rfl, rfl, rfl, rfl, rfl, rfl, trivial⟩ ?_
 intro σ _
 refine Go1.drawS 1 [(0, .pure), (1, .pure), (2, .pure), (3, .stable), (4, .pure), (6, .pure), (5, .loud), (7, .last)] mixed (by kernel_rfl) ?_
 intro Xk N6
 have CC := Stp.same hO N6
 replace hO := CC.own
 refine GoQ.pure rfl (op_move rfl) rfl rfl ?_
 refine GoQ.pure rfl (op_nilCheck rfl) rfl rfl ?_
 refine GoQ.pure rfl (op_fieldAddr Try.underlying72 rfl ti69 rfl (by decide)) rfl rfl ?_
 refine GoQ.stable rfl (oblk (i := 9) 1 hO rfl rfl Try.underlying69 rfl rfl) rfl rfl ?_
 refine GoQ.pure rfl (op_move rfl) rfl rfl ?_
 refine GoQ.pure rfl (op_move rfl) rfl rfl ?_
 replace fH := fH.ch CC.ch
 refine GoQ.call rfl (op_call body61 rfl (walk_enumerate_text hO.lt fH H)) (fun v w hr => by obtain ⟨_, _, hs, _, _⟩ := hr; assumption) rfl rfl ?_
 rintro Xl Xm ⟨r407, rfl, N7, VJ, H⟩
 have CD := Stp.same hO N7
 replace hO := CD.own
 have hobt := omapUpd (MK.str Try.underlying9) 2 hO rfl Try.underlying69 r407 (0 : Int)
 obtain ⟨SV, lI, Kr⟩ := hobt
 refine GoQ.last rfl (Kr (by exact rfl) (by exact rfl) (by exact rfl)) rfl rfl ?_
 replace hO := lI.own
 refine GoQ.nil ?_
 refine zq (zr (zm rfl (zm rfl (zo (op_nilCheck rfl) (zo (op_fieldAddr Try.underlying72 rfl ti29 rfl (by decide)) ?_)))))
 refine zo (op_fieldAddr Try.underlying29 rfl ti22 rfl (by decide)) (zs (oblk (i := 3) 1 hO rfl rfl Try.underlying22 rfl rfl) (zm rfl ?_))
 replace fH := (fH.ch CD.ch).ch lI.ch
 have hobt := obuild (r := Rp.sl (Rp.int .i64)) (n := 1) (parts := [(0, .slice CA r397.length CB)]) (vs := [.slice CA r397.length CB]) (xs := [r397]) rfl Try.underlying22 ti26 hO (by decide) (by kernel_rfl) (Els.cons rfl ⟨CA, CB, rfl, fH⟩ (Els.nil _ _ _) (by simp [mx])) rfl
 obtain ⟨SW, Xn, CE, N8, V3, Ks⟩ := hobt
 refine zg (Ks rfl) ?_
 replace hO := CE.own
 have hobt := freeze 0 hO rfl N8
 obtain ⟨hO1, Gh, gQ, N9⟩ := hobt
 replace hO := hO1; clear hO1
 have kU := Stp.nil (e := 26) (r := 1) hO
 replace hO := kU.own
 have kj := Els.nil (Rp.sl (Rp.int .i64)) (bl (.row 26 1 none 0 0 [] :: [.row 26 1 p35 n37 c36 i7, .blk B10 (.cells #[.int .i64 ((ix a0 (0 : Int)).length : Int), .bool true, .slice p35 n37 c36, .slice none 0 0, .slice none 0 0, .slice none 0 0, .slice none 0 0, .slice none 0 0, .int .i64 (0 : Int), .map (some B4), .slice none 0 0, .slice none 0 0, .slice none 0 0] 72 (0, 0)), .any (mapE (fun a : List UInt8 => Value.string (gstr a)) (fun a : Int => Value.int .i64 a) B4 (mput (([] : List (Str × Int))) r407 ((0 : Int))))]) ++ A) SW
 obtain ⟨SX, H⟩ := H
 replace gQ := gQ.ch kU.ch
 have hobt := oapp Try.underlying22 ti26 rfl 0 hO rfl kj gQ N9 SX (by decide)
 obtain ⟨Xo, ua, ub, By, Bq, g6, Kt⟩ := hobt
 refine zg (Kt (by exact rfl) (by exact rfl)) ?_
 replace hO := Bq.own
 refine zo (op_nilCheck rfl) (zo (op_fieldAddr Try.underlying72 rfl ti29 rfl (by decide)) (zo (op_fieldAddr Try.underlying29 rfl ti22 rfl (by decide)) ?_))
 have hobt := oblkSt2 (v := .slice ua (0 + 1) ub) (i := 3) (cs' := #[.int .i64 ((ix a0 (0 : Int)).length : Int), .bool true, .slice p35 n37 c36, .slice ua (0 + 1) ub, .slice none 0 0, .slice none 0 0, .slice none 0 0, .slice none 0 0, .int .i64 (0 : Int), .map (some B4), .slice none 0 0, .slice none 0 0, .slice none 0 0]) 2 hO rfl rfl rfl rfl
 obtain ⟨Xp, z4, Ku⟩ := hobt
 refine zg (Ku Try.underlying22 rfl ti22 (by exact rfl) (by exact rfl)) ?_
 replace hO := z4.own
 refine zn (zq ?_)
 refine Go1.cut [(0, .pointer (some ⟨B10, 0, none⟩)), (2, .int .i64 (-1 : Int)), (3, .int .i64 (-1 : Int)), (4, .string (gstr (([] : Str)))), (5, .int .i64 (-1 : Int)), (13, .int .i64 (0 : Int))] ⟨rfl, rfl, rfl, rfl, rfl, rfl, trivial⟩ ?_
 intro σ _
 refine zr (zm rfl (zm rfl (zo (op_nilCheck rfl) (zo (op_fieldAddr Try.underlying72 rfl ti29 rfl (by decide)) (zo (op_fieldAddr Try.underlying29 rfl ti26 rfl (by decide)) ?_)))))
 refine zs (oblk (i := 4) 2 hO rfl rfl Try.underlying26 rfl rfl) (zm rfl ?_)
 have hobt := obuild (r := Rp.int .i64) (n := 1) (parts := [(0, .int .i64 (-1 : Int))]) (vs := [.int .i64 (-1 : Int)]) (xs := [(-1 : Int)]) rfl Try.underlying26 ti3 hO (by decide) (by kernel_rfl) (Els.cons rfl rfl (Els.nil _ _ _) (by simp [mx])) rfl
 obtain ⟨SY, Xq, z5, Oa, V4, Kv⟩ := hobt
 refine zg (Kv rfl) ?_
 replace hO := z5.own
 have hobt := freeze 0 hO rfl Oa
 obtain ⟨hO1, C1, iv, Ob⟩ := hobt
 dsimp only [eS, eZ] at hO1 C1 iv
 replace hB := ((((((((((hB.trans D2.fr).trans CC.fr).trans CD.fr).trans lI.fr).trans CE.fr).trans (Owns.dropFr _ _ 0)).trans kU.fr).trans Bq.fr).trans z4.fr).trans z5.fr).trans (Owns.dropFr _ _ 0)
 dsimp only [eS, eZ] at hB
 replace hO := hO1; clear hO1
 have yU := Stp.nil (e := 3) (r := 1) hO
 replace hO := yU.own
 have Oc := Els.nil (Rp.int .i64) (bl (.row 3 1 none 0 0 [] :: [.row 26 1 ua (0 + 1) ub By, .row 26 1 p35 n37 c36 i7, .blk B10 (.cells #[.int .i64 ((ix a0 (0 : Int)).length : Int), .bool true, .slice p35 n37 c36, .slice ua (0 + 1) ub, .slice none 0 0, .slice none 0 0, .slice none 0 0, .slice none 0 0, .int .i64 (0 : Int), .map (some B4), .slice none 0 0, .slice none 0 0, .slice none 0 0] 72 (0, 0)), .any (mapE (fun a : List UInt8 => Value.string (gstr a)) (fun a : Int => Value.int .i64 a) B4 (mput (([] : List (Str × Int))) r407 ((0 : Int))))]) ++ A) SY
 obtain ⟨S0, H⟩ := H
 replace iv := iv.ch yU.ch
 have hobt := oapp Try.underlying26 ti3 rfl 0 hO rfl Oc iv Ob S0 (by decide)
 obtain ⟨S1, wz, wA, C2, ne, iN, Fs⟩ := hobt
 dsimp only [sS, sZ] at ne iN
 refine zg (Fs (by exact rfl) (by exact rfl)) ?_
 replace hO := ne.own
 refine zo (op_nilCheck rfl) (zo (op_fieldAddr Try.underlying72 rfl ti29 rfl (by decide)) (zo (op_fieldAddr Try.underlying29 rfl ti26 rfl (by decide)) ?_))
 have hobt := oblkSt2 (v := .slice wz (0 + 1) wA) (i := 4) (cs' := #[.int .i64 ((ix a0 (0 : Int)).length : Int), .bool true, .slice p35 n37 c36, .slice ua (0 + 1) ub, .slice wz (0 + 1) wA, .slice none 0 0, .slice none 0 0, .slice none 0 0, .int .i64 (0 : Int), .map (some B4), .slice none 0 0, .slice none 0 0, .slice none 0 0]) 3 hO rfl rfl rfl rfl
 obtain ⟨Xr, ke, Kw⟩ := hobt
 dsimp only [sS, sZ] at ke
 refine zg (Kw Try.underlying26 rfl ti26 (by exact rfl) (by exact rfl)) ?_
 replace hO := ke.own
 refine zn (zq (zr (zm rfl (zm rfl (zo (op_nilCheck rfl) ?_)))))
 refine zo (op_fieldAddr Try.underlying72 rfl ti29 rfl (by decide)) (zo (op_fieldAddr Try.underlying29 rfl ti26 rfl (by decide)) (zs (oblk (i := 5) 3 hO rfl rfl Try.underlying26 rfl rfl) (zm rfl ?_)))
 have hobt := obuild (r := Rp.int .i64) (n := 1) (parts := [(0, .int .i64 (-1 : Int))]) (vs := [.int .i64 (-1 : Int)]) (xs := [(-1 : Int)]) rfl Try.underlying26 ti3 hO (by decide) (by kernel_rfl) (Els.cons rfl rfl (Els.nil _ _ _) (by simp [mx])) rfl
 obtain ⟨S2, Xs, xH, Od, V5, Kx⟩ := hobt
 refine zg (Kx rfl) ?_
 replace hO := xH.own
 have hobt := freeze 0 hO rfl Od
 obtain ⟨hO1, Aj, kl, Oe⟩ := hobt
 dsimp only [eS, eZ] at hO1 Aj kl
 replace hB := ((((hB.trans yU.fr).trans ne.fr).trans ke.fr).trans xH.fr).trans (Owns.dropFr _ _ 0)
 dsimp only [eS, eZ] at hB
 replace hO := hO1; clear hO1
 have jO := Stp.nil (e := 3) (r := 1) hO
 replace hO := jO.own
 have wS := Els.nil (Rp.int .i64) (bl (.row 3 1 none 0 0 [] :: [.row 3 1 wz (0 + 1) wA C2, .row 26 1 ua (0 + 1) ub By, .row 26 1 p35 n37 c36 i7, .blk B10 (.cells #[.int .i64 ((ix a0 (0 : Int)).length : Int), .bool true, .slice p35 n37 c36, .slice ua (0 + 1) ub, .slice wz (0 + 1) wA, .slice none 0 0, .slice none 0 0, .slice none 0 0, .int .i64 (0 : Int), .map (some B4), .slice none 0 0, .slice none 0 0, .slice none 0 0] 72 (0, 0)), .any (mapE (fun a : List UInt8 => Value.string (gstr a)) (fun a : Int => Value.int .i64 a) B4 (mput (([] : List (Str × Int))) r407 ((0 : Int))))]) ++ A) S2
 obtain ⟨S3, H⟩ := H
 replace kl := kl.ch jO.ch
 have hobt := oapp Try.underlying26 ti3 rfl 0 hO rfl wS kl Oe S3 (by decide)
 obtain ⟨Xt, yf, yg, D3, vQ, lr, Ky⟩ := hobt
 dsimp only [sS, sZ] at vQ lr
 refine zg (Ky (by exact rfl) (by exact rfl)) ?_
 replace hO := vQ.own
 refine zo (op_nilCheck rfl) (zo (op_fieldAddr Try.underlying72 rfl ti29 rfl (by decide)) (zo (op_fieldAddr Try.underlying29 rfl ti26 rfl (by decide)) ?_))
 have hobt := oblkSt2 (v := .slice yf (0 + 1) yg) (i := 5) (cs' := #[.int .i64 ((ix a0 (0 : Int)).length : Int), .bool true, .slice p35 n37 c36, .slice ua (0 + 1) ub, .slice wz (0 + 1) wA, .slice yf (0 + 1) yg, .slice none 0 0, .slice none 0 0, .int .i64 (0 : Int), .map (some B4), .slice none 0 0, .slice none 0 0, .slice none 0 0]) 4 hO rfl rfl rfl rfl
 obtain ⟨Xu, uM, Kz⟩ := hobt
 dsimp only [sS, sZ] at uM
 refine zg (Kz Try.underlying26 rfl ti26 (by exact rfl) (by exact rfl)) ?_
 replace hO := uM.own
 refine zn (zq ?_)
 refine Go1.cut [(0, .pointer (some ⟨B10, 0, none⟩)), (4, .string (gstr (([] : Str)))), (5, .int .i64 (-1 : Int)), (13, .int .i64 (0 : Int))] ⟨rfl, rfl, rfl, rfl, trivial⟩ ?_
 intro σ _
 refine zr (zm rfl (zm rfl (zo (op_nilCheck rfl) (zo (op_fieldAddr Try.underlying72 rfl ti70 rfl (by decide)) (zs (oblk (i := 10) 4 hO rfl rfl Try.underlying70 rfl rfl) ?_)))))
 refine zm rfl ?_
 have hobt := obuild (r := Rp.str) (n := 1) (parts := [(0, .string (gstr (([] : Str))))]) (vs := [.string (gstr (([] : Str)))]) (xs := [([] : Str)]) rfl Try.underlying70 ti9 hO (by decide) (by kernel_rfl) (Els.cons rfl ⟨rfl, (by decide)⟩ (Els.nil _ _ _) (by simp [mx])) rfl
 obtain ⟨Gi, Xv, iI, Ak, V6, KA⟩ := hobt
 refine zg (KA rfl) ?_
 replace hO := iI.own
 have hobt := freeze 0 hO rfl Ak
 obtain ⟨hO1, yq, oY, Og⟩ := hobt
 dsimp only [eS, eZ] at hO1 yq oY
 replace hB := ((((hB.trans jO.fr).trans vQ.fr).trans uM.fr).trans iI.fr).trans (Owns.dropFr _ _ 0)
 dsimp only [eS, eZ] at hB
 replace hO := hO1; clear hO1
 have uN := Stp.nil (e := 9) (r := 1) hO
 replace hO := uN.own
 have Bz := Els.nil (Rp.str) (bl (.row 9 1 none 0 0 [] :: [.row 3 1 yf (0 + 1) yg D3, .row 3 1 wz (0 + 1) wA C2, .row 26 1 ua (0 + 1) ub By, .row 26 1 p35 n37 c36 i7, .blk B10 (.cells #[.int .i64 ((ix a0 (0 : Int)).length : Int), .bool true, .slice p35 n37 c36, .slice ua (0 + 1) ub, .slice wz (0 + 1) wA, .slice yf (0 + 1) yg, .slice none 0 0, .slice none 0 0, .int .i64 (0 : Int), .map (some B4), .slice none 0 0, .slice none 0 0, .slice none 0 0] 72 (0, 0)), .any (mapE (fun a : List UInt8 => Value.string (gstr a)) (fun a : Int => Value.int .i64 a) B4 (mput (([] : List (Str × Int))) r407 ((0 : Int))))]) ++ A) Gi
 obtain ⟨S4, H⟩ := H
 replace oY := oY.ch uN.ch
 have hobt := oapp Try.underlying70 ti9 rfl 0 hO rfl Bz oY Og S4 (by decide)
 obtain ⟨S5, AT, AU, EP, tv, rV, KB⟩ := hobt
 dsimp only [sS, sZ] at tv rV
 refine zg (KB (by exact rfl) (by exact rfl)) ?_
 replace hO := tv.own
 refine zo (op_nilCheck rfl) (zo (op_fieldAddr Try.underlying72 rfl ti70 rfl (by decide)) ?_)
 have hobt := oblkSt2 (v := .slice AT (0 + 1) AU) (i := 10) (cs' := #[.int .i64 ((ix a0 (0 : Int)).length : Int), .bool true, .slice p35 n37 c36, .slice ua (0 + 1) ub, .slice wz (0 + 1) wA, .slice yf (0 + 1) yg, .slice none 0 0, .slice none 0 0, .int .i64 (0 : Int), .map (some B4), .slice AT (0 + 1) AU, .slice none 0 0, .slice none 0 0]) 5 hO rfl rfl rfl rfl
 obtain ⟨Xw, sk, Ft⟩ := hobt
 dsimp only [sS, sZ] at sk
 refine zg (Ft Try.underlying70 rfl ti70 (by exact rfl) (by exact rfl)) ?_
 replace hO := sk.own
 refine zn (zq (zr (zm rfl (zm rfl (zo (op_nilCheck rfl) ?_)))))
 refine zo (op_fieldAddr Try.underlying72 rfl ti26 rfl (by decide)) (zs (oblk (i := 11) 5 hO rfl rfl Try.underlying26 rfl rfl) (zm rfl ?_))
 have hobt := obuild (r := Rp.int .i64) (n := 1) (parts := [(0, .int .i64 (-1 : Int))]) (vs := [.int .i64 (-1 : Int)]) (xs := [(-1 : Int)]) rfl Try.underlying26 ti3 hO (by decide) (by kernel_rfl) (Els.cons rfl rfl (Els.nil _ _ _) (by simp [mx])) rfl
 obtain ⟨S6, Xx, tw, Oh, V7, Fu⟩ := hobt
 refine zg (Fu rfl) ?_
 replace hO := tw.own
 have hobt := freeze 0 hO rfl Oh
 obtain ⟨hO1, wT, wU, Oi⟩ := hobt
 dsimp only [eS, eZ] at hO1 wT wU
 replace hB := ((((hB.trans uN.fr).trans tv.fr).trans sk.fr).trans tw.fr).trans (Owns.dropFr _ _ 0)
 dsimp only [eS, eZ] at hB
 replace hO := hO1; clear hO1
 have sm := Stp.nil (e := 3) (r := 1) hO
 replace hO := sm.own
 have Oj := Els.nil (Rp.int .i64) (bl (.row 3 1 none 0 0 [] :: [.row 9 1 AT (0 + 1) AU EP, .row 3 1 yf (0 + 1) yg D3, .row 3 1 wz (0 + 1) wA C2, .row 26 1 ua (0 + 1) ub By, .row 26 1 p35 n37 c36 i7, .blk B10 (.cells #[.int .i64 ((ix a0 (0 : Int)).length : Int), .bool true, .slice p35 n37 c36, .slice ua (0 + 1) ub, .slice wz (0 + 1) wA, .slice yf (0 + 1) yg, .slice none 0 0, .slice none 0 0, .int .i64 (0 : Int), .map (some B4), .slice AT (0 + 1) AU, .slice none 0 0, .slice none 0 0] 72 (0, 0)), .any (mapE (fun a : List UInt8 => Value.string (gstr a)) (fun a : Int => Value.int .i64 a) B4 (mput (([] : List (Str × Int))) r407 ((0 : Int))))]) ++ A) S6
 obtain ⟨S7, H⟩ := H
 replace wU := wU.ch sm.ch
 have hobt := oapp Try.underlying26 ti3 rfl 0 hO rfl Oj wU Oi S7 (by decide)
 obtain ⟨Xy, DA, DB, Gj, jd, Al, KC⟩ := hobt
 dsimp only [sS, sZ] at jd Al
 refine zg (KC (by exact rfl) (by exact rfl)) ?_
 replace hO := jd.own
 refine zo (op_nilCheck rfl) (zo (op_fieldAddr Try.underlying72 rfl ti26 rfl (by decide)) ?_)
 have hobt := oblkSt2 (v := .slice DA (0 + 1) DB) (i := 11) (cs' := #[.int .i64 ((ix a0 (0 : Int)).length : Int), .bool true, .slice p35 n37 c36, .slice ua (0 + 1) ub, .slice wz (0 + 1) wA, .slice yf (0 + 1) yg, .slice none 0 0, .slice none 0 0, .int .i64 (0 : Int), .map (some B4), .slice AT (0 + 1) AU, .slice DA (0 + 1) DB, .slice none 0 0]) 6 hO rfl rfl rfl rfl
 obtain ⟨HT, qH, KD⟩ := hobt
 dsimp only [sS, sZ] at qH
 refine zg (KD Try.underlying26 rfl ti26 (by exact rfl) (by exact rfl)) ?_
 replace hO := qH.own
 refine zn (zq ?_)
 refine Go1.cut [(13, .int .i64 (0 : Int))] ⟨rfl, trivial⟩ ?_
 intro σ _
 refine zr (zm rfl (za rfl (zn ?_)))
 refine Go1.ret1V Try.func65 rfl (show _ = .int .i64 (0 : Int) from rfl) ?_
 refine hR403 _ _ ?_
 refine za rfl (zn (zq (zq (zr (zm rfl ?_)))))
 refine zo (op_nilCheck rfl) (zo (op_fieldAddr Try.underlying72 rfl ti29 rfl (by decide)) (zo (op_fieldAddr Try.underlying29 rfl ti22 rfl (by decide)) (zs (oblk (i := 2) 6 hO rfl rfl Try.underlying22 rfl rfl) ?_)))
 have Z27 := (((((((((((((((((((((((((((D2.ch.trans CC.ch).trans CD.ch).trans lI.ch).trans CE.ch).trans Gh).trans kU.ch).trans Bq.ch).trans z4.ch).trans z5.ch).trans C1).trans yU.ch).trans ne.ch).trans ke.ch).trans xH.ch).trans Aj).trans jO.ch).trans vQ.ch).trans uM.ch).trans iI.ch).trans yq).trans uN.ch).trans tv.ch).trans sk.ch).trans tw.ch).trans wT).trans sm.ch).trans jd.ch).trans qH.ch
 replace aC := aC.ch Z27
 refine zo (op_lenN Try.underlying22 rfl (aC.neq hO 5 rfl)) (zm rfl (zn (zb ?_)))
 have je := Stp.nil (e := 39) (r := 2) hO
 replace hO := je.own
 have C3 := Els.nil (rpRule) (bl (.row 39 2 none 0 0 [] :: [.row 3 1 DA (0 + 1) DB Gj, .row 9 1 AT (0 + 1) AU EP, .row 3 1 yf (0 + 1) yg D3, .row 3 1 wz (0 + 1) wA C2, .row 26 1 ua (0 + 1) ub By, .row 26 1 p35 n37 c36 i7, .blk B10 (.cells #[.int .i64 ((ix a0 (0 : Int)).length : Int), .bool true, .slice p35 n37 c36, .slice ua (0 + 1) ub, .slice wz (0 + 1) wA, .slice yf (0 + 1) yg, .slice none 0 0, .slice none 0 0, .int .i64 (0 : Int), .map (some B4), .slice AT (0 + 1) AU, .slice DA (0 + 1) DB, .slice none 0 0] 72 (0, 0)), .any (mapE (fun a : List UInt8 => Value.string (gstr a)) (fun a : Int => Value.int .i64 a) B4 (mput (([] : List (Str × Int))) r407 ((0 : Int))))]) ++ A) HT
 have qI := Stp.nil (e := 3) (r := 1) hO
 replace hO := qI.own
 have Ok := Els.nil (Rp.int .i64) (bl (.row 3 1 none 0 0 [] :: [.row 39 2 none 0 0 [], .row 3 1 DA (0 + 1) DB Gj, .row 9 1 AT (0 + 1) AU EP, .row 3 1 yf (0 + 1) yg D3, .row 3 1 wz (0 + 1) wA C2, .row 26 1 ua (0 + 1) ub By, .row 26 1 p35 n37 c36 i7, .blk B10 (.cells #[.int .i64 ((ix a0 (0 : Int)).length : Int), .bool true, .slice p35 n37 c36, .slice ua (0 + 1) ub, .slice wz (0 + 1) wA, .slice yf (0 + 1) yg, .slice none 0 0, .slice none 0 0, .int .i64 (0 : Int), .map (some B4), .slice AT (0 + 1) AU, .slice DA (0 + 1) DB, .slice none 0 0] 72 (0, 0)), .any (mapE (fun a : List UInt8 => Value.string (gstr a)) (fun a : Int => Value.int .i64 a) B4 (mput (([] : List (Str × Int))) r407 ((0 : Int))))]) ++ A) HT
 replace C3 := C3.ch qI.ch
 replace aC := (aC.ch je.ch).ch qI.ch
 have Z28 := (qH.ch.trans je.ch).trans qI.ch
 replace Al := Al.ch Z28
 replace hB := ((((hB.trans sm.fr).trans jd.fr).trans qH.fr).trans je.fr).trans qI.fr
 have Z29 := ((((((sk.ch.trans tw.ch).trans wT).trans sm.ch).trans jd.ch).trans qH.ch).trans je.ch).trans qI.ch
 replace rV := rV.ch Z29
 have Z30 := (((((((((((uM.ch.trans iI.ch).trans yq).trans uN.ch).trans tv.ch).trans sk.ch).trans tw.ch).trans wT).trans sm.ch).trans jd.ch).trans qH.ch).trans je.ch).trans qI.ch
 replace lr := lr.ch Z30
 have Z31 := ((((((((((((((((ke.ch.trans xH.ch).trans Aj).trans jO.ch).trans vQ.ch).trans uM.ch).trans iI.ch).trans yq).trans uN.ch).trans tv.ch).trans sk.ch).trans tw.ch).trans wT).trans sm.ch).trans jd.ch).trans qH.ch).trans je.ch).trans qI.ch
 replace iN := iN.ch Z31
 have Z32 := (((((((((((((((((((((z4.ch.trans z5.ch).trans C1).trans yU.ch).trans ne.ch).trans ke.ch).trans xH.ch).trans Aj).trans jO.ch).trans vQ.ch).trans uM.ch).trans iI.ch).trans yq).trans uN.ch).trans tv.ch).trans sk.ch).trans tw.ch).trans wT).trans sm.ch).trans jd.ch).trans qH.ch).trans je.ch).trans qI.ch
 replace g6 := g6.ch Z32
 refine Go1.loopW (S := Nat × List Int × List Rule × List Int × List Str × List Int × List Int × List (List Int) × (List (Str × Int))) (fun s σ w => match s with | (k3_548, d_549, d_555, d_561, d_567, d_573, d_579, d_585, m3_591) => ∃ (lk : Nat), ∃ (nC : Option Addr), ∃ (nD : Nat), ∃ (vr : List Value), ∃ (lJ : Nat), ∃ (mV : Option Addr), ∃ (mW : Nat), ∃ (uc : List Value), ∃ (lK : Nat), ∃ (mX : Option Addr), ∃ (mY : Nat), ∃ (ud : List Value), ∃ (lL : Nat), ∃ (nE : Option Addr), ∃ (nF : Nat), ∃ (ue : List Value), ∃ (lM : Nat), ∃ (oa : Option Addr), ∃ (ob : Nat), ∃ (uf : List Value), ∃ (lN : Nat), ∃ (oR : Option Addr), ∃ (oS : Nat), ∃ (ug : List Value), ∃ (lO : Nat), ∃ (pF : Option Addr), ∃ (pG : Nat), ∃ (uh : List Value), agrees σ [(6, .pointer (some ⟨B10, 0, none⟩)), (9, .int .i64 (0 : Int)), (85, .slice p35 n37 c36), (86, .int .i64 (d_32.length : Int)), (87, .int .i64 (k3_548 : Int))] ∧ (fun Z0 => Owns w0.heap.size w Z0 A ∧ Els (Rp.int .i64) (bl Z0 ++ A) w vr d_549 ∧ Els (rpRule) (bl Z0 ++ A) w uc d_555 ∧ Els (Rp.int .i64) (bl Z0 ++ A) w ud d_561 ∧ Els (Rp.str) (bl Z0 ++ A) w ue d_567 ∧ Els (Rp.int .i64) (bl Z0 ++ A) w uf d_573 ∧ Els (Rp.int .i64) (bl Z0 ++ A) w ug d_579 ∧ Els (Rp.sl (Rp.int .i64)) (bl Z0 ++ A) w uh d_585 ∧ Els (Rp.sl (Rp.int .i64)) (bl Z0 ++ A) w i7 d_32 ∧ Fr (bl []) w0 (bl Z0) w) [.row 3 1 nC lk nD vr, .row 39 2 mV lJ mW uc, .row 3 1 mX lK mY ud, .row 9 1 nE lL nF ue, .row 3 1 oa lM ob uf, .row 3 1 oR lN oS ug, .row 26 1 pF lO pG uh, .row 26 1 p35 n37 c36 i7, .blk B10 (.cells #[.int .i64 ((ix a0 (0 : Int)).length : Int), .bool true, .slice p35 n37 c36, .slice pF lO pG, .slice oR lN oS, .slice oa lM ob, .slice none 0 0, .slice mV lJ mW, .int .i64 (0 : Int), .map (some B4), .slice nE lL nF, .slice mX lK mY, .slice nC lk nD] 72 (0, 0)), .any (mapE (fun a : List UInt8 => Value.string (gstr a)) (fun a : Int => Value.int .i64 a) B4 m3_591)]) H ⟨0, none, 0, [], 0, none, 0, [], 0 + 1, DA, DB, Gj, 0 + 1, AT, AU, EP, 0 + 1, yf, yg, D3, 0 + 1, wz, wA, C2, 0 + 1, ua, ub, By, ⟨rfl, rfl, rfl, rfl, rfl, trivial⟩, hO, Ok, C3, Al, rV, lr, iN, g6, aC, hB⟩ ?_
 intro X3
 refine prE fun k3_548 => prE fun d_549 => prE fun d_555 => prE fun d_561 => prE fun d_567 => prE fun d_573 => prE fun d_579 => prE fun d_585 => fun m3_591 => ?_
 intro H hX3 σ S8
 refine exE fun lk => exE fun nC => exE fun nD => exE fun vr => exE fun lJ => exE fun mV => exE fun mW => exE fun uc => exE fun lK => exE fun mX => exE fun mY => exE fun ud => exE fun lL => exE fun nE => exE fun nF => exE fun ue => exE fun lM => exE fun oa => exE fun ob => exE fun uf => exE fun lN => exE fun oR => exE fun oS => exE fun ug => exE fun lO => exE fun pF => exE fun pG => exE fun uh => andE fun hag => andE fun hO => andE fun dN => andE fun dI => andE fun dX => andE fun eh => andE fun fq => andE fun fK => andE fun gi => andE fun aC => fun hB => ?_
 dsimp only at H
 refine Go1.keep [(6, .pointer (some ⟨B10, 0, none⟩)), (9, .int .i64 (0 : Int)), (85, .slice p35 n37 c36), (86, .int .i64 (d_32.length : Int)), (87, .int .i64 (k3_548 : Int))] hag ?_
 refine zq (zr ?_)
 by_cases En : (k3_548 : Int) < (d_32.length : Int)
 ·replace H := ifp En H
  refine zo (fun w => opB (op_lss rfl rfl w) (decide_eq_true En)) (zn (zq (zt rfl rfl (zk (zq ?_)))))
  refine zb (zq (zr (zm rfl ?_)))
  obtain ⟨HU, H⟩ := H
  obtain ⟨HV, H⟩ := H
  refine zo (op_index Try.underlying22 ti26 rfl rfl HU (ltn (aC.neq hO 7 rfl) HV) (aC.psome hO 7 rfl HU HV)) ?_
  have hobt := oldSl 7 hO rfl aC HU HV
  obtain ⟨KE, KF, e8, Ol⟩ := hobt
  refine zs (Ol Try.underlying26 rfl rfl) (za rfl (za rfl (zn (zq (zr ?_)))))
  refine zm rfl ?_
  obtain ⟨S9, H⟩ := H
  refine zo (op_add rfl rfl (wrap_i64 S9)) (zo (op_conv Try.underlying3 Try.underlying21 rfl rfl) ?_)
  obtain ⟨Ta, H⟩ := H
  obtain ⟨Tc, H⟩ := H
  refine zo (op_convRS Try.underlying21 Try.underlying9 rfl Ta Tc) (za rfl (zn (zq ?_)))
  refine Go1.drawS 0 [(0, .pure), (1, .pure), (2, .pure), (3, .stable), (4, .pure), (5, .loud), (6, .stable), (7, .pure), (8, .pure), (9, .pure), (10, .pure), (11, .pure)] mixed (by kernel_rfl) ?_
  intro Xz Om
  have vR := Stp.same hO Om
  replace hO := vR.own
  refine GoQ.pure rfl (op_move rfl) rfl rfl ?_
  refine GoQ.pure rfl (op_nilCheck rfl) rfl rfl ?_
  refine GoQ.pure rfl (op_fieldAddr Try.underlying72 rfl ti69 rfl (by decide)) rfl rfl ?_
  refine GoQ.stable rfl (oblk (i := 9) 8 hO rfl rfl Try.underlying69 rfl rfl) rfl rfl ?_
  refine GoQ.pure rfl (op_move rfl) rfl rfl ?_
  replace e8 := e8.ch vR.ch
  refine GoQ.call rfl (op_call body61 rfl (walk_enumerate_text hO.lt e8 H)) (fun v w hr => by obtain ⟨_, _, hs, _, _⟩ := hr; assumption) rfl rfl ?_
  rintro XA XB ⟨r605, rfl, On, VK, H⟩
  have vS := Stp.same hO On
  replace hO := vS.own
  by_cases Gk : mhas m3_591 r605 = true
  ·replace H := ifp Gk H
   refine GoQ.stable rfl (olookT (a := r605) (MK.str Try.underlying9) 9 hO rfl Try.underlying69 rfl rfl Gk) rfl rfl ?_
   refine GoQ.pure rfl (op_move rfl) rfl rfl ?_
   refine GoQ.pure rfl (op_extract rfl rfl) rfl rfl ?_
   refine GoQ.pure rfl (op_extract rfl rfl) rfl rfl ?_
   refine GoQ.pure rfl (op_assign rfl) rfl rfl ?_
   refine GoQ.pure rfl (op_assign rfl) rfl rfl ?_
   refine GoQ.nil ?_
   refine zq (zq ?_)
   refine Go1.cut [(6, .pointer (some ⟨B10, 0, none⟩)), (9, .int .i64 (0 : Int)), (10, .int .i64 (k3_548 : Int)), (11, .slice KE ((ix d_32 (k3_548 : Int)).length) KF), (12, .string (gstr (chr (IntKind.i32.wrap ((97 : Int) + (k3_548 : Int)))))), (13, .int .i64 (mgt m3_591 r605)), (14, .bool true), (85, .slice p35 n37 c36), (86, .int .i64 (d_32.length : Int)), (87, .int .i64 (k3_548 : Int))] ⟨rfl, rfl, rfl, rfl, rfl, rfl, rfl, rfl, rfl, rfl, trivial⟩ ?_
   intro σ _
   refine zr (zm rfl (zn (zt rfl rfl ?_)))
   refine Go1.drawS 5 [(0, .pure), (1, .pure), (2, .pure), (3, .pure), (4, .pure), (5, .stable), (6, .pure), (7, .pure), (8, .pure), (9, .pure), (10, .stable), (11, .pure), (12, .pure), (13, .stable), (14, .pure), (15, .loud), (16, .last), (17, .pure), (18, .pure), (19, .pure), (20, .last)] mixed (by kernel_rfl) ?_
   intro XC Oo
   have vT := Stp.same hO Oo
   replace hO := vT.own
   refine GoQ.pure rfl (op_move rfl) rfl rfl ?_
   refine GoQ.pure rfl (op_move rfl) rfl rfl ?_
   refine GoQ.pure rfl (op_nilCheck rfl) rfl rfl ?_
   refine GoQ.pure rfl (op_fieldAddr Try.underlying72 rfl ti29 rfl (by decide)) rfl rfl ?_
   refine GoQ.pure rfl (op_fieldAddr Try.underlying29 rfl ti27 rfl (by decide)) rfl rfl ?_
   refine GoQ.stable rfl (oblk (i := 7) 8 hO rfl rfl Try.underlying27 rfl rfl) rfl rfl ?_
   refine GoQ.pure rfl (op_move rfl) rfl rfl ?_
   refine GoQ.pure rfl (op_move rfl) rfl rfl ?_
   refine GoQ.pure rfl (op_nilCheck rfl) rfl rfl ?_
   refine GoQ.pure rfl (op_fieldAddr Try.underlying72 rfl ti70 rfl (by decide)) rfl rfl ?_
   refine GoQ.stable rfl (oblk (i := 10) 8 hO rfl rfl Try.underlying70 rfl rfl) rfl rfl ?_
   refine GoQ.pure rfl (op_move rfl) rfl rfl ?_
   obtain ⟨Gl, H⟩ := H
   obtain ⟨Gm, H⟩ := H
   have Z33 := (vR.ch.trans vS.ch).trans vT.ch
   replace eh := eh.ch Z33
   refine GoQ.pure rfl (op_index Try.underlying70 ti9 rfl rfl Gl (ltn (eh.neq hO 3 rfl) Gm) (eh.psome hO 3 rfl Gl Gm)) rfl rfl ?_
   refine GoQ.stable rfl (oldStr 3 hO rfl eh Gl Gm Try.underlying9 rfl rfl) rfl rfl ?_
   have hle617 := Els.str_le eh Gl Gm
   refine GoQ.pure rfl (op_build Try.underlying39 ti39 (pl := [(0, 1), (1, 1)]) (vs := [(0, .string (gstr (chr (IntKind.i32.wrap ((97 : Int) + (k3_548 : Int)))))), (1, .string (gstr (ix d_567 (mgt m3_591 r605))))]) (cs := #[.string (gstr (chr (IntKind.i32.wrap ((97 : Int) + (k3_548 : Int))))), .string (gstr (ix d_567 (mgt m3_591 r605)))]) (by kernel_rfl) rfl (by kernel_rfl)) rfl rfl ?_
   have hobt := obuildN (r := rpRule) (n := 1) (parts := [(0, .agg #[.string (gstr (chr (IntKind.i32.wrap ((97 : Int) + (k3_548 : Int))))), .string (gstr (ix d_567 (mgt m3_591 r605)))])]) (vs := [.string (gstr (chr (IntKind.i32.wrap ((97 : Int) + (k3_548 : Int))))), .string (gstr (ix d_567 (mgt m3_591 r605)))]) (xs := [(⟨chr (IntKind.i32.wrap ((97 : Int) + (k3_548 : Int))), ix d_567 (mgt m3_591 r605)⟩ : Rule)]) Try.underlying27 ti39 hO (by decide) (by decide) (by kernel_rfl) (Els.flat1 (⟨chr (IntKind.i32.wrap ((97 : Int) + (k3_548 : Int))), ix d_567 (mgt m3_591 r605)⟩ : Rule) ⟨(chr_le _), hle617⟩) rfl
   obtain ⟨Td, Te, l9, Gn, Je, Fv⟩ := hobt
   refine GoQ.loud rfl (Fv rfl) Je rfl rfl ?_
   replace hO := l9.own
   have hobt := freeze 0 hO rfl Gn
   obtain ⟨hO1, qA, oc, Gp⟩ := hobt
   dsimp only [eS, eZ] at hO1 qA oc
   replace hB := ((((hB.trans vR.fr).trans vS.fr).trans vT.fr).trans l9.fr).trans (Owns.dropFr _ _ 0)
   dsimp only [eS, eZ] at hB
   replace hO := hO1; clear hO1
   obtain ⟨HW, H⟩ := H
   replace dI := ((dI.ch Z33).ch l9.ch).ch qA
   have hobt := oapp Try.underlying27 ti39 rfl 1 hO rfl dI oc Gp HW (by decide)
   obtain ⟨Tf, BA, BB, Gq, lg, q9, Fw⟩ := hobt
   dsimp only [sS, sZ] at lg q9
   refine GoQ.last rfl (Fw (by exact rfl) (by exact rfl)) rfl rfl ?_
   replace hO := lg.own
   refine GoQ.pure rfl (op_nilCheck rfl) rfl rfl ?_
   refine GoQ.pure rfl (op_fieldAddr Try.underlying72 rfl ti29 rfl (by decide)) rfl rfl ?_
   refine GoQ.pure rfl (op_fieldAddr Try.underlying29 rfl ti27 rfl (by decide)) rfl rfl ?_
   have hobt := oblkSt2 (v := .slice BA (lJ + 1) BB) (i := 7) (cs' := #[.int .i64 ((ix a0 (0 : Int)).length : Int), .bool true, .slice p35 n37 c36, .slice pF lO pG, .slice oR lN oS, .slice oa lM ob, .slice none 0 0, .slice BA (lJ + 1) BB, .int .i64 (0 : Int), .map (some B4), .slice nE lL nF, .slice mX lK mY, .slice nC lk nD]) 8 hO rfl rfl rfl rfl
   obtain ⟨Tg, kx, Fx⟩ := hobt
   dsimp only [sS, sZ] at kx
   refine GoQ.last rfl (Fx Try.underlying27 rfl ti27 (by exact rfl) (by exact rfl)) rfl rfl ?_
   replace hO := kx.own
   refine GoQ.nil ?_
   refine Go1.cut [(6, .pointer (some ⟨B10, 0, none⟩)), (9, .int .i64 (0 : Int)), (13, .int .i64 (mgt m3_591 r605)), (85, .slice p35 n37 c36), (86, .int .i64 (d_32.length : Int)), (87, .int .i64 (k3_548 : Int))] ⟨rfl, rfl, rfl, rfl, rfl, rfl, trivial⟩ ?_
   intro σ _
   refine zr (zm rfl (zm rfl (zo (op_nilCheck rfl) (zo (op_fieldAddr Try.underlying72 rfl ti26 rfl (by decide)) (zs (oblk (i := 12) 8 hO rfl rfl Try.underlying26 rfl rfl) ?_)))))
   refine zm rfl ?_
   have hobt := obuild (r := Rp.int .i64) (n := 1) (parts := [(0, .int .i64 (mgt m3_591 r605))]) (vs := [.int .i64 (mgt m3_591 r605)]) (xs := [(mgt m3_591 r605)]) rfl Try.underlying26 ti3 hO (by decide) (by kernel_rfl) (Els.cons rfl rfl (Els.nil _ _ _) (by simp [mx])) rfl
   obtain ⟨XD, XE, kV, Oq, V8, KG⟩ := hobt
   refine zg (KG rfl) ?_
   replace hO := kV.own
   have hobt := freeze 0 hO rfl Oq
   obtain ⟨hO1, xI, C4, Os⟩ := hobt
   dsimp only [eS, eZ] at hO1 xI C4
   replace hB := (((hB.trans lg.fr).trans kx.fr).trans kV.fr).trans (Owns.dropFr _ _ 0)
   dsimp only [eS, eZ] at hB
   replace hO := hO1; clear hO1
   obtain ⟨Th, H⟩ := H
   have Z34 := (((((Z33.trans l9.ch).trans qA).trans lg.ch).trans kx.ch).trans kV.ch).trans xI
   replace dN := dN.ch Z34
   have hobt := oapp Try.underlying26 ti3 rfl 0 hO rfl dN C4 Os Th (by decide)
   obtain ⟨XF, HX, HY, Ot, tx, EQ, KH⟩ := hobt
   dsimp only [sS, sZ] at tx EQ
   refine zg (KH (by exact rfl) (by exact rfl)) ?_
   replace hO := tx.own
   refine zo (op_nilCheck rfl) (zo (op_fieldAddr Try.underlying72 rfl ti26 rfl (by decide)) ?_)
   have hobt := oblkSt2 (v := .slice HX (lk + 1) HY) (i := 12) (cs' := #[.int .i64 ((ix a0 (0 : Int)).length : Int), .bool true, .slice p35 n37 c36, .slice pF lO pG, .slice oR lN oS, .slice oa lM ob, .slice none 0 0, .slice BA (lJ + 1) BB, .int .i64 (0 : Int), .map (some B4), .slice nE lL nF, .slice mX lK mY, .slice HX (lk + 1) HY]) 8 hO rfl rfl rfl rfl
   obtain ⟨XG, sn, KI⟩ := hobt
   dsimp only [sS, sZ] at sn
   refine zg (KI Try.underlying26 rfl ti26 (by exact rfl) (by exact rfl)) ?_
   replace hO := sn.own
   refine zn ?_
   refine Go1.inBlock ?_
   refine zr ?_
   replace aC := ((aC.ch Z34).ch tx.ch).ch sn.ch
   refine zo (op_add rfl rfl (wrap_i64 (natbd En aC.bd))) (zm rfl (zn ?_))
   replace EQ := EQ.ch sn.ch
   replace hB := (hB.trans tx.fr).trans sn.fr
   have Z35 := (((kx.ch.trans kV.ch).trans xI).trans tx.ch).trans sn.ch
   replace q9 := q9.ch Z35
   have Z36 := ((((((l9.ch.trans qA).trans lg.ch).trans kx.ch).trans kV.ch).trans xI).trans tx.ch).trans sn.ch
   replace eh := eh.ch Z36
   have Z37 := (Z34.trans tx.ch).trans sn.ch
   replace dX := dX.ch Z37
   replace fq := fq.ch Z37
   replace fK := fK.ch Z37
   replace gi := gi.ch Z37
   exact hX3 _ H _ _ ⟨lk + 1, HX, HY, Ot, lJ + 1, BA, BB, Gq, lK, mX, mY, ud, lL, nE, nF, ue, lM, oa, ob, uf, lN, oR, oS, ug, lO, pF, pG, uh, ⟨rfl, rfl, rfl, rfl, rfl, trivial⟩, hO, EQ, q9, dX, eh, fq, fK, gi, aC, hB⟩
  replace H := ifn Gk H
  refine GoQ.stable rfl (olookF (a := r605) (MK.str Try.underlying9) 9 hO rfl Try.underlying69 ti3 rfl rfl Gk) rfl rfl ?_
  refine GoQ.pure rfl (op_move rfl) rfl rfl ?_
  refine GoQ.pure rfl (op_extract rfl rfl) rfl rfl ?_
  refine GoQ.pure rfl (op_extract rfl rfl) rfl rfl ?_
  refine GoQ.pure rfl (op_assign rfl) rfl rfl ?_
  refine GoQ.pure rfl (op_assign rfl) rfl rfl ?_
  refine GoQ.nil ?_
  refine zq (zq (zr (zm rfl (zn (zf rfl rfl ?_)))))
  refine Go1.cut [(6, .pointer (some ⟨B10, 0, none⟩)), (9, .int .i64 (0 : Int)), (10, .int .i64 (k3_548 : Int)), (11, .slice KE ((ix d_32 (k3_548 : Int)).length) KF), (12, .string (gstr (chr (IntKind.i32.wrap ((97 : Int) + (k3_548 : Int)))))), (85, .slice p35 n37 c36), (86, .int .i64 (d_32.length : Int)), (87, .int .i64 (k3_548 : Int))] ⟨rfl, rfl, rfl, rfl, rfl, rfl, rfl, rfl, trivial⟩ ?_
  intro σ _
  refine zr (zm rfl (zm rfl ?_))
  replace e8 := e8.ch vS.ch
  refine GoR.call (op_call body64 rfl (walk_slices_Clone_int hO.lt e8 H)) rfl rfl ?_
  rintro XH XI ⟨r662, CF, yV, yW, VL, rfl, Ou, hN666, yr, H⟩
  have uO := Stp.more hO Ou hN666
  dsimp only [List.cons_append, List.nil_append] at uO
  replace hO := uO.own
  refine zm rfl (zm rfl (zm rfl (zm rfl ?_)))
  refine GoR.inl (vs := [.pointer (some ⟨B10, 0, none⟩), .slice yV CF yW, .int .i64 (0 : Int), .int .i64 (k3_548 : Int), .string (gstr (chr (IntKind.i32.wrap ((97 : Int) + (k3_548 : Int))))), .int .i64 (0 : Int)]) (caps := []) rfl rfl body65 Try.func65 rfl Try.ntmps65 rfl rfl rfl ?_
  intro RhR670 hR670
  refine zq (zr (za rfl (zn (zq (zr ?_)))))
  refine zm rfl (zo (op_nilCheck rfl) (zo (op_fieldAddr Try.underlying72 rfl ti29 rfl (by decide)) (zo (op_fieldAddr Try.underlying29 rfl ti22 rfl (by decide)) (zs (oblk (i := 3) 9 hO rfl rfl Try.underlying22 rfl rfl) ?_))))
  have Z38 := (vR.ch.trans vS.ch).trans uO.ch
  replace gi := gi.ch Z38
  refine zo (op_lenN Try.underlying22 rfl (gi.neq hO 7 rfl)) (za rfl (zn (zq ?_)))
  refine Go1.drawS 1 [(0, .pure), (1, .pure), (2, .pure), (3, .stable), (4, .pure), (6, .pure), (5, .loud), (7, .last)] mixed (by kernel_rfl) ?_
  intro XJ Ov
  have uP := Stp.same hO Ov
  replace hO := uP.own
  refine GoQ.pure rfl (op_move rfl) rfl rfl ?_
  refine GoQ.pure rfl (op_nilCheck rfl) rfl rfl ?_
  refine GoQ.pure rfl (op_fieldAddr Try.underlying72 rfl ti69 rfl (by decide)) rfl rfl ?_
  refine GoQ.stable rfl (oblk (i := 9) 9 hO rfl rfl Try.underlying69 rfl rfl) rfl rfl ?_
  refine GoQ.pure rfl (op_move rfl) rfl rfl ?_
  refine GoQ.pure rfl (op_move rfl) rfl rfl ?_
  replace yr := (yr.ch (Ch.assoc _ _ _ _)).ch uP.ch
  have hobt := rowlend 0 hO rfl yr
  obtain ⟨Ow, Ox⟩ := hobt
  have hOc676 := hO.drop 0
  refine GoQ.call rfl (op_call body61 (show ([.slice yV CF yW] : List Value) = [.slice yV r662.length yW] from by rw [← Ox]) (walk_enumerate_text hOc676.lt Ow H)) (fun v w hr => by obtain ⟨_, _, hs, _, _⟩ := hr; assumption) rfl rfl ?_
  rintro XK XL ⟨r677, rfl, Oy, VM, H⟩
  have uQ := Stp.same hO Oy
  replace hO := uQ.own
  have hobt := omapUpd (MK.str Try.underlying9) 10 hO rfl Try.underlying69 r677 (d_585.length : Int)
  obtain ⟨XM, tz, KJ⟩ := hobt
  dsimp only [sS, sZ] at tz
  refine GoQ.last rfl (KJ (by exact rfl) (by exact rfl) (by exact rfl)) rfl rfl ?_
  replace hO := tz.own
  refine GoQ.nil ?_
  refine zq ?_
  refine Go1.cut [(0, .pointer (some ⟨B10, 0, none⟩)), (1, .slice yV CF yW), (2, .int .i64 (0 : Int)), (3, .int .i64 (k3_548 : Int)), (4, .string (gstr (chr (IntKind.i32.wrap ((97 : Int) + (k3_548 : Int)))))), (5, .int .i64 (0 : Int)), (13, .int .i64 (d_585.length : Int))] ⟨rfl, rfl, rfl, rfl, rfl, rfl, rfl, trivial⟩ ?_
  intro σ _
  refine zr (zm rfl (zm rfl (zo (op_nilCheck rfl) (zo (op_fieldAddr Try.underlying72 rfl ti29 rfl (by decide)) (zo (op_fieldAddr Try.underlying29 rfl ti22 rfl (by decide)) ?_)))))
  refine zs (oblk (i := 3) 9 hO rfl rfl Try.underlying22 rfl rfl) (zm rfl ?_)
  replace yr := (yr.ch uQ.ch).ch tz.ch
  have hobt := freeze 0 hO rfl yr
  obtain ⟨hO1, yt, gT, Oz⟩ := hobt
  dsimp only [eS, eZ] at hO1 yt gT
  replace hB := ((((((hB.trans vR.fr).trans vS.fr).trans uO.fr).trans uP.fr).trans uQ.fr).trans tz.fr).trans (Owns.dropFr _ _ 0)
  dsimp only [eS, eZ] at hB
  replace hO := hO1; clear hO1
  have hobt := obuild (r := Rp.sl (Rp.int .i64)) (n := 1) (parts := [(0, .slice yV CF yW)]) (vs := [.slice yV CF yW]) (xs := [r662]) rfl Try.underlying22 ti26 hO (by decide) (by kernel_rfl) (Els.cons rfl ⟨yV, yW, congrArg some (congrArg (fun nn => Value.slice yV nn yW) Oz), gT⟩ (Els.nil _ _ _) (by simp [mx])) rfl
  obtain ⟨XN, XO, uR, OA, V9, KK⟩ := hobt
  refine zg (KK rfl) ?_
  replace hO := uR.own
  have hobt := freeze 0 hO rfl OA
  obtain ⟨hO1, xJ, hV, OB⟩ := hobt
  dsimp only [eS, eZ] at hO1 xJ hV
  replace hB := (hB.trans uR.fr).trans (Owns.dropFr _ _ 0)
  dsimp only [eS, eZ] at hB
  replace hO := hO1; clear hO1
  obtain ⟨Tj, H⟩ := H
  have Z39 := ((((uP.ch.trans uQ.ch).trans tz.ch).trans yt).trans uR.ch).trans xJ
  replace gi := gi.ch Z39
  have hobt := oapp Try.underlying22 ti26 rfl 6 hO rfl gi hV OB Tj (by decide)
  obtain ⟨XP, CG, CH, OC, tA, io, KL⟩ := hobt
  dsimp only [sS, sZ] at tA io
  refine zg (KL (by exact rfl) (by exact rfl)) ?_
  replace hO := tA.own
  refine zo (op_nilCheck rfl) (zo (op_fieldAddr Try.underlying72 rfl ti29 rfl (by decide)) (zo (op_fieldAddr Try.underlying29 rfl ti22 rfl (by decide)) ?_))
  have hobt := oblkSt2 (v := .slice CG (lO + 1) CH) (i := 3) (cs' := #[.int .i64 ((ix a0 (0 : Int)).length : Int), .bool true, .slice p35 n37 c36, .slice CG (lO + 1) CH, .slice oR lN oS, .slice oa lM ob, .slice none 0 0, .slice mV lJ mW, .int .i64 (0 : Int), .map (some B4), .slice nE lL nF, .slice mX lK mY, .slice nC lk nD]) 8 hO rfl rfl rfl rfl
  obtain ⟨XQ, sq, KM⟩ := hobt
  dsimp only [sS, sZ] at sq
  refine zg (KM Try.underlying22 rfl ti22 (by exact rfl) (by exact rfl)) ?_
  replace hO := sq.own
  refine zn (zq (zr (zm rfl (zm rfl (zo (op_nilCheck rfl) ?_)))))
  refine zo (op_fieldAddr Try.underlying72 rfl ti29 rfl (by decide)) (zo (op_fieldAddr Try.underlying29 rfl ti26 rfl (by decide)) (zs (oblk (i := 4) 8 hO rfl rfl Try.underlying26 rfl rfl) (zm rfl ?_)))
  have hobt := obuild (r := Rp.int .i64) (n := 1) (parts := [(0, .int .i64 (0 : Int))]) (vs := [.int .i64 (0 : Int)]) (xs := [(0 : Int)]) rfl Try.underlying26 ti3 hO (by decide) (by kernel_rfl) (Els.cons rfl rfl (Els.nil _ _ _) (by simp [mx])) rfl
  obtain ⟨XR, XS, tB, OD, Wa, KN⟩ := hobt
  refine zg (KN rfl) ?_
  replace hO := tB.own
  have hobt := freeze 0 hO rfl OD
  obtain ⟨hO1, wV, iO, OE⟩ := hobt
  dsimp only [eS, eZ] at hO1 wV iO
  replace hB := (((hB.trans tA.fr).trans sq.fr).trans tB.fr).trans (Owns.dropFr _ _ 0)
  dsimp only [eS, eZ] at hB
  replace hO := hO1; clear hO1
  obtain ⟨Tk, H⟩ := H
  have Z40 := (((((((((Z38.trans uP.ch).trans uQ.ch).trans tz.ch).trans yt).trans uR.ch).trans xJ).trans tA.ch).trans sq.ch).trans tB.ch).trans wV
  replace fK := fK.ch Z40
  have hobt := oapp Try.underlying26 ti3 rfl 5 hO rfl fK iO OE Tk (by decide)
  obtain ⟨XT, DD, DE, OF, sr, jh, KO⟩ := hobt
  dsimp only [sS, sZ] at sr jh
  refine zg (KO (by exact rfl) (by exact rfl)) ?_
  replace hO := sr.own
  refine zo (op_nilCheck rfl) (zo (op_fieldAddr Try.underlying72 rfl ti29 rfl (by decide)) (zo (op_fieldAddr Try.underlying29 rfl ti26 rfl (by decide)) ?_))
  have hobt := oblkSt2 (v := .slice DD (lN + 1) DE) (i := 4) (cs' := #[.int .i64 ((ix a0 (0 : Int)).length : Int), .bool true, .slice p35 n37 c36, .slice CG (lO + 1) CH, .slice DD (lN + 1) DE, .slice oa lM ob, .slice none 0 0, .slice mV lJ mW, .int .i64 (0 : Int), .map (some B4), .slice nE lL nF, .slice mX lK mY, .slice nC lk nD]) 8 hO rfl rfl rfl rfl
  obtain ⟨XU, ro, KP⟩ := hobt
  dsimp only [sS, sZ] at ro
  refine zg (KP Try.underlying26 rfl ti26 (by exact rfl) (by exact rfl)) ?_
  replace hO := ro.own
  refine zn (zq ?_)
  refine Go1.cut [(0, .pointer (some ⟨B10, 0, none⟩)), (3, .int .i64 (k3_548 : Int)), (4, .string (gstr (chr (IntKind.i32.wrap ((97 : Int) + (k3_548 : Int)))))), (5, .int .i64 (0 : Int)), (13, .int .i64 (d_585.length : Int))] ⟨rfl, rfl, rfl, rfl, rfl, trivial⟩ ?_
  intro σ _
  refine zr (zm rfl (zm rfl (zo (op_nilCheck rfl) (zo (op_fieldAddr Try.underlying72 rfl ti29 rfl (by decide)) (zo (op_fieldAddr Try.underlying29 rfl ti26 rfl (by decide)) ?_)))))
  refine zs (oblk (i := 5) 8 hO rfl rfl Try.underlying26 rfl rfl) (zm rfl ?_)
  have hobt := obuild (r := Rp.int .i64) (n := 1) (parts := [(0, .int .i64 (k3_548 : Int))]) (vs := [.int .i64 (k3_548 : Int)]) (xs := [(k3_548 : Int)]) rfl Try.underlying26 ti3 hO (by decide) (by kernel_rfl) (Els.cons rfl rfl (Els.nil _ _ _) (by simp [mx])) rfl
  obtain ⟨XV, XW, ss, OG, Wb, KQ⟩ := hobt
  refine zg (KQ rfl) ?_
  replace hO := ss.own
  have hobt := freeze 0 hO rfl OG
  obtain ⟨hO1, wb, kY, OH⟩ := hobt
  dsimp only [eS, eZ] at hO1 wb kY
  replace hB := (((hB.trans sr.fr).trans ro.fr).trans ss.fr).trans (Owns.dropFr _ _ 0)
  dsimp only [eS, eZ] at hB
  replace hO := hO1; clear hO1
  obtain ⟨Tl, H⟩ := H
  have Z41 := (((Z40.trans sr.ch).trans ro.ch).trans ss.ch).trans wb
  replace fq := fq.ch Z41
  have hobt := oapp Try.underlying26 ti3 rfl 4 hO rfl fq kY OH Tl (by decide)
  obtain ⟨XX, Eo, Ep, OI, rp, lv, KR⟩ := hobt
  dsimp only [sS, sZ] at rp lv
  refine zg (KR (by exact rfl) (by exact rfl)) ?_
  replace hO := rp.own
  refine zo (op_nilCheck rfl) (zo (op_fieldAddr Try.underlying72 rfl ti29 rfl (by decide)) (zo (op_fieldAddr Try.underlying29 rfl ti26 rfl (by decide)) ?_))
  have hobt := oblkSt2 (v := .slice Eo (lM + 1) Ep) (i := 5) (cs' := #[.int .i64 ((ix a0 (0 : Int)).length : Int), .bool true, .slice p35 n37 c36, .slice CG (lO + 1) CH, .slice DD (lN + 1) DE, .slice Eo (lM + 1) Ep, .slice none 0 0, .slice mV lJ mW, .int .i64 (0 : Int), .map (some B4), .slice nE lL nF, .slice mX lK mY, .slice nC lk nD]) 8 hO rfl rfl rfl rfl
  obtain ⟨XY, qJ, KS⟩ := hobt
  dsimp only [sS, sZ] at qJ
  refine zg (KS Try.underlying26 rfl ti26 (by exact rfl) (by exact rfl)) ?_
  replace hO := qJ.own
  refine zn (zq (zr (zm rfl (zm rfl (zo (op_nilCheck rfl) ?_)))))
  refine zo (op_fieldAddr Try.underlying72 rfl ti70 rfl (by decide)) (zs (oblk (i := 10) 8 hO rfl rfl Try.underlying70 rfl rfl) (zm rfl ?_))
  have hobt := obuild (r := Rp.str) (n := 1) (parts := [(0, .string (gstr (chr (IntKind.i32.wrap ((97 : Int) + (k3_548 : Int))))))]) (vs := [.string (gstr (chr (IntKind.i32.wrap ((97 : Int) + (k3_548 : Int)))))]) (xs := [chr (IntKind.i32.wrap ((97 : Int) + (k3_548 : Int)))]) rfl Try.underlying70 ti9 hO (by decide) (by kernel_rfl) (Els.cons rfl ⟨rfl, (chr_le _)⟩ (Els.nil _ _ _) (by simp [mx])) rfl
  obtain ⟨X0, X9, rq, OJ, Wc, KT⟩ := hobt
  refine zg (KT rfl) ?_
  replace hO := rq.own
  have hobt := freeze 0 hO rfl OJ
  obtain ⟨hO1, vt, o0, OK⟩ := hobt
  dsimp only [eS, eZ] at hO1 vt o0
  replace hB := (((hB.trans rp.fr).trans qJ.fr).trans rq.fr).trans (Owns.dropFr _ _ 0)
  dsimp only [eS, eZ] at hB
  replace hO := hO1; clear hO1
  obtain ⟨Tm, H⟩ := H
  have Z42 := (((Z41.trans rp.ch).trans qJ.ch).trans rq.ch).trans vt
  replace eh := eh.ch Z42
  have hobt := oapp Try.underlying70 ti9 rfl 3 hO rfl eh o0 OK Tm (by decide)
  obtain ⟨Ya, Fy, Fz, OL, qK, qB, KU⟩ := hobt
  dsimp only [sS, sZ] at qK qB
  refine zg (KU (by exact rfl) (by exact rfl)) ?_
  replace hO := qK.own
  refine zo (op_nilCheck rfl) (zo (op_fieldAddr Try.underlying72 rfl ti70 rfl (by decide)) ?_)
  have hobt := oblkSt2 (v := .slice Fy (lL + 1) Fz) (i := 10) (cs' := #[.int .i64 ((ix a0 (0 : Int)).length : Int), .bool true, .slice p35 n37 c36, .slice CG (lO + 1) CH, .slice DD (lN + 1) DE, .slice Eo (lM + 1) Ep, .slice none 0 0, .slice mV lJ mW, .int .i64 (0 : Int), .map (some B4), .slice Fy (lL + 1) Fz, .slice mX lK mY, .slice nC lk nD]) 8 hO rfl rfl rfl rfl
  obtain ⟨Yb, pV, KV⟩ := hobt
  dsimp only [sS, sZ] at pV
  refine zg (KV Try.underlying70 rfl ti70 (by exact rfl) (by exact rfl)) ?_
  replace hO := pV.own
  refine zn (zq ?_)
  refine Go1.cut [(0, .pointer (some ⟨B10, 0, none⟩)), (5, .int .i64 (0 : Int)), (13, .int .i64 (d_585.length : Int))] ⟨rfl, rfl, rfl, trivial⟩ ?_
  intro σ _
  refine zr (zm rfl (zm rfl (zo (op_nilCheck rfl) (zo (op_fieldAddr Try.underlying72 rfl ti26 rfl (by decide)) (zs (oblk (i := 11) 8 hO rfl rfl Try.underlying26 rfl rfl) ?_)))))
  refine zm rfl ?_
  have hobt := obuild (r := Rp.int .i64) (n := 1) (parts := [(0, .int .i64 (0 : Int))]) (vs := [.int .i64 (0 : Int)]) (xs := [(0 : Int)]) rfl Try.underlying26 ti3 hO (by decide) (by kernel_rfl) (Els.cons rfl rfl (Els.nil _ _ _) (by simp [mx])) rfl
  obtain ⟨Yc, Yd, qL, OM, Wd, KW⟩ := hobt
  refine zg (KW rfl) ?_
  replace hO := qL.own
  have hobt := freeze 0 hO rfl OM
  obtain ⟨hO1, ui, vu, ON⟩ := hobt
  dsimp only [eS, eZ] at hO1 ui vu
  replace hB := (((hB.trans qK.fr).trans pV.fr).trans qL.fr).trans (Owns.dropFr _ _ 0)
  dsimp only [eS, eZ] at hB
  replace hO := hO1; clear hO1
  obtain ⟨Tn, H⟩ := H
  have Z43 := (((Z42.trans qK.ch).trans pV.ch).trans qL.ch).trans ui
  replace dX := dX.ch Z43
  have hobt := oapp Try.underlying26 ti3 rfl 2 hO rfl dX vu ON Tn (by decide)
  obtain ⟨Ye, Gr, Gs, OO, pW, wW, KX⟩ := hobt
  dsimp only [sS, sZ] at pW wW
  refine zg (KX (by exact rfl) (by exact rfl)) ?_
  replace hO := pW.own
  refine zo (op_nilCheck rfl) (zo (op_fieldAddr Try.underlying72 rfl ti26 rfl (by decide)) ?_)
  have hobt := oblkSt2 (v := .slice Gr (lK + 1) Gs) (i := 11) (cs' := #[.int .i64 ((ix a0 (0 : Int)).length : Int), .bool true, .slice p35 n37 c36, .slice CG (lO + 1) CH, .slice DD (lN + 1) DE, .slice Eo (lM + 1) Ep, .slice none 0 0, .slice mV lJ mW, .int .i64 (0 : Int), .map (some B4), .slice Fy (lL + 1) Fz, .slice Gr (lK + 1) Gs, .slice nC lk nD]) 8 hO rfl rfl rfl rfl
  obtain ⟨Yf, pe, KY⟩ := hobt
  dsimp only [sS, sZ] at pe
  refine zg (KY Try.underlying26 rfl ti26 (by exact rfl) (by exact rfl)) ?_
  replace hO := pe.own
  refine zn (zq (zr (zm rfl (za rfl (zn ?_)))))
  refine Go1.ret1V Try.func65 rfl (show _ = .int .i64 (d_585.length : Int) from rfl) ?_
  refine hR670 _ _ ?_
  refine za rfl (zn (zr (zm rfl (zm rfl (zo (op_nilCheck rfl) ?_)))))
  refine zo (op_fieldAddr Try.underlying72 rfl ti26 rfl (by decide)) (zs (oblk (i := 12) 8 hO rfl rfl Try.underlying26 rfl rfl) (zm rfl ?_))
  have hobt := obuild (r := Rp.int .i64) (n := 1) (parts := [(0, .int .i64 (d_585.length : Int))]) (vs := [.int .i64 (d_585.length : Int)]) (xs := [(d_585.length : Int)]) rfl Try.underlying26 ti3 hO (by decide) (by kernel_rfl) (Els.cons rfl rfl (Els.nil _ _ _) (by simp [mx])) rfl
  obtain ⟨Yg, Yh, pX, OP, We, K1⟩ := hobt
  refine zg (K1 rfl) ?_
  replace hO := pX.own
  have hobt := freeze 0 hO rfl OP
  obtain ⟨hO1, sV, C5, OQ⟩ := hobt
  dsimp only [eS, eZ] at hO1 sV C5
  replace hB := (((hB.trans pW.fr).trans pe.fr).trans pX.fr).trans (Owns.dropFr _ _ 0)
  dsimp only [eS, eZ] at hB
  replace hO := hO1; clear hO1
  obtain ⟨To, H⟩ := H
  have Z44 := (((Z43.trans pW.ch).trans pe.ch).trans pX.ch).trans sV
  replace dN := dN.ch Z44
  have hobt := oapp Try.underlying26 ti3 rfl 0 hO rfl dN C5 OQ To (by decide)
  obtain ⟨Yi, H0, H1, OR, pg, ER, K2⟩ := hobt
  dsimp only [sS, sZ] at pg ER
  refine zg (K2 (by exact rfl) (by exact rfl)) ?_
  replace hO := pg.own
  refine zo (op_nilCheck rfl) (zo (op_fieldAddr Try.underlying72 rfl ti26 rfl (by decide)) ?_)
  have hobt := oblkSt2 (v := .slice H0 (lk + 1) H1) (i := 12) (cs' := #[.int .i64 ((ix a0 (0 : Int)).length : Int), .bool true, .slice p35 n37 c36, .slice CG (lO + 1) CH, .slice DD (lN + 1) DE, .slice Eo (lM + 1) Ep, .slice none 0 0, .slice mV lJ mW, .int .i64 (0 : Int), .map (some B4), .slice Fy (lL + 1) Fz, .slice Gr (lK + 1) Gs, .slice H0 (lk + 1) H1]) 8 hO rfl rfl rfl rfl
  obtain ⟨Yj, od, K3⟩ := hobt
  dsimp only [sS, sZ] at od
  refine zg (K3 Try.underlying26 rfl ti26 (by exact rfl) (by exact rfl)) ?_
  replace hO := od.own
  refine zn ?_
  refine Go1.inBlock ?_
  refine Go1.cut [(6, .pointer (some ⟨B10, 0, none⟩)), (9, .int .i64 (0 : Int)), (85, .slice p35 n37 c36), (86, .int .i64 (d_32.length : Int)), (87, .int .i64 (k3_548 : Int))] ⟨rfl, rfl, rfl, rfl, rfl, trivial⟩ ?_
  intro σ _
  refine zr ?_
  replace aC := ((aC.ch Z44).ch pg.ch).ch od.ch
  refine zo (op_add rfl rfl (wrap_i64 (natbd En aC.bd))) (zm rfl (zn ?_))
  replace ER := ER.ch od.ch
  replace hB := (hB.trans pg.fr).trans od.fr
  have Z45 := (((pe.ch.trans pX.ch).trans sV).trans pg.ch).trans od.ch
  replace wW := wW.ch Z45
  have Z46 := (((((((pV.ch.trans qL.ch).trans ui).trans pW.ch).trans pe.ch).trans pX.ch).trans sV).trans pg.ch).trans od.ch
  replace qB := qB.ch Z46
  have Z47 := (((((((((((qJ.ch.trans rq.ch).trans vt).trans qK.ch).trans pV.ch).trans qL.ch).trans ui).trans pW.ch).trans pe.ch).trans pX.ch).trans sV).trans pg.ch).trans od.ch
  replace lv := lv.ch Z47
  have Z48 := (((((((((((((((ro.ch.trans ss.ch).trans wb).trans rp.ch).trans qJ.ch).trans rq.ch).trans vt).trans qK.ch).trans pV.ch).trans qL.ch).trans ui).trans pW.ch).trans pe.ch).trans pX.ch).trans sV).trans pg.ch).trans od.ch
  replace jh := jh.ch Z48
  have Z49 := (((((((((((((((((((sq.ch.trans tB.ch).trans wV).trans sr.ch).trans ro.ch).trans ss.ch).trans wb).trans rp.ch).trans qJ.ch).trans rq.ch).trans vt).trans qK.ch).trans pV.ch).trans qL.ch).trans ui).trans pW.ch).trans pe.ch).trans pX.ch).trans sV).trans pg.ch).trans od.ch
  replace io := io.ch Z49
  replace dI := ((dI.ch Z44).ch pg.ch).ch od.ch
  exact hX3 _ H _ _ ⟨lk + 1, H0, H1, OR, lJ, mV, mW, uc, lK + 1, Gr, Gs, OO, lL + 1, Fy, Fz, OL, lM + 1, Eo, Ep, OI, lN + 1, DD, DE, OF, lO + 1, CG, CH, OC, ⟨rfl, rfl, rfl, rfl, rfl, trivial⟩, hO, ER, dI, wW, qB, lv, jh, io, aC, hB⟩
 replace H := ifn En H
 refine zo (fun w => opB (op_lss rfl rfl w) (decide_eq_false En)) (zn (zq (zf rfl rfl ?_)))
 refine Go1.exit rfl ?_
 refine zq (zr (zm rfl (za rfl (za rfl (zn ?_)))))
 have wG := Stp.nil (e := 26) (r := 1) hO
 replace hO := wG.own
 have oe := Els.nil (Rp.sl (Rp.int .i64)) (bl (.row 26 1 none 0 0 [] :: [.row 3 1 nC lk nD vr, .row 39 2 mV lJ mW uc, .row 3 1 mX lK mY ud, .row 9 1 nE lL nF ue, .row 3 1 oa lM ob uf, .row 3 1 oR lN oS ug, .row 26 1 pF lO pG uh, .row 26 1 p35 n37 c36 i7, .blk B10 (.cells #[.int .i64 ((ix a0 (0 : Int)).length : Int), .bool true, .slice p35 n37 c36, .slice pF lO pG, .slice oR lN oS, .slice oa lM ob, .slice none 0 0, .slice mV lJ mW, .int .i64 (0 : Int), .map (some B4), .slice nE lL nF, .slice mX lK mY, .slice nC lk nD] 72 (0, 0)), .any (mapE (fun a : List UInt8 => Value.string (gstr a)) (fun a : Int => Value.int .i64 a) B4 m3_591)]) ++ A) S8
 have uS := Stp.front 10 hO rfl
 dsimp only [eS, eZ] at uS
 replace hO := uS.own
 have uT := Stp.front 2 hO rfl
 dsimp only [eS, eZ] at uT
 replace hO := uT.own
 have uU := Stp.front 4 hO rfl
 dsimp only [eS, eZ] at uU
 replace hO := uU.own
 have uV := Stp.front 5 hO rfl
 dsimp only [eS, eZ] at uV
 replace hO := uV.own
 have uW := Stp.front 5 hO rfl
 dsimp only [eS, eZ] at uW
 replace hO := uW.own
 have uX := Stp.front 5 hO rfl
 dsimp only [eS, eZ] at uX
 replace hO := uX.own
 have uY := Stp.front 6 hO rfl
 dsimp only [eS, eZ] at uY
 replace hO := uY.own
 have u0 := Stp.front 7 hO rfl
 dsimp only [eS, eZ] at u0
 replace hO := u0.own
 have u3 := Stp.front 8 hO rfl
 dsimp only [eS, eZ] at u3
 replace hO := u3.own
 have u4 := Stp.front 9 hO rfl
 dsimp only [eS, eZ] at u4
 replace hO := u4.own
 have u5 := Stp.front 10 hO rfl
 dsimp only [eS, eZ] at u5
 replace hO := u5.own
 refine Go1.ret2 Try.func49 rfl ?_
 have Z50 := (((((((((uS.ch.trans uT.ch).trans uU.ch).trans uV.ch).trans uW.ch).trans uX.ch).trans uY.ch).trans u0.ch).trans u3.ch).trans u4.ch).trans u5.ch
 replace oe := oe.ch Z50
 have Z51 := ((((((((((wG.ch.trans uS.ch).trans uT.ch).trans uU.ch).trans uV.ch).trans uW.ch).trans uX.ch).trans uY.ch).trans u0.ch).trans u3.ch).trans u4.ch).trans u5.ch
 replace dN := dN.ch Z51
 replace dI := dI.ch Z51
 replace dX := dX.ch Z51
 replace eh := eh.ch Z51
 replace fq := fq.ch Z51
 replace fK := fK.ch Z51
 replace gi := gi.ch Z51
 replace aC := aC.ch Z51
 replace hB := (((((((((((hB.trans wG.fr).trans uS.fr).trans uT.fr).trans uU.fr).trans uV.fr).trans uW.fr).trans uX.fr).trans uY.fr).trans u0.fr).trans u3.fr).trans u4.fr).trans u5.fr
 exact Or.inr ⟨(⟨(⟨((ix a0 (0 : Int)).length : Int), true, d_32, d_585, d_579, d_573, ([] : List (List Int)), d_555, (0 : Int)⟩ : Enum), m3_591, d_567, d_561, d_549⟩ : run), ((0 : Int)), B10, n37, p35, c36, i7, lO, pF, pG, uh, lN, oR, oS, ug, lM, oa, ob, uf, 0, none, 0, ([]), lJ, mV, mW, uc, B4, lL, nE, nF, ue, lK, mX, mY, ud, lk, nC, nD, vr, rfl, hB.same, hO, aC, gi, fK, fq, oe, dI, eh, dX, dN, H⟩
theorem body37 : Body Try.prog 37 := ⟨Try.f37, Try.func37, rfl, by kernel_rfl⟩
theorem walk_trans_Compose {A : List Nat} {w0 : World} {p_f : Option Addr} {c_f : Nat} {p_g : Option Addr} {c_g : Nat} {f : List Int} {g : List Int} (hA : ∀ b ∈ A, b < w0.heap.size) (h_f : ISl (Rp.int .i64) A w0 p_f c_f f) (h_g : ISl (Rp.int .i64) A w0 p_g c_g g) {K : List Int → Prop} (H : trans_Compose f g K) :
    CallsV Try.prog 37 #[.slice p_f f.length c_f, .slice p_g g.length c_g] w0 (fun v w' => ∃ (r0 : List Int), ∃ (nt : Option Addr), ∃ (nu : Nat), v = .slice nt r0.length nu ∧ Same w0 w' ∧ ISl (Rp.int .i64) A w' nt nu r0 ∧ K r0) := by
 refine CallsV.of (l := [.slice p_f f.length c_f, .slice p_g g.length c_g]) Try.func37 rfl Try.ntmps37 rfl ?_
 have hO := Owns.start hA
 have hB := Fr.refl (bl []) w0
 unfold trans_Compose at H
 refine zq (zr (za rfl (zn (zq (zq ?_)))))
 refine zr (zm rfl (zo (op_len Try.underlying26 rfl) ?_))
 replace h_f := h_f.ch (Ch.start A w0)
 replace H := H h_f.bd
 refine zm rfl (zo (op_len Try.underlying26 rfl) ?_)
 replace h_g := h_g.ch (Ch.start A w0)
 replace H := H h_g.bd
 by_cases h1 : (f.length : Int) = (g.length : Int)
 ·replace H := ifp h1 H
  refine zo (fun w => opB (op_neq rfl rfl w) (ndT h1)) (zm rfl (zm rfl ?_))
  refine GoR.call (op_call body60 rfl (walk_trans_Valid hO.lt h_f H)) rfl rfl ?_
  rintro v6 w3 ⟨r2, rfl, hs4, H⟩
  have ra := Stp.same hO hs4
  replace hO := ra.own
  cases r2
  ·replace H := ifn Bool.false_ne_true H
   refine zo (op_not rfl) (zo (op_pickF rfl rfl rfl) (zm rfl (zp (zp (zp ?_)))))
   refine zo (op_pickT rfl rfl rfl) (zn (zt rfl rfl (zq (zr (za rfl ?_)))))
   refine zn ?_
   refine Go1.ret1 Try.func37 rfl ?_
   replace hB := hB.trans ra.fr
   exact ⟨([] : List Int), none, 0, rfl, hB.same, (ISl.null _ _ _), H⟩
  replace H := ifp rfl H
  refine zo (op_not rfl) (zo (op_pickF rfl rfl rfl) (zm rfl (zm rfl ?_)))
  replace h_g := h_g.ch ra.ch
  refine GoR.call (op_call body60 rfl (walk_trans_Valid hO.lt h_g H)) rfl rfl ?_
  rintro v12 w9 ⟨r8, rfl, Fh, H⟩
  have Am := Stp.same hO Fh
  replace hO := Am.own
  cases r8
  ·replace H := ifn Bool.false_ne_true H
   refine zo (op_not rfl) (zo (op_pickF rfl rfl rfl) (zn (zt rfl rfl (zq ?_))))
   refine Go1.cut [] trivial ?_
   intro σ _
   refine zr (za rfl (zn ?_))
   refine Go1.ret1 Try.func37 rfl ?_
   replace hB := (hB.trans ra.fr).trans Am.fr
   exact ⟨([] : List Int), none, 0, rfl, hB.same, (ISl.null _ _ _), H⟩
  replace H := ifp rfl H
  refine zo (op_not rfl) (zo (op_pickF rfl rfl rfl) (zn (zf rfl rfl (zk (zq ?_)))))
  refine zr (zm rfl (zo (op_len Try.underlying26 rfl) ?_))
  obtain ⟨h21, H⟩ := H
  obtain ⟨h22, H⟩ := H
  have hobt := omake (n := (f.length : Int)) (r := Rp.int .i64) (d := (0 : Int)) Try.underlying26 ti3 (fun _ _ => rfl) rfl hO h21 h22 (by decide)
  obtain ⟨w14, p15, Ds, rS, fG, Er, FY⟩ := hobt
  refine zg (FY rfl rfl) ?_
  replace hO := rS.own
  refine za rfl (zn (zq (zq (zr (zm rfl ?_)))))
  refine zo (op_len Try.underlying26 rfl) (zm rfl (zn (zb ?_)))
  replace h_g := (h_g.ch Am.ch).ch rS.ch
  have Z1 := (ra.ch.trans Am.ch).trans rS.ch
  replace h_f := h_f.ch Z1
  replace hB := ((hB.trans ra.fr).trans Am.fr).trans rS.fr
  refine Go1.loopW (S := Nat × List Int) (fun s σ w => match s with | (k1_25, h1_26) => ∃ (DF : List Value), agrees σ [(1, .slice p_g g.length c_g), (5, .slice p15 f.length f.length), (26, .slice p_f f.length c_f), (27, .int .i64 (f.length : Int)), (28, .int .i64 (k1_25 : Int))] ∧ (fun Z0 => Owns w0.heap.size w Z0 A ∧ Els (Rp.int .i64) (bl Z0 ++ A) w DF h1_26 ∧ ISl (Rp.int .i64) (bl Z0 ++ A) w p_f c_f f ∧ ISl (Rp.int .i64) (bl Z0 ++ A) w p_g c_g g ∧ Fr (bl []) w0 (bl Z0) w) [.row 3 1 p15 f.length f.length DF]) H ⟨Ds, ⟨rfl, rfl, rfl, rfl, rfl, trivial⟩, hO, fG, h_f, h_g, hB⟩ ?_
  intro X1
  refine prE fun k1_25 => fun h1_26 => ?_
  intro H hX1 σ w24
  refine exE fun DF => andE fun hag => andE fun hO => andE fun AV => andE fun h_f => andE fun h_g => fun hB => ?_
  dsimp only at H
  refine Go1.keep [(1, .slice p_g g.length c_g), (5, .slice p15 f.length f.length), (26, .slice p_f f.length c_f), (27, .int .i64 (f.length : Int)), (28, .int .i64 (k1_25 : Int))] hag ?_
  refine zq (zr ?_)
  by_cases h29 : (k1_25 : Int) < (f.length : Int)
  ·replace H := ifp h29 H
   refine zo (fun w => opB (op_lss rfl rfl w) (decide_eq_true h29)) (zn (zq (zt rfl rfl (zk (zq ?_)))))
   refine zb (zq (zr (zm rfl ?_)))
   obtain ⟨h30, H⟩ := H
   obtain ⟨h31, H⟩ := H
   refine zo (op_index Try.underlying26 ti3 rfl rfl h30 h31 (h_f.some_ h30 h31)) (zs (ldInt h_f h30 h31 Try.underlying3 rfl rfl) (za rfl (za rfl (zn (zr ?_)))))
   refine zm rfl (zm rfl (zm rfl (zm rfl ?_)))
   obtain ⟨h32, H⟩ := H
   obtain ⟨h33, H⟩ := H
   refine zo (op_index Try.underlying26 ti3 rfl rfl h32 h33 (h_g.some_ h32 h33)) (zs (ldInt h_g h32 h33 Try.underlying3 rfl rfl) ?_)
   obtain ⟨h34, H⟩ := H
   obtain ⟨h35, H⟩ := H
   refine zo (op_index Try.underlying26 ti3 rfl rfl h34 (ltn (AV.neq hO 0 rfl) h35) (AV.psome hO 0 rfl h34 h35)) ?_
   have hobt := ost (r := Rp.int .i64) rfl 0 hO rfl AV h34 h35 (v := .int .i64 (ix g (ix f (k1_25 : Int)))) (u := (ix g (ix f (k1_25 : Int)))) rfl rfl
   obtain ⟨w36, rs, lx, gw, D4⟩ := hobt
   refine zg (D4 Try.underlying3 rfl ti3 (by exact rfl) (by exact rfl)) ?_
   replace hO := lx.own
   refine zn ?_
   refine Go1.inBlock ?_
   refine zr ?_
   replace h_f := h_f.ch lx.ch
   refine zo (op_add rfl rfl (wrap_i64 (natbd h29 h_f.bd))) (zm rfl (zn ?_))
   replace h_g := h_g.ch lx.ch
   replace hB := hB.trans lx.fr
   exact hX1 _ H _ _ ⟨rs, ⟨rfl, rfl, rfl, rfl, rfl, trivial⟩, hO, gw, h_f, h_g, hB⟩
  replace H := ifn h29 H
  refine zo (fun w => opB (op_lss rfl rfl w) (decide_eq_false h29)) (zn (zq (zf rfl rfl ?_)))
  refine Go1.exit rfl ?_
  refine zq (zr (zm rfl (za rfl (zn ?_))))
  have hobt := freeze 0 hO rfl AV
  obtain ⟨hO1, K4, xw, Tp⟩ := hobt
  replace hO := hO1; clear hO1
  refine Go1.ret1 Try.func37 rfl ?_
  replace hB := hB.trans (Owns.dropFr _ _ 0)
  exact ⟨h1_26, p15, f.length, (congrArg (fun nn => Value.slice p15 nn f.length) Tp), hB.same, (xw.ch (Ch.weak _ _ _)), H⟩
 replace H := ifn h1 H
 refine zo (fun w => opB (op_neq rfl rfl w) (ndF h1)) (zm rfl (zp (zp (zp (zo (op_pickT rfl rfl rfl) ?_)))))
 refine zm rfl (zp (zp (zp (zo (op_pickT rfl rfl rfl) (zn ?_)))))
 refine zt rfl rfl (zq ?_)
 refine Go1.cut [] trivial ?_
 intro σ _
 refine zr (za rfl (zn ?_))
 refine Go1.ret1 Try.func37 rfl ?_
 exact ⟨([] : List Int), none, 0, rfl, hB.same, (ISl.null _ _ _), H⟩
end Sg
