/- The walks: each call keeps to its plain transformer. Printed by walkgen.py. -/
import Derived.Test.YtjegjjdfgefkoaaTi
import Derived.Test.YtjegjjdfgefkoaaAl
namespace Sg
open Go Go.RowKit Go.Proofs
set_option linter.unusedVariables false
set_option linter.unusedSimpArgs false
set_option maxRecDepth 100000
set_option maxHeartbeats 4000000
theorem body48 : Body Try.prog 48 := ⟨Try.f48, Try.func48, rfl, by kernel_rfl⟩
theorem walk_ref11_Valid {A : List Nat} {w0 : World} {p_f : Option Addr} {c_f : Nat} {f : List Int} (hA : ∀ b ∈ A, b < w0.heap.size) (h_f : ISl (Rp.int .i64) A w0 p_f c_f f) {K : Bool → Prop} (H : ref11_Valid f K) :
    CallsV Try.prog 48 #[.slice p_f f.length c_f] w0 (fun v w' => ∃ (r0 : Bool), v = .bool r0 ∧ Same w0 w' ∧ K r0) := by
 refine CallsV.of (l := [.slice p_f f.length c_f]) Try.func48 rfl Try.ntmps48 rfl ?_
 have hO := Owns.start hA
 have hB := Fr.refl (bl []) w0
 unfold ref11_Valid at H
 refine zq (zr (za rfl (zn (zq (zq ?_)))))
 refine zr (zm rfl (zo (op_len Try.underlying26 rfl) ?_))
 replace h_f := h_f.ch (Ch.start A w0)
 replace H := H h_f.bd
 by_cases h1 : (f.length : Int) < (1 : Int)
 ·replace H := ifp h1 H
  refine zo (fun w => opB (op_lss rfl rfl w) (decide_eq_true h1)) (zm rfl (zp (zp (zp (zo (op_pickT rfl rfl rfl) ?_)))))
  refine zn (zt rfl rfl (zq (zr (za rfl (zn ?_)))))
  refine Go1.ret1 Try.func48 rfl ?_
  exact ⟨false, rfl, hB.same, H⟩
 replace H := ifn h1 H
 refine zo (fun w => opB (op_lss rfl rfl w) (decide_eq_false h1)) (zm rfl (zm rfl (zo (op_len Try.underlying26 rfl) ?_)))
 by_cases h2 : (32 : Int) < (f.length : Int)
 ·replace H := ifp h2 H
  refine zo (fun w => opB (op_gtr rfl rfl w) (decide_eq_true h2)) (zo (op_pickF rfl rfl rfl) (zn (zt rfl rfl (zq (zr ?_)))))
  refine za rfl (zn ?_)
  refine Go1.ret1 Try.func48 rfl ?_
  exact ⟨false, rfl, hB.same, H⟩
 replace H := ifn h2 H
 refine zo (fun w => opB (op_gtr rfl rfl w) (decide_eq_false h2)) (zo (op_pickF rfl rfl rfl) (zn (zf rfl rfl (zk (zq ?_)))))
 refine zq (zr (zm rfl (zo (op_len Try.underlying26 rfl) (zm rfl (zn ?_)))))
 refine zb ?_
 refine Go1.loopW (S := Nat) (fun s σ w => agrees σ [(0, .slice p_f f.length c_f), (13, .slice p_f f.length c_f), (14, .int .i64 (f.length : Int)), (15, .int .i64 (s : Int))] ∧ Owns w0.heap.size w [] A ∧ ISl (Rp.int .i64) (bl [] ++ A) w p_f c_f f ∧ Fr (bl []) w0 (bl []) w) H ⟨⟨rfl, rfl, rfl, rfl, trivial⟩, hO, h_f, hB⟩ ?_
 intro X1 k1_4
 intro H hX1 σ w3
 refine andE fun hag => andE fun hO => andE fun h_f => fun hB => ?_
 refine Go1.keep [(0, .slice p_f f.length c_f), (13, .slice p_f f.length c_f), (14, .int .i64 (f.length : Int)), (15, .int .i64 (k1_4 : Int))] hag ?_
 refine zq (zr ?_)
 by_cases h5 : (k1_4 : Int) < (f.length : Int)
 ·replace H := ifp h5 H
  refine zo (fun w => opB (op_lss rfl rfl w) (decide_eq_true h5)) (zn (zq (zt rfl rfl (zk (zq ?_)))))
  refine zb (zq (zr ?_))
  obtain ⟨h6, H⟩ := H
  obtain ⟨h7, H⟩ := H
  refine zo (op_index Try.underlying26 ti3 rfl rfl h6 h7 (h_f.some_ h6 h7)) (zs (ldInt h_f h6 h7 Try.underlying3 rfl rfl) (za rfl (zn (zq (zr ?_)))))
  refine zm rfl ?_
  by_cases h8 : (ix f (k1_4 : Int)) < (0 : Int)
  ·replace H := ifp h8 H
   refine zo (fun w => opB (op_lss rfl rfl w) (decide_eq_true h8)) (zm rfl (zp (zp (zp (zp ?_)))))
   refine zo (op_pickT rfl rfl rfl) (zn (zt rfl rfl (zq (zr (za rfl ?_)))))
   refine zn ?_
   refine Go1.ret1 Try.func48 rfl ?_
   exact ⟨false, rfl, hB.same, H⟩
  replace H := ifn h8 H
  refine zo (fun w => opB (op_lss rfl rfl w) (decide_eq_false h8)) (zm rfl (zm rfl (zm rfl (zo (op_len Try.underlying26 rfl) ?_))))
  by_cases h9 : (f.length : Int) ≤ (ix f (k1_4 : Int))
  ·replace H := ifp h9 H
   refine zo (fun w => opB (op_geq rfl rfl w) (decide_eq_true h9)) (zo (op_pickF rfl rfl rfl) (zn (zt rfl rfl (zq ?_))))
   refine Go1.cut [] trivial ?_
   intro σ _
   refine zr (za rfl (zn ?_))
   refine Go1.ret1 Try.func48 rfl ?_
   exact ⟨false, rfl, hB.same, H⟩
  replace H := ifn h9 H
  refine zo (fun w => opB (op_geq rfl rfl w) (decide_eq_false h9)) (zo (op_pickF rfl rfl rfl) (zn (zf rfl rfl (zk ?_))))
  refine Go1.inBlock ?_
  refine zr (zo (op_add rfl rfl (wrap_i64 (natbd h5 h_f.bd))) (zm rfl (zn ?_)))
  exact hX1 _ H _ _ ⟨⟨rfl, rfl, rfl, rfl, trivial⟩, hO, h_f, hB⟩
 replace H := ifn h5 H
 refine zo (fun w => opB (op_lss rfl rfl w) (decide_eq_false h5)) (zn (zq (zf rfl rfl ?_)))
 refine Go1.exit rfl ?_
 refine zq (zr (za rfl (zn ?_)))
 refine Go1.ret1 Try.func48 rfl ?_
 exact ⟨true, rfl, hB.same, H⟩
theorem body14 : Body Try.prog 14 := ⟨Try.f14, Try.func14, rfl, by kernel_rfl⟩
theorem walk_ref11_MayGens {A : List Nat} {w0 : World} {iI : Option Addr} {iJ : Nat} {gens : List (List Int)} (hA : ∀ b ∈ A, b < w0.heap.size) (bC : ISl (Rp.sl (Rp.int .i64)) A w0 iI iJ gens) {K : Bool → Prop} (H : ref11_MayGens gens K) :
    CallsV Try.prog 14 #[.slice iI gens.length iJ] w0 (fun v w' => ∃ (r0 : Bool), v = .bool r0 ∧ Same w0 w' ∧ K r0) := by
 refine CallsV.of (l := [.slice iI gens.length iJ]) Try.func14 rfl Try.ntmps14 rfl ?_
 have hO := Owns.start hA
 have hB := Fr.refl (bl []) w0
 unfold ref11_MayGens at H
 refine zq (zr (za rfl (zn (zq (zq ?_)))))
 refine zr (zm rfl (zo (op_len Try.underlying22 rfl) ?_))
 replace bC := bC.ch (Ch.start A w0)
 replace H := H bC.bd
 by_cases h1 : (gens.length : Int) < (1 : Int)
 ·replace H := ifp h1 H
  refine zo (fun w => opB (op_lss rfl rfl w) (decide_eq_true h1)) (zm rfl (zp (zp (zp (zo (op_pickT rfl rfl rfl) ?_)))))
  refine zn (zt rfl rfl (zq (zr (za rfl (zn ?_)))))
  refine Go1.ret1 Try.func14 rfl ?_
  exact ⟨false, rfl, hB.same, H⟩
 replace H := ifn h1 H
 refine zo (fun w => opB (op_lss rfl rfl w) (decide_eq_false h1)) (zm rfl (zm rfl (zo (op_len Try.underlying22 rfl) ?_)))
 by_cases h2 : (6 : Int) < (gens.length : Int)
 ·replace H := ifp h2 H
  refine zo (fun w => opB (op_gtr rfl rfl w) (decide_eq_true h2)) (zo (op_pickF rfl rfl rfl) (zn (zt rfl rfl (zq (zr ?_)))))
  refine za rfl (zn ?_)
  refine Go1.ret1 Try.func14 rfl ?_
  exact ⟨false, rfl, hB.same, H⟩
 replace H := ifn h2 H
 refine zo (fun w => opB (op_gtr rfl rfl w) (decide_eq_false h2)) (zo (op_pickF rfl rfl rfl) (zn (zf rfl rfl (zk (zq ?_)))))
 refine zq (zr (zm rfl (zo (op_len Try.underlying22 rfl) (zm rfl (zn ?_)))))
 refine zb ?_
 refine Go1.loopW (S := Nat) (fun s σ w => agrees σ [(0, .slice iI gens.length iJ), (13, .slice iI gens.length iJ), (14, .int .i64 (gens.length : Int)), (15, .int .i64 (s : Int))] ∧ Owns w0.heap.size w [] A ∧ ISl (Rp.sl (Rp.int .i64)) (bl [] ++ A) w iI iJ gens ∧ Fr (bl []) w0 (bl []) w) H ⟨⟨rfl, rfl, rfl, rfl, trivial⟩, hO, bC, hB⟩ ?_
 intro X1 k1_4
 intro H hX1 σ w3
 refine andE fun hag => andE fun hO => andE fun bC => fun hB => ?_
 refine Go1.keep [(0, .slice iI gens.length iJ), (13, .slice iI gens.length iJ), (14, .int .i64 (gens.length : Int)), (15, .int .i64 (k1_4 : Int))] hag ?_
 refine zq (zr ?_)
 by_cases h5 : (k1_4 : Int) < (gens.length : Int)
 ·replace H := ifp h5 H
  refine zo (fun w => opB (op_lss rfl rfl w) (decide_eq_true h5)) (zn (zq (zt rfl rfl (zk (zq ?_)))))
  refine zb (zq (zr ?_))
  obtain ⟨h6, H⟩ := H
  obtain ⟨h7, H⟩ := H
  refine zo (op_index Try.underlying22 ti26 rfl rfl h6 h7 (bC.some_ h6 h7)) ?_
  have hobt := ldSl bC h6 h7
  obtain ⟨p8, c9, DP, PS⟩ := hobt
  refine zs (PS Try.underlying26 rfl rfl) (za rfl (zn (zq (zr (zm rfl ?_)))))
  refine GoR.call (op_call body48 rfl (walk_ref11_Valid hO.lt DP H)) rfl rfl ?_
  rintro v16 w13 ⟨r12, rfl, FA, H⟩
  have px := Stp.same hO FA
  replace hO := px.own
  cases r12
  ·replace H := ifn Bool.false_ne_true H
   refine zo (op_not rfl) (zm rfl (zp (zp (zp (zp ?_)))))
   refine zp (zp (zp (zo (op_pickT rfl rfl rfl) (zn (zt rfl rfl ?_)))))
   refine zq (zr (za rfl (zn ?_)))
   refine Go1.ret1 Try.func14 rfl ?_
   replace hB := hB.trans px.fr
   exact ⟨false, rfl, hB.same, H⟩
  replace H := ifp rfl H
  refine zo (op_not rfl) (zm rfl (zm rfl (zo (op_len Try.underlying26 rfl) ?_)))
  replace DP := DP.ch px.ch
  replace H := H DP.bd
  refine zm rfl ?_
  obtain ⟨h18, H⟩ := H
  obtain ⟨h19, H⟩ := H
  replace bC := bC.ch px.ch
  refine zo (op_index Try.underlying22 ti26 rfl rfl h18 h19 (bC.some_ h18 h19)) ?_
  have hobt := ldSl bC h18 h19
  obtain ⟨p20, c21, PT, PU⟩ := hobt
  refine zs (PU Try.underlying26 rfl rfl) (zo (op_len Try.underlying26 rfl) ?_)
  replace H := H PT.bd
  by_cases h24 : ((ix gens (k1_4 : Int)).length : Int) = ((ix gens (0 : Int)).length : Int)
  ·replace H := ifp h24 H
   refine zo (fun w => opB (op_neq rfl rfl w) (ndT h24)) (zo (op_pickF rfl rfl rfl) (zn (zf rfl rfl (zk ?_))))
   refine Go1.inBlock ?_
   refine Go1.cut [(0, .slice iI gens.length iJ), (13, .slice iI gens.length iJ), (14, .int .i64 (gens.length : Int)), (15, .int .i64 (k1_4 : Int))] ⟨rfl, rfl, rfl, rfl, trivial⟩ ?_
   intro σ _
   refine zr (zo (op_add rfl rfl (wrap_i64 (natbd h5 bC.bd))) (zm rfl (zn ?_)))
   replace hB := hB.trans px.fr
   exact hX1 _ H _ _ ⟨⟨rfl, rfl, rfl, rfl, trivial⟩, hO, bC, hB⟩
  replace H := ifn h24 H
  refine zo (fun w => opB (op_neq rfl rfl w) (ndF h24)) (zo (op_pickF rfl rfl rfl) (zn (zt rfl rfl (zq (zr ?_)))))
  refine za rfl (zn ?_)
  refine Go1.ret1 Try.func14 rfl ?_
  replace hB := hB.trans px.fr
  exact ⟨false, rfl, hB.same, H⟩
 replace H := ifn h5 H
 refine zo (fun w => opB (op_lss rfl rfl w) (decide_eq_false h5)) (zn (zq (zf rfl rfl ?_)))
 refine Go1.exit rfl ?_
 refine zq (zr (za rfl (zn ?_)))
 refine Go1.ret1 Try.func14 rfl ?_
 exact ⟨true, rfl, hB.same, H⟩
theorem body15 : Body Try.prog 15 := ⟨Try.f15, Try.func15, rfl, by kernel_rfl⟩
theorem walk_law12_little {A : List Nat} {w0 : World} {iI : Option Addr} {iJ : Nat} {gens : List (List Int)} {points : Int} {letters : Int} (hA : ∀ b ∈ A, b < w0.heap.size) (bC : ISl (Rp.sl (Rp.int .i64)) A w0 iI iJ gens) {K : Bool → Prop} (H : law12_little gens points letters K) :
    CallsV Try.prog 15 #[.slice iI gens.length iJ, .int .i64 points, .int .i64 letters] w0 (fun v w' => ∃ (r0 : Bool), v = .bool r0 ∧ Same w0 w' ∧ K r0) := by
 refine CallsV.of (l := [.slice iI gens.length iJ, .int .i64 points, .int .i64 letters]) Try.func15 rfl Try.ntmps15 rfl ?_
 have hO := Owns.start hA
 have hB := Fr.refl (bl []) w0
 unfold law12_little at H
 refine zq (zr (za rfl (zn (zq (zr ?_)))))
 refine zm rfl ?_
 replace bC := bC.ch (Ch.start A w0)
 refine GoR.call (op_call body14 rfl (walk_ref11_MayGens hO.lt bC H)) rfl rfl ?_
 rintro v5 w2 ⟨r1, rfl, hs3, H⟩
 have yJ := Stp.same hO hs3
 replace hO := yJ.own
 refine zm rfl ?_
 cases r1
 ·replace H := ifn Bool.false_ne_true H
  refine zp (zp (zp (zp (zo (op_pickF rfl rfl rfl) (zm rfl ?_)))))
  refine zp (zp (zp (zp (zp (zp ?_)))))
  refine zo (op_pickF rfl rfl rfl) (za rfl (zn ?_))
  refine Go1.ret1 Try.func15 rfl ?_
  replace hB := hB.trans yJ.fr
  exact ⟨false, rfl, hB.same, H⟩
 replace H := ifp rfl H
 refine zm rfl (zo (op_len Try.underlying22 rfl) ?_)
 replace bC := bC.ch yJ.ch
 replace H := H bC.bd
 refine zm rfl ?_
 by_cases h7 : (gens.length : Int) ≤ letters
 ·replace H := ifp h7 H
  refine zo (fun w => opB (op_leq rfl rfl w) (decide_eq_true h7)) (zo (op_pickT rfl rfl rfl) (zm rfl (zm rfl ?_)))
  obtain ⟨h8, H⟩ := H
  obtain ⟨h9, H⟩ := H
  refine zo (op_index Try.underlying22 ti26 rfl rfl h8 h9 (bC.some_ h8 h9)) ?_
  have hobt := ldSl bC h8 h9
  obtain ⟨p10, c11, Dh, FB⟩ := hobt
  refine zs (FB Try.underlying26 rfl rfl) (zo (op_len Try.underlying26 rfl) ?_)
  replace H := H Dh.bd
  refine zm rfl ?_
  by_cases h14 : ((ix gens (0 : Int)).length : Int) ≤ points
  ·replace H := ifp h14 H
   refine zo (fun w => opB (op_leq rfl rfl w) (decide_eq_true h14)) (zo (op_pickT rfl rfl rfl) (za rfl (zn ?_)))
   refine Go1.ret1 Try.func15 rfl ?_
   replace hB := hB.trans yJ.fr
   exact ⟨true, rfl, hB.same, H⟩
  replace H := ifn h14 H
  refine zo (fun w => opB (op_leq rfl rfl w) (decide_eq_false h14)) (zo (op_pickT rfl rfl rfl) (za rfl (zn ?_)))
  refine Go1.ret1 Try.func15 rfl ?_
  replace hB := hB.trans yJ.fr
  exact ⟨false, rfl, hB.same, H⟩
 replace H := ifn h7 H
 refine zo (fun w => opB (op_leq rfl rfl w) (decide_eq_false h7)) (zo (op_pickT rfl rfl rfl) (zm rfl (zp (zp (zp ?_)))))
 refine zp (zp (zp (zo (op_pickF rfl rfl rfl) (za rfl (zn ?_)))))
 refine Go1.ret1 Try.func15 rfl ?_
 replace hB := hB.trans yJ.fr
 exact ⟨false, rfl, hB.same, H⟩
theorem body60 : Body Try.prog 60 := ⟨Try.f60, Try.func60, rfl, by kernel_rfl⟩
theorem walk_trans_Valid {A : List Nat} {w0 : World} {p_f : Option Addr} {c_f : Nat} {f : List Int} (hA : ∀ b ∈ A, b < w0.heap.size) (h_f : ISl (Rp.int .i64) A w0 p_f c_f f) {K : Bool → Prop} (H : trans_Valid f K) :
    CallsV Try.prog 60 #[.slice p_f f.length c_f] w0 (fun v w' => ∃ (r0 : Bool), v = .bool r0 ∧ Same w0 w' ∧ K r0) := by
 refine CallsV.of (l := [.slice p_f f.length c_f]) Try.func60 rfl Try.ntmps60 rfl ?_
 have hO := Owns.start hA
 have hB := Fr.refl (bl []) w0
 unfold trans_Valid at H
 refine zq (zr (za rfl (zn (zq (zq ?_)))))
 refine zr (zm rfl (zo (op_len Try.underlying26 rfl) ?_))
 replace h_f := h_f.ch (Ch.start A w0)
 replace H := H h_f.bd
 by_cases h1 : (f.length : Int) < (1 : Int)
 ·replace H := ifp h1 H
  refine zo (fun w => opB (op_lss rfl rfl w) (decide_eq_true h1)) (zm rfl (zp (zp (zp (zo (op_pickT rfl rfl rfl) ?_)))))
  refine zn (zt rfl rfl (zq (zr (za rfl (zn ?_)))))
  refine Go1.ret1 Try.func60 rfl ?_
  exact ⟨false, rfl, hB.same, H⟩
 replace H := ifn h1 H
 refine zo (fun w => opB (op_lss rfl rfl w) (decide_eq_false h1)) (zm rfl (zm rfl (zo (op_len Try.underlying26 rfl) ?_)))
 by_cases h2 : (32 : Int) < (f.length : Int)
 ·replace H := ifp h2 H
  refine zo (fun w => opB (op_gtr rfl rfl w) (decide_eq_true h2)) (zo (op_pickF rfl rfl rfl) (zn (zt rfl rfl (zq (zr ?_)))))
  refine za rfl (zn ?_)
  refine Go1.ret1 Try.func60 rfl ?_
  exact ⟨false, rfl, hB.same, H⟩
 replace H := ifn h2 H
 refine zo (fun w => opB (op_gtr rfl rfl w) (decide_eq_false h2)) (zo (op_pickF rfl rfl rfl) (zn (zf rfl rfl (zk (zq ?_)))))
 refine zq (zr (zm rfl (zo (op_len Try.underlying26 rfl) (zm rfl (zn ?_)))))
 refine zb ?_
 refine Go1.loopW (S := Nat) (fun s σ w => agrees σ [(0, .slice p_f f.length c_f), (13, .slice p_f f.length c_f), (14, .int .i64 (f.length : Int)), (15, .int .i64 (s : Int))] ∧ Owns w0.heap.size w [] A ∧ ISl (Rp.int .i64) (bl [] ++ A) w p_f c_f f ∧ Fr (bl []) w0 (bl []) w) H ⟨⟨rfl, rfl, rfl, rfl, trivial⟩, hO, h_f, hB⟩ ?_
 intro X1 k1_4
 intro H hX1 σ w3
 refine andE fun hag => andE fun hO => andE fun h_f => fun hB => ?_
 refine Go1.keep [(0, .slice p_f f.length c_f), (13, .slice p_f f.length c_f), (14, .int .i64 (f.length : Int)), (15, .int .i64 (k1_4 : Int))] hag ?_
 refine zq (zr ?_)
 by_cases h5 : (k1_4 : Int) < (f.length : Int)
 ·replace H := ifp h5 H
  refine zo (fun w => opB (op_lss rfl rfl w) (decide_eq_true h5)) (zn (zq (zt rfl rfl (zk (zq ?_)))))
  refine zb (zq (zr ?_))
  obtain ⟨h6, H⟩ := H
  obtain ⟨h7, H⟩ := H
  refine zo (op_index Try.underlying26 ti3 rfl rfl h6 h7 (h_f.some_ h6 h7)) (zs (ldInt h_f h6 h7 Try.underlying3 rfl rfl) (za rfl (zn (zq (zr ?_)))))
  refine zm rfl ?_
  by_cases h8 : (ix f (k1_4 : Int)) < (0 : Int)
  ·replace H := ifp h8 H
   refine zo (fun w => opB (op_lss rfl rfl w) (decide_eq_true h8)) (zm rfl (zp (zp (zp (zp ?_)))))
   refine zo (op_pickT rfl rfl rfl) (zn (zt rfl rfl (zq (zr (za rfl ?_)))))
   refine zn ?_
   refine Go1.ret1 Try.func60 rfl ?_
   exact ⟨false, rfl, hB.same, H⟩
  replace H := ifn h8 H
  refine zo (fun w => opB (op_lss rfl rfl w) (decide_eq_false h8)) (zm rfl (zm rfl (zm rfl (zo (op_len Try.underlying26 rfl) ?_))))
  by_cases h9 : (f.length : Int) ≤ (ix f (k1_4 : Int))
  ·replace H := ifp h9 H
   refine zo (fun w => opB (op_geq rfl rfl w) (decide_eq_true h9)) (zo (op_pickF rfl rfl rfl) (zn (zt rfl rfl (zq ?_))))
   refine Go1.cut [] trivial ?_
   intro σ _
   refine zr (za rfl (zn ?_))
   refine Go1.ret1 Try.func60 rfl ?_
   exact ⟨false, rfl, hB.same, H⟩
  replace H := ifn h9 H
  refine zo (fun w => opB (op_geq rfl rfl w) (decide_eq_false h9)) (zo (op_pickF rfl rfl rfl) (zn (zf rfl rfl (zk ?_))))
  refine Go1.inBlock ?_
  refine zr (zo (op_add rfl rfl (wrap_i64 (natbd h5 h_f.bd))) (zm rfl (zn ?_)))
  exact hX1 _ H _ _ ⟨⟨rfl, rfl, rfl, rfl, trivial⟩, hO, h_f, hB⟩
 replace H := ifn h5 H
 refine zo (fun w => opB (op_lss rfl rfl w) (decide_eq_false h5)) (zn (zq (zf rfl rfl ?_)))
 refine Go1.exit rfl ?_
 refine zq (zr (za rfl (zn ?_)))
 refine Go1.ret1 Try.func60 rfl ?_
 exact ⟨true, rfl, hB.same, H⟩
theorem body64 : Body Try.prog 64 := ⟨Try.f64, Try.func64, rfl, by kernel_rfl⟩
theorem walk_slices_Clone_int {A : List Nat} {w0 : World} {p_s : Option Addr} {c_s : Nat} {s : List Int} (hA : ∀ b ∈ A, b < w0.heap.size) (h_s : ISl (Rp.int .i64) A w0 p_s c_s s) {K : List Int → Prop} (H : slices_Clone_int s K) :
    CallsV Try.prog 64 #[.slice p_s s.length c_s] w0 (fun v w' => ∃ (r0 : List Int), ∃ (Co : Nat), ∃ (tf : Option Addr), ∃ (tg : Nat), ∃ (DQ : List Value), v = .slice tf Co tg ∧ Same w0 w' ∧ Owns w0.heap.size w' [.row 3 1 tf Co tg DQ] A ∧ Els (Rp.int .i64) (bl [.row 3 1 tf Co tg DQ] ++ A) w' DQ r0 ∧ K r0) := by
 refine CallsV.of (l := [.slice p_s s.length c_s]) Try.func64 rfl Try.ntmps64 rfl ?_
 have hO := Owns.start hA
 have hB := Fr.refl (bl []) w0
 unfold slices_Clone_int at H
 refine zq (zr (za rfl (zn (zq (zq ?_)))))
 refine zr (zm rfl ?_)
 replace h_s := h_s.ch (Ch.start A w0)
 replace H := H p_s.isNone (fun h => h_s.nilD h)
 by_cases hz2 : p_s.isNone = true
 ·replace H := ifp hz2 H
  refine zo (fun w => opB (op_nilSlice Try.underlying26 rfl rfl w) (hz2)) (zn (zt rfl rfl (zq (zr (za rfl ?_)))))
  refine zn ?_
  have li := Stp.nil (e := 3) (r := 1) hO
  replace hO := li.own
  have hE5 := Els.nil (Rp.int .i64) (bl (.row 3 1 none 0 0 [] :: []) ++ A) w0
  refine Go1.ret1 Try.func64 rfl ?_
  replace hB := hB.trans li.fr
  exact ⟨(([] : List Int)), 0, none, 0, ([]), rfl, hB.same, hO, hE5, H⟩
 ·replace H := ifn hz2 H
  refine zo (fun w => opB (op_nilSlice Try.underlying26 rfl rfl w) (Bool.eq_false_iff.2 hz2)) (zn (zf rfl rfl (zk (zq (zr ?_)))))
  have hobt := obuild (r := Rp.int .i64) (n := 0) (parts := []) (vs := []) (xs := ([] : List Int)) rfl Try.underlying26 ti3 hO (by decide) (by kernel_rfl) (Els.nil _ _ _) rfl
  obtain ⟨w6, p7, FC, hE9, AF, B5⟩ := hobt
  refine zg (B5 rfl) ?_
  replace hO := FC.own
  refine zm rfl ?_
  obtain ⟨h13, H⟩ := H
  replace h_s := h_s.ch FC.ch
  have hobt := oapp Try.underlying26 ti3 rfl 0 hO rfl hE9 h_s rfl h13 (by decide)
  obtain ⟨w14, p15, c16, nY, um, PV, DR⟩ := hobt
  refine zg (DR (by exact rfl) (by exact rfl)) ?_
  replace hO := um.own
  refine za rfl (zn ?_)
  refine Go1.ret1 Try.func64 rfl ?_
  replace hB := (hB.trans FC.fr).trans um.fr
  exact ⟨((([] : List Int)) ++ s), (0 + s.length), p15, c16, nY, rfl, hB.same, hO, PV, H⟩
theorem body62 : Body Try.prog 62 := ⟨Try.f62, Try.func62, rfl, by kernel_rfl⟩
theorem walk_trans_Identity {A : List Nat} {w0 : World} {n : Int} (hA : ∀ b ∈ A, b < w0.heap.size) {K : List Int → Prop} (H : trans_Identity n K) :
    CallsV Try.prog 62 #[.int .i64 n] w0 (fun v w' => ∃ (r0 : List Int), ∃ (tf : Option Addr), ∃ (tg : Nat), v = .slice tf r0.length tg ∧ Same w0 w' ∧ ISl (Rp.int .i64) A w' tf tg r0 ∧ K r0) := by
 refine CallsV.of (l := [.int .i64 n]) Try.func62 rfl Try.ntmps62 rfl ?_
 have hO := Owns.start hA
 have hB := Fr.refl (bl []) w0
 unfold trans_Identity at H
 refine zq (zr (za rfl (zn (zq (zq ?_)))))
 refine zr (zm rfl ?_)
 by_cases h1 : n < (1 : Int)
 ·replace H := ifp h1 H
  refine zo (fun w => opB (op_lss rfl rfl w) (decide_eq_true h1)) (zm rfl (zp (zp (zo (op_pickT rfl rfl rfl) (zn ?_)))))
  refine zt rfl rfl (zq (zr (za rfl (zn ?_))))
  refine Go1.ret1 Try.func62 rfl ?_
  exact ⟨([] : List Int), none, 0, rfl, hB.same, (ISl.null _ _ _), H⟩
 replace H := ifn h1 H
 refine zo (fun w => opB (op_lss rfl rfl w) (decide_eq_false h1)) (zm rfl (zm rfl ?_))
 by_cases h2 : (32 : Int) < n
 ·replace H := ifp h2 H
  refine zo (fun w => opB (op_gtr rfl rfl w) (decide_eq_true h2)) (zo (op_pickF rfl rfl rfl) (zn (zt rfl rfl (zq (zr ?_)))))
  refine za rfl (zn ?_)
  refine Go1.ret1 Try.func62 rfl ?_
  exact ⟨([] : List Int), none, 0, rfl, hB.same, (ISl.null _ _ _), H⟩
 replace H := ifn h2 H
 refine zo (fun w => opB (op_gtr rfl rfl w) (decide_eq_false h2)) (zo (op_pickF rfl rfl rfl) (zn (zf rfl rfl (zk (zq ?_)))))
 refine zr (zm rfl ?_)
 obtain ⟨h10, H⟩ := H
 obtain ⟨h11, H⟩ := H
 have hobt := omake (n := n) (r := Rp.int .i64) (d := (0 : Int)) Try.underlying26 ti3 (fun _ _ => rfl) rfl hO h10 h11 (by decide)
 obtain ⟨w3, p4, vs5, yJ, hE7, hs8, PW⟩ := hobt
 refine zg (PW rfl rfl) ?_
 replace hO := yJ.own
 refine za rfl (zn (zq (zq (zr (zm rfl ?_)))))
 refine zo (op_lenN Try.underlying26 rfl (hE7.neq hO 0 rfl)) (zm rfl (zn (zb ?_)))
 replace hB := hB.trans yJ.fr
 refine Go1.loopW (S := Nat × List Int) (fun s σ w => match s with | (k1_14, f1_15) => ∃ (Bz : List Value), agrees σ [(3, .slice p4 n.toNat n.toNat), (14, .int .i64 ((List.replicate n.toNat ((0 : Int))).length : Int)), (15, .int .i64 (k1_14 : Int))] ∧ (fun Z0 => Owns w0.heap.size w Z0 A ∧ Els (Rp.int .i64) (bl Z0 ++ A) w Bz f1_15 ∧ Fr (bl []) w0 (bl Z0) w) [.row 3 1 p4 n.toNat n.toNat Bz]) H ⟨vs5, ⟨rfl, rfl, rfl, trivial⟩, hO, hE7, hB⟩ ?_
 intro X1
 refine prE fun k1_14 => fun f1_15 => ?_
 intro H hX1 σ w13
 refine exE fun Bz => andE fun hag => andE fun hO => andE fun DS => fun hB => ?_
 dsimp only at H
 refine Go1.keep [(3, .slice p4 n.toNat n.toNat), (14, .int .i64 ((List.replicate n.toNat ((0 : Int))).length : Int)), (15, .int .i64 (k1_14 : Int))] hag ?_
 refine zq (zr ?_)
 by_cases h18 : (k1_14 : Int) < ((List.replicate n.toNat ((0 : Int))).length : Int)
 ·replace H := ifp h18 H
  refine zo (fun w => opB (op_lss rfl rfl w) (decide_eq_true h18)) (zn (zq (zt rfl rfl (zk (zq ?_)))))
  refine zb (zq (zr (zm rfl (za rfl (zn ?_)))))
  refine zr (zm rfl (zm rfl (zm rfl ?_)))
  obtain ⟨h19, H⟩ := H
  obtain ⟨h20, H⟩ := H
  refine zo (op_index Try.underlying26 ti3 rfl rfl h19 (ltn (DS.neq hO 0 rfl) h20) (DS.psome hO 0 rfl h19 h20)) ?_
  have hobt := ost (r := Rp.int .i64) rfl 0 hO rfl DS h19 h20 (v := .int .i64 (k1_14 : Int)) (u := (k1_14 : Int)) rfl rfl
  obtain ⟨w21, FD, rk, cy, DT⟩ := hobt
  refine zg (DT Try.underlying3 rfl ti3 (by exact rfl) (by exact rfl)) ?_
  replace hO := rk.own
  refine zn ?_
  refine Go1.inBlock ?_
  refine zr ?_
  obtain ⟨h26, H⟩ := H
  refine zo (op_add rfl rfl (wrap_i64 h26)) (zm rfl (zn ?_))
  replace hB := hB.trans rk.fr
  exact hX1 _ H _ _ ⟨FD, ⟨rfl, rfl, rfl, trivial⟩, hO, cy, hB⟩
 replace H := ifn h18 H
 refine zo (fun w => opB (op_lss rfl rfl w) (decide_eq_false h18)) (zn (zq (zf rfl rfl ?_)))
 refine Go1.exit rfl ?_
 refine zq (zr (zm rfl (za rfl (zn ?_))))
 have hobt := freeze 0 hO rfl DS
 obtain ⟨hO1, AG, PX, PY⟩ := hobt
 replace hO := hO1; clear hO1
 refine Go1.ret1 Try.func62 rfl ?_
 replace hB := hB.trans (Owns.dropFr _ _ 0)
 exact ⟨f1_15, p4, n.toNat, (congrArg (fun nn => Value.slice p4 nn n.toNat) PY), hB.same, (PX.ch (Ch.weak _ _ _)), H⟩
theorem body61 : Body Try.prog 61 := ⟨Try.f61, Try.func61, rfl, by kernel_rfl⟩
theorem walk_enumerate_text {A : List Nat} {w0 : World} {p_f : Option Addr} {c_f : Nat} {f : List Int} (hA : ∀ b ∈ A, b < w0.heap.size) (h_f : ISl (Rp.int .i64) A w0 p_f c_f f) {K : Str → Prop} (H : enumerate_text f K) :
    CallsV Try.prog 61 #[.slice p_f f.length c_f] w0 (fun v w' => ∃ (r0 : Str), v = .string (gstr r0) ∧ Same w0 w' ∧ r0.length ≤ mx ∧ K r0) := by
 refine CallsV.of (l := [.slice p_f f.length c_f]) Try.func61 rfl Try.ntmps61 rfl ?_
 have hO := Owns.start hA
 have hB := Fr.refl (bl []) w0
 unfold enumerate_text at H
 refine zq (zr (za rfl (zn (zq (zr ?_)))))
 refine zm rfl (zo (op_len Try.underlying26 rfl) ?_)
 replace h_f := h_f.ch (Ch.start A w0)
 replace H := H h_f.bd
 obtain ⟨h8, H⟩ := H
 obtain ⟨h9, H⟩ := H
 have hobt := omake (n := (f.length : Int)) (r := Rp.int .u8) (d := (0 : Int)) Try.underlying84 ti5 (fun _ _ => rfl) rfl hO h8 h9 (by decide)
 obtain ⟨w1, p2, vs3, li, hE5, hs6, xY⟩ := hobt
 refine zg (xY rfl rfl) ?_
 replace hO := li.own
 refine za rfl (zn (zq (zq (zr (zm rfl ?_)))))
 refine zo (op_len Try.underlying26 rfl) (zm rfl (zn (zb ?_)))
 replace h_f := h_f.ch li.ch
 replace hB := hB.trans li.fr
 refine Go1.loopW (S := Nat × List Int) (fun s σ w => match s with | (k1_12, b1_13) => ∃ (jy : List Value), agrees σ [(3, .slice p2 f.length f.length), (9, .slice p_f f.length c_f), (10, .int .i64 (f.length : Int)), (11, .int .i64 (k1_12 : Int))] ∧ (fun Z0 => Owns w0.heap.size w Z0 A ∧ Els (Rp.int .u8) (bl Z0 ++ A) w jy b1_13 ∧ ISl (Rp.int .i64) (bl Z0 ++ A) w p_f c_f f ∧ Fr (bl []) w0 (bl Z0) w) [.row 5 1 p2 f.length f.length jy]) H ⟨vs3, ⟨rfl, rfl, rfl, rfl, trivial⟩, hO, hE5, h_f, hB⟩ ?_
 intro X1
 refine prE fun k1_12 => fun b1_13 => ?_
 intro H hX1 σ w11
 refine exE fun jy => andE fun hag => andE fun hO => andE fun bg => andE fun h_f => fun hB => ?_
 dsimp only at H
 refine Go1.keep [(3, .slice p2 f.length f.length), (9, .slice p_f f.length c_f), (10, .int .i64 (f.length : Int)), (11, .int .i64 (k1_12 : Int))] hag ?_
 refine zq (zr ?_)
 by_cases h16 : (k1_12 : Int) < (f.length : Int)
 ·replace H := ifp h16 H
  refine zo (fun w => opB (op_lss rfl rfl w) (decide_eq_true h16)) (zn (zq (zt rfl rfl (zk (zq ?_)))))
  refine zb (zq (zr (zm rfl ?_)))
  obtain ⟨h17, H⟩ := H
  obtain ⟨h18, H⟩ := H
  refine zo (op_index Try.underlying26 ti3 rfl rfl h17 h18 (h_f.some_ h17 h18)) (zs (ldInt h_f h17 h18 Try.underlying3 rfl rfl) (za rfl (za rfl (zn (zr ?_)))))
  refine zm rfl (zm rfl (zm rfl (zo (op_conv Try.underlying3 Try.underlying5 rfl rfl) ?_)))
  obtain ⟨h19, H⟩ := H
  obtain ⟨h20, H⟩ := H
  refine zo (op_index Try.underlying84 ti5 rfl rfl h19 (ltn (bg.neq hO 0 rfl) h20) (bg.psome hO 0 rfl h19 h20)) ?_
  have hobt := ost (r := Rp.int .u8) rfl 0 hO rfl bg h19 h20 (v := .int .u8 (IntKind.u8.wrap (ix f (k1_12 : Int)))) (u := (IntKind.u8.wrap (ix f (k1_12 : Int)))) rfl rfl
  obtain ⟨w21, FD, rk, cy, DT⟩ := hobt
  refine zg (DT Try.underlying5 rfl ti5 (by exact rfl) (by exact rfl)) ?_
  replace hO := rk.own
  refine zn ?_
  refine Go1.inBlock ?_
  refine zr ?_
  replace h_f := h_f.ch rk.ch
  refine zo (op_add rfl rfl (wrap_i64 (natbd h16 h_f.bd))) (zm rfl (zn ?_))
  replace hB := hB.trans rk.fr
  exact hX1 _ H _ _ ⟨FD, ⟨rfl, rfl, rfl, rfl, trivial⟩, hO, cy, h_f, hB⟩
 replace H := ifn h16 H
 refine zo (fun w => opB (op_lss rfl rfl w) (decide_eq_false h16)) (zn (zq (zf rfl rfl ?_)))
 refine Go1.exit rfl ?_
 refine zq (zr (zm rfl ?_))
 have hle26 := byt_le bg.bd
 refine zs (oldBytes 0 hO rfl bg Try.underlying84 Try.underlying5 Try.underlying9 rfl) (za rfl (zn ?_))
 refine Go1.ret1 Try.func61 rfl ?_
 exact ⟨byt b1_13, rfl, hB.same, hle26, H⟩
theorem body65 : Body Try.prog 65 := ⟨Try.f65, Try.func65, rfl, by kernel_rfl⟩
theorem body49 : Body Try.prog 49 := ⟨Try.f49, Try.func49, rfl, by kernel_rfl⟩
theorem walk_enumerate_begin {A : List Nat} {w0 : World} {n7 : Option Addr} {n9 : Nat} {a0 : List (List Int)} {a1 : Bool} (hA : ∀ b ∈ A, b < w0.heap.size) (ae : ISl (Rp.sl (Rp.int .i64)) A w0 n7 n9 a0) {K : Option run → Int → Prop} (H : enumerate_begin a0 a1 K) :
    CallsV Try.prog 49 #[.slice n7 a0.length n9, .bool a1] w0 (fun v w' => (∃ (r1 : Int), v = .tuple #[.pointer none, .int .i64 r1] ∧ Same w0 w' ∧ K none r1) ∨ (∃ (q : run), ∃ (r1 : Int), ∃ (b_q : Nat), ∃ (aO : Nat), ∃ (aP : Option Addr), ∃ (aQ : Nat), ∃ (cf : List Value), ∃ (aC : Nat), ∃ (aD : Option Addr), ∃ (aE : Nat), ∃ (bS : List Value), ∃ (av : Nat), ∃ (aw : Option Addr), ∃ (ax : Nat), ∃ (bG : List Value), ∃ (aR : Nat), ∃ (aS : Option Addr), ∃ (aT : Nat), ∃ (cg : List Value), ∃ (aF : Nat), ∃ (aG : Option Addr), ∃ (aH : Nat), ∃ (bT : List Value), ∃ (aI : Nat), ∃ (aJ : Option Addr), ∃ (aK : Nat), ∃ (bU : List Value), ∃ (cJ : Nat), ∃ (bI : Nat), ∃ (bK : Option Addr), ∃ (bM : Nat), ∃ (dl : List Value), ∃ (bh : Nat), ∃ (bi : Option Addr), ∃ (bj : Nat), ∃ (cT : List Value), ∃ (bk : Nat), ∃ (bm : Option Addr), ∃ (bn : Nat), ∃ (cU : List Value), v = .tuple #[.pointer (some ⟨b_q, 0, none⟩), .int .i64 r1] ∧ Same w0 w' ∧ (fun Z0 => Owns w0.heap.size w' Z0 A ∧ Els (Rp.sl (Rp.int .i64)) (bl Z0 ++ A) w' cf q.Enum.Gens ∧ Els (Rp.sl (Rp.int .i64)) (bl Z0 ++ A) w' bS q.Enum.Elems ∧ Els (Rp.int .i64) (bl Z0 ++ A) w' bG q.Enum.Prefix ∧ Els (Rp.int .i64) (bl Z0 ++ A) w' cg q.Enum.Last ∧ Els (Rp.sl (Rp.int .i64)) (bl Z0 ++ A) w' bT q.Enum.Right ∧ Els (rpRule) (bl Z0 ++ A) w' bU q.Enum.Rules ∧ Els (Rp.str) (bl Z0 ++ A) w' dl q.words ∧ Els (Rp.int .i64) (bl Z0 ++ A) w' cT q.behind ∧ Els (Rp.int .i64) (bl Z0 ++ A) w' cU q.single ∧ K (some q) r1) [.blk b_q (.cells #[.int .i64 q.Enum.Points, .bool q.Enum.Monoid, .slice aP aO aQ, .slice aD aC aE, .slice aw av ax, .slice aS aR aT, .slice aG aF aH, .slice aJ aI aK, .int .i64 q.Enum.Done, .map (some cJ), .slice bK bI bM, .slice bi bh bj, .slice bm bk bn] 72 (0, 0)), .row 26 1 aP aO aQ cf, .row 26 1 aD aC aE bS, .row 3 1 aw av ax bG, .row 3 1 aS aR aT cg, .row 26 1 aG aF aH bT, .row 39 2 aJ aI aK bU, .row 9 1 bK bI bM dl, .row 3 1 bi bh bj cT, .row 3 1 bm bk bn cU, .any (mapE (fun a : List UInt8 => Value.string (gstr a)) (fun a : Int => Value.int .i64 a) cJ q.number)])) := by
 refine CallsV.of (l := [.slice n7 a0.length n9, .bool a1]) Try.func49 rfl Try.ntmps49 rfl ?_
 have hO := Owns.start hA
 have hB := Fr.refl (bl []) w0
 unfold enumerate_begin at H
 refine zq (zr (za rfl (za rfl (zn (zq ?_)))))
 refine zq (zr (zm rfl (zo (op_len Try.underlying22 rfl) ?_)))
 replace ae := ae.ch (Ch.start A w0)
 replace H := H ae.bd
 by_cases h1 : (a0.length : Int) = (0 : Int)
 ·replace H := ifp h1 H
  refine zo (fun w => opB (op_eql rfl rfl w) (decide_eq_true h1)) (zm rfl (zp (zp (zp (zo (op_pickT rfl rfl rfl) ?_)))))
  refine zn (zt rfl rfl (zq (zr (za rfl (za rfl ?_)))))
  refine zn ?_
  refine Go1.ret2 Try.func49 rfl ?_
  exact Or.inl ⟨((1 : Int)), rfl, hB.same, H⟩
 replace H := ifn h1 H
 refine zo (fun w => opB (op_eql rfl rfl w) (decide_eq_false h1)) (zm rfl (zm rfl (zo (op_len Try.underlying22 rfl) ?_)))
 by_cases h2 : (6 : Int) < (a0.length : Int)
 ·replace H := ifp h2 H
  refine zo (fun w => opB (op_gtr rfl rfl w) (decide_eq_true h2)) (zo (op_pickF rfl rfl rfl) (zn (zt rfl rfl (zq (zr ?_)))))
  refine za rfl (za rfl (zn ?_))
  refine Go1.ret2 Try.func49 rfl ?_
  exact Or.inl ⟨((1 : Int)), rfl, hB.same, H⟩
 replace H := ifn h2 H
 refine zo (fun w => opB (op_gtr rfl rfl w) (decide_eq_false h2)) (zo (op_pickF rfl rfl rfl) (zn (zf rfl rfl (zk (zq ?_)))))
 refine Go1.cut [(0, .slice n7 a0.length n9), (1, .bool a1)] ⟨rfl, rfl, trivial⟩ ?_
 intro σ _
 refine zr ?_
 have hobt := omakeMap (fun a : List UInt8 => Value.string (gstr a)) (fun a : Int => Value.int .i64 a) hO
 obtain ⟨w3, B4, FE, hs6, xY⟩ := hobt
 refine GoR.op xY rfl rfl ?_
 replace hO := FE.own
 refine zo (op_build Try.underlying72 ti72 (pl := [(0, 9), (9, 1), (10, 1), (11, 1), (12, 1)]) (vs := [(1, .map (some B4))]) (cs := #[.int .i64 (0 : Int), .bool false, .slice none 0 0, .slice none 0 0, .slice none 0 0, .slice none 0 0, .slice none 0 0, .slice none 0 0, .int .i64 (0 : Int), .map (some B4), .slice none 0 0, .slice none 0 0, .slice none 0 0]) (by kernel_rfl) rfl (by kernel_rfl)) ?_
 have hobt := obox (t := 72) (v := .agg #[.int .i64 (0 : Int), .bool false, .slice none 0 0, .slice none 0 0, .slice none 0 0, .slice none 0 0, .slice none 0 0, .slice none 0 0, .int .i64 (0 : Int), .map (some B4), .slice none 0 0, .slice none 0 0, .slice none 0 0]) (cs := #[.int .i64 (0 : Int), .bool false, .slice none 0 0, .slice none 0 0, .slice none 0 0, .slice none 0 0, .slice none 0 0, .slice none 0 0, .int .i64 (0 : Int), .map (some B4), .slice none 0 0, .slice none 0 0, .slice none 0 0]) hO rfl
 obtain ⟨w9, B10, DU, FF, DW⟩ := hobt
 refine zg (DW rfl) ?_
 replace hO := DU.own
 refine za rfl (zn (zq (zr (zm rfl (zm rfl ?_)))))
 refine zm rfl ?_
 obtain ⟨h15, H⟩ := H
 obtain ⟨h16, H⟩ := H
 replace ae := (ae.ch FE.ch).ch DU.ch
 refine zo (op_index Try.underlying22 ti26 rfl rfl h15 h16 (ae.some_ h15 h16)) ?_
 have hobt := ldSl ae h15 h16
 obtain ⟨p17, c18, BA, P0⟩ := hobt
 refine zs (P0 Try.underlying26 rfl rfl) (zo (op_len Try.underlying26 rfl) ?_)
 replace H := H BA.bd
 refine zm rfl (zo (op_nilCheck rfl) (zo (op_fieldAddr Try.underlying72 rfl ti29 rfl (by decide)) (zo (op_fieldAddr Try.underlying29 rfl ti3 rfl (by decide)) ?_)))
 have hobt := oblkSt2 (v := .int .i64 ((ix a0 (0 : Int)).length : Int)) (i := 0) (cs' := #[.int .i64 ((ix a0 (0 : Int)).length : Int), .bool false, .slice none 0 0, .slice none 0 0, .slice none 0 0, .slice none 0 0, .slice none 0 0, .slice none 0 0, .int .i64 (0 : Int), .map (some B4), .slice none 0 0, .slice none 0 0, .slice none 0 0]) 0 hO rfl rfl rfl rfl
 obtain ⟨w21, fH, B6⟩ := hobt
 refine zg (B6 Try.underlying3 rfl ti3 (by exact rfl) (by exact rfl)) ?_
 replace hO := fH.own
 refine zo (op_nilCheck rfl) (zo (op_fieldAddr Try.underlying72 rfl ti29 rfl (by decide)) (zo (op_fieldAddr Try.underlying29 rfl ti4 rfl (by decide)) ?_))
 have hobt := oblkSt2 (v := .bool a1) (i := 1) (cs' := #[.int .i64 ((ix a0 (0 : Int)).length : Int), .bool a1, .slice none 0 0, .slice none 0 0, .slice none 0 0, .slice none 0 0, .slice none 0 0, .slice none 0 0, .int .i64 (0 : Int), .map (some B4), .slice none 0 0, .slice none 0 0, .slice none 0 0]) 0 hO rfl rfl rfl rfl
 obtain ⟨w24, qr, DX⟩ := hobt
 refine zg (DX Try.underlying4 rfl ti4 (by exact rfl) (by exact rfl)) ?_
 replace hO := qr.own
 refine zn (zq (zq ?_))
 refine Go1.cut [(0, .slice n7 a0.length n9), (1, .bool a1), (6, .pointer (some ⟨B10, 0, none⟩))] ⟨rfl, rfl, rfl, trivial⟩ ?_
 intro σ _
 refine zr (zm rfl (zo (op_len Try.underlying22 rfl) (zm rfl (zn (zb ?_)))))
 have lE := Stp.nil (e := 26) (r := 1) hO
 replace hO := lE.own
 have P1 := Els.nil (Rp.sl (Rp.int .i64)) (bl (.row 26 1 none 0 0 [] :: [.blk B10 (.cells #[.int .i64 ((ix a0 (0 : Int)).length : Int), .bool a1, .slice none 0 0, .slice none 0 0, .slice none 0 0, .slice none 0 0, .slice none 0 0, .slice none 0 0, .int .i64 (0 : Int), .map (some B4), .slice none 0 0, .slice none 0 0, .slice none 0 0] 72 (0, 0)), .any (mapE (fun a : List UInt8 => Value.string (gstr a)) (fun a : Int => Value.int .i64 a) B4 (([] : List (Str × Int))))]) ++ A) w24
 have Z1 := (fH.ch.trans qr.ch).trans lE.ch
 replace ae := ae.ch Z1
 replace hB := ((((hB.trans FE.fr).trans DU.fr).trans fH.fr).trans qr.fr).trans lE.fr
 refine Go1.loopW (S := Nat × List (List Int)) (fun s σ w => match s with | (k1_31, d_32) => ∃ (n37 : Nat), ∃ (p35 : Option Addr), ∃ (c36 : Nat), ∃ (f8 : List Value), agrees σ [(1, .bool a1), (6, .pointer (some ⟨B10, 0, none⟩)), (39, .slice n7 a0.length n9), (40, .int .i64 (a0.length : Int)), (41, .int .i64 (k1_31 : Int))] ∧ (fun Z0 => Owns w0.heap.size w Z0 A ∧ Els (Rp.sl (Rp.int .i64)) (bl Z0 ++ A) w f8 d_32 ∧ ISl (Rp.sl (Rp.int .i64)) (bl Z0 ++ A) w n7 n9 a0 ∧ Fr (bl []) w0 (bl Z0) w) [.row 26 1 p35 n37 c36 f8, .blk B10 (.cells #[.int .i64 ((ix a0 (0 : Int)).length : Int), .bool a1, .slice p35 n37 c36, .slice none 0 0, .slice none 0 0, .slice none 0 0, .slice none 0 0, .slice none 0 0, .int .i64 (0 : Int), .map (some B4), .slice none 0 0, .slice none 0 0, .slice none 0 0] 72 (0, 0)), .any (mapE (fun a : List UInt8 => Value.string (gstr a)) (fun a : Int => Value.int .i64 a) B4 (([] : List (Str × Int))))]) H ⟨0, none, 0, [], ⟨rfl, rfl, rfl, rfl, rfl, trivial⟩, hO, P1, ae, hB⟩ ?_
 intro X1
 refine prE fun k1_31 => fun d_32 => ?_
 intro H hX1 σ w30
 refine exE fun n37 => exE fun p35 => exE fun c36 => exE fun f8 => andE fun hag => andE fun hO => andE fun af => andE fun ae => fun hB => ?_
 dsimp only at H
 refine Go1.keep [(1, .bool a1), (6, .pointer (some ⟨B10, 0, none⟩)), (39, .slice n7 a0.length n9), (40, .int .i64 (a0.length : Int)), (41, .int .i64 (k1_31 : Int))] hag ?_
 refine zq (zr ?_)
 by_cases h38 : (k1_31 : Int) < (a0.length : Int)
 ·replace H := ifp h38 H
  refine zo (fun w => opB (op_lss rfl rfl w) (decide_eq_true h38)) (zn (zq (zt rfl rfl (zk (zq ?_)))))
  refine zb (zq (zr ?_))
  obtain ⟨h39, H⟩ := H
  obtain ⟨h40, H⟩ := H
  refine zo (op_index Try.underlying22 ti26 rfl rfl h39 h40 (ae.some_ h39 h40)) ?_
  have hobt := ldSl ae h39 h40
  obtain ⟨p41, c42, rm, P2⟩ := hobt
  refine zs (P2 Try.underlying26 rfl rfl) (za rfl (zn (zq (zq (zr ?_)))))
  refine zm rfl (zo (op_len Try.underlying26 rfl) ?_)
  replace H := H rm.bd
  refine zm rfl (zo (op_nilCheck rfl) (zo (op_fieldAddr Try.underlying72 rfl ti29 rfl (by decide)) (zo (op_fieldAddr Try.underlying29 rfl ti3 rfl (by decide)) (zs (oblk (i := 0) 1 hO rfl rfl Try.underlying3 rfl rfl) ?_))))
  by_cases h45 : ((ix a0 (k1_31 : Int)).length : Int) = ((ix a0 (0 : Int)).length : Int)
  ·replace H := ifp h45 H
   refine zo (fun w => opB (op_neq rfl rfl w) (ndT h45)) (zm rfl (zm rfl ?_))
   refine GoR.call (op_call body60 rfl (walk_trans_Valid hO.lt rm H)) rfl rfl ?_
   rintro v50 w47 ⟨r46, rfl, FG, H⟩
   have m3 := Stp.same hO FG
   replace hO := m3.own
   cases r46
   ·replace H := ifn Bool.false_ne_true H
    refine zo (op_not rfl) (zo (op_pickF rfl rfl rfl) (zn (zt rfl rfl (zq (zr ?_)))))
    refine za rfl (za rfl (zn ?_))
    refine Go1.ret2 Try.func49 rfl ?_
    replace hB := hB.trans m3.fr
    exact Or.inl ⟨((4 : Int)), rfl, hB.same, H⟩
   replace H := ifp rfl H
   refine zo (op_not rfl) (zo (op_pickF rfl rfl rfl) (zn (zf rfl rfl (zk ?_))))
   refine Go1.cut [(1, .bool a1), (6, .pointer (some ⟨B10, 0, none⟩)), (8, .slice p41 ((ix a0 (k1_31 : Int)).length) c42), (39, .slice n7 a0.length n9), (40, .int .i64 (a0.length : Int)), (41, .int .i64 (k1_31 : Int))] ⟨rfl, rfl, rfl, rfl, rfl, rfl, trivial⟩ ?_
   intro σ _
   refine Go1.drawS 1 [(0, .pure), (1, .pure), (2, .pure), (3, .pure), (4, .pure), (5, .stable), (6, .pure), (7, .loud), (8, .loud), (9, .last), (10, .pure), (11, .pure), (12, .pure), (13, .last)] mixed (by kernel_rfl) ?_
   intro w52 P3
   have B7 := Stp.same hO P3
   replace hO := B7.own
   refine GoQ.pure rfl (op_move rfl) rfl rfl ?_
   refine GoQ.pure rfl (op_move rfl) rfl rfl ?_
   refine GoQ.pure rfl (op_nilCheck rfl) rfl rfl ?_
   refine GoQ.pure rfl (op_fieldAddr Try.underlying72 rfl ti29 rfl (by decide)) rfl rfl ?_
   refine GoQ.pure rfl (op_fieldAddr Try.underlying29 rfl ti22 rfl (by decide)) rfl rfl ?_
   refine GoQ.stable rfl (oblk (i := 2) 1 hO rfl rfl Try.underlying22 rfl rfl) rfl rfl ?_
   refine GoQ.pure rfl (op_move rfl) rfl rfl ?_
   replace rm := (rm.ch m3.ch).ch B7.ch
   refine GoQ.call rfl (op_call body64 rfl (walk_slices_Clone_int hO.lt rm H)) (fun v w hr => by obtain ⟨_, _, _, _, _, _, hs, _, _, _⟩ := hr; assumption) rfl rfl ?_
   rintro v60 w57 ⟨r55, G5, CM, CO, S2, rfl, P4, hN59, FH, H⟩
   have vG := Stp.more hO P4 hN59
   replace hO := vG.own
   replace FH := FH.ch (Ch.assoc _ _ _ _)
   have hobt := freeze 0 hO rfl FH
   obtain ⟨hO1, FI, zE, P5⟩ := hobt
   replace hO := hO1; clear hO1
   have hobt := obuild (r := Rp.sl (Rp.int .i64)) (n := 1) (parts := [(0, .slice CM G5 CO)]) (vs := [.slice CM G5 CO]) (xs := [r55]) rfl Try.underlying22 ti26 hO (by decide) (by kernel_rfl) (Els.cons rfl ⟨CM, CO, congrArg some (congrArg (fun nn => Value.slice CM nn CO) P5), zE⟩ (Els.nil _ _ _) (by simp [mx])) rfl
   obtain ⟨w66, p67, j9, oE, P6, KX⟩ := hobt
   refine GoQ.loud rfl (KX rfl) P6 rfl rfl ?_
   replace hO := j9.own
   have hobt := freeze 0 hO rfl oE
   obtain ⟨hO1, DY, Di, P7⟩ := hobt
   replace hO := hO1; clear hO1
   obtain ⟨h76, H⟩ := H
   have Z2 := ((((m3.ch.trans B7.ch).trans vG.ch).trans FI).trans j9.ch).trans DY
   replace af := af.ch Z2
   have hobt := oapp Try.underlying22 ti26 rfl 0 hO rfl af Di P7 h76 (by decide)
   obtain ⟨w77, p78, c79, qE, A7, FJ, KY⟩ := hobt
   refine GoQ.last rfl (KY (by exact rfl) (by exact rfl)) rfl rfl ?_
   replace hO := A7.own
   refine GoQ.pure rfl (op_nilCheck rfl) rfl rfl ?_
   refine GoQ.pure rfl (op_fieldAddr Try.underlying72 rfl ti29 rfl (by decide)) rfl rfl ?_
   refine GoQ.pure rfl (op_fieldAddr Try.underlying29 rfl ti22 rfl (by decide)) rfl rfl ?_
   have hobt := oblkSt2 (v := .slice p78 (n37 + 1) c79) (i := 2) (cs' := #[.int .i64 ((ix a0 (0 : Int)).length : Int), .bool a1, .slice p78 (n37 + 1) c79, .slice none 0 0, .slice none 0 0, .slice none 0 0, .slice none 0 0, .slice none 0 0, .int .i64 (0 : Int), .map (some B4), .slice none 0 0, .slice none 0 0, .slice none 0 0]) 1 hO rfl rfl rfl rfl
   obtain ⟨w85, eh, K1⟩ := hobt
   refine GoQ.last rfl (K1 Try.underlying22 rfl ti22 (by exact rfl) (by exact rfl)) rfl rfl ?_
   replace hO := eh.own
   refine GoQ.nil ?_
   refine Go1.inBlock ?_
   refine zr ?_
   replace ae := ((ae.ch Z2).ch A7.ch).ch eh.ch
   refine zo (op_add rfl rfl (wrap_i64 (natbd h38 ae.bd))) (zm rfl (zn ?_))
   replace FJ := FJ.ch eh.ch
   replace hB := (((((((hB.trans m3.fr).trans B7.fr).trans vG.fr).trans (Owns.dropFr _ _ 0)).trans j9.fr).trans (Owns.dropFr _ _ 0)).trans A7.fr).trans eh.fr
   exact hX1 _ H _ _ ⟨n37 + 1, p78, c79, qE, ⟨rfl, rfl, rfl, rfl, rfl, trivial⟩, hO, FJ, ae, hB⟩
  replace H := ifn h45 H
  refine zo (fun w => opB (op_neq rfl rfl w) (ndF h45)) (zm rfl (zp (zp (zp (zo (op_pickT rfl rfl rfl) ?_)))))
  refine zn (zt rfl rfl (zq ?_))
  refine Go1.cut [] trivial ?_
  intro σ _
  refine zr (za rfl (za rfl (zn ?_)))
  refine Go1.ret2 Try.func49 rfl ?_
  exact Or.inl ⟨((4 : Int)), rfl, hB.same, H⟩
 replace H := ifn h38 H
 refine zo (fun w => opB (op_lss rfl rfl w) (decide_eq_false h38)) (zn (zq (zf rfl rfl ?_)))
 refine Go1.exit rfl ?_
 refine zq (zr (za rfl (zn (zq (zq ?_)))))
 refine zr (zm rfl (zn ?_))
 cases a1
 ·replace H := ifn Bool.false_ne_true H
  refine zf rfl rfl (zk (zq (zq (zr (zm rfl ?_)))))
  refine zo (op_nilCheck rfl) (zo (op_fieldAddr Try.underlying72 rfl ti29 rfl (by decide)) (zo (op_fieldAddr Try.underlying29 rfl ti22 rfl (by decide)) (zs (oblk (i := 2) 1 hO rfl rfl Try.underlying22 rfl rfl) (zo (op_lenN Try.underlying22 rfl (af.neq hO 0 rfl)) (zm rfl ?_)))))
  refine zn (zb ?_)
  have nO := Stp.nil (e := 26) (r := 1) hO
  replace hO := nO.own
  have wj := Els.nil (Rp.sl (Rp.int .i64)) (bl (.row 26 1 none 0 0 [] :: [.row 26 1 p35 n37 c36 f8, .blk B10 (.cells #[.int .i64 ((ix a0 (0 : Int)).length : Int), .bool false, .slice p35 n37 c36, .slice none 0 0, .slice none 0 0, .slice none 0 0, .slice none 0 0, .slice none 0 0, .int .i64 (0 : Int), .map (some B4), .slice none 0 0, .slice none 0 0, .slice none 0 0] 72 (0, 0)), .any (mapE (fun a : List UInt8 => Value.string (gstr a)) (fun a : Int => Value.int .i64 a) B4 (([] : List (Str × Int))))]) ++ A) w30
  have nP := Stp.nil (e := 3) (r := 1) hO
  replace hO := nP.own
  have lF := Els.nil (Rp.int .i64) (bl (.row 3 1 none 0 0 [] :: [.row 26 1 none 0 0 [], .row 26 1 p35 n37 c36 f8, .blk B10 (.cells #[.int .i64 ((ix a0 (0 : Int)).length : Int), .bool false, .slice p35 n37 c36, .slice none 0 0, .slice none 0 0, .slice none 0 0, .slice none 0 0, .slice none 0 0, .int .i64 (0 : Int), .map (some B4), .slice none 0 0, .slice none 0 0, .slice none 0 0] 72 (0, 0)), .any (mapE (fun a : List UInt8 => Value.string (gstr a)) (fun a : Int => Value.int .i64 a) B4 (([] : List (Str × Int))))]) ++ A) w30
  have A8 := Stp.nil (e := 3) (r := 1) hO
  replace hO := A8.own
  have zF := Els.nil (Rp.int .i64) (bl (.row 3 1 none 0 0 [] :: [.row 3 1 none 0 0 [], .row 26 1 none 0 0 [], .row 26 1 p35 n37 c36 f8, .blk B10 (.cells #[.int .i64 ((ix a0 (0 : Int)).length : Int), .bool false, .slice p35 n37 c36, .slice none 0 0, .slice none 0 0, .slice none 0 0, .slice none 0 0, .slice none 0 0, .int .i64 (0 : Int), .map (some B4), .slice none 0 0, .slice none 0 0, .slice none 0 0] 72 (0, 0)), .any (mapE (fun a : List UInt8 => Value.string (gstr a)) (fun a : Int => Value.int .i64 a) B4 (([] : List (Str × Int))))]) ++ A) w30
  have zG := Stp.nil (e := 39) (r := 2) hO
  replace hO := zG.own
  have BB := Els.nil (rpRule) (bl (.row 39 2 none 0 0 [] :: [.row 3 1 none 0 0 [], .row 3 1 none 0 0 [], .row 26 1 none 0 0 [], .row 26 1 p35 n37 c36 f8, .blk B10 (.cells #[.int .i64 ((ix a0 (0 : Int)).length : Int), .bool false, .slice p35 n37 c36, .slice none 0 0, .slice none 0 0, .slice none 0 0, .slice none 0 0, .slice none 0 0, .int .i64 (0 : Int), .map (some B4), .slice none 0 0, .slice none 0 0, .slice none 0 0] 72 (0, 0)), .any (mapE (fun a : List UInt8 => Value.string (gstr a)) (fun a : Int => Value.int .i64 a) B4 (([] : List (Str × Int))))]) ++ A) w30
  have fm := Stp.nil (e := 9) (r := 1) hO
  replace hO := fm.own
  have B9 := Els.nil (Rp.str) (bl (.row 9 1 none 0 0 [] :: [.row 39 2 none 0 0 [], .row 3 1 none 0 0 [], .row 3 1 none 0 0 [], .row 26 1 none 0 0 [], .row 26 1 p35 n37 c36 f8, .blk B10 (.cells #[.int .i64 ((ix a0 (0 : Int)).length : Int), .bool false, .slice p35 n37 c36, .slice none 0 0, .slice none 0 0, .slice none 0 0, .slice none 0 0, .slice none 0 0, .int .i64 (0 : Int), .map (some B4), .slice none 0 0, .slice none 0 0, .slice none 0 0] 72 (0, 0)), .any (mapE (fun a : List UInt8 => Value.string (gstr a)) (fun a : Int => Value.int .i64 a) B4 (([] : List (Str × Int))))]) ++ A) w30
  have jX := Stp.nil (e := 3) (r := 1) hO
  replace hO := jX.own
  have D0 := Els.nil (Rp.int .i64) (bl (.row 3 1 none 0 0 [] :: [.row 9 1 none 0 0 [], .row 39 2 none 0 0 [], .row 3 1 none 0 0 [], .row 3 1 none 0 0 [], .row 26 1 none 0 0 [], .row 26 1 p35 n37 c36 f8, .blk B10 (.cells #[.int .i64 ((ix a0 (0 : Int)).length : Int), .bool false, .slice p35 n37 c36, .slice none 0 0, .slice none 0 0, .slice none 0 0, .slice none 0 0, .slice none 0 0, .int .i64 (0 : Int), .map (some B4), .slice none 0 0, .slice none 0 0, .slice none 0 0] 72 (0, 0)), .any (mapE (fun a : List UInt8 => Value.string (gstr a)) (fun a : Int => Value.int .i64 a) B4 (([] : List (Str × Int))))]) ++ A) w30
  have uT := Stp.nil (e := 3) (r := 1) hO
  replace hO := uT.own
  have K2 := Els.nil (Rp.int .i64) (bl (.row 3 1 none 0 0 [] :: [.row 3 1 none 0 0 [], .row 9 1 none 0 0 [], .row 39 2 none 0 0 [], .row 3 1 none 0 0 [], .row 3 1 none 0 0 [], .row 26 1 none 0 0 [], .row 26 1 p35 n37 c36 f8, .blk B10 (.cells #[.int .i64 ((ix a0 (0 : Int)).length : Int), .bool false, .slice p35 n37 c36, .slice none 0 0, .slice none 0 0, .slice none 0 0, .slice none 0 0, .slice none 0 0, .int .i64 (0 : Int), .map (some B4), .slice none 0 0, .slice none 0 0, .slice none 0 0] 72 (0, 0)), .any (mapE (fun a : List UInt8 => Value.string (gstr a)) (fun a : Int => Value.int .i64 a) B4 (([] : List (Str × Int))))]) ++ A) w30
  replace D0 := D0.ch uT.ch
  replace B9 := (B9.ch jX.ch).ch uT.ch
  have Z3 := (fm.ch.trans jX.ch).trans uT.ch
  replace BB := BB.ch Z3
  have Z4 := ((zG.ch.trans fm.ch).trans jX.ch).trans uT.ch
  replace zF := zF.ch Z4
  have Z5 := (((A8.ch.trans zG.ch).trans fm.ch).trans jX.ch).trans uT.ch
  replace lF := lF.ch Z5
  have Z6 := ((((nP.ch.trans A8.ch).trans zG.ch).trans fm.ch).trans jX.ch).trans uT.ch
  replace wj := wj.ch Z6
  have Z7 := (((((nO.ch.trans nP.ch).trans A8.ch).trans zG.ch).trans fm.ch).trans jX.ch).trans uT.ch
  replace af := af.ch Z7
  replace hB := ((((((hB.trans nO.fr).trans nP.fr).trans A8.fr).trans zG.fr).trans fm.fr).trans jX.fr).trans uT.fr
  refine Go1.loopW (S := Nat × List Int × List Int × List Str × List Rule × List Int × List Int × List (List Int) × (List (Str × Int))) (fun s σ w => match s with | (k2_110, d_111, d_117, d_123, d_129, d_135, d_141, d_147, m2_153) => ∃ (jo : Nat), ∃ (lj : Option Addr), ∃ (lk : Nat), ∃ (tv : List Value), ∃ (jz : Nat), ∃ (kc : Option Addr), ∃ (kD : Nat), ∃ (ro : List Value), ∃ (jA : Nat), ∃ (ll : Option Addr), ∃ (lm : Nat), ∃ (rp : List Value), ∃ (jB : Nat), ∃ (kE : Option Addr), ∃ (kF : Nat), ∃ (rq : List Value), ∃ (jC : Nat), ∃ (lG : Option Addr), ∃ (lH : Nat), ∃ (rs : List Value), ∃ (jD : Nat), ∃ (mo : Option Addr), ∃ (mp : Nat), ∃ (ru : List Value), ∃ (jE : Nat), ∃ (mV : Option Addr), ∃ (mW : Nat), ∃ (rv : List Value), agrees σ [(6, .pointer (some ⟨B10, 0, none⟩)), (9, .int .i64 (-1 : Int)), (85, .slice p35 n37 c36), (86, .int .i64 (d_32.length : Int)), (87, .int .i64 (k2_110 : Int))] ∧ (fun Z0 => Owns w0.heap.size w Z0 A ∧ Els (Rp.int .i64) (bl Z0 ++ A) w tv d_111 ∧ Els (Rp.int .i64) (bl Z0 ++ A) w ro d_117 ∧ Els (Rp.str) (bl Z0 ++ A) w rp d_123 ∧ Els (rpRule) (bl Z0 ++ A) w rq d_129 ∧ Els (Rp.int .i64) (bl Z0 ++ A) w rs d_135 ∧ Els (Rp.int .i64) (bl Z0 ++ A) w ru d_141 ∧ Els (Rp.sl (Rp.int .i64)) (bl Z0 ++ A) w rv d_147 ∧ Els (Rp.sl (Rp.int .i64)) (bl Z0 ++ A) w f8 d_32 ∧ Fr (bl []) w0 (bl Z0) w) [.row 3 1 lj jo lk tv, .row 3 1 kc jz kD ro, .row 9 1 ll jA lm rp, .row 39 2 kE jB kF rq, .row 3 1 lG jC lH rs, .row 3 1 mo jD mp ru, .row 26 1 mV jE mW rv, .row 26 1 p35 n37 c36 f8, .blk B10 (.cells #[.int .i64 ((ix a0 (0 : Int)).length : Int), .bool false, .slice p35 n37 c36, .slice mV jE mW, .slice mo jD mp, .slice lG jC lH, .slice none 0 0, .slice kE jB kF, .int .i64 (0 : Int), .map (some B4), .slice ll jA lm, .slice kc jz kD, .slice lj jo lk] 72 (0, 0)), .any (mapE (fun a : List UInt8 => Value.string (gstr a)) (fun a : Int => Value.int .i64 a) B4 m2_153)]) H ⟨0, none, 0, [], 0, none, 0, [], 0, none, 0, [], 0, none, 0, [], 0, none, 0, [], 0, none, 0, [], 0, none, 0, [], ⟨rfl, rfl, rfl, rfl, rfl, trivial⟩, hO, K2, D0, B9, BB, zF, lF, wj, af, hB⟩ ?_
  intro X2
  refine prE fun k2_110 => prE fun d_111 => prE fun d_117 => prE fun d_123 => prE fun d_129 => prE fun d_135 => prE fun d_141 => prE fun d_147 => fun m2_153 => ?_
  intro H hX2 σ P8
  refine exE fun jo => exE fun lj => exE fun lk => exE fun tv => exE fun jz => exE fun kc => exE fun kD => exE fun ro => exE fun jA => exE fun ll => exE fun lm => exE fun rp => exE fun jB => exE fun kE => exE fun kF => exE fun rq => exE fun jC => exE fun lG => exE fun lH => exE fun rs => exE fun jD => exE fun mo => exE fun mp => exE fun ru => exE fun jE => exE fun mV => exE fun mW => exE fun rv => andE fun hag => andE fun hO => andE fun ck => andE fun ct => andE fun cz => andE fun cu => andE fun cV => andE fun dm => andE fun dB => andE fun af => fun hB => ?_
  dsimp only at H
  refine Go1.keep [(6, .pointer (some ⟨B10, 0, none⟩)), (9, .int .i64 (-1 : Int)), (85, .slice p35 n37 c36), (86, .int .i64 (d_32.length : Int)), (87, .int .i64 (k2_110 : Int))] hag ?_
  refine zq (zr ?_)
  by_cases Cp : (k2_110 : Int) < (d_32.length : Int)
  ·replace H := ifp Cp H
   refine zo (fun w => opB (op_lss rfl rfl w) (decide_eq_true Cp)) (zn (zq (zt rfl rfl (zk (zq ?_)))))
   refine zb (zq (zr (zm rfl ?_)))
   obtain ⟨BC, H⟩ := H
   obtain ⟨BD, H⟩ := H
   refine zo (op_index Try.underlying22 ti26 rfl rfl BC (ltn (af.neq hO 7 rfl) BD) (af.psome hO 7 rfl BC BD)) ?_
   have hobt := oldSl 7 hO rfl af BC BD
   obtain ⟨HI, HJ, cB, K3⟩ := hobt
   refine zs (K3 Try.underlying26 rfl rfl) (za rfl (za rfl (zn (zq (zr ?_)))))
   refine zm rfl ?_
   obtain ⟨P9, H⟩ := H
   refine zo (op_add rfl rfl (wrap_i64 P9)) (zo (op_conv Try.underlying3 Try.underlying21 rfl rfl) ?_)
   obtain ⟨BE, H⟩ := H
   obtain ⟨Dj, H⟩ := H
   refine zo (op_convRS Try.underlying21 Try.underlying9 rfl BE Dj) (za rfl (zn (zq ?_)))
   refine Go1.drawS 0 [(0, .pure), (1, .pure), (2, .pure), (3, .stable), (4, .pure), (5, .loud), (6, .stable), (7, .pure), (8, .pure), (9, .pure), (10, .pure), (11, .pure)] mixed (by kernel_rfl) ?_
   intro TO K4
   have i9 := Stp.same hO K4
   replace hO := i9.own
   refine GoQ.pure rfl (op_move rfl) rfl rfl ?_
   refine GoQ.pure rfl (op_nilCheck rfl) rfl rfl ?_
   refine GoQ.pure rfl (op_fieldAddr Try.underlying72 rfl ti69 rfl (by decide)) rfl rfl ?_
   refine GoQ.stable rfl (oblk (i := 9) 8 hO rfl rfl Try.underlying69 rfl rfl) rfl rfl ?_
   refine GoQ.pure rfl (op_move rfl) rfl rfl ?_
   replace cB := cB.ch i9.ch
   refine GoQ.call rfl (op_call body61 rfl (walk_enumerate_text hO.lt cB H)) (fun v w hr => by obtain ⟨_, _, hs, _, _⟩ := hr; assumption) rfl rfl ?_
   rintro Qa HK ⟨r167, rfl, D1, SR, H⟩
   have eV := Stp.same hO D1
   replace hO := eV.own
   by_cases AH : mhas m2_153 r167 = true
   ·replace H := ifp AH H
    refine GoQ.stable rfl (olookT (a := r167) (MK.str Try.underlying9) 9 hO rfl Try.underlying69 rfl rfl AH) rfl rfl ?_
    refine GoQ.pure rfl (op_move rfl) rfl rfl ?_
    refine GoQ.pure rfl (op_extract rfl rfl) rfl rfl ?_
    refine GoQ.pure rfl (op_extract rfl rfl) rfl rfl ?_
    refine GoQ.pure rfl (op_assign rfl) rfl rfl ?_
    refine GoQ.pure rfl (op_assign rfl) rfl rfl ?_
    refine GoQ.nil ?_
    refine zq (zq ?_)
    refine Go1.cut [(6, .pointer (some ⟨B10, 0, none⟩)), (9, .int .i64 (-1 : Int)), (10, .int .i64 (k2_110 : Int)), (11, .slice HI ((ix d_32 (k2_110 : Int)).length) HJ), (12, .string (gstr (chr (IntKind.i32.wrap ((97 : Int) + (k2_110 : Int)))))), (13, .int .i64 (mgt m2_153 r167)), (14, .bool true), (85, .slice p35 n37 c36), (86, .int .i64 (d_32.length : Int)), (87, .int .i64 (k2_110 : Int))] ⟨rfl, rfl, rfl, rfl, rfl, rfl, rfl, rfl, rfl, rfl, trivial⟩ ?_
    intro σ _
    refine zr (zm rfl (zn (zt rfl rfl ?_)))
    refine Go1.drawS 5 [(0, .pure), (1, .pure), (2, .pure), (3, .pure), (4, .pure), (5, .stable), (6, .pure), (7, .pure), (8, .pure), (9, .pure), (10, .stable), (11, .pure), (12, .pure), (13, .stable), (14, .pure), (15, .loud), (16, .last), (17, .pure), (18, .pure), (19, .pure), (20, .last)] mixed (by kernel_rfl) ?_
    intro Qb D2
    have t6 := Stp.same hO D2
    replace hO := t6.own
    refine GoQ.pure rfl (op_move rfl) rfl rfl ?_
    refine GoQ.pure rfl (op_move rfl) rfl rfl ?_
    refine GoQ.pure rfl (op_nilCheck rfl) rfl rfl ?_
    refine GoQ.pure rfl (op_fieldAddr Try.underlying72 rfl ti29 rfl (by decide)) rfl rfl ?_
    refine GoQ.pure rfl (op_fieldAddr Try.underlying29 rfl ti27 rfl (by decide)) rfl rfl ?_
    refine GoQ.stable rfl (oblk (i := 7) 8 hO rfl rfl Try.underlying27 rfl rfl) rfl rfl ?_
    refine GoQ.pure rfl (op_move rfl) rfl rfl ?_
    refine GoQ.pure rfl (op_move rfl) rfl rfl ?_
    refine GoQ.pure rfl (op_nilCheck rfl) rfl rfl ?_
    refine GoQ.pure rfl (op_fieldAddr Try.underlying72 rfl ti70 rfl (by decide)) rfl rfl ?_
    refine GoQ.stable rfl (oblk (i := 10) 8 hO rfl rfl Try.underlying70 rfl rfl) rfl rfl ?_
    refine GoQ.pure rfl (op_move rfl) rfl rfl ?_
    obtain ⟨yK, H⟩ := H
    obtain ⟨D3, H⟩ := H
    have Z8 := (i9.ch.trans eV.ch).trans t6.ch
    replace cz := cz.ch Z8
    refine GoQ.pure rfl (op_index Try.underlying70 ti9 rfl rfl yK (ltn (cz.neq hO 2 rfl) D3) (cz.psome hO 2 rfl yK D3)) rfl rfl ?_
    refine GoQ.stable rfl (oldStr 2 hO rfl cz yK D3 Try.underlying9 rfl rfl) rfl rfl ?_
    have hle179 := Els.str_le cz yK D3
    refine GoQ.pure rfl (op_build Try.underlying39 ti39 (pl := [(0, 1), (1, 1)]) (vs := [(0, .string (gstr (chr (IntKind.i32.wrap ((97 : Int) + (k2_110 : Int)))))), (1, .string (gstr (ix d_123 (mgt m2_153 r167))))]) (cs := #[.string (gstr (chr (IntKind.i32.wrap ((97 : Int) + (k2_110 : Int))))), .string (gstr (ix d_123 (mgt m2_153 r167)))]) (by kernel_rfl) rfl (by kernel_rfl)) rfl rfl ?_
    have hobt := obuildN (r := rpRule) (n := 1) (parts := [(0, .agg #[.string (gstr (chr (IntKind.i32.wrap ((97 : Int) + (k2_110 : Int))))), .string (gstr (ix d_123 (mgt m2_153 r167)))])]) (vs := [.string (gstr (chr (IntKind.i32.wrap ((97 : Int) + (k2_110 : Int))))), .string (gstr (ix d_123 (mgt m2_153 r167)))]) (xs := [(⟨chr (IntKind.i32.wrap ((97 : Int) + (k2_110 : Int))), ix d_123 (mgt m2_153 r167)⟩ : Rule)]) Try.underlying27 ti39 hO (by decide) (by decide) (by kernel_rfl) (Els.flat1 (⟨chr (IntKind.i32.wrap ((97 : Int) + (k2_110 : Int))), ix d_123 (mgt m2_153 r167)⟩ : Rule) ⟨(chr_le _), hle179⟩) rfl
    obtain ⟨FK, TP, t7, K5, K6, HL⟩ := hobt
    refine GoQ.loud rfl (HL rfl) K6 rfl rfl ?_
    replace hO := t7.own
    have hobt := freeze 0 hO rfl K5
    obtain ⟨hO1, wr, tw, D4⟩ := hobt
    dsimp only [eS, eZ] at hO1 wr tw
    replace hB := ((((hB.trans i9.fr).trans eV.fr).trans t6.fr).trans t7.fr).trans (Owns.dropFr _ _ 0)
    dsimp only [eS, eZ] at hB
    replace hO := hO1; clear hO1
    obtain ⟨Qc, H⟩ := H
    replace cu := ((cu.ch Z8).ch t7.ch).ch wr
    have hobt := oapp Try.underlying27 ti39 rfl 3 hO rfl cu tw D4 Qc (by decide)
    obtain ⟨Qd, D5, D6, K7, sn, u3, HM⟩ := hobt
    dsimp only [sS, sZ] at sn u3
    refine GoQ.last rfl (HM (by exact rfl) (by exact rfl)) rfl rfl ?_
    replace hO := sn.own
    refine GoQ.pure rfl (op_nilCheck rfl) rfl rfl ?_
    refine GoQ.pure rfl (op_fieldAddr Try.underlying72 rfl ti29 rfl (by decide)) rfl rfl ?_
    refine GoQ.pure rfl (op_fieldAddr Try.underlying29 rfl ti27 rfl (by decide)) rfl rfl ?_
    have hobt := oblkSt2 (v := .slice D5 (jB + 1) D6) (i := 7) (cs' := #[.int .i64 ((ix a0 (0 : Int)).length : Int), .bool false, .slice p35 n37 c36, .slice mV jE mW, .slice mo jD mp, .slice lG jC lH, .slice none 0 0, .slice D5 (jB + 1) D6, .int .i64 (0 : Int), .map (some B4), .slice ll jA lm, .slice kc jz kD, .slice lj jo lk]) 8 hO rfl rfl rfl rfl
    obtain ⟨Qe, qF, Dk⟩ := hobt
    dsimp only [sS, sZ] at qF
    refine GoQ.last rfl (Dk Try.underlying27 rfl ti27 (by exact rfl) (by exact rfl)) rfl rfl ?_
    replace hO := qF.own
    refine GoQ.nil ?_
    refine Go1.cut [(6, .pointer (some ⟨B10, 0, none⟩)), (9, .int .i64 (-1 : Int)), (13, .int .i64 (mgt m2_153 r167)), (85, .slice p35 n37 c36), (86, .int .i64 (d_32.length : Int)), (87, .int .i64 (k2_110 : Int))] ⟨rfl, rfl, rfl, rfl, rfl, rfl, trivial⟩ ?_
    intro σ _
    refine zr (zm rfl (zm rfl (zo (op_nilCheck rfl) (zo (op_fieldAddr Try.underlying72 rfl ti26 rfl (by decide)) (zs (oblk (i := 12) 8 hO rfl rfl Try.underlying26 rfl rfl) ?_)))))
    refine zm rfl ?_
    have hobt := obuild (r := Rp.int .i64) (n := 1) (parts := [(0, .int .i64 (mgt m2_153 r167))]) (vs := [.int .i64 (mgt m2_153 r167)]) (xs := [(mgt m2_153 r167)]) rfl Try.underlying26 ti3 hO (by decide) (by kernel_rfl) (Els.cons rfl rfl (Els.nil _ _ _) (by simp [mx])) rfl
    obtain ⟨TQ, TS, sq, K8, S6, HN⟩ := hobt
    refine zg (HN rfl) ?_
    replace hO := sq.own
    have hobt := freeze 0 hO rfl K8
    obtain ⟨hO1, vH, A9, K9⟩ := hobt
    dsimp only [eS, eZ] at hO1 vH A9
    replace hB := (((hB.trans sn.fr).trans qF.fr).trans sq.fr).trans (Owns.dropFr _ _ 0)
    dsimp only [eS, eZ] at hB
    replace hO := hO1; clear hO1
    obtain ⟨Dl, H⟩ := H
    have Z9 := (((((Z8.trans t7.ch).trans wr).trans sn.ch).trans qF.ch).trans sq.ch).trans vH
    replace ck := ck.ch Z9
    have hobt := oapp Try.underlying26 ti3 rfl 0 hO rfl ck A9 K9 Dl (by decide)
    obtain ⟨Qf, FL, FM, La, qG, CP, HO⟩ := hobt
    dsimp only [sS, sZ] at qG CP
    refine zg (HO (by exact rfl) (by exact rfl)) ?_
    replace hO := qG.own
    refine zo (op_nilCheck rfl) (zo (op_fieldAddr Try.underlying72 rfl ti26 rfl (by decide)) ?_)
    have hobt := oblkSt2 (v := .slice FL (jo + 1) FM) (i := 12) (cs' := #[.int .i64 ((ix a0 (0 : Int)).length : Int), .bool false, .slice p35 n37 c36, .slice mV jE mW, .slice mo jD mp, .slice lG jC lH, .slice none 0 0, .slice D5 (jB + 1) D6, .int .i64 (0 : Int), .map (some B4), .slice ll jA lm, .slice kc jz kD, .slice FL (jo + 1) FM]) 8 hO rfl rfl rfl rfl
    obtain ⟨Qg, eB, Dm⟩ := hobt
    dsimp only [sS, sZ] at eB
    refine zg (Dm Try.underlying26 rfl ti26 (by exact rfl) (by exact rfl)) ?_
    replace hO := eB.own
    refine zn ?_
    refine Go1.inBlock ?_
    refine zr ?_
    replace af := ((af.ch Z9).ch qG.ch).ch eB.ch
    refine zo (op_add rfl rfl (wrap_i64 (natbd Cp af.bd))) (zm rfl (zn ?_))
    replace CP := CP.ch eB.ch
    replace hB := (hB.trans qG.fr).trans eB.fr
    have Z10 := (((qF.ch.trans sq.ch).trans vH).trans qG.ch).trans eB.ch
    replace u3 := u3.ch Z10
    have Z11 := ((((((t7.ch.trans wr).trans sn.ch).trans qF.ch).trans sq.ch).trans vH).trans qG.ch).trans eB.ch
    replace cz := cz.ch Z11
    have Z12 := (Z9.trans qG.ch).trans eB.ch
    replace ct := ct.ch Z12
    replace cV := cV.ch Z12
    replace dm := dm.ch Z12
    replace dB := dB.ch Z12
    exact hX2 _ H _ _ ⟨jo + 1, FL, FM, La, jz, kc, kD, ro, jA, ll, lm, rp, jB + 1, D5, D6, K7, jC, lG, lH, rs, jD, mo, mp, ru, jE, mV, mW, rv, ⟨rfl, rfl, rfl, rfl, rfl, trivial⟩, hO, CP, ct, cz, u3, cV, dm, dB, af, hB⟩
   replace H := ifn AH H
   refine GoQ.stable rfl (olookF (a := r167) (MK.str Try.underlying9) 9 hO rfl Try.underlying69 ti3 rfl rfl AH) rfl rfl ?_
   refine GoQ.pure rfl (op_move rfl) rfl rfl ?_
   refine GoQ.pure rfl (op_extract rfl rfl) rfl rfl ?_
   refine GoQ.pure rfl (op_extract rfl rfl) rfl rfl ?_
   refine GoQ.pure rfl (op_assign rfl) rfl rfl ?_
   refine GoQ.pure rfl (op_assign rfl) rfl rfl ?_
   refine GoQ.nil ?_
   refine zq (zq (zr (zm rfl (zn (zf rfl rfl ?_)))))
   refine Go1.cut [(6, .pointer (some ⟨B10, 0, none⟩)), (9, .int .i64 (-1 : Int)), (10, .int .i64 (k2_110 : Int)), (11, .slice HI ((ix d_32 (k2_110 : Int)).length) HJ), (12, .string (gstr (chr (IntKind.i32.wrap ((97 : Int) + (k2_110 : Int)))))), (85, .slice p35 n37 c36), (86, .int .i64 (d_32.length : Int)), (87, .int .i64 (k2_110 : Int))] ⟨rfl, rfl, rfl, rfl, rfl, rfl, rfl, rfl, trivial⟩ ?_
   intro σ _
   refine zr (zm rfl (zm rfl ?_))
   replace cB := cB.ch eV.ch
   refine GoR.call (op_call body64 rfl (walk_slices_Clone_int hO.lt cB H)) rfl rfl ?_
   rintro TT TU ⟨r224, AI, wY, w4, SS, rfl, Lb, hN228, ws, H⟩
   have sr := Stp.more hO Lb hN228
   dsimp only [List.cons_append, List.nil_append] at sr
   replace hO := sr.own
   refine zm rfl (zm rfl (zm rfl (zm rfl ?_)))
   refine GoR.inl (vs := [.pointer (some ⟨B10, 0, none⟩), .slice wY AI w4, .int .i64 (-1 : Int), .int .i64 (k2_110 : Int), .string (gstr (chr (IntKind.i32.wrap ((97 : Int) + (k2_110 : Int))))), .int .i64 (-1 : Int)]) (caps := []) rfl rfl body65 Try.func65 rfl Try.ntmps65 rfl rfl rfl ?_
   intro RhR232 hR232
   refine zq (zr (za rfl (zn (zq (zr ?_)))))
   refine zm rfl (zo (op_nilCheck rfl) (zo (op_fieldAddr Try.underlying72 rfl ti29 rfl (by decide)) (zo (op_fieldAddr Try.underlying29 rfl ti22 rfl (by decide)) (zs (oblk (i := 3) 9 hO rfl rfl Try.underlying22 rfl rfl) ?_))))
   have Z13 := (i9.ch.trans eV.ch).trans sr.ch
   replace dB := dB.ch Z13
   refine zo (op_lenN Try.underlying22 rfl (dB.neq hO 7 rfl)) (za rfl (zn (zq ?_)))
   refine Go1.drawS 1 [(0, .pure), (1, .pure), (2, .pure), (3, .stable), (4, .pure), (6, .pure), (5, .loud), (7, .last)] mixed (by kernel_rfl) ?_
   intro TV Lc
   have ss := Stp.same hO Lc
   replace hO := ss.own
   refine GoQ.pure rfl (op_move rfl) rfl rfl ?_
   refine GoQ.pure rfl (op_nilCheck rfl) rfl rfl ?_
   refine GoQ.pure rfl (op_fieldAddr Try.underlying72 rfl ti69 rfl (by decide)) rfl rfl ?_
   refine GoQ.stable rfl (oblk (i := 9) 9 hO rfl rfl Try.underlying69 rfl rfl) rfl rfl ?_
   refine GoQ.pure rfl (op_move rfl) rfl rfl ?_
   refine GoQ.pure rfl (op_move rfl) rfl rfl ?_
   replace ws := (ws.ch (Ch.assoc _ _ _ _)).ch ss.ch
   have hobt := rowlend 0 hO rfl ws
   obtain ⟨Ld, Le⟩ := hobt
   have hOc238 := hO.drop 0
   refine GoQ.call rfl (op_call body61 (show ([.slice wY AI w4] : List Value) = [.slice wY r224.length w4] from by rw [← Le]) (walk_enumerate_text hOc238.lt Ld H)) (fun v w hr => by obtain ⟨_, _, hs, _, _⟩ := hr; assumption) rfl rfl ?_
   rintro TW Qh ⟨r239, rfl, D7, ST, H⟩
   have su := Stp.same hO D7
   replace hO := su.own
   have hobt := omapUpd (MK.str Try.underlying9) 10 hO rfl Try.underlying69 r239 (d_147.length : Int)
   obtain ⟨Qi, qH, HP⟩ := hobt
   dsimp only [sS, sZ] at qH
   refine GoQ.last rfl (HP (by exact rfl) (by exact rfl) (by exact rfl)) rfl rfl ?_
   replace hO := qH.own
   refine GoQ.nil ?_
   refine zq ?_
   refine Go1.cut [(0, .pointer (some ⟨B10, 0, none⟩)), (1, .slice wY AI w4), (2, .int .i64 (-1 : Int)), (3, .int .i64 (k2_110 : Int)), (4, .string (gstr (chr (IntKind.i32.wrap ((97 : Int) + (k2_110 : Int)))))), (5, .int .i64 (-1 : Int)), (13, .int .i64 (d_147.length : Int))] ⟨rfl, rfl, rfl, rfl, rfl, rfl, rfl, trivial⟩ ?_
   intro σ _
   refine zr (zm rfl (zm rfl (zo (op_nilCheck rfl) (zo (op_fieldAddr Try.underlying72 rfl ti29 rfl (by decide)) (zo (op_fieldAddr Try.underlying29 rfl ti22 rfl (by decide)) ?_)))))
   refine zs (oblk (i := 3) 9 hO rfl rfl Try.underlying22 rfl rfl) (zm rfl ?_)
   replace ws := (ws.ch su.ch).ch qH.ch
   have hobt := freeze 0 hO rfl ws
   obtain ⟨hO1, nQ, cS, D8⟩ := hobt
   dsimp only [eS, eZ] at hO1 nQ cS
   replace hB := ((((((hB.trans i9.fr).trans eV.fr).trans sr.fr).trans ss.fr).trans su.fr).trans qH.fr).trans (Owns.dropFr _ _ 0)
   dsimp only [eS, eZ] at hB
   replace hO := hO1; clear hO1
   have hobt := obuild (r := Rp.sl (Rp.int .i64)) (n := 1) (parts := [(0, .slice wY AI w4)]) (vs := [.slice wY AI w4]) (xs := [r224]) rfl Try.underlying22 ti26 hO (by decide) (by kernel_rfl) (Els.cons rfl ⟨wY, w4, congrArg some (congrArg (fun nn => Value.slice wY nn w4) D8), cS⟩ (Els.nil _ _ _) (by simp [mx])) rfl
   obtain ⟨TX, TY, sv, ry, S7, HQ⟩ := hobt
   refine zg (HQ rfl) ?_
   replace hO := sv.own
   have hobt := freeze 0 hO rfl ry
   obtain ⟨hO1, vI, fh, Lf⟩ := hobt
   dsimp only [eS, eZ] at hO1 vI fh
   replace hB := (hB.trans sv.fr).trans (Owns.dropFr _ _ 0)
   dsimp only [eS, eZ] at hB
   replace hO := hO1; clear hO1
   obtain ⟨Qj, H⟩ := H
   have Z14 := ((((ss.ch.trans su.ch).trans qH.ch).trans nQ).trans sv.ch).trans vI
   replace dB := dB.ch Z14
   have hobt := oapp Try.underlying22 ti26 rfl 6 hO rfl dB fh Lf Qj (by decide)
   obtain ⟨T0, AJ, AK, Lg, qI, fv, HR⟩ := hobt
   dsimp only [sS, sZ] at qI fv
   refine zg (HR (by exact rfl) (by exact rfl)) ?_
   replace hO := qI.own
   refine zo (op_nilCheck rfl) (zo (op_fieldAddr Try.underlying72 rfl ti29 rfl (by decide)) (zo (op_fieldAddr Try.underlying29 rfl ti22 rfl (by decide)) ?_))
   have hobt := oblkSt2 (v := .slice AJ (jE + 1) AK) (i := 3) (cs' := #[.int .i64 ((ix a0 (0 : Int)).length : Int), .bool false, .slice p35 n37 c36, .slice AJ (jE + 1) AK, .slice mo jD mp, .slice lG jC lH, .slice none 0 0, .slice kE jB kF, .int .i64 (0 : Int), .map (some B4), .slice ll jA lm, .slice kc jz kD, .slice lj jo lk]) 8 hO rfl rfl rfl rfl
   obtain ⟨T1, pK, HS⟩ := hobt
   dsimp only [sS, sZ] at pK
   refine zg (HS Try.underlying22 rfl ti22 (by exact rfl) (by exact rfl)) ?_
   replace hO := pK.own
   refine zn (zq (zr (zm rfl (zm rfl (zo (op_nilCheck rfl) ?_)))))
   refine zo (op_fieldAddr Try.underlying72 rfl ti29 rfl (by decide)) (zo (op_fieldAddr Try.underlying29 rfl ti26 rfl (by decide)) (zs (oblk (i := 4) 8 hO rfl rfl Try.underlying26 rfl rfl) (zm rfl ?_)))
   have hobt := obuild (r := Rp.int .i64) (n := 1) (parts := [(0, .int .i64 (-1 : Int))]) (vs := [.int .i64 (-1 : Int)]) (xs := [(-1 : Int)]) rfl Try.underlying26 ti3 hO (by decide) (by kernel_rfl) (Els.cons rfl rfl (Els.nil _ _ _) (by simp [mx])) rfl
   obtain ⟨T3, T4, qJ, cb, S8, HT⟩ := hobt
   refine zg (HT rfl) ?_
   replace hO := qJ.own
   have hobt := freeze 0 hO rfl cb
   obtain ⟨hO1, u4, fO, Lh⟩ := hobt
   dsimp only [eS, eZ] at hO1 u4 fO
   replace hB := (((hB.trans qI.fr).trans pK.fr).trans qJ.fr).trans (Owns.dropFr _ _ 0)
   dsimp only [eS, eZ] at hB
   replace hO := hO1; clear hO1
   obtain ⟨Qk, H⟩ := H
   have Z15 := (((((((((Z13.trans ss.ch).trans su.ch).trans qH.ch).trans nQ).trans sv.ch).trans vI).trans qI.ch).trans pK.ch).trans qJ.ch).trans u4
   replace dm := dm.ch Z15
   have hobt := oapp Try.underlying26 ti3 rfl 5 hO rfl dm fO Lh Qk (by decide)
   obtain ⟨T5, BG, BH, Li, pM, aW, HU⟩ := hobt
   dsimp only [sS, sZ] at pM aW
   refine zg (HU (by exact rfl) (by exact rfl)) ?_
   replace hO := pM.own
   refine zo (op_nilCheck rfl) (zo (op_fieldAddr Try.underlying72 rfl ti29 rfl (by decide)) (zo (op_fieldAddr Try.underlying29 rfl ti26 rfl (by decide)) ?_))
   have hobt := oblkSt2 (v := .slice BG (jD + 1) BH) (i := 4) (cs' := #[.int .i64 ((ix a0 (0 : Int)).length : Int), .bool false, .slice p35 n37 c36, .slice AJ (jE + 1) AK, .slice BG (jD + 1) BH, .slice lG jC lH, .slice none 0 0, .slice kE jB kF, .int .i64 (0 : Int), .map (some B4), .slice ll jA lm, .slice kc jz kD, .slice lj jo lk]) 8 hO rfl rfl rfl rfl
   obtain ⟨T6, oS, HV⟩ := hobt
   dsimp only [sS, sZ] at oS
   refine zg (HV Try.underlying26 rfl ti26 (by exact rfl) (by exact rfl)) ?_
   replace hO := oS.own
   refine zn (zq ?_)
   refine Go1.cut [(0, .pointer (some ⟨B10, 0, none⟩)), (3, .int .i64 (k2_110 : Int)), (4, .string (gstr (chr (IntKind.i32.wrap ((97 : Int) + (k2_110 : Int)))))), (5, .int .i64 (-1 : Int)), (13, .int .i64 (d_147.length : Int))] ⟨rfl, rfl, rfl, rfl, rfl, trivial⟩ ?_
   intro σ _
   refine zr (zm rfl (zm rfl (zo (op_nilCheck rfl) (zo (op_fieldAddr Try.underlying72 rfl ti29 rfl (by decide)) (zo (op_fieldAddr Try.underlying29 rfl ti26 rfl (by decide)) ?_)))))
   refine zs (oblk (i := 5) 8 hO rfl rfl Try.underlying26 rfl rfl) (zm rfl ?_)
   have hobt := obuild (r := Rp.int .i64) (n := 1) (parts := [(0, .int .i64 (k2_110 : Int))]) (vs := [.int .i64 (k2_110 : Int)]) (xs := [(k2_110 : Int)]) rfl Try.underlying26 ti3 hO (by decide) (by kernel_rfl) (Els.cons rfl rfl (Els.nil _ _ _) (by simp [mx])) rfl
   obtain ⟨T7, gv, gw, Lj, S9, HW⟩ := hobt
   refine zg (HW rfl) ?_
   replace hO := gw.own
   have hobt := freeze 0 hO rfl Lj
   obtain ⟨hO1, un, jd, Lk⟩ := hobt
   dsimp only [eS, eZ] at hO1 un jd
   replace hB := (((hB.trans pM.fr).trans oS.fr).trans gw.fr).trans (Owns.dropFr _ _ 0)
   dsimp only [eS, eZ] at hB
   replace hO := hO1; clear hO1
   obtain ⟨Ql, H⟩ := H
   have Z16 := (((Z15.trans pM.ch).trans oS.ch).trans gw.ch).trans un
   replace cV := cV.ch Z16
   have hobt := oapp Try.underlying26 ti3 rfl 4 hO rfl cV jd Lk Ql (by decide)
   obtain ⟨T8, Cq, Cr, Ll, ji, jr, HX⟩ := hobt
   dsimp only [sS, sZ] at ji jr
   refine zg (HX (by exact rfl) (by exact rfl)) ?_
   replace hO := ji.own
   refine zo (op_nilCheck rfl) (zo (op_fieldAddr Try.underlying72 rfl ti29 rfl (by decide)) (zo (op_fieldAddr Try.underlying29 rfl ti26 rfl (by decide)) ?_))
   have hobt := oblkSt2 (v := .slice Cq (jC + 1) Cr) (i := 5) (cs' := #[.int .i64 ((ix a0 (0 : Int)).length : Int), .bool false, .slice p35 n37 c36, .slice AJ (jE + 1) AK, .slice BG (jD + 1) BH, .slice Cq (jC + 1) Cr, .slice none 0 0, .slice kE jB kF, .int .i64 (0 : Int), .map (some B4), .slice ll jA lm, .slice kc jz kD, .slice lj jo lk]) 8 hO rfl rfl rfl rfl
   obtain ⟨T9, oa, HY⟩ := hobt
   dsimp only [sS, sZ] at oa
   refine zg (HY Try.underlying26 rfl ti26 (by exact rfl) (by exact rfl)) ?_
   replace hO := oa.own
   refine zn (zq (zr (zm rfl (zm rfl (zo (op_nilCheck rfl) ?_)))))
   refine zo (op_fieldAddr Try.underlying72 rfl ti70 rfl (by decide)) (zs (oblk (i := 10) 8 hO rfl rfl Try.underlying70 rfl rfl) (zm rfl ?_))
   have hobt := obuild (r := Rp.str) (n := 1) (parts := [(0, .string (gstr (chr (IntKind.i32.wrap ((97 : Int) + (k2_110 : Int))))))]) (vs := [.string (gstr (chr (IntKind.i32.wrap ((97 : Int) + (k2_110 : Int)))))]) (xs := [chr (IntKind.i32.wrap ((97 : Int) + (k2_110 : Int)))]) rfl Try.underlying70 ti9 hO (by decide) (by kernel_rfl) (Els.cons rfl ⟨rfl, (chr_le _)⟩ (Els.nil _ _ _) (by simp [mx])) rfl
   obtain ⟨Ua, Ub, oT, Lm, Ta, H0⟩ := hobt
   refine zg (H0 rfl) ?_
   replace hO := oT.own
   have hobt := freeze 0 hO rfl Lm
   obtain ⟨hO1, m5, kl, D9⟩ := hobt
   dsimp only [eS, eZ] at hO1 m5 kl
   replace hB := (((hB.trans ji.fr).trans oa.fr).trans oT.fr).trans (Owns.dropFr _ _ 0)
   dsimp only [eS, eZ] at hB
   replace hO := hO1; clear hO1
   obtain ⟨Qm, H⟩ := H
   have Z17 := (((Z16.trans ji.ch).trans oa.ch).trans oT.ch).trans m5
   replace cz := cz.ch Z17
   have hobt := oapp Try.underlying70 ti9 rfl 2 hO rfl cz kl D9 Qm (by decide)
   obtain ⟨H1, Dn, Do, Ln, fF, nS, H2⟩ := hobt
   dsimp only [sS, sZ] at fF nS
   refine zg (H2 (by exact rfl) (by exact rfl)) ?_
   replace hO := fF.own
   refine zo (op_nilCheck rfl) (zo (op_fieldAddr Try.underlying72 rfl ti70 rfl (by decide)) ?_)
   have hobt := oblkSt2 (v := .slice Dn (jA + 1) Do) (i := 10) (cs' := #[.int .i64 ((ix a0 (0 : Int)).length : Int), .bool false, .slice p35 n37 c36, .slice AJ (jE + 1) AK, .slice BG (jD + 1) BH, .slice Cq (jC + 1) Cr, .slice none 0 0, .slice kE jB kF, .int .i64 (0 : Int), .map (some B4), .slice Dn (jA + 1) Do, .slice kc jz kD, .slice lj jo lk]) 8 hO rfl rfl rfl rfl
   obtain ⟨Uc, nf, Dp⟩ := hobt
   dsimp only [sS, sZ] at nf
   refine zg (Dp Try.underlying70 rfl ti70 (by exact rfl) (by exact rfl)) ?_
   replace hO := nf.own
   refine zn (zq ?_)
   refine Go1.cut [(0, .pointer (some ⟨B10, 0, none⟩)), (5, .int .i64 (-1 : Int)), (13, .int .i64 (d_147.length : Int))] ⟨rfl, rfl, rfl, trivial⟩ ?_
   intro σ _
   refine zr (zm rfl (zm rfl (zo (op_nilCheck rfl) (zo (op_fieldAddr Try.underlying72 rfl ti26 rfl (by decide)) (zs (oblk (i := 11) 8 hO rfl rfl Try.underlying26 rfl rfl) ?_)))))
   refine zm rfl ?_
   have hobt := obuild (r := Rp.int .i64) (n := 1) (parts := [(0, .int .i64 (-1 : Int))]) (vs := [.int .i64 (-1 : Int)]) (xs := [(-1 : Int)]) rfl Try.underlying26 ti3 hO (by decide) (by kernel_rfl) (Els.cons rfl rfl (Els.nil _ _ _) (by simp [mx])) rfl
   obtain ⟨Ud, Ue, gh, Lo, Tc, H3⟩ := hobt
   refine zg (H3 rfl) ?_
   replace hO := gh.own
   have hobt := freeze 0 hO rfl Lo
   obtain ⟨hO1, rz, tx, Lp⟩ := hobt
   dsimp only [eS, eZ] at hO1 rz tx
   replace hB := (((hB.trans fF.fr).trans nf.fr).trans gh.fr).trans (Owns.dropFr _ _ 0)
   dsimp only [eS, eZ] at hB
   replace hO := hO1; clear hO1
   obtain ⟨Cs, H⟩ := H
   have Z18 := (((Z17.trans fF.ch).trans nf.ch).trans gh.ch).trans rz
   replace ct := ct.ch Z18
   have hobt := oapp Try.underlying26 ti3 rfl 1 hO rfl ct tx Lp Cs (by decide)
   obtain ⟨Uf, Ea, Eb, Lr, ng, u5, Dq⟩ := hobt
   dsimp only [sS, sZ] at ng u5
   refine zg (Dq (by exact rfl) (by exact rfl)) ?_
   replace hO := ng.own
   refine zo (op_nilCheck rfl) (zo (op_fieldAddr Try.underlying72 rfl ti26 rfl (by decide)) ?_)
   have hobt := oblkSt2 (v := .slice Ea (jz + 1) Eb) (i := 11) (cs' := #[.int .i64 ((ix a0 (0 : Int)).length : Int), .bool false, .slice p35 n37 c36, .slice AJ (jE + 1) AK, .slice BG (jD + 1) BH, .slice Cq (jC + 1) Cr, .slice none 0 0, .slice kE jB kF, .int .i64 (0 : Int), .map (some B4), .slice Dn (jA + 1) Do, .slice Ea (jz + 1) Eb, .slice lj jo lk]) 8 hO rfl rfl rfl rfl
   obtain ⟨Ug, mB, H4⟩ := hobt
   dsimp only [sS, sZ] at mB
   refine zg (H4 Try.underlying26 rfl ti26 (by exact rfl) (by exact rfl)) ?_
   replace hO := mB.own
   refine zn (zq (zr (zm rfl (za rfl (zn ?_)))))
   refine Go1.ret1V Try.func65 rfl (show _ = .int .i64 (d_147.length : Int) from rfl) ?_
   refine hR232 _ _ ?_
   refine za rfl (zn (zr (zm rfl (zm rfl (zo (op_nilCheck rfl) ?_)))))
   refine zo (op_fieldAddr Try.underlying72 rfl ti26 rfl (by decide)) (zs (oblk (i := 12) 8 hO rfl rfl Try.underlying26 rfl rfl) (zm rfl ?_))
   have hobt := obuild (r := Rp.int .i64) (n := 1) (parts := [(0, .int .i64 (d_147.length : Int))]) (vs := [.int .i64 (d_147.length : Int)]) (xs := [(d_147.length : Int)]) rfl Try.underlying26 ti3 hO (by decide) (by kernel_rfl) (Els.cons rfl rfl (Els.nil _ _ _) (by simp [mx])) rfl
   obtain ⟨Uh, Ui, nh, Ls, Td, H5⟩ := hobt
   refine zg (H5 rfl) ?_
   replace hO := nh.own
   have hobt := freeze 0 hO rfl Ls
   obtain ⟨hO1, jj, Ba, Lt⟩ := hobt
   dsimp only [eS, eZ] at hO1 jj Ba
   replace hB := (((hB.trans ng.fr).trans mB.fr).trans nh.fr).trans (Owns.dropFr _ _ 0)
   dsimp only [eS, eZ] at hB
   replace hO := hO1; clear hO1
   obtain ⟨Qn, H⟩ := H
   have Z19 := (((Z18.trans ng.ch).trans mB.ch).trans nh.ch).trans jj
   replace ck := ck.ch Z19
   have hobt := oapp Try.underlying26 ti3 rfl 0 hO rfl ck Ba Lt Qn (by decide)
   obtain ⟨Uj, FN, FO, nT, mC, CQ, H6⟩ := hobt
   dsimp only [sS, sZ] at mC CQ
   refine zg (H6 (by exact rfl) (by exact rfl)) ?_
   replace hO := mC.own
   refine zo (op_nilCheck rfl) (zo (op_fieldAddr Try.underlying72 rfl ti26 rfl (by decide)) ?_)
   have hobt := oblkSt2 (v := .slice FN (jo + 1) FO) (i := 12) (cs' := #[.int .i64 ((ix a0 (0 : Int)).length : Int), .bool false, .slice p35 n37 c36, .slice AJ (jE + 1) AK, .slice BG (jD + 1) BH, .slice Cq (jC + 1) Cr, .slice none 0 0, .slice kE jB kF, .int .i64 (0 : Int), .map (some B4), .slice Dn (jA + 1) Do, .slice Ea (jz + 1) Eb, .slice FN (jo + 1) FO]) 8 hO rfl rfl rfl rfl
   obtain ⟨Uk, lI, H7⟩ := hobt
   dsimp only [sS, sZ] at lI
   refine zg (H7 Try.underlying26 rfl ti26 (by exact rfl) (by exact rfl)) ?_
   replace hO := lI.own
   refine zn ?_
   refine Go1.inBlock ?_
   refine Go1.cut [(6, .pointer (some ⟨B10, 0, none⟩)), (9, .int .i64 (-1 : Int)), (85, .slice p35 n37 c36), (86, .int .i64 (d_32.length : Int)), (87, .int .i64 (k2_110 : Int))] ⟨rfl, rfl, rfl, rfl, rfl, trivial⟩ ?_
   intro σ _
   refine zr ?_
   replace af := ((af.ch Z19).ch mC.ch).ch lI.ch
   refine zo (op_add rfl rfl (wrap_i64 (natbd Cp af.bd))) (zm rfl (zn ?_))
   replace CQ := CQ.ch lI.ch
   replace hB := (hB.trans mC.fr).trans lI.fr
   have Z20 := (((mB.ch.trans nh.ch).trans jj).trans mC.ch).trans lI.ch
   replace u5 := u5.ch Z20
   have Z21 := (((((((nf.ch.trans gh.ch).trans rz).trans ng.ch).trans mB.ch).trans nh.ch).trans jj).trans mC.ch).trans lI.ch
   replace nS := nS.ch Z21
   have Z22 := (((((((((((oa.ch.trans oT.ch).trans m5).trans fF.ch).trans nf.ch).trans gh.ch).trans rz).trans ng.ch).trans mB.ch).trans nh.ch).trans jj).trans mC.ch).trans lI.ch
   replace jr := jr.ch Z22
   have Z23 := (((((((((((((((oS.ch.trans gw.ch).trans un).trans ji.ch).trans oa.ch).trans oT.ch).trans m5).trans fF.ch).trans nf.ch).trans gh.ch).trans rz).trans ng.ch).trans mB.ch).trans nh.ch).trans jj).trans mC.ch).trans lI.ch
   replace aW := aW.ch Z23
   have Z24 := (((((((((((((((((((pK.ch.trans qJ.ch).trans u4).trans pM.ch).trans oS.ch).trans gw.ch).trans un).trans ji.ch).trans oa.ch).trans oT.ch).trans m5).trans fF.ch).trans nf.ch).trans gh.ch).trans rz).trans ng.ch).trans mB.ch).trans nh.ch).trans jj).trans mC.ch).trans lI.ch
   replace fv := fv.ch Z24
   replace cu := ((cu.ch Z19).ch mC.ch).ch lI.ch
   exact hX2 _ H _ _ ⟨jo + 1, FN, FO, nT, jz + 1, Ea, Eb, Lr, jA + 1, Dn, Do, Ln, jB, kE, kF, rq, jC + 1, Cq, Cr, Ll, jD + 1, BG, BH, Li, jE + 1, AJ, AK, Lg, ⟨rfl, rfl, rfl, rfl, rfl, trivial⟩, hO, CQ, u5, nS, cu, jr, aW, fv, af, hB⟩
  replace H := ifn Cp H
  refine zo (fun w => opB (op_lss rfl rfl w) (decide_eq_false Cp)) (zn (zq (zf rfl rfl ?_)))
  refine Go1.exit rfl ?_
  refine zq (zr (zm rfl (za rfl (za rfl (zn ?_)))))
  have uU := Stp.nil (e := 26) (r := 1) hO
  replace hO := uU.own
  have lJ := Els.nil (Rp.sl (Rp.int .i64)) (bl (.row 26 1 none 0 0 [] :: [.row 3 1 lj jo lk tv, .row 3 1 kc jz kD ro, .row 9 1 ll jA lm rp, .row 39 2 kE jB kF rq, .row 3 1 lG jC lH rs, .row 3 1 mo jD mp ru, .row 26 1 mV jE mW rv, .row 26 1 p35 n37 c36 f8, .blk B10 (.cells #[.int .i64 ((ix a0 (0 : Int)).length : Int), .bool false, .slice p35 n37 c36, .slice mV jE mW, .slice mo jD mp, .slice lG jC lH, .slice none 0 0, .slice kE jB kF, .int .i64 (0 : Int), .map (some B4), .slice ll jA lm, .slice kc jz kD, .slice lj jo lk] 72 (0, 0)), .any (mapE (fun a : List UInt8 => Value.string (gstr a)) (fun a : Int => Value.int .i64 a) B4 m2_153)]) ++ A) P8
  have gx := Stp.front 10 hO rfl
  dsimp only [eS, eZ] at gx
  replace hO := gx.own
  have sw := Stp.front 2 hO rfl
  dsimp only [eS, eZ] at sw
  replace hO := sw.own
  have gi := Stp.front 3 hO rfl
  dsimp only [eS, eZ] at gi
  replace hO := gi.own
  have sx := Stp.front 4 hO rfl
  dsimp only [eS, eZ] at sx
  replace hO := sx.own
  have sy := Stp.front 5 hO rfl
  dsimp only [eS, eZ] at sy
  replace hO := sy.own
  have sA := Stp.front 5 hO rfl
  dsimp only [eS, eZ] at sA
  replace hO := sA.own
  have gy := Stp.front 6 hO rfl
  dsimp only [eS, eZ] at gy
  replace hO := gy.own
  have sB := Stp.front 7 hO rfl
  dsimp only [eS, eZ] at sB
  replace hO := sB.own
  have sC := Stp.front 8 hO rfl
  dsimp only [eS, eZ] at sC
  replace hO := sC.own
  have sD := Stp.front 9 hO rfl
  dsimp only [eS, eZ] at sD
  replace hO := sD.own
  have sE := Stp.front 10 hO rfl
  dsimp only [eS, eZ] at sE
  replace hO := sE.own
  refine Go1.ret2 Try.func49 rfl ?_
  have Z25 := (((((((((gx.ch.trans sw.ch).trans gi.ch).trans sx.ch).trans sy.ch).trans sA.ch).trans gy.ch).trans sB.ch).trans sC.ch).trans sD.ch).trans sE.ch
  replace lJ := lJ.ch Z25
  have Z26 := ((((((((((uU.ch.trans gx.ch).trans sw.ch).trans gi.ch).trans sx.ch).trans sy.ch).trans sA.ch).trans gy.ch).trans sB.ch).trans sC.ch).trans sD.ch).trans sE.ch
  replace ck := ck.ch Z26
  replace ct := ct.ch Z26
  replace cz := cz.ch Z26
  replace cu := cu.ch Z26
  replace cV := cV.ch Z26
  replace dm := dm.ch Z26
  replace dB := dB.ch Z26
  replace af := af.ch Z26
  replace hB := (((((((((((hB.trans uU.fr).trans gx.fr).trans sw.fr).trans gi.fr).trans sx.fr).trans sy.fr).trans sA.fr).trans gy.fr).trans sB.fr).trans sC.fr).trans sD.fr).trans sE.fr
  exact Or.inr ⟨(⟨(⟨((ix a0 (0 : Int)).length : Int), false, d_32, d_147, d_141, d_135, ([] : List (List Int)), d_129, (0 : Int)⟩ : Enum), m2_153, d_123, d_117, d_111⟩ : run), ((0 : Int)), B10, n37, p35, c36, f8, jE, mV, mW, rv, jD, mo, mp, ru, jC, lG, lH, rs, 0, none, 0, ([]), jB, kE, kF, rq, B4, jA, ll, lm, rp, jz, kc, kD, ro, jo, lj, lk, tv, rfl, hB.same, hO, af, dB, dm, cV, lJ, cu, cz, ct, ck, H⟩
 replace H := ifp rfl H
 refine zt rfl rfl (zr (zm rfl (zm rfl (zo (op_nilCheck rfl) (zo (op_fieldAddr Try.underlying72 rfl ti29 rfl (by decide)) ?_)))))
 refine zo (op_fieldAddr Try.underlying29 rfl ti3 rfl (by decide)) (zs (oblk (i := 0) 1 hO rfl rfl Try.underlying3 rfl rfl) ?_)
 refine GoR.call (op_call body62 rfl (walk_trans_Identity hO.lt H)) rfl rfl ?_
 rintro Ul Qo ⟨r397, AM, AN, rfl, Lu, dk, H⟩
 have Ca := Stp.same hO Lu
 replace hO := Ca.own
 refine GoR.inl (vs := [.pointer (some ⟨B10, 0, none⟩), .slice AM r397.length AN, .int .i64 (-1 : Int), .int .i64 (-1 : Int), .string (gstr (([] : Str))), .int .i64 (-1 : Int)]) (caps := []) rfl rfl body65 Try.func65 rfl Try.ntmps65 rfl rfl rfl ?_
 intro RhR403 hR403
 refine zq (zr (za rfl (zn (zq (zr ?_)))))
 refine zm rfl (zo (op_nilCheck rfl) (zo (op_fieldAddr Try.underlying72 rfl ti29 rfl (by decide)) (zo (op_fieldAddr Try.underlying29 rfl ti22 rfl (by decide)) (zs (oblk (i := 3) 1 hO rfl rfl Try.underlying22 rfl rfl) (zo (op_len Try.underlying22 rfl) ?_)))))
 refine za rfl (zn (zq ?_))
 refine Go1.cut [(0, .pointer (some ⟨B10, 0, none⟩)), (1, .slice AM r397.length AN), (2, .int .i64 (-1 : Int)), (3, .int .i64 (-1 : Int)), (4, .string (gstr (([] : Str)))), (5, .int .i64 (-1 : Int)), (13, .int .i64 (0 : Int))] ⟨rfl, rfl, rfl, rfl, rfl, rfl, rfl, trivial⟩ ?_
 intro σ _
 refine Go1.drawS 1 [(0, .pure), (1, .pure), (2, .pure), (3, .stable), (4, .pure), (6, .pure), (5, .loud), (7, .last)] mixed (by kernel_rfl) ?_
 intro Um Lv
 have AO := Stp.same hO Lv
 replace hO := AO.own
 refine GoQ.pure rfl (op_move rfl) rfl rfl ?_
 refine GoQ.pure rfl (op_nilCheck rfl) rfl rfl ?_
 refine GoQ.pure rfl (op_fieldAddr Try.underlying72 rfl ti69 rfl (by decide)) rfl rfl ?_
 refine GoQ.stable rfl (oblk (i := 9) 1 hO rfl rfl Try.underlying69 rfl rfl) rfl rfl ?_
 refine GoQ.pure rfl (op_move rfl) rfl rfl ?_
 refine GoQ.pure rfl (op_move rfl) rfl rfl ?_
 replace dk := dk.ch AO.ch
 refine GoQ.call rfl (op_call body61 rfl (walk_enumerate_text hO.lt dk H)) (fun v w hr => by obtain ⟨_, _, hs, _, _⟩ := hr; assumption) rfl rfl ?_
 rintro Un Uo ⟨r407, rfl, Lw, SU, H⟩
 have AP := Stp.same hO Lw
 replace hO := AP.own
 have hobt := omapUpd (MK.str Try.underlying9) 2 hO rfl Try.underlying69 r407 (0 : Int)
 obtain ⟨Qp, jF, H8⟩ := hobt
 refine GoQ.last rfl (H8 (by exact rfl) (by exact rfl) (by exact rfl)) rfl rfl ?_
 replace hO := jF.own
 refine GoQ.nil ?_
 refine zq (zr (zm rfl (zm rfl (zo (op_nilCheck rfl) (zo (op_fieldAddr Try.underlying72 rfl ti29 rfl (by decide)) ?_)))))
 refine zo (op_fieldAddr Try.underlying29 rfl ti22 rfl (by decide)) (zs (oblk (i := 3) 1 hO rfl rfl Try.underlying22 rfl rfl) (zm rfl ?_))
 replace dk := (dk.ch AP.ch).ch jF.ch
 have hobt := obuild (r := Rp.sl (Rp.int .i64)) (n := 1) (parts := [(0, .slice AM r397.length AN)]) (vs := [.slice AM r397.length AN]) (xs := [r397]) rfl Try.underlying22 ti26 hO (by decide) (by kernel_rfl) (Els.cons rfl ⟨AM, AN, rfl, dk⟩ (Els.nil _ _ _) (by simp [mx])) rfl
 obtain ⟨Qq, Up, AQ, Lx, Te, H9⟩ := hobt
 refine zg (H9 rfl) ?_
 replace hO := AQ.own
 have hobt := freeze 0 hO rfl Lx
 obtain ⟨hO1, Ec, eG, Ly⟩ := hobt
 replace hO := hO1; clear hO1
 have ja := Stp.nil (e := 26) (r := 1) hO
 replace hO := ja.own
 have iv := Els.nil (Rp.sl (Rp.int .i64)) (bl (.row 26 1 none 0 0 [] :: [.row 26 1 p35 n37 c36 f8, .blk B10 (.cells #[.int .i64 ((ix a0 (0 : Int)).length : Int), .bool true, .slice p35 n37 c36, .slice none 0 0, .slice none 0 0, .slice none 0 0, .slice none 0 0, .slice none 0 0, .int .i64 (0 : Int), .map (some B4), .slice none 0 0, .slice none 0 0, .slice none 0 0] 72 (0, 0)), .any (mapE (fun a : List UInt8 => Value.string (gstr a)) (fun a : Int => Value.int .i64 a) B4 (mput (([] : List (Str × Int))) r407 ((0 : Int))))]) ++ A) Qq
 obtain ⟨Qr, H⟩ := H
 replace eG := eG.ch ja.ch
 have hobt := oapp Try.underlying22 ti26 rfl 0 hO rfl iv eG Ly Qr (by decide)
 obtain ⟨Uq, rB, rC, zH, zD, e9, Ia⟩ := hobt
 refine zg (Ia (by exact rfl) (by exact rfl)) ?_
 replace hO := zD.own
 refine zo (op_nilCheck rfl) (zo (op_fieldAddr Try.underlying72 rfl ti29 rfl (by decide)) (zo (op_fieldAddr Try.underlying29 rfl ti22 rfl (by decide)) ?_))
 have hobt := oblkSt2 (v := .slice rB (0 + 1) rC) (i := 3) (cs' := #[.int .i64 ((ix a0 (0 : Int)).length : Int), .bool true, .slice p35 n37 c36, .slice rB (0 + 1) rC, .slice none 0 0, .slice none 0 0, .slice none 0 0, .slice none 0 0, .int .i64 (0 : Int), .map (some B4), .slice none 0 0, .slice none 0 0, .slice none 0 0]) 2 hO rfl rfl rfl rfl
 obtain ⟨Ur, x2, Ib⟩ := hobt
 refine zg (Ib Try.underlying22 rfl ti22 (by exact rfl) (by exact rfl)) ?_
 replace hO := x2.own
 refine zn (zq ?_)
 refine Go1.cut [(0, .pointer (some ⟨B10, 0, none⟩)), (2, .int .i64 (-1 : Int)), (3, .int .i64 (-1 : Int)), (4, .string (gstr (([] : Str)))), (5, .int .i64 (-1 : Int)), (13, .int .i64 (0 : Int))] ⟨rfl, rfl, rfl, rfl, rfl, rfl, trivial⟩ ?_
 intro σ _
 refine zr (zm rfl (zm rfl (zo (op_nilCheck rfl) (zo (op_fieldAddr Try.underlying72 rfl ti29 rfl (by decide)) (zo (op_fieldAddr Try.underlying29 rfl ti26 rfl (by decide)) ?_)))))
 refine zs (oblk (i := 4) 2 hO rfl rfl Try.underlying26 rfl rfl) (zm rfl ?_)
 have hobt := obuild (r := Rp.int .i64) (n := 1) (parts := [(0, .int .i64 (-1 : Int))]) (vs := [.int .i64 (-1 : Int)]) (xs := [(-1 : Int)]) rfl Try.underlying26 ti3 hO (by decide) (by kernel_rfl) (Els.cons rfl rfl (Els.nil _ _ _) (by simp [mx])) rfl
 obtain ⟨Qs, Us, x3, Lz, Tf, Ic⟩ := hobt
 refine zg (Ic rfl) ?_
 replace hO := x3.own
 have hobt := freeze 0 hO rfl Lz
 obtain ⟨hO1, Bb, fC, LA⟩ := hobt
 dsimp only [eS, eZ] at hO1 Bb fC
 replace hB := ((((((((((hB.trans Ca.fr).trans AO.fr).trans AP.fr).trans jF.fr).trans AQ.fr).trans (Owns.dropFr _ _ 0)).trans ja.fr).trans zD.fr).trans x2.fr).trans x3.fr).trans (Owns.dropFr _ _ 0)
 dsimp only [eS, eZ] at hB
 replace hO := hO1; clear hO1
 have xa := Stp.nil (e := 3) (r := 1) hO
 replace hO := xa.own
 have LB := Els.nil (Rp.int .i64) (bl (.row 3 1 none 0 0 [] :: [.row 26 1 rB (0 + 1) rC zH, .row 26 1 p35 n37 c36 f8, .blk B10 (.cells #[.int .i64 ((ix a0 (0 : Int)).length : Int), .bool true, .slice p35 n37 c36, .slice rB (0 + 1) rC, .slice none 0 0, .slice none 0 0, .slice none 0 0, .slice none 0 0, .int .i64 (0 : Int), .map (some B4), .slice none 0 0, .slice none 0 0, .slice none 0 0] 72 (0, 0)), .any (mapE (fun a : List UInt8 => Value.string (gstr a)) (fun a : Int => Value.int .i64 a) B4 (mput (([] : List (Str × Int))) r407 ((0 : Int))))]) ++ A) Qs
 obtain ⟨Qt, H⟩ := H
 replace fC := fC.ch xa.ch
 have hobt := oapp Try.underlying26 ti3 rfl 0 hO rfl LB fC LA Qt (by decide)
 obtain ⟨Qu, uN, uO, Bc, kY, fP, Dr⟩ := hobt
 dsimp only [sS, sZ] at kY fP
 refine zg (Dr (by exact rfl) (by exact rfl)) ?_
 replace hO := kY.own
 refine zo (op_nilCheck rfl) (zo (op_fieldAddr Try.underlying72 rfl ti29 rfl (by decide)) (zo (op_fieldAddr Try.underlying29 rfl ti26 rfl (by decide)) ?_))
 have hobt := oblkSt2 (v := .slice uN (0 + 1) uO) (i := 4) (cs' := #[.int .i64 ((ix a0 (0 : Int)).length : Int), .bool true, .slice p35 n37 c36, .slice rB (0 + 1) rC, .slice uN (0 + 1) uO, .slice none 0 0, .slice none 0 0, .slice none 0 0, .int .i64 (0 : Int), .map (some B4), .slice none 0 0, .slice none 0 0, .slice none 0 0]) 3 hO rfl rfl rfl rfl
 obtain ⟨Ut, ip, Id⟩ := hobt
 dsimp only [sS, sZ] at ip
 refine zg (Id Try.underlying26 rfl ti26 (by exact rfl) (by exact rfl)) ?_
 replace hO := ip.own
 refine zn (zq (zr (zm rfl (zm rfl (zo (op_nilCheck rfl) ?_)))))
 refine zo (op_fieldAddr Try.underlying72 rfl ti29 rfl (by decide)) (zo (op_fieldAddr Try.underlying29 rfl ti26 rfl (by decide)) (zs (oblk (i := 5) 3 hO rfl rfl Try.underlying26 rfl rfl) (zm rfl ?_)))
 have hobt := obuild (r := Rp.int .i64) (n := 1) (parts := [(0, .int .i64 (-1 : Int))]) (vs := [.int .i64 (-1 : Int)]) (xs := [(-1 : Int)]) rfl Try.underlying26 ti3 hO (by decide) (by kernel_rfl) (Els.cons rfl rfl (Els.nil _ _ _) (by simp [mx])) rfl
 obtain ⟨Qv, Uu, vJ, LD, Tg, Ie⟩ := hobt
 refine zg (Ie rfl) ?_
 replace hO := vJ.own
 have hobt := freeze 0 hO rfl LD
 obtain ⟨hO1, yj, iw, LE⟩ := hobt
 dsimp only [eS, eZ] at hO1 yj iw
 replace hB := ((((hB.trans xa.fr).trans kY.fr).trans ip.fr).trans vJ.fr).trans (Owns.dropFr _ _ 0)
 dsimp only [eS, eZ] at hB
 replace hO := hO1; clear hO1
 have gU := Stp.nil (e := 3) (r := 1) hO
 replace hO := gU.own
 have u6 := Els.nil (Rp.int .i64) (bl (.row 3 1 none 0 0 [] :: [.row 3 1 uN (0 + 1) uO Bc, .row 26 1 rB (0 + 1) rC zH, .row 26 1 p35 n37 c36 f8, .blk B10 (.cells #[.int .i64 ((ix a0 (0 : Int)).length : Int), .bool true, .slice p35 n37 c36, .slice rB (0 + 1) rC, .slice uN (0 + 1) uO, .slice none 0 0, .slice none 0 0, .slice none 0 0, .int .i64 (0 : Int), .map (some B4), .slice none 0 0, .slice none 0 0, .slice none 0 0] 72 (0, 0)), .any (mapE (fun a : List UInt8 => Value.string (gstr a)) (fun a : Int => Value.int .i64 a) B4 (mput (([] : List (Str × Int))) r407 ((0 : Int))))]) ++ A) Qv
 obtain ⟨Qw, H⟩ := H
 replace iw := iw.ch gU.ch
 have hobt := oapp Try.underlying26 ti3 rfl 0 hO rfl u6 iw LE Qw (by decide)
 obtain ⟨Uv, wk, wl, Cb, t8, jt, Ig⟩ := hobt
 dsimp only [sS, sZ] at t8 jt
 refine zg (Ig (by exact rfl) (by exact rfl)) ?_
 replace hO := t8.own
 refine zo (op_nilCheck rfl) (zo (op_fieldAddr Try.underlying72 rfl ti29 rfl (by decide)) (zo (op_fieldAddr Try.underlying29 rfl ti26 rfl (by decide)) ?_))
 have hobt := oblkSt2 (v := .slice wk (0 + 1) wl) (i := 5) (cs' := #[.int .i64 ((ix a0 (0 : Int)).length : Int), .bool true, .slice p35 n37 c36, .slice rB (0 + 1) rC, .slice uN (0 + 1) uO, .slice wk (0 + 1) wl, .slice none 0 0, .slice none 0 0, .int .i64 (0 : Int), .map (some B4), .slice none 0 0, .slice none 0 0, .slice none 0 0]) 4 hO rfl rfl rfl rfl
 obtain ⟨Uw, sF, Ih⟩ := hobt
 dsimp only [sS, sZ] at sF
 refine zg (Ih Try.underlying26 rfl ti26 (by exact rfl) (by exact rfl)) ?_
 replace hO := sF.own
 refine zn (zq ?_)
 refine Go1.cut [(0, .pointer (some ⟨B10, 0, none⟩)), (4, .string (gstr (([] : Str)))), (5, .int .i64 (-1 : Int)), (13, .int .i64 (0 : Int))] ⟨rfl, rfl, rfl, rfl, trivial⟩ ?_
 intro σ _
 refine zr (zm rfl (zm rfl (zo (op_nilCheck rfl) (zo (op_fieldAddr Try.underlying72 rfl ti70 rfl (by decide)) (zs (oblk (i := 10) 4 hO rfl rfl Try.underlying70 rfl rfl) ?_)))))
 refine zm rfl ?_
 have hobt := obuild (r := Rp.str) (n := 1) (parts := [(0, .string (gstr (([] : Str))))]) (vs := [.string (gstr (([] : Str)))]) (xs := [([] : Str)]) rfl Try.underlying70 ti9 hO (by decide) (by kernel_rfl) (Els.cons rfl ⟨rfl, (by decide)⟩ (Els.nil _ _ _) (by simp [mx])) rfl
 obtain ⟨Ed, Ux, fL, yk, Th, Ii⟩ := hobt
 refine zg (Ii rfl) ?_
 replace hO := fL.own
 have hobt := freeze 0 hO rfl yk
 obtain ⟨hO1, wt, mv, LF⟩ := hobt
 dsimp only [eS, eZ] at hO1 wt mv
 replace hB := ((((hB.trans gU.fr).trans t8.fr).trans sF.fr).trans fL.fr).trans (Owns.dropFr _ _ 0)
 dsimp only [eS, eZ] at hB
 replace hO := hO1; clear hO1
 have sG := Stp.nil (e := 9) (r := 1) hO
 replace hO := sG.own
 have zI := Els.nil (Rp.str) (bl (.row 9 1 none 0 0 [] :: [.row 3 1 wk (0 + 1) wl Cb, .row 3 1 uN (0 + 1) uO Bc, .row 26 1 rB (0 + 1) rC zH, .row 26 1 p35 n37 c36 f8, .blk B10 (.cells #[.int .i64 ((ix a0 (0 : Int)).length : Int), .bool true, .slice p35 n37 c36, .slice rB (0 + 1) rC, .slice uN (0 + 1) uO, .slice wk (0 + 1) wl, .slice none 0 0, .slice none 0 0, .int .i64 (0 : Int), .map (some B4), .slice none 0 0, .slice none 0 0, .slice none 0 0] 72 (0, 0)), .any (mapE (fun a : List UInt8 => Value.string (gstr a)) (fun a : Int => Value.int .i64 a) B4 (mput (([] : List (Str × Int))) r407 ((0 : Int))))]) ++ A) Ed
 obtain ⟨Qx, H⟩ := H
 replace mv := mv.ch sG.ch
 have hobt := oapp Try.underlying70 ti9 rfl 0 hO rfl zI mv LF Qx (by decide)
 obtain ⟨Qy, yL, yM, CR, qK, pz, Ij⟩ := hobt
 dsimp only [sS, sZ] at qK pz
 refine zg (Ij (by exact rfl) (by exact rfl)) ?_
 replace hO := qK.own
 refine zo (op_nilCheck rfl) (zo (op_fieldAddr Try.underlying72 rfl ti70 rfl (by decide)) ?_)
 have hobt := oblkSt2 (v := .slice yL (0 + 1) yM) (i := 10) (cs' := #[.int .i64 ((ix a0 (0 : Int)).length : Int), .bool true, .slice p35 n37 c36, .slice rB (0 + 1) rC, .slice uN (0 + 1) uO, .slice wk (0 + 1) wl, .slice none 0 0, .slice none 0 0, .int .i64 (0 : Int), .map (some B4), .slice yL (0 + 1) yM, .slice none 0 0, .slice none 0 0]) 5 hO rfl rfl rfl rfl
 obtain ⟨Uy, pN, Ds⟩ := hobt
 dsimp only [sS, sZ] at pN
 refine zg (Ds Try.underlying70 rfl ti70 (by exact rfl) (by exact rfl)) ?_
 replace hO := pN.own
 refine zn (zq (zr (zm rfl (zm rfl (zo (op_nilCheck rfl) ?_)))))
 refine zo (op_fieldAddr Try.underlying72 rfl ti26 rfl (by decide)) (zs (oblk (i := 11) 5 hO rfl rfl Try.underlying26 rfl rfl) (zm rfl ?_))
 have hobt := obuild (r := Rp.int .i64) (n := 1) (parts := [(0, .int .i64 (-1 : Int))]) (vs := [.int .i64 (-1 : Int)]) (xs := [(-1 : Int)]) rfl Try.underlying26 ti3 hO (by decide) (by kernel_rfl) (Els.cons rfl rfl (Els.nil _ _ _) (by simp [mx])) rfl
 obtain ⟨Qz, Uz, qL, LG, Tj, Dt⟩ := hobt
 refine zg (Dt rfl) ?_
 replace hO := qL.own
 have hobt := freeze 0 hO rfl LG
 obtain ⟨hO1, u7, u9, LH⟩ := hobt
 dsimp only [eS, eZ] at hO1 u7 u9
 replace hB := ((((hB.trans sG.fr).trans qK.fr).trans pN.fr).trans qL.fr).trans (Owns.dropFr _ _ 0)
 dsimp only [eS, eZ] at hB
 replace hO := hO1; clear hO1
 have pO := Stp.nil (e := 3) (r := 1) hO
 replace hO := pO.own
 have LI := Els.nil (Rp.int .i64) (bl (.row 3 1 none 0 0 [] :: [.row 9 1 yL (0 + 1) yM CR, .row 3 1 wk (0 + 1) wl Cb, .row 3 1 uN (0 + 1) uO Bc, .row 26 1 rB (0 + 1) rC zH, .row 26 1 p35 n37 c36 f8, .blk B10 (.cells #[.int .i64 ((ix a0 (0 : Int)).length : Int), .bool true, .slice p35 n37 c36, .slice rB (0 + 1) rC, .slice uN (0 + 1) uO, .slice wk (0 + 1) wl, .slice none 0 0, .slice none 0 0, .int .i64 (0 : Int), .map (some B4), .slice yL (0 + 1) yM, .slice none 0 0, .slice none 0 0] 72 (0, 0)), .any (mapE (fun a : List UInt8 => Value.string (gstr a)) (fun a : Int => Value.int .i64 a) B4 (mput (([] : List (Str × Int))) r407 ((0 : Int))))]) ++ A) Qz
 obtain ⟨QA, H⟩ := H
 replace u9 := u9.ch pO.ch
 have hobt := oapp Try.underlying26 ti3 rfl 0 hO rfl LI u9 LH QA (by decide)
 obtain ⟨UA, BI, BJ, Ee, gj, yl, Ik⟩ := hobt
 dsimp only [sS, sZ] at gj yl
 refine zg (Ik (by exact rfl) (by exact rfl)) ?_
 replace hO := gj.own
 refine zo (op_nilCheck rfl) (zo (op_fieldAddr Try.underlying72 rfl ti26 rfl (by decide)) ?_)
 have hobt := oblkSt2 (v := .slice BI (0 + 1) BJ) (i := 11) (cs' := #[.int .i64 ((ix a0 (0 : Int)).length : Int), .bool true, .slice p35 n37 c36, .slice rB (0 + 1) rC, .slice uN (0 + 1) uO, .slice wk (0 + 1) wl, .slice none 0 0, .slice none 0 0, .int .i64 (0 : Int), .map (some B4), .slice yL (0 + 1) yM, .slice BI (0 + 1) BJ, .slice none 0 0]) 6 hO rfl rfl rfl rfl
 obtain ⟨FP, ob, Il⟩ := hobt
 dsimp only [sS, sZ] at ob
 refine zg (Il Try.underlying26 rfl ti26 (by exact rfl) (by exact rfl)) ?_
 replace hO := ob.own
 refine zn (zq ?_)
 refine Go1.cut [(13, .int .i64 (0 : Int))] ⟨rfl, trivial⟩ ?_
 intro σ _
 refine zr (zm rfl (za rfl (zn ?_)))
 refine Go1.ret1V Try.func65 rfl (show _ = .int .i64 (0 : Int) from rfl) ?_
 refine hR403 _ _ ?_
 refine za rfl (zn (zq (zq (zr (zm rfl ?_)))))
 refine zo (op_nilCheck rfl) (zo (op_fieldAddr Try.underlying72 rfl ti29 rfl (by decide)) (zo (op_fieldAddr Try.underlying29 rfl ti22 rfl (by decide)) (zs (oblk (i := 2) 6 hO rfl rfl Try.underlying22 rfl rfl) ?_)))
 have Z27 := (((((((((((((((((((((((((((Ca.ch.trans AO.ch).trans AP.ch).trans jF.ch).trans AQ.ch).trans Ec).trans ja.ch).trans zD.ch).trans x2.ch).trans x3.ch).trans Bb).trans xa.ch).trans kY.ch).trans ip.ch).trans vJ.ch).trans yj).trans gU.ch).trans t8.ch).trans sF.ch).trans fL.ch).trans wt).trans sG.ch).trans qK.ch).trans pN.ch).trans qL.ch).trans u7).trans pO.ch).trans gj.ch).trans ob.ch
 replace af := af.ch Z27
 refine zo (op_lenN Try.underlying22 rfl (af.neq hO 5 rfl)) (zm rfl (zn (zb ?_)))
 have gk := Stp.nil (e := 39) (r := 2) hO
 replace hO := gk.own
 have Bd := Els.nil (rpRule) (bl (.row 39 2 none 0 0 [] :: [.row 3 1 BI (0 + 1) BJ Ee, .row 9 1 yL (0 + 1) yM CR, .row 3 1 wk (0 + 1) wl Cb, .row 3 1 uN (0 + 1) uO Bc, .row 26 1 rB (0 + 1) rC zH, .row 26 1 p35 n37 c36 f8, .blk B10 (.cells #[.int .i64 ((ix a0 (0 : Int)).length : Int), .bool true, .slice p35 n37 c36, .slice rB (0 + 1) rC, .slice uN (0 + 1) uO, .slice wk (0 + 1) wl, .slice none 0 0, .slice none 0 0, .int .i64 (0 : Int), .map (some B4), .slice yL (0 + 1) yM, .slice BI (0 + 1) BJ, .slice none 0 0] 72 (0, 0)), .any (mapE (fun a : List UInt8 => Value.string (gstr a)) (fun a : Int => Value.int .i64 a) B4 (mput (([] : List (Str × Int))) r407 ((0 : Int))))]) ++ A) FP
 have oc := Stp.nil (e := 3) (r := 1) hO
 replace hO := oc.own
 have LJ := Els.nil (Rp.int .i64) (bl (.row 3 1 none 0 0 [] :: [.row 39 2 none 0 0 [], .row 3 1 BI (0 + 1) BJ Ee, .row 9 1 yL (0 + 1) yM CR, .row 3 1 wk (0 + 1) wl Cb, .row 3 1 uN (0 + 1) uO Bc, .row 26 1 rB (0 + 1) rC zH, .row 26 1 p35 n37 c36 f8, .blk B10 (.cells #[.int .i64 ((ix a0 (0 : Int)).length : Int), .bool true, .slice p35 n37 c36, .slice rB (0 + 1) rC, .slice uN (0 + 1) uO, .slice wk (0 + 1) wl, .slice none 0 0, .slice none 0 0, .int .i64 (0 : Int), .map (some B4), .slice yL (0 + 1) yM, .slice BI (0 + 1) BJ, .slice none 0 0] 72 (0, 0)), .any (mapE (fun a : List UInt8 => Value.string (gstr a)) (fun a : Int => Value.int .i64 a) B4 (mput (([] : List (Str × Int))) r407 ((0 : Int))))]) ++ A) FP
 replace Bd := Bd.ch oc.ch
 replace af := (af.ch gk.ch).ch oc.ch
 have Z28 := (ob.ch.trans gk.ch).trans oc.ch
 replace yl := yl.ch Z28
 replace hB := ((((hB.trans pO.fr).trans gj.fr).trans ob.fr).trans gk.fr).trans oc.fr
 have Z29 := ((((((pN.ch.trans qL.ch).trans u7).trans pO.ch).trans gj.ch).trans ob.ch).trans gk.ch).trans oc.ch
 replace pz := pz.ch Z29
 have Z30 := (((((((((((sF.ch.trans fL.ch).trans wt).trans sG.ch).trans qK.ch).trans pN.ch).trans qL.ch).trans u7).trans pO.ch).trans gj.ch).trans ob.ch).trans gk.ch).trans oc.ch
 replace jt := jt.ch Z30
 have Z31 := ((((((((((((((((ip.ch.trans vJ.ch).trans yj).trans gU.ch).trans t8.ch).trans sF.ch).trans fL.ch).trans wt).trans sG.ch).trans qK.ch).trans pN.ch).trans qL.ch).trans u7).trans pO.ch).trans gj.ch).trans ob.ch).trans gk.ch).trans oc.ch
 replace fP := fP.ch Z31
 have Z32 := (((((((((((((((((((((x2.ch.trans x3.ch).trans Bb).trans xa.ch).trans kY.ch).trans ip.ch).trans vJ.ch).trans yj).trans gU.ch).trans t8.ch).trans sF.ch).trans fL.ch).trans wt).trans sG.ch).trans qK.ch).trans pN.ch).trans qL.ch).trans u7).trans pO.ch).trans gj.ch).trans ob.ch).trans gk.ch).trans oc.ch
 replace e9 := e9.ch Z32
 refine Go1.loopW (S := Nat × List Int × List Rule × List Int × List Str × List Int × List Int × List (List Int) × (List (Str × Int))) (fun s σ w => match s with | (k3_548, d_549, d_555, d_561, d_567, d_573, d_579, d_585, m3_591) => ∃ (jp : Nat), ∃ (lp : Option Addr), ∃ (lr : Nat), ∃ (tz : List Value), ∃ (jG : Nat), ∃ (kG : Option Addr), ∃ (kI : Nat), ∃ (rD : List Value), ∃ (jH : Nat), ∃ (kK : Option Addr), ∃ (kM : Nat), ∃ (rE : List Value), ∃ (jI : Nat), ∃ (lv : Option Addr), ∃ (lx : Nat), ∃ (rF : List Value), ∃ (jJ : Nat), ∃ (lK : Option Addr), ∃ (lL : Nat), ∃ (rG : List Value), ∃ (jK : Nat), ∃ (mq : Option Addr), ∃ (mr : Nat), ∃ (rH : List Value), ∃ (jL : Nat), ∃ (mX : Option Addr), ∃ (mY : Nat), ∃ (rI : List Value), agrees σ [(6, .pointer (some ⟨B10, 0, none⟩)), (9, .int .i64 (0 : Int)), (85, .slice p35 n37 c36), (86, .int .i64 (d_32.length : Int)), (87, .int .i64 (k3_548 : Int))] ∧ (fun Z0 => Owns w0.heap.size w Z0 A ∧ Els (Rp.int .i64) (bl Z0 ++ A) w tz d_549 ∧ Els (rpRule) (bl Z0 ++ A) w rD d_555 ∧ Els (Rp.int .i64) (bl Z0 ++ A) w rE d_561 ∧ Els (Rp.str) (bl Z0 ++ A) w rF d_567 ∧ Els (Rp.int .i64) (bl Z0 ++ A) w rG d_573 ∧ Els (Rp.int .i64) (bl Z0 ++ A) w rH d_579 ∧ Els (Rp.sl (Rp.int .i64)) (bl Z0 ++ A) w rI d_585 ∧ Els (Rp.sl (Rp.int .i64)) (bl Z0 ++ A) w f8 d_32 ∧ Fr (bl []) w0 (bl Z0) w) [.row 3 1 lp jp lr tz, .row 39 2 kG jG kI rD, .row 3 1 kK jH kM rE, .row 9 1 lv jI lx rF, .row 3 1 lK jJ lL rG, .row 3 1 mq jK mr rH, .row 26 1 mX jL mY rI, .row 26 1 p35 n37 c36 f8, .blk B10 (.cells #[.int .i64 ((ix a0 (0 : Int)).length : Int), .bool true, .slice p35 n37 c36, .slice mX jL mY, .slice mq jK mr, .slice lK jJ lL, .slice none 0 0, .slice kG jG kI, .int .i64 (0 : Int), .map (some B4), .slice lv jI lx, .slice kK jH kM, .slice lp jp lr] 72 (0, 0)), .any (mapE (fun a : List UInt8 => Value.string (gstr a)) (fun a : Int => Value.int .i64 a) B4 m3_591)]) H ⟨0, none, 0, [], 0, none, 0, [], 0 + 1, BI, BJ, Ee, 0 + 1, yL, yM, CR, 0 + 1, wk, wl, Cb, 0 + 1, uN, uO, Bc, 0 + 1, rB, rC, zH, ⟨rfl, rfl, rfl, rfl, rfl, trivial⟩, hO, LJ, Bd, yl, pz, jt, fP, e9, af, hB⟩ ?_
 intro X3
 refine prE fun k3_548 => prE fun d_549 => prE fun d_555 => prE fun d_561 => prE fun d_567 => prE fun d_573 => prE fun d_579 => prE fun d_585 => fun m3_591 => ?_
 intro H hX3 σ QB
 refine exE fun jp => exE fun lp => exE fun lr => exE fun tz => exE fun jG => exE fun kG => exE fun kI => exE fun rD => exE fun jH => exE fun kK => exE fun kM => exE fun rE => exE fun jI => exE fun lv => exE fun lx => exE fun rF => exE fun jJ => exE fun lK => exE fun lL => exE fun rG => exE fun jK => exE fun mq => exE fun mr => exE fun rH => exE fun jL => exE fun mX => exE fun mY => exE fun rI => andE fun hag => andE fun hO => andE fun co => andE fun ci => andE fun cv => andE fun cA => andE fun cW => andE fun dn => andE fun dC => andE fun af => fun hB => ?_
 dsimp only at H
 refine Go1.keep [(6, .pointer (some ⟨B10, 0, none⟩)), (9, .int .i64 (0 : Int)), (85, .slice p35 n37 c36), (86, .int .i64 (d_32.length : Int)), (87, .int .i64 (k3_548 : Int))] hag ?_
 refine zq (zr ?_)
 by_cases Ct : (k3_548 : Int) < (d_32.length : Int)
 ·replace H := ifp Ct H
  refine zo (fun w => opB (op_lss rfl rfl w) (decide_eq_true Ct)) (zn (zq (zt rfl rfl (zk (zq ?_)))))
  refine zb (zq (zr (zm rfl ?_)))
  obtain ⟨FQ, H⟩ := H
  obtain ⟨FS, H⟩ := H
  refine zo (op_index Try.underlying22 ti26 rfl rfl FQ (ltn (af.neq hO 7 rfl) FS) (af.psome hO 7 rfl FQ FS)) ?_
  have hobt := oldSl 7 hO rfl af FQ FS
  obtain ⟨Im, Io, cQ, LK⟩ := hobt
  refine zs (LK Try.underlying26 rfl rfl) (za rfl (za rfl (zn (zq (zr ?_)))))
  refine zm rfl ?_
  obtain ⟨QC, H⟩ := H
  refine zo (op_add rfl rfl (wrap_i64 QC)) (zo (op_conv Try.underlying3 Try.underlying21 rfl rfl) ?_)
  obtain ⟨QD, H⟩ := H
  obtain ⟨QE, H⟩ := H
  refine zo (op_convRS Try.underlying21 Try.underlying9 rfl QD QE) (za rfl (zn (zq ?_)))
  refine Go1.drawS 0 [(0, .pure), (1, .pure), (2, .pure), (3, .stable), (4, .pure), (5, .loud), (6, .stable), (7, .pure), (8, .pure), (9, .pure), (10, .pure), (11, .pure)] mixed (by kernel_rfl) ?_
  intro UB LM
  have t9 := Stp.same hO LM
  replace hO := t9.own
  refine GoQ.pure rfl (op_move rfl) rfl rfl ?_
  refine GoQ.pure rfl (op_nilCheck rfl) rfl rfl ?_
  refine GoQ.pure rfl (op_fieldAddr Try.underlying72 rfl ti69 rfl (by decide)) rfl rfl ?_
  refine GoQ.stable rfl (oblk (i := 9) 8 hO rfl rfl Try.underlying69 rfl rfl) rfl rfl ?_
  refine GoQ.pure rfl (op_move rfl) rfl rfl ?_
  replace cQ := cQ.ch t9.ch
  refine GoQ.call rfl (op_call body61 rfl (walk_enumerate_text hO.lt cQ H)) (fun v w hr => by obtain ⟨_, _, hs, _, _⟩ := hr; assumption) rfl rfl ?_
  rintro UC UD ⟨r605, rfl, LN, SV, H⟩
  have ua := Stp.same hO LN
  replace hO := ua.own
  by_cases Ef : mhas m3_591 r605 = true
  ·replace H := ifp Ef H
   refine GoQ.stable rfl (olookT (a := r605) (MK.str Try.underlying9) 9 hO rfl Try.underlying69 rfl rfl Ef) rfl rfl ?_
   refine GoQ.pure rfl (op_move rfl) rfl rfl ?_
   refine GoQ.pure rfl (op_extract rfl rfl) rfl rfl ?_
   refine GoQ.pure rfl (op_extract rfl rfl) rfl rfl ?_
   refine GoQ.pure rfl (op_assign rfl) rfl rfl ?_
   refine GoQ.pure rfl (op_assign rfl) rfl rfl ?_
   refine GoQ.nil ?_
   refine zq (zq ?_)
   refine Go1.cut [(6, .pointer (some ⟨B10, 0, none⟩)), (9, .int .i64 (0 : Int)), (10, .int .i64 (k3_548 : Int)), (11, .slice Im ((ix d_32 (k3_548 : Int)).length) Io), (12, .string (gstr (chr (IntKind.i32.wrap ((97 : Int) + (k3_548 : Int)))))), (13, .int .i64 (mgt m3_591 r605)), (14, .bool true), (85, .slice p35 n37 c36), (86, .int .i64 (d_32.length : Int)), (87, .int .i64 (k3_548 : Int))] ⟨rfl, rfl, rfl, rfl, rfl, rfl, rfl, rfl, rfl, rfl, trivial⟩ ?_
   intro σ _
   refine zr (zm rfl (zn (zt rfl rfl ?_)))
   refine Go1.drawS 5 [(0, .pure), (1, .pure), (2, .pure), (3, .pure), (4, .pure), (5, .stable), (6, .pure), (7, .pure), (8, .pure), (9, .pure), (10, .stable), (11, .pure), (12, .pure), (13, .stable), (14, .pure), (15, .loud), (16, .last), (17, .pure), (18, .pure), (19, .pure), (20, .last)] mixed (by kernel_rfl) ?_
   intro UE LO
   have ub := Stp.same hO LO
   replace hO := ub.own
   refine GoQ.pure rfl (op_move rfl) rfl rfl ?_
   refine GoQ.pure rfl (op_move rfl) rfl rfl ?_
   refine GoQ.pure rfl (op_nilCheck rfl) rfl rfl ?_
   refine GoQ.pure rfl (op_fieldAddr Try.underlying72 rfl ti29 rfl (by decide)) rfl rfl ?_
   refine GoQ.pure rfl (op_fieldAddr Try.underlying29 rfl ti27 rfl (by decide)) rfl rfl ?_
   refine GoQ.stable rfl (oblk (i := 7) 8 hO rfl rfl Try.underlying27 rfl rfl) rfl rfl ?_
   refine GoQ.pure rfl (op_move rfl) rfl rfl ?_
   refine GoQ.pure rfl (op_move rfl) rfl rfl ?_
   refine GoQ.pure rfl (op_nilCheck rfl) rfl rfl ?_
   refine GoQ.pure rfl (op_fieldAddr Try.underlying72 rfl ti70 rfl (by decide)) rfl rfl ?_
   refine GoQ.stable rfl (oblk (i := 10) 8 hO rfl rfl Try.underlying70 rfl rfl) rfl rfl ?_
   refine GoQ.pure rfl (op_move rfl) rfl rfl ?_
   obtain ⟨Eg, H⟩ := H
   obtain ⟨Eh, H⟩ := H
   have Z33 := (t9.ch.trans ua.ch).trans ub.ch
   replace cA := cA.ch Z33
   refine GoQ.pure rfl (op_index Try.underlying70 ti9 rfl rfl Eg (ltn (cA.neq hO 3 rfl) Eh) (cA.psome hO 3 rfl Eg Eh)) rfl rfl ?_
   refine GoQ.stable rfl (oldStr 3 hO rfl cA Eg Eh Try.underlying9 rfl rfl) rfl rfl ?_
   have hle617 := Els.str_le cA Eg Eh
   refine GoQ.pure rfl (op_build Try.underlying39 ti39 (pl := [(0, 1), (1, 1)]) (vs := [(0, .string (gstr (chr (IntKind.i32.wrap ((97 : Int) + (k3_548 : Int)))))), (1, .string (gstr (ix d_567 (mgt m3_591 r605))))]) (cs := #[.string (gstr (chr (IntKind.i32.wrap ((97 : Int) + (k3_548 : Int))))), .string (gstr (ix d_567 (mgt m3_591 r605)))]) (by kernel_rfl) rfl (by kernel_rfl)) rfl rfl ?_
   have hobt := obuildN (r := rpRule) (n := 1) (parts := [(0, .agg #[.string (gstr (chr (IntKind.i32.wrap ((97 : Int) + (k3_548 : Int))))), .string (gstr (ix d_567 (mgt m3_591 r605)))])]) (vs := [.string (gstr (chr (IntKind.i32.wrap ((97 : Int) + (k3_548 : Int))))), .string (gstr (ix d_567 (mgt m3_591 r605)))]) (xs := [(⟨chr (IntKind.i32.wrap ((97 : Int) + (k3_548 : Int))), ix d_567 (mgt m3_591 r605)⟩ : Rule)]) Try.underlying27 ti39 hO (by decide) (by decide) (by kernel_rfl) (Els.flat1 (⟨chr (IntKind.i32.wrap ((97 : Int) + (k3_548 : Int))), ix d_567 (mgt m3_591 r605)⟩ : Rule) ⟨(chr_le _), hle617⟩) rfl
   obtain ⟨QF, QG, jY, Ei, G6, Du⟩ := hobt
   refine GoQ.loud rfl (Du rfl) G6 rfl rfl ?_
   replace hO := jY.own
   have hobt := freeze 0 hO rfl Ei
   obtain ⟨hO1, nU, lM, Ej⟩ := hobt
   dsimp only [eS, eZ] at hO1 nU lM
   replace hB := ((((hB.trans t9.fr).trans ua.fr).trans ub.fr).trans jY.fr).trans (Owns.dropFr _ _ 0)
   dsimp only [eS, eZ] at hB
   replace hO := hO1; clear hO1
   obtain ⟨FT, H⟩ := H
   replace ci := ((ci.ch Z33).ch jY.ch).ch nU
   have hobt := oapp Try.underlying27 ti39 rfl 1 hO rfl ci lM Ej FT (by decide)
   obtain ⟨QH, zJ, zK, Ek, jk, oF, Dv⟩ := hobt
   dsimp only [sS, sZ] at jk oF
   refine GoQ.last rfl (Dv (by exact rfl) (by exact rfl)) rfl rfl ?_
   replace hO := jk.own
   refine GoQ.pure rfl (op_nilCheck rfl) rfl rfl ?_
   refine GoQ.pure rfl (op_fieldAddr Try.underlying72 rfl ti29 rfl (by decide)) rfl rfl ?_
   refine GoQ.pure rfl (op_fieldAddr Try.underlying29 rfl ti27 rfl (by decide)) rfl rfl ?_
   have hobt := oblkSt2 (v := .slice zJ (jG + 1) zK) (i := 7) (cs' := #[.int .i64 ((ix a0 (0 : Int)).length : Int), .bool true, .slice p35 n37 c36, .slice mX jL mY, .slice mq jK mr, .slice lK jJ lL, .slice none 0 0, .slice zJ (jG + 1) zK, .int .i64 (0 : Int), .map (some B4), .slice lv jI lx, .slice kK jH kM, .slice lp jp lr]) 8 hO rfl rfl rfl rfl
   obtain ⟨QI, iK, Dw⟩ := hobt
   dsimp only [sS, sZ] at iK
   refine GoQ.last rfl (Dw Try.underlying27 rfl ti27 (by exact rfl) (by exact rfl)) rfl rfl ?_
   replace hO := iK.own
   refine GoQ.nil ?_
   refine Go1.cut [(6, .pointer (some ⟨B10, 0, none⟩)), (9, .int .i64 (0 : Int)), (13, .int .i64 (mgt m3_591 r605)), (85, .slice p35 n37 c36), (86, .int .i64 (d_32.length : Int)), (87, .int .i64 (k3_548 : Int))] ⟨rfl, rfl, rfl, rfl, rfl, rfl, trivial⟩ ?_
   intro σ _
   refine zr (zm rfl (zm rfl (zo (op_nilCheck rfl) (zo (op_fieldAddr Try.underlying72 rfl ti26 rfl (by decide)) (zs (oblk (i := 12) 8 hO rfl rfl Try.underlying26 rfl rfl) ?_)))))
   refine zm rfl ?_
   have hobt := obuild (r := Rp.int .i64) (n := 1) (parts := [(0, .int .i64 (mgt m3_591 r605))]) (vs := [.int .i64 (mgt m3_591 r605)]) (xs := [(mgt m3_591 r605)]) rfl Try.underlying26 ti3 hO (by decide) (by kernel_rfl) (Els.cons rfl rfl (Els.nil _ _ _) (by simp [mx])) rfl
   obtain ⟨UF, UG, jb, LP, Tk, Ip⟩ := hobt
   refine zg (Ip rfl) ?_
   replace hO := jb.own
   have hobt := freeze 0 hO rfl LP
   obtain ⟨hO1, vK, Be, LQ⟩ := hobt
   dsimp only [eS, eZ] at hO1 vK Be
   replace hB := (((hB.trans jk.fr).trans iK.fr).trans jb.fr).trans (Owns.dropFr _ _ 0)
   dsimp only [eS, eZ] at hB
   replace hO := hO1; clear hO1
   obtain ⟨QJ, H⟩ := H
   have Z34 := (((((Z33.trans jY.ch).trans nU).trans jk.ch).trans iK.ch).trans jb.ch).trans vK
   replace co := co.ch Z34
   have hobt := oapp Try.underlying26 ti3 rfl 0 hO rfl co Be LQ QJ (by decide)
   obtain ⟨UH, FU, FV, LS, qM, CT, Iq⟩ := hobt
   dsimp only [sS, sZ] at qM CT
   refine zg (Iq (by exact rfl) (by exact rfl)) ?_
   replace hO := qM.own
   refine zo (op_nilCheck rfl) (zo (op_fieldAddr Try.underlying72 rfl ti26 rfl (by decide)) ?_)
   have hobt := oblkSt2 (v := .slice FU (jp + 1) FV) (i := 12) (cs' := #[.int .i64 ((ix a0 (0 : Int)).length : Int), .bool true, .slice p35 n37 c36, .slice mX jL mY, .slice mq jK mr, .slice lK jJ lL, .slice none 0 0, .slice zJ (jG + 1) zK, .int .i64 (0 : Int), .map (some B4), .slice lv jI lx, .slice kK jH kM, .slice FU (jp + 1) FV]) 8 hO rfl rfl rfl rfl
   obtain ⟨UI, pP, Ir⟩ := hobt
   dsimp only [sS, sZ] at pP
   refine zg (Ir Try.underlying26 rfl ti26 (by exact rfl) (by exact rfl)) ?_
   replace hO := pP.own
   refine zn ?_
   refine Go1.inBlock ?_
   refine zr ?_
   replace af := ((af.ch Z34).ch qM.ch).ch pP.ch
   refine zo (op_add rfl rfl (wrap_i64 (natbd Ct af.bd))) (zm rfl (zn ?_))
   replace CT := CT.ch pP.ch
   replace hB := (hB.trans qM.fr).trans pP.fr
   have Z35 := (((iK.ch.trans jb.ch).trans vK).trans qM.ch).trans pP.ch
   replace oF := oF.ch Z35
   have Z36 := ((((((jY.ch.trans nU).trans jk.ch).trans iK.ch).trans jb.ch).trans vK).trans qM.ch).trans pP.ch
   replace cA := cA.ch Z36
   have Z37 := (Z34.trans qM.ch).trans pP.ch
   replace cv := cv.ch Z37
   replace cW := cW.ch Z37
   replace dn := dn.ch Z37
   replace dC := dC.ch Z37
   exact hX3 _ H _ _ ⟨jp + 1, FU, FV, LS, jG + 1, zJ, zK, Ek, jH, kK, kM, rE, jI, lv, lx, rF, jJ, lK, lL, rG, jK, mq, mr, rH, jL, mX, mY, rI, ⟨rfl, rfl, rfl, rfl, rfl, trivial⟩, hO, CT, oF, cv, cA, cW, dn, dC, af, hB⟩
  replace H := ifn Ef H
  refine GoQ.stable rfl (olookF (a := r605) (MK.str Try.underlying9) 9 hO rfl Try.underlying69 ti3 rfl rfl Ef) rfl rfl ?_
  refine GoQ.pure rfl (op_move rfl) rfl rfl ?_
  refine GoQ.pure rfl (op_extract rfl rfl) rfl rfl ?_
  refine GoQ.pure rfl (op_extract rfl rfl) rfl rfl ?_
  refine GoQ.pure rfl (op_assign rfl) rfl rfl ?_
  refine GoQ.pure rfl (op_assign rfl) rfl rfl ?_
  refine GoQ.nil ?_
  refine zq (zq (zr (zm rfl (zn (zf rfl rfl ?_)))))
  refine Go1.cut [(6, .pointer (some ⟨B10, 0, none⟩)), (9, .int .i64 (0 : Int)), (10, .int .i64 (k3_548 : Int)), (11, .slice Im ((ix d_32 (k3_548 : Int)).length) Io), (12, .string (gstr (chr (IntKind.i32.wrap ((97 : Int) + (k3_548 : Int)))))), (85, .slice p35 n37 c36), (86, .int .i64 (d_32.length : Int)), (87, .int .i64 (k3_548 : Int))] ⟨rfl, rfl, rfl, rfl, rfl, rfl, rfl, rfl, trivial⟩ ?_
  intro σ _
  refine zr (zm rfl (zm rfl ?_))
  replace cQ := cQ.ch ua.ch
  refine GoR.call (op_call body64 rfl (walk_slices_Clone_int hO.lt cQ H)) rfl rfl ?_
  rintro UJ UK ⟨r662, AR, xb, xc, SW, rfl, LT, hN666, wu, H⟩
  have sH := Stp.more hO LT hN666
  dsimp only [List.cons_append, List.nil_append] at sH
  replace hO := sH.own
  refine zm rfl (zm rfl (zm rfl (zm rfl ?_)))
  refine GoR.inl (vs := [.pointer (some ⟨B10, 0, none⟩), .slice xb AR xc, .int .i64 (0 : Int), .int .i64 (k3_548 : Int), .string (gstr (chr (IntKind.i32.wrap ((97 : Int) + (k3_548 : Int))))), .int .i64 (0 : Int)]) (caps := []) rfl rfl body65 Try.func65 rfl Try.ntmps65 rfl rfl rfl ?_
  intro RhR670 hR670
  refine zq (zr (za rfl (zn (zq (zr ?_)))))
  refine zm rfl (zo (op_nilCheck rfl) (zo (op_fieldAddr Try.underlying72 rfl ti29 rfl (by decide)) (zo (op_fieldAddr Try.underlying29 rfl ti22 rfl (by decide)) (zs (oblk (i := 3) 9 hO rfl rfl Try.underlying22 rfl rfl) ?_))))
  have Z38 := (t9.ch.trans ua.ch).trans sH.ch
  replace dC := dC.ch Z38
  refine zo (op_lenN Try.underlying22 rfl (dC.neq hO 7 rfl)) (za rfl (zn (zq ?_)))
  refine Go1.drawS 1 [(0, .pure), (1, .pure), (2, .pure), (3, .stable), (4, .pure), (6, .pure), (5, .loud), (7, .last)] mixed (by kernel_rfl) ?_
  intro UL LU
  have sI := Stp.same hO LU
  replace hO := sI.own
  refine GoQ.pure rfl (op_move rfl) rfl rfl ?_
  refine GoQ.pure rfl (op_nilCheck rfl) rfl rfl ?_
  refine GoQ.pure rfl (op_fieldAddr Try.underlying72 rfl ti69 rfl (by decide)) rfl rfl ?_
  refine GoQ.stable rfl (oblk (i := 9) 9 hO rfl rfl Try.underlying69 rfl rfl) rfl rfl ?_
  refine GoQ.pure rfl (op_move rfl) rfl rfl ?_
  refine GoQ.pure rfl (op_move rfl) rfl rfl ?_
  replace wu := (wu.ch (Ch.assoc _ _ _ _)).ch sI.ch
  have hobt := rowlend 0 hO rfl wu
  obtain ⟨LV, LX⟩ := hobt
  have hOc676 := hO.drop 0
  refine GoQ.call rfl (op_call body61 (show ([.slice xb AR xc] : List Value) = [.slice xb r662.length xc] from by rw [← LX]) (walk_enumerate_text hOc676.lt LV H)) (fun v w hr => by obtain ⟨_, _, hs, _, _⟩ := hr; assumption) rfl rfl ?_
  rintro UM UN ⟨r677, rfl, LY, SX, H⟩
  have sJ := Stp.same hO LY
  replace hO := sJ.own
  have hobt := omapUpd (MK.str Try.underlying9) 10 hO rfl Try.underlying69 r677 (d_585.length : Int)
  obtain ⟨UO, qN, Iu⟩ := hobt
  dsimp only [sS, sZ] at qN
  refine GoQ.last rfl (Iu (by exact rfl) (by exact rfl) (by exact rfl)) rfl rfl ?_
  replace hO := qN.own
  refine GoQ.nil ?_
  refine zq ?_
  refine Go1.cut [(0, .pointer (some ⟨B10, 0, none⟩)), (1, .slice xb AR xc), (2, .int .i64 (0 : Int)), (3, .int .i64 (k3_548 : Int)), (4, .string (gstr (chr (IntKind.i32.wrap ((97 : Int) + (k3_548 : Int)))))), (5, .int .i64 (0 : Int)), (13, .int .i64 (d_585.length : Int))] ⟨rfl, rfl, rfl, rfl, rfl, rfl, rfl, trivial⟩ ?_
  intro σ _
  refine zr (zm rfl (zm rfl (zo (op_nilCheck rfl) (zo (op_fieldAddr Try.underlying72 rfl ti29 rfl (by decide)) (zo (op_fieldAddr Try.underlying29 rfl ti22 rfl (by decide)) ?_)))))
  refine zs (oblk (i := 3) 9 hO rfl rfl Try.underlying22 rfl rfl) (zm rfl ?_)
  replace wu := (wu.ch sJ.ch).ch qN.ch
  have hobt := freeze 0 hO rfl wu
  obtain ⟨hO1, wv, eO, L1⟩ := hobt
  dsimp only [eS, eZ] at hO1 wv eO
  replace hB := ((((((hB.trans t9.fr).trans ua.fr).trans sH.fr).trans sI.fr).trans sJ.fr).trans qN.fr).trans (Owns.dropFr _ _ 0)
  dsimp only [eS, eZ] at hB
  replace hO := hO1; clear hO1
  have hobt := obuild (r := Rp.sl (Rp.int .i64)) (n := 1) (parts := [(0, .slice xb AR xc)]) (vs := [.slice xb AR xc]) (xs := [r662]) rfl Try.underlying22 ti26 hO (by decide) (by kernel_rfl) (Els.cons rfl ⟨xb, xc, congrArg some (congrArg (fun nn => Value.slice xb nn xc) L1), eO⟩ (Els.nil _ _ _) (by simp [mx])) rfl
  obtain ⟨UP, UQ, sK, L5, Tl, Iv⟩ := hobt
  refine zg (Iv rfl) ?_
  replace hO := sK.own
  have hobt := freeze 0 hO rfl L5
  obtain ⟨hO1, vL, fk, L6⟩ := hobt
  dsimp only [eS, eZ] at hO1 vL fk
  replace hB := (hB.trans sK.fr).trans (Owns.dropFr _ _ 0)
  dsimp only [eS, eZ] at hB
  replace hO := hO1; clear hO1
  obtain ⟨QK, H⟩ := H
  have Z39 := ((((sI.ch.trans sJ.ch).trans qN.ch).trans wv).trans sK.ch).trans vL
  replace dC := dC.ch Z39
  have hobt := oapp Try.underlying22 ti26 rfl 6 hO rfl dC fk L6 QK (by decide)
  obtain ⟨UR, AT, AU, L7, qO, fw, Iw⟩ := hobt
  dsimp only [sS, sZ] at qO fw
  refine zg (Iw (by exact rfl) (by exact rfl)) ?_
  replace hO := qO.own
  refine zo (op_nilCheck rfl) (zo (op_fieldAddr Try.underlying72 rfl ti29 rfl (by decide)) (zo (op_fieldAddr Try.underlying29 rfl ti22 rfl (by decide)) ?_))
  have hobt := oblkSt2 (v := .slice AT (jL + 1) AU) (i := 3) (cs' := #[.int .i64 ((ix a0 (0 : Int)).length : Int), .bool true, .slice p35 n37 c36, .slice AT (jL + 1) AU, .slice mq jK mr, .slice lK jJ lL, .slice none 0 0, .slice kG jG kI, .int .i64 (0 : Int), .map (some B4), .slice lv jI lx, .slice kK jH kM, .slice lp jp lr]) 8 hO rfl rfl rfl rfl
  obtain ⟨US, pQ, Ix⟩ := hobt
  dsimp only [sS, sZ] at pQ
  refine zg (Ix Try.underlying22 rfl ti22 (by exact rfl) (by exact rfl)) ?_
  replace hO := pQ.own
  refine zn (zq (zr (zm rfl (zm rfl (zo (op_nilCheck rfl) ?_)))))
  refine zo (op_fieldAddr Try.underlying72 rfl ti29 rfl (by decide)) (zo (op_fieldAddr Try.underlying29 rfl ti26 rfl (by decide)) (zs (oblk (i := 4) 8 hO rfl rfl Try.underlying26 rfl rfl) (zm rfl ?_)))
  have hobt := obuild (r := Rp.int .i64) (n := 1) (parts := [(0, .int .i64 (0 : Int))]) (vs := [.int .i64 (0 : Int)]) (xs := [(0 : Int)]) rfl Try.underlying26 ti3 hO (by decide) (by kernel_rfl) (Els.cons rfl rfl (Els.nil _ _ _) (by simp [mx])) rfl
  obtain ⟨UT, UU, qP, L8, Tm, Iy⟩ := hobt
  refine zg (Iy rfl) ?_
  replace hO := qP.own
  have hobt := freeze 0 hO rfl L8
  obtain ⟨hO1, va, fQ, L9⟩ := hobt
  dsimp only [eS, eZ] at hO1 va fQ
  replace hB := (((hB.trans qO.fr).trans pQ.fr).trans qP.fr).trans (Owns.dropFr _ _ 0)
  dsimp only [eS, eZ] at hB
  replace hO := hO1; clear hO1
  obtain ⟨QL, H⟩ := H
  have Z40 := (((((((((Z38.trans sI.ch).trans sJ.ch).trans qN.ch).trans wv).trans sK.ch).trans vL).trans qO.ch).trans pQ.ch).trans qP.ch).trans va
  replace dn := dn.ch Z40
  have hobt := oapp Try.underlying26 ti3 rfl 5 hO rfl dn fQ L9 QL (by decide)
  obtain ⟨UV, BK, BL, Ma, pS, gn, Iz⟩ := hobt
  dsimp only [sS, sZ] at pS gn
  refine zg (Iz (by exact rfl) (by exact rfl)) ?_
  replace hO := pS.own
  refine zo (op_nilCheck rfl) (zo (op_fieldAddr Try.underlying72 rfl ti29 rfl (by decide)) (zo (op_fieldAddr Try.underlying29 rfl ti26 rfl (by decide)) ?_))
  have hobt := oblkSt2 (v := .slice BK (jK + 1) BL) (i := 4) (cs' := #[.int .i64 ((ix a0 (0 : Int)).length : Int), .bool true, .slice p35 n37 c36, .slice AT (jL + 1) AU, .slice BK (jK + 1) BL, .slice lK jJ lL, .slice none 0 0, .slice kG jG kI, .int .i64 (0 : Int), .map (some B4), .slice lv jI lx, .slice kK jH kM, .slice lp jp lr]) 8 hO rfl rfl rfl rfl
  obtain ⟨UW, oU, IA⟩ := hobt
  dsimp only [sS, sZ] at oU
  refine zg (IA Try.underlying26 rfl ti26 (by exact rfl) (by exact rfl)) ?_
  replace hO := oU.own
  refine zn (zq ?_)
  refine Go1.cut [(0, .pointer (some ⟨B10, 0, none⟩)), (3, .int .i64 (k3_548 : Int)), (4, .string (gstr (chr (IntKind.i32.wrap ((97 : Int) + (k3_548 : Int)))))), (5, .int .i64 (0 : Int)), (13, .int .i64 (d_585.length : Int))] ⟨rfl, rfl, rfl, rfl, rfl, trivial⟩ ?_
  intro σ _
  refine zr (zm rfl (zm rfl (zo (op_nilCheck rfl) (zo (op_fieldAddr Try.underlying72 rfl ti29 rfl (by decide)) (zo (op_fieldAddr Try.underlying29 rfl ti26 rfl (by decide)) ?_)))))
  refine zs (oblk (i := 5) 8 hO rfl rfl Try.underlying26 rfl rfl) (zm rfl ?_)
  have hobt := obuild (r := Rp.int .i64) (n := 1) (parts := [(0, .int .i64 (k3_548 : Int))]) (vs := [.int .i64 (k3_548 : Int)]) (xs := [(k3_548 : Int)]) rfl Try.underlying26 ti3 hO (by decide) (by kernel_rfl) (Els.cons rfl rfl (Els.nil _ _ _) (by simp [mx])) rfl
  obtain ⟨UX, UY, pT, Mb, Tn, IB⟩ := hobt
  refine zg (IB rfl) ?_
  replace hO := pT.own
  have hobt := freeze 0 hO rfl Mb
  obtain ⟨hO1, uo, je, Mc⟩ := hobt
  dsimp only [eS, eZ] at hO1 uo je
  replace hB := (((hB.trans pS.fr).trans oU.fr).trans pT.fr).trans (Owns.dropFr _ _ 0)
  dsimp only [eS, eZ] at hB
  replace hO := hO1; clear hO1
  obtain ⟨QM, H⟩ := H
  have Z41 := (((Z40.trans pS.ch).trans oU.ch).trans pT.ch).trans uo
  replace cW := cW.ch Z41
  have hobt := oapp Try.underlying26 ti3 rfl 4 hO rfl cW je Mc QM (by decide)
  obtain ⟨U0, Cu, Cv, Me, oV, ju, IC⟩ := hobt
  dsimp only [sS, sZ] at oV ju
  refine zg (IC (by exact rfl) (by exact rfl)) ?_
  replace hO := oV.own
  refine zo (op_nilCheck rfl) (zo (op_fieldAddr Try.underlying72 rfl ti29 rfl (by decide)) (zo (op_fieldAddr Try.underlying29 rfl ti26 rfl (by decide)) ?_))
  have hobt := oblkSt2 (v := .slice Cu (jJ + 1) Cv) (i := 5) (cs' := #[.int .i64 ((ix a0 (0 : Int)).length : Int), .bool true, .slice p35 n37 c36, .slice AT (jL + 1) AU, .slice BK (jK + 1) BL, .slice Cu (jJ + 1) Cv, .slice none 0 0, .slice kG jG kI, .int .i64 (0 : Int), .map (some B4), .slice lv jI lx, .slice kK jH kM, .slice lp jp lr]) 8 hO rfl rfl rfl rfl
  obtain ⟨U1, od, ID⟩ := hobt
  dsimp only [sS, sZ] at od
  refine zg (ID Try.underlying26 rfl ti26 (by exact rfl) (by exact rfl)) ?_
  replace hO := od.own
  refine zn (zq (zr (zm rfl (zm rfl (zo (op_nilCheck rfl) ?_)))))
  refine zo (op_fieldAddr Try.underlying72 rfl ti70 rfl (by decide)) (zs (oblk (i := 10) 8 hO rfl rfl Try.underlying70 rfl rfl) (zm rfl ?_))
  have hobt := obuild (r := Rp.str) (n := 1) (parts := [(0, .string (gstr (chr (IntKind.i32.wrap ((97 : Int) + (k3_548 : Int))))))]) (vs := [.string (gstr (chr (IntKind.i32.wrap ((97 : Int) + (k3_548 : Int)))))]) (xs := [chr (IntKind.i32.wrap ((97 : Int) + (k3_548 : Int)))]) rfl Try.underlying70 ti9 hO (by decide) (by kernel_rfl) (Els.cons rfl ⟨rfl, (chr_le _)⟩ (Els.nil _ _ _) (by simp [mx])) rfl
  obtain ⟨U2, U3, oW, Mf, To, IE⟩ := hobt
  refine zg (IE rfl) ?_
  replace hO := oW.own
  have hobt := freeze 0 hO rfl Mf
  obtain ⟨hO1, tA, mw, Mg⟩ := hobt
  dsimp only [eS, eZ] at hO1 tA mw
  replace hB := (((hB.trans oV.fr).trans od.fr).trans oW.fr).trans (Owns.dropFr _ _ 0)
  dsimp only [eS, eZ] at hB
  replace hO := hO1; clear hO1
  obtain ⟨QO, H⟩ := H
  have Z42 := (((Z41.trans oV.ch).trans od.ch).trans oW.ch).trans tA
  replace cA := cA.ch Z42
  have hobt := oapp Try.underlying70 ti9 rfl 3 hO rfl cA mw Mg QO (by decide)
  obtain ⟨U4, Dx, Dy, Mh, oe, nV, IF⟩ := hobt
  dsimp only [sS, sZ] at oe nV
  refine zg (IF (by exact rfl) (by exact rfl)) ?_
  replace hO := oe.own
  refine zo (op_nilCheck rfl) (zo (op_fieldAddr Try.underlying72 rfl ti70 rfl (by decide)) ?_)
  have hobt := oblkSt2 (v := .slice Dx (jI + 1) Dy) (i := 10) (cs' := #[.int .i64 ((ix a0 (0 : Int)).length : Int), .bool true, .slice p35 n37 c36, .slice AT (jL + 1) AU, .slice BK (jK + 1) BL, .slice Cu (jJ + 1) Cv, .slice none 0 0, .slice kG jG kI, .int .i64 (0 : Int), .map (some B4), .slice Dx (jI + 1) Dy, .slice kK jH kM, .slice lp jp lr]) 8 hO rfl rfl rfl rfl
  obtain ⟨U5, ni, IG⟩ := hobt
  dsimp only [sS, sZ] at ni
  refine zg (IG Try.underlying70 rfl ti70 (by exact rfl) (by exact rfl)) ?_
  replace hO := ni.own
  refine zn (zq ?_)
  refine Go1.cut [(0, .pointer (some ⟨B10, 0, none⟩)), (5, .int .i64 (0 : Int)), (13, .int .i64 (d_585.length : Int))] ⟨rfl, rfl, rfl, trivial⟩ ?_
  intro σ _
  refine zr (zm rfl (zm rfl (zo (op_nilCheck rfl) (zo (op_fieldAddr Try.underlying72 rfl ti26 rfl (by decide)) (zs (oblk (i := 11) 8 hO rfl rfl Try.underlying26 rfl rfl) ?_)))))
  refine zm rfl ?_
  have hobt := obuild (r := Rp.int .i64) (n := 1) (parts := [(0, .int .i64 (0 : Int))]) (vs := [.int .i64 (0 : Int)]) (xs := [(0 : Int)]) rfl Try.underlying26 ti3 hO (by decide) (by kernel_rfl) (Els.cons rfl rfl (Els.nil _ _ _) (by simp [mx])) rfl
  obtain ⟨U6, U7, og, Mi, Tp, IH⟩ := hobt
  refine zg (IH rfl) ?_
  replace hO := og.own
  have hobt := freeze 0 hO rfl Mi
  obtain ⟨hO1, rJ, tB, Mj⟩ := hobt
  dsimp only [eS, eZ] at hO1 rJ tB
  replace hB := (((hB.trans oe.fr).trans ni.fr).trans og.fr).trans (Owns.dropFr _ _ 0)
  dsimp only [eS, eZ] at hB
  replace hO := hO1; clear hO1
  obtain ⟨QP, H⟩ := H
  have Z43 := (((Z42.trans oe.ch).trans ni.ch).trans og.ch).trans rJ
  replace cv := cv.ch Z43
  have hobt := oapp Try.underlying26 ti3 rfl 2 hO rfl cv tB Mj QP (by decide)
  obtain ⟨U8, El, Em, Mk, nj, vb, II⟩ := hobt
  dsimp only [sS, sZ] at nj vb
  refine zg (II (by exact rfl) (by exact rfl)) ?_
  replace hO := nj.own
  refine zo (op_nilCheck rfl) (zo (op_fieldAddr Try.underlying72 rfl ti26 rfl (by decide)) ?_)
  have hobt := oblkSt2 (v := .slice El (jH + 1) Em) (i := 11) (cs' := #[.int .i64 ((ix a0 (0 : Int)).length : Int), .bool true, .slice p35 n37 c36, .slice AT (jL + 1) AU, .slice BK (jK + 1) BL, .slice Cu (jJ + 1) Cv, .slice none 0 0, .slice kG jG kI, .int .i64 (0 : Int), .map (some B4), .slice Dx (jI + 1) Dy, .slice El (jH + 1) Em, .slice lp jp lr]) 8 hO rfl rfl rfl rfl
  obtain ⟨U9, mD, IJ⟩ := hobt
  dsimp only [sS, sZ] at mD
  refine zg (IJ Try.underlying26 rfl ti26 (by exact rfl) (by exact rfl)) ?_
  replace hO := mD.own
  refine zn (zq (zr (zm rfl (za rfl (zn ?_)))))
  refine Go1.ret1V Try.func65 rfl (show _ = .int .i64 (d_585.length : Int) from rfl) ?_
  refine hR670 _ _ ?_
  refine za rfl (zn (zr (zm rfl (zm rfl (zo (op_nilCheck rfl) ?_)))))
  refine zo (op_fieldAddr Try.underlying72 rfl ti26 rfl (by decide)) (zs (oblk (i := 12) 8 hO rfl rfl Try.underlying26 rfl rfl) (zm rfl ?_))
  have hobt := obuild (r := Rp.int .i64) (n := 1) (parts := [(0, .int .i64 (d_585.length : Int))]) (vs := [.int .i64 (d_585.length : Int)]) (xs := [(d_585.length : Int)]) rfl Try.underlying26 ti3 hO (by decide) (by kernel_rfl) (Els.cons rfl rfl (Els.nil _ _ _) (by simp [mx])) rfl
  obtain ⟨Va, Vb, nk, Ml, Tq, IK⟩ := hobt
  refine zg (IK rfl) ?_
  replace hO := nk.own
  have hobt := freeze 0 hO rfl Ml
  obtain ⟨hO1, qs, Bf, Mm⟩ := hobt
  dsimp only [eS, eZ] at hO1 qs Bf
  replace hB := (((hB.trans nj.fr).trans mD.fr).trans nk.fr).trans (Owns.dropFr _ _ 0)
  dsimp only [eS, eZ] at hB
  replace hO := hO1; clear hO1
  obtain ⟨QQ, H⟩ := H
  have Z44 := (((Z43.trans nj.ch).trans mD.ch).trans nk.ch).trans qs
  replace co := co.ch Z44
  have hobt := oapp Try.underlying26 ti3 rfl 0 hO rfl co Bf Mm QQ (by decide)
  obtain ⟨Vc, FW, FX, Mn, mE, CU, IL⟩ := hobt
  dsimp only [sS, sZ] at mE CU
  refine zg (IL (by exact rfl) (by exact rfl)) ?_
  replace hO := mE.own
  refine zo (op_nilCheck rfl) (zo (op_fieldAddr Try.underlying72 rfl ti26 rfl (by decide)) ?_)
  have hobt := oblkSt2 (v := .slice FW (jp + 1) FX) (i := 12) (cs' := #[.int .i64 ((ix a0 (0 : Int)).length : Int), .bool true, .slice p35 n37 c36, .slice AT (jL + 1) AU, .slice BK (jK + 1) BL, .slice Cu (jJ + 1) Cv, .slice none 0 0, .slice kG jG kI, .int .i64 (0 : Int), .map (some B4), .slice Dx (jI + 1) Dy, .slice El (jH + 1) Em, .slice FW (jp + 1) FX]) 8 hO rfl rfl rfl rfl
  obtain ⟨Vd, lN, IM⟩ := hobt
  dsimp only [sS, sZ] at lN
  refine zg (IM Try.underlying26 rfl ti26 (by exact rfl) (by exact rfl)) ?_
  replace hO := lN.own
  refine zn ?_
  refine Go1.inBlock ?_
  refine Go1.cut [(6, .pointer (some ⟨B10, 0, none⟩)), (9, .int .i64 (0 : Int)), (85, .slice p35 n37 c36), (86, .int .i64 (d_32.length : Int)), (87, .int .i64 (k3_548 : Int))] ⟨rfl, rfl, rfl, rfl, rfl, trivial⟩ ?_
  intro σ _
  refine zr ?_
  replace af := ((af.ch Z44).ch mE.ch).ch lN.ch
  refine zo (op_add rfl rfl (wrap_i64 (natbd Ct af.bd))) (zm rfl (zn ?_))
  replace CU := CU.ch lN.ch
  replace hB := (hB.trans mE.fr).trans lN.fr
  have Z45 := (((mD.ch.trans nk.ch).trans qs).trans mE.ch).trans lN.ch
  replace vb := vb.ch Z45
  have Z46 := (((((((ni.ch.trans og.ch).trans rJ).trans nj.ch).trans mD.ch).trans nk.ch).trans qs).trans mE.ch).trans lN.ch
  replace nV := nV.ch Z46
  have Z47 := (((((((((((od.ch.trans oW.ch).trans tA).trans oe.ch).trans ni.ch).trans og.ch).trans rJ).trans nj.ch).trans mD.ch).trans nk.ch).trans qs).trans mE.ch).trans lN.ch
  replace ju := ju.ch Z47
  have Z48 := (((((((((((((((oU.ch.trans pT.ch).trans uo).trans oV.ch).trans od.ch).trans oW.ch).trans tA).trans oe.ch).trans ni.ch).trans og.ch).trans rJ).trans nj.ch).trans mD.ch).trans nk.ch).trans qs).trans mE.ch).trans lN.ch
  replace gn := gn.ch Z48
  have Z49 := (((((((((((((((((((pQ.ch.trans qP.ch).trans va).trans pS.ch).trans oU.ch).trans pT.ch).trans uo).trans oV.ch).trans od.ch).trans oW.ch).trans tA).trans oe.ch).trans ni.ch).trans og.ch).trans rJ).trans nj.ch).trans mD.ch).trans nk.ch).trans qs).trans mE.ch).trans lN.ch
  replace fw := fw.ch Z49
  replace ci := ((ci.ch Z44).ch mE.ch).ch lN.ch
  exact hX3 _ H _ _ ⟨jp + 1, FW, FX, Mn, jG, kG, kI, rD, jH + 1, El, Em, Mk, jI + 1, Dx, Dy, Mh, jJ + 1, Cu, Cv, Me, jK + 1, BK, BL, Ma, jL + 1, AT, AU, L7, ⟨rfl, rfl, rfl, rfl, rfl, trivial⟩, hO, CU, ci, vb, nV, ju, gn, fw, af, hB⟩
 replace H := ifn Ct H
 refine zo (fun w => opB (op_lss rfl rfl w) (decide_eq_false Ct)) (zn (zq (zf rfl rfl ?_)))
 refine Go1.exit rfl ?_
 refine zq (zr (zm rfl (za rfl (za rfl (zn ?_)))))
 have uV := Stp.nil (e := 26) (r := 1) hO
 replace hO := uV.own
 have lO := Els.nil (Rp.sl (Rp.int .i64)) (bl (.row 26 1 none 0 0 [] :: [.row 3 1 lp jp lr tz, .row 39 2 kG jG kI rD, .row 3 1 kK jH kM rE, .row 9 1 lv jI lx rF, .row 3 1 lK jJ lL rG, .row 3 1 mq jK mr rH, .row 26 1 mX jL mY rI, .row 26 1 p35 n37 c36 f8, .blk B10 (.cells #[.int .i64 ((ix a0 (0 : Int)).length : Int), .bool true, .slice p35 n37 c36, .slice mX jL mY, .slice mq jK mr, .slice lK jJ lL, .slice none 0 0, .slice kG jG kI, .int .i64 (0 : Int), .map (some B4), .slice lv jI lx, .slice kK jH kM, .slice lp jp lr] 72 (0, 0)), .any (mapE (fun a : List UInt8 => Value.string (gstr a)) (fun a : Int => Value.int .i64 a) B4 m3_591)]) ++ A) QB
 have sL := Stp.front 10 hO rfl
 dsimp only [eS, eZ] at sL
 replace hO := sL.own
 have sM := Stp.front 2 hO rfl
 dsimp only [eS, eZ] at sM
 replace hO := sM.own
 have sN := Stp.front 4 hO rfl
 dsimp only [eS, eZ] at sN
 replace hO := sN.own
 have sO := Stp.front 5 hO rfl
 dsimp only [eS, eZ] at sO
 replace hO := sO.own
 have sP := Stp.front 5 hO rfl
 dsimp only [eS, eZ] at sP
 replace hO := sP.own
 have sQ := Stp.front 5 hO rfl
 dsimp only [eS, eZ] at sQ
 replace hO := sQ.own
 have sR := Stp.front 6 hO rfl
 dsimp only [eS, eZ] at sR
 replace hO := sR.own
 have sT := Stp.front 7 hO rfl
 dsimp only [eS, eZ] at sT
 replace hO := sT.own
 have sU := Stp.front 8 hO rfl
 dsimp only [eS, eZ] at sU
 replace hO := sU.own
 have sV := Stp.front 9 hO rfl
 dsimp only [eS, eZ] at sV
 replace hO := sV.own
 have sW := Stp.front 10 hO rfl
 dsimp only [eS, eZ] at sW
 replace hO := sW.own
 refine Go1.ret2 Try.func49 rfl ?_
 have Z50 := (((((((((sL.ch.trans sM.ch).trans sN.ch).trans sO.ch).trans sP.ch).trans sQ.ch).trans sR.ch).trans sT.ch).trans sU.ch).trans sV.ch).trans sW.ch
 replace lO := lO.ch Z50
 have Z51 := ((((((((((uV.ch.trans sL.ch).trans sM.ch).trans sN.ch).trans sO.ch).trans sP.ch).trans sQ.ch).trans sR.ch).trans sT.ch).trans sU.ch).trans sV.ch).trans sW.ch
 replace co := co.ch Z51
 replace ci := ci.ch Z51
 replace cv := cv.ch Z51
 replace cA := cA.ch Z51
 replace cW := cW.ch Z51
 replace dn := dn.ch Z51
 replace dC := dC.ch Z51
 replace af := af.ch Z51
 replace hB := (((((((((((hB.trans uV.fr).trans sL.fr).trans sM.fr).trans sN.fr).trans sO.fr).trans sP.fr).trans sQ.fr).trans sR.fr).trans sT.fr).trans sU.fr).trans sV.fr).trans sW.fr
 exact Or.inr ⟨(⟨(⟨((ix a0 (0 : Int)).length : Int), true, d_32, d_585, d_579, d_573, ([] : List (List Int)), d_555, (0 : Int)⟩ : Enum), m3_591, d_567, d_561, d_549⟩ : run), ((0 : Int)), B10, n37, p35, c36, f8, jL, mX, mY, rI, jK, mq, mr, rH, jJ, lK, lL, rG, 0, none, 0, ([]), jG, kG, kI, rD, B4, jI, lv, lx, rF, jH, kK, kM, rE, jp, lp, lr, tz, rfl, hB.same, hO, af, dC, dn, cW, lO, ci, cA, cv, co, H⟩
theorem body37 : Body Try.prog 37 := ⟨Try.f37, Try.func37, rfl, by kernel_rfl⟩
theorem walk_trans_Compose {A : List Nat} {w0 : World} {p_f : Option Addr} {c_f : Nat} {p_g : Option Addr} {c_g : Nat} {f : List Int} {g : List Int} (hA : ∀ b ∈ A, b < w0.heap.size) (h_f : ISl (Rp.int .i64) A w0 p_f c_f f) (h_g : ISl (Rp.int .i64) A w0 p_g c_g g) {K : List Int → Prop} (H : trans_Compose f g K) :
    CallsV Try.prog 37 #[.slice p_f f.length c_f, .slice p_g g.length c_g] w0 (fun v w' => ∃ (r0 : List Int), ∃ (tf : Option Addr), ∃ (tg : Nat), v = .slice tf r0.length tg ∧ Same w0 w' ∧ ISl (Rp.int .i64) A w' tf tg r0 ∧ K r0) := by
 refine CallsV.of (l := [.slice p_f f.length c_f, .slice p_g g.length c_g]) Try.func37 rfl Try.ntmps37 rfl ?_
 have hO := Owns.start hA
 have hB := Fr.refl (bl []) w0
 unfold trans_Compose at H
 refine zq (zr (za rfl (zn (zq (zq ?_)))))
 refine zr (zm rfl (zo (op_len Try.underlying26 rfl) ?_))
 replace h_f := h_f.ch (Ch.start A w0)
 replace H := H h_f.bd
 refine zm rfl (zo (op_len Try.underlying26 rfl) ?_)
 replace h_g := h_g.ch (Ch.start A w0)
 replace H := H h_g.bd
 by_cases h1 : (f.length : Int) = (g.length : Int)
 ·replace H := ifp h1 H
  refine zo (fun w => opB (op_neq rfl rfl w) (ndT h1)) (zm rfl (zm rfl ?_))
  refine GoR.call (op_call body60 rfl (walk_trans_Valid hO.lt h_f H)) rfl rfl ?_
  rintro v6 w3 ⟨r2, rfl, hs4, H⟩
  have oG := Stp.same hO hs4
  replace hO := oG.own
  cases r2
  ·replace H := ifn Bool.false_ne_true H
   refine zo (op_not rfl) (zo (op_pickF rfl rfl rfl) (zm rfl (zp (zp (zp ?_)))))
   refine zo (op_pickT rfl rfl rfl) (zn (zt rfl rfl (zq (zr (za rfl ?_)))))
   refine zn ?_
   refine Go1.ret1 Try.func37 rfl ?_
   replace hB := hB.trans oG.fr
   exact ⟨([] : List Int), none, 0, rfl, hB.same, (ISl.null _ _ _), H⟩
  replace H := ifp rfl H
  refine zo (op_not rfl) (zo (op_pickF rfl rfl rfl) (zm rfl (zm rfl ?_)))
  replace h_g := h_g.ch oG.ch
  refine GoR.call (op_call body60 rfl (walk_trans_Valid hO.lt h_g H)) rfl rfl ?_
  rintro v12 w9 ⟨r8, rfl, AF, H⟩
  have qt := Stp.same hO AF
  replace hO := qt.own
  cases r8
  ·replace H := ifn Bool.false_ne_true H
   refine zo (op_not rfl) (zo (op_pickF rfl rfl rfl) (zn (zt rfl rfl (zq ?_))))
   refine Go1.cut [] trivial ?_
   intro σ _
   refine zr (za rfl (zn ?_))
   refine Go1.ret1 Try.func37 rfl ?_
   replace hB := (hB.trans oG.fr).trans qt.fr
   exact ⟨([] : List Int), none, 0, rfl, hB.same, (ISl.null _ _ _), H⟩
  replace H := ifp rfl H
  refine zo (op_not rfl) (zo (op_pickF rfl rfl rfl) (zn (zf rfl rfl (zk (zq ?_)))))
  refine zr (zm rfl (zo (op_len Try.underlying26 rfl) ?_))
  obtain ⟨h21, H⟩ := H
  obtain ⟨h22, H⟩ := H
  have hobt := omake (n := (f.length : Int)) (r := Rp.int .i64) (d := (0 : Int)) Try.underlying26 ti3 (fun _ _ => rfl) rfl hO h21 h22 (by decide)
  obtain ⟨w14, p15, Bz, px, dj, Cw, DR⟩ := hobt
  refine zg (DR rfl rfl) ?_
  replace hO := px.own
  refine za rfl (zn (zq (zq (zr (zm rfl ?_)))))
  refine zo (op_len Try.underlying26 rfl) (zm rfl (zn (zb ?_)))
  replace h_g := (h_g.ch qt.ch).ch px.ch
  have Z1 := (oG.ch.trans qt.ch).trans px.ch
  replace h_f := h_f.ch Z1
  replace hB := ((hB.trans oG.fr).trans qt.fr).trans px.fr
  refine Go1.loopW (S := Nat × List Int) (fun s σ w => match s with | (k1_25, h1_26) => ∃ (BM : List Value), agrees σ [(1, .slice p_g g.length c_g), (5, .slice p15 f.length f.length), (26, .slice p_f f.length c_f), (27, .int .i64 (f.length : Int)), (28, .int .i64 (k1_25 : Int))] ∧ (fun Z0 => Owns w0.heap.size w Z0 A ∧ Els (Rp.int .i64) (bl Z0 ++ A) w BM h1_26 ∧ ISl (Rp.int .i64) (bl Z0 ++ A) w p_f c_f f ∧ ISl (Rp.int .i64) (bl Z0 ++ A) w p_g c_g g ∧ Fr (bl []) w0 (bl Z0) w) [.row 3 1 p15 f.length f.length BM]) H ⟨Bz, ⟨rfl, rfl, rfl, rfl, rfl, trivial⟩, hO, dj, h_f, h_g, hB⟩ ?_
  intro X1
  refine prE fun k1_25 => fun h1_26 => ?_
  intro H hX1 σ w24
  refine exE fun BM => andE fun hag => andE fun hO => andE fun yN => andE fun h_f => andE fun h_g => fun hB => ?_
  dsimp only at H
  refine Go1.keep [(1, .slice p_g g.length c_g), (5, .slice p15 f.length f.length), (26, .slice p_f f.length c_f), (27, .int .i64 (f.length : Int)), (28, .int .i64 (k1_25 : Int))] hag ?_
  refine zq (zr ?_)
  by_cases h29 : (k1_25 : Int) < (f.length : Int)
  ·replace H := ifp h29 H
   refine zo (fun w => opB (op_lss rfl rfl w) (decide_eq_true h29)) (zn (zq (zt rfl rfl (zk (zq ?_)))))
   refine zb (zq (zr (zm rfl ?_)))
   obtain ⟨h30, H⟩ := H
   obtain ⟨h31, H⟩ := H
   refine zo (op_index Try.underlying26 ti3 rfl rfl h30 h31 (h_f.some_ h30 h31)) (zs (ldInt h_f h30 h31 Try.underlying3 rfl rfl) (za rfl (za rfl (zn (zr ?_)))))
   refine zm rfl (zm rfl (zm rfl (zm rfl ?_)))
   obtain ⟨h32, H⟩ := H
   obtain ⟨h33, H⟩ := H
   refine zo (op_index Try.underlying26 ti3 rfl rfl h32 h33 (h_g.some_ h32 h33)) (zs (ldInt h_g h32 h33 Try.underlying3 rfl rfl) ?_)
   obtain ⟨h34, H⟩ := H
   obtain ⟨h35, H⟩ := H
   refine zo (op_index Try.underlying26 ti3 rfl rfl h34 (ltn (yN.neq hO 0 rfl) h35) (yN.psome hO 0 rfl h34 h35)) ?_
   have hobt := ost (r := Rp.int .i64) rfl 0 hO rfl yN h34 h35 (v := .int .i64 (ix g (ix f (k1_25 : Int)))) (u := (ix g (ix f (k1_25 : Int)))) rfl rfl
   obtain ⟨w36, oX, jv, dO, En⟩ := hobt
   refine zg (En Try.underlying3 rfl ti3 (by exact rfl) (by exact rfl)) ?_
   replace hO := jv.own
   refine zn ?_
   refine Go1.inBlock ?_
   refine zr ?_
   replace h_f := h_f.ch jv.ch
   refine zo (op_add rfl rfl (wrap_i64 (natbd h29 h_f.bd))) (zm rfl (zn ?_))
   replace h_g := h_g.ch jv.ch
   replace hB := hB.trans jv.fr
   exact hX1 _ H _ _ ⟨oX, ⟨rfl, rfl, rfl, rfl, rfl, trivial⟩, hO, dO, h_f, h_g, hB⟩
  replace H := ifn h29 H
  refine zo (fun w => opB (op_lss rfl rfl w) (decide_eq_false h29)) (zn (zq (zf rfl rfl ?_)))
  refine Go1.exit rfl ?_
  refine zq (zr (zm rfl (za rfl (zn ?_))))
  have hobt := freeze 0 hO rfl yN
  obtain ⟨hO1, IN, QR, QS⟩ := hobt
  replace hO := hO1; clear hO1
  refine Go1.ret1 Try.func37 rfl ?_
  replace hB := hB.trans (Owns.dropFr _ _ 0)
  exact ⟨h1_26, p15, f.length, (congrArg (fun nn => Value.slice p15 nn f.length) QS), hB.same, (QR.ch (Ch.weak _ _ _)), H⟩
 replace H := ifn h1 H
 refine zo (fun w => opB (op_neq rfl rfl w) (ndF h1)) (zm rfl (zp (zp (zp (zo (op_pickT rfl rfl rfl) ?_)))))
 refine zm rfl (zp (zp (zp (zo (op_pickT rfl rfl rfl) (zn ?_)))))
 refine zt rfl rfl (zq ?_)
 refine Go1.cut [] trivial ?_
 intro σ _
 refine zr (za rfl (zn ?_))
 refine Go1.ret1 Try.func37 rfl ?_
 exact ⟨([] : List Int), none, 0, rfl, hB.same, (ISl.null _ _ _), H⟩
end Sg
