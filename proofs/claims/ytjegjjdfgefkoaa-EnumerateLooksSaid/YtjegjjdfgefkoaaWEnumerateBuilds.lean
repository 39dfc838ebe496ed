/- The walks: each call keeps to its plain transformer. Printed by walkgen.py. -/
import Derived.Test.YtjegjjdfgefkoaaTi
import Derived.Test.YtjegjjdfgefkoaaAl
namespace Sg
open Go Go.RowKit Go.Proofs
set_option linter.unusedVariables false
set_option linter.unusedSimpArgs false
set_option maxRecDepth 100000
set_option maxHeartbeats 4000000
theorem body48 : Body Try.prog 48 := ⟨Try.f48, Try.func48, rfl, by kernel_rfl⟩
theorem walk_ref11_Valid {A : List Nat} {w0 : World} {p_f : Option Addr} {c_f : Nat} {f : List Int} (hA : ∀ b ∈ A, b < w0.heap.size) (h_f : ISl (Rp.int .i64) A w0 p_f c_f f) {K : Bool → Prop} (H : ref11_Valid f K) :
    CallsV Try.prog 48 #[.slice p_f f.length c_f] w0 (fun v w' => ∃ (r0 : Bool), v = .bool r0 ∧ Same w0 w' ∧ K r0) := by
 refine CallsV.of (l := [.slice p_f f.length c_f]) Try.func48 rfl Try.ntmps48 rfl ?_
 have hO := Owns.start hA
 have hB := Fr.refl (bl []) w0
 unfold ref11_Valid at H
 refine zq (zr (za rfl (zn (zq (zq ?_)))))
 refine zr (zm rfl (zo (op_len Try.underlying26 rfl) ?_))
 replace h_f := h_f.ch (Ch.start A w0)
 replace H := H h_f.bd
 by_cases h1 : (f.length : Int) < (1 : Int)
 ·replace H := ifp h1 H
  refine zo (fun w => opB (op_lss rfl rfl w) (decide_eq_true h1)) (zm rfl (zp (zp (zp (zo (op_pickT rfl rfl rfl) ?_)))))
  refine zn (zt rfl rfl (zq (zr (za rfl (zn ?_)))))
  refine Go1.ret1 Try.func48 rfl ?_
  exact ⟨false, rfl, hB.same, H⟩
 replace H := ifn h1 H
 refine zo (fun w => opB (op_lss rfl rfl w) (decide_eq_false h1)) (zm rfl (zm rfl (zo (op_len Try.underlying26 rfl) ?_)))
 by_cases h2 : (32 : Int) < (f.length : Int)
 ·replace H := ifp h2 H
  refine zo (fun w => opB (op_gtr rfl rfl w) (decide_eq_true h2)) (zo (op_pickF rfl rfl rfl) (zn (zt rfl rfl (zq (zr ?_)))))
  refine za rfl (zn ?_)
  refine Go1.ret1 Try.func48 rfl ?_
  exact ⟨false, rfl, hB.same, H⟩
 replace H := ifn h2 H
 refine zo (fun w => opB (op_gtr rfl rfl w) (decide_eq_false h2)) (zo (op_pickF rfl rfl rfl) (zn (zf rfl rfl (zk (zq ?_)))))
 refine zq (zr (zm rfl (zo (op_len Try.underlying26 rfl) (zm rfl (zn ?_)))))
 refine zb ?_
 refine Go1.loopW (S := Nat) (fun s σ w => agrees σ [(0, .slice p_f f.length c_f), (13, .slice p_f f.length c_f), (14, .int .i64 (f.length : Int)), (15, .int .i64 (s : Int))] ∧ Owns w0.heap.size w [] A ∧ ISl (Rp.int .i64) (bl [] ++ A) w p_f c_f f ∧ Fr (bl []) w0 (bl []) w) H ⟨⟨rfl, rfl, rfl, rfl, trivial⟩, hO, h_f, hB⟩ ?_
 intro X1 k1_4
 intro H hX1 σ w3
 refine andE fun hag => andE fun hO => andE fun h_f => fun hB => ?_
 refine Go1.keep [(0, .slice p_f f.length c_f), (13, .slice p_f f.length c_f), (14, .int .i64 (f.length : Int)), (15, .int .i64 (k1_4 : Int))] hag ?_
 refine zq (zr ?_)
 by_cases h5 : (k1_4 : Int) < (f.length : Int)
 ·replace H := ifp h5 H
  refine zo (fun w => opB (op_lss rfl rfl w) (decide_eq_true h5)) (zn (zq (zt rfl rfl (zk (zq ?_)))))
  refine zb (zq (zr ?_))
  obtain ⟨h6, H⟩ := H
  obtain ⟨h7, H⟩ := H
  refine zo (op_index Try.underlying26 ti3 rfl rfl h6 h7 (h_f.some_ h6 h7)) (zs (ldInt h_f h6 h7 Try.underlying3 rfl rfl) (za rfl (zn (zq (zr ?_)))))
  refine zm rfl ?_
  by_cases h8 : (ix f (k1_4 : Int)) < (0 : Int)
  ·replace H := ifp h8 H
   refine zo (fun w => opB (op_lss rfl rfl w) (decide_eq_true h8)) (zm rfl (zp (zp (zp (zp ?_)))))
   refine zo (op_pickT rfl rfl rfl) (zn (zt rfl rfl (zq (zr (za rfl ?_)))))
   refine zn ?_
   refine Go1.ret1 Try.func48 rfl ?_
   exact ⟨false, rfl, hB.same, H⟩
  replace H := ifn h8 H
  refine zo (fun w => opB (op_lss rfl rfl w) (decide_eq_false h8)) (zm rfl (zm rfl (zm rfl (zo (op_len Try.underlying26 rfl) ?_))))
  by_cases h9 : (f.length : Int) ≤ (ix f (k1_4 : Int))
  ·replace H := ifp h9 H
   refine zo (fun w => opB (op_geq rfl rfl w) (decide_eq_true h9)) (zo (op_pickF rfl rfl rfl) (zn (zt rfl rfl (zq ?_))))
   refine Go1.cut [] trivial ?_
   intro σ _
   refine zr (za rfl (zn ?_))
   refine Go1.ret1 Try.func48 rfl ?_
   exact ⟨false, rfl, hB.same, H⟩
  replace H := ifn h9 H
  refine zo (fun w => opB (op_geq rfl rfl w) (decide_eq_false h9)) (zo (op_pickF rfl rfl rfl) (zn (zf rfl rfl (zk ?_))))
  refine Go1.inBlock ?_
  refine zr (zo (op_add rfl rfl (wrap_i64 (natbd h5 h_f.bd))) (zm rfl (zn ?_)))
  exact hX1 _ H _ _ ⟨⟨rfl, rfl, rfl, rfl, trivial⟩, hO, h_f, hB⟩
 replace H := ifn h5 H
 refine zo (fun w => opB (op_lss rfl rfl w) (decide_eq_false h5)) (zn (zq (zf rfl rfl ?_)))
 refine Go1.exit rfl ?_
 refine zq (zr (za rfl (zn ?_)))
 refine Go1.ret1 Try.func48 rfl ?_
 exact ⟨true, rfl, hB.same, H⟩
theorem body14 : Body Try.prog 14 := ⟨Try.f14, Try.func14, rfl, by kernel_rfl⟩
theorem walk_ref11_MayGens {A : List Nat} {w0 : World} {kz : Option Addr} {kA : Nat} {gens : List (List Int)} (hA : ∀ b ∈ A, b < w0.heap.size) (fC : ISl (Rp.sl (Rp.int .i64)) A w0 kz kA gens) {K : Bool → Prop} (H : ref11_MayGens gens K) :
    CallsV Try.prog 14 #[.slice kz gens.length kA] w0 (fun v w' => ∃ (r0 : Bool), v = .bool r0 ∧ Same w0 w' ∧ K r0) := by
 refine CallsV.of (l := [.slice kz gens.length kA]) Try.func14 rfl Try.ntmps14 rfl ?_
 have hO := Owns.start hA
 have hB := Fr.refl (bl []) w0
 unfold ref11_MayGens at H
 refine zq (zr (za rfl (zn (zq (zq ?_)))))
 refine zr (zm rfl (zo (op_len Try.underlying22 rfl) ?_))
 replace fC := fC.ch (Ch.start A w0)
 replace H := H fC.bd
 by_cases h1 : (gens.length : Int) < (1 : Int)
 ·replace H := ifp h1 H
  refine zo (fun w => opB (op_lss rfl rfl w) (decide_eq_true h1)) (zm rfl (zp (zp (zp (zo (op_pickT rfl rfl rfl) ?_)))))
  refine zn (zt rfl rfl (zq (zr (za rfl (zn ?_)))))
  refine Go1.ret1 Try.func14 rfl ?_
  exact ⟨false, rfl, hB.same, H⟩
 replace H := ifn h1 H
 refine zo (fun w => opB (op_lss rfl rfl w) (decide_eq_false h1)) (zm rfl (zm rfl (zo (op_len Try.underlying22 rfl) ?_)))
 by_cases h2 : (6 : Int) < (gens.length : Int)
 ·replace H := ifp h2 H
  refine zo (fun w => opB (op_gtr rfl rfl w) (decide_eq_true h2)) (zo (op_pickF rfl rfl rfl) (zn (zt rfl rfl (zq (zr ?_)))))
  refine za rfl (zn ?_)
  refine Go1.ret1 Try.func14 rfl ?_
  exact ⟨false, rfl, hB.same, H⟩
 replace H := ifn h2 H
 refine zo (fun w => opB (op_gtr rfl rfl w) (decide_eq_false h2)) (zo (op_pickF rfl rfl rfl) (zn (zf rfl rfl (zk (zq ?_)))))
 refine zq (zr (zm rfl (zo (op_len Try.underlying22 rfl) (zm rfl (zn ?_)))))
 refine zb ?_
 refine Go1.loopW (S := Nat) (fun s σ w => agrees σ [(0, .slice kz gens.length kA), (13, .slice kz gens.length kA), (14, .int .i64 (gens.length : Int)), (15, .int .i64 (s : Int))] ∧ Owns w0.heap.size w [] A ∧ ISl (Rp.sl (Rp.int .i64)) (bl [] ++ A) w kz kA gens ∧ Fr (bl []) w0 (bl []) w) H ⟨⟨rfl, rfl, rfl, rfl, trivial⟩, hO, fC, hB⟩ ?_
 intro X1 k1_4
 intro H hX1 σ w3
 refine andE fun hag => andE fun hO => andE fun fC => fun hB => ?_
 refine Go1.keep [(0, .slice kz gens.length kA), (13, .slice kz gens.length kA), (14, .int .i64 (gens.length : Int)), (15, .int .i64 (k1_4 : Int))] hag ?_
 refine zq (zr ?_)
 by_cases h5 : (k1_4 : Int) < (gens.length : Int)
 ·replace H := ifp h5 H
  refine zo (fun w => opB (op_lss rfl rfl w) (decide_eq_true h5)) (zn (zq (zt rfl rfl (zk (zq ?_)))))
  refine zb (zq (zr ?_))
  obtain ⟨h6, H⟩ := H
  obtain ⟨h7, H⟩ := H
  refine zo (op_index Try.underlying22 ti26 rfl rfl h6 h7 (fC.some_ h6 h7)) ?_
  have hobt := ldSl fC h6 h7
  obtain ⟨p8, c9, Gq, TN⟩ := hobt
  refine zs (TN Try.underlying26 rfl rfl) (za rfl (zn (zq (zr (zm rfl ?_)))))
  refine GoR.call (op_call body48 rfl (walk_ref11_Valid hO.lt Gq H)) rfl rfl ?_
  rintro v16 w13 ⟨r12, rfl, Iw, H⟩
  have lB := Stp.same hO Iw
  replace hO := lB.own
  cases r12
  ·replace H := ifn Bool.false_ne_true H
   refine zo (op_not rfl) (zm rfl (zp (zp (zp (zp ?_)))))
   refine zp (zp (zp (zo (op_pickT rfl rfl rfl) (zn (zt rfl rfl ?_)))))
   refine zq (zr (za rfl (zn ?_)))
   refine Go1.ret1 Try.func14 rfl ?_
   replace hB := hB.trans lB.fr
   exact ⟨false, rfl, hB.same, H⟩
  replace H := ifp rfl H
  refine zo (op_not rfl) (zm rfl (zm rfl (zo (op_len Try.underlying26 rfl) ?_)))
  replace Gq := Gq.ch lB.ch
  replace H := H Gq.bd
  refine zm rfl ?_
  obtain ⟨h18, H⟩ := H
  obtain ⟨h19, H⟩ := H
  replace fC := fC.ch lB.ch
  refine zo (op_index Try.underlying22 ti26 rfl rfl h18 h19 (fC.some_ h18 h19)) ?_
  have hobt := ldSl fC h18 h19
  obtain ⟨p20, c21, TO, TP⟩ := hobt
  refine zs (TP Try.underlying26 rfl rfl) (zo (op_len Try.underlying26 rfl) ?_)
  replace H := H TO.bd
  by_cases h24 : ((ix gens (k1_4 : Int)).length : Int) = ((ix gens (0 : Int)).length : Int)
  ·replace H := ifp h24 H
   refine zo (fun w => opB (op_neq rfl rfl w) (ndT h24)) (zo (op_pickF rfl rfl rfl) (zn (zf rfl rfl (zk ?_))))
   refine Go1.inBlock ?_
   refine Go1.cut [(0, .slice kz gens.length kA), (13, .slice kz gens.length kA), (14, .int .i64 (gens.length : Int)), (15, .int .i64 (k1_4 : Int))] ⟨rfl, rfl, rfl, rfl, trivial⟩ ?_
   intro σ _
   refine zr (zo (op_add rfl rfl (wrap_i64 (natbd h5 fC.bd))) (zm rfl (zn ?_)))
   replace hB := hB.trans lB.fr
   exact hX1 _ H _ _ ⟨⟨rfl, rfl, rfl, rfl, trivial⟩, hO, fC, hB⟩
  replace H := ifn h24 H
  refine zo (fun w => opB (op_neq rfl rfl w) (ndF h24)) (zo (op_pickF rfl rfl rfl) (zn (zt rfl rfl (zq (zr ?_)))))
  refine za rfl (zn ?_)
  refine Go1.ret1 Try.func14 rfl ?_
  replace hB := hB.trans lB.fr
  exact ⟨false, rfl, hB.same, H⟩
 replace H := ifn h5 H
 refine zo (fun w => opB (op_lss rfl rfl w) (decide_eq_false h5)) (zn (zq (zf rfl rfl ?_)))
 refine Go1.exit rfl ?_
 refine zq (zr (za rfl (zn ?_)))
 refine Go1.ret1 Try.func14 rfl ?_
 exact ⟨true, rfl, hB.same, H⟩
theorem body15 : Body Try.prog 15 := ⟨Try.f15, Try.func15, rfl, by kernel_rfl⟩
theorem walk_law12_little {A : List Nat} {w0 : World} {kz : Option Addr} {kA : Nat} {gens : List (List Int)} {points : Int} {letters : Int} (hA : ∀ b ∈ A, b < w0.heap.size) (fC : ISl (Rp.sl (Rp.int .i64)) A w0 kz kA gens) {K : Bool → Prop} (H : law12_little gens points letters K) :
    CallsV Try.prog 15 #[.slice kz gens.length kA, .int .i64 points, .int .i64 letters] w0 (fun v w' => ∃ (r0 : Bool), v = .bool r0 ∧ Same w0 w' ∧ K r0) := by
 refine CallsV.of (l := [.slice kz gens.length kA, .int .i64 points, .int .i64 letters]) Try.func15 rfl Try.ntmps15 rfl ?_
 have hO := Owns.start hA
 have hB := Fr.refl (bl []) w0
 unfold law12_little at H
 refine zq (zr (za rfl (zn (zq (zr ?_)))))
 refine zm rfl ?_
 replace fC := fC.ch (Ch.start A w0)
 refine GoR.call (op_call body14 rfl (walk_ref11_MayGens hO.lt fC H)) rfl rfl ?_
 rintro v5 w2 ⟨r1, rfl, hs3, H⟩
 have vc := Stp.same hO hs3
 replace hO := vc.own
 refine zm rfl ?_
 cases r1
 ·replace H := ifn Bool.false_ne_true H
  refine zp (zp (zp (zp (zo (op_pickF rfl rfl rfl) (zm rfl ?_)))))
  refine zp (zp (zp (zp (zp (zp ?_)))))
  refine zo (op_pickF rfl rfl rfl) (za rfl (zn ?_))
  refine Go1.ret1 Try.func15 rfl ?_
  replace hB := hB.trans vc.fr
  exact ⟨false, rfl, hB.same, H⟩
 replace H := ifp rfl H
 refine zm rfl (zo (op_len Try.underlying22 rfl) ?_)
 replace fC := fC.ch vc.ch
 replace H := H fC.bd
 refine zm rfl ?_
 by_cases h7 : (gens.length : Int) ≤ letters
 ·replace H := ifp h7 H
  refine zo (fun w => opB (op_leq rfl rfl w) (decide_eq_true h7)) (zo (op_pickT rfl rfl rfl) (zm rfl (zm rfl ?_)))
  obtain ⟨h8, H⟩ := H
  obtain ⟨h9, H⟩ := H
  refine zo (op_index Try.underlying22 ti26 rfl rfl h8 h9 (fC.some_ h8 h9)) ?_
  have hobt := ldSl fC h8 h9
  obtain ⟨p10, c11, FC, Ix⟩ := hobt
  refine zs (Ix Try.underlying26 rfl rfl) (zo (op_len Try.underlying26 rfl) ?_)
  replace H := H FC.bd
  refine zm rfl ?_
  by_cases h14 : ((ix gens (0 : Int)).length : Int) ≤ points
  ·replace H := ifp h14 H
   refine zo (fun w => opB (op_leq rfl rfl w) (decide_eq_true h14)) (zo (op_pickT rfl rfl rfl) (za rfl (zn ?_)))
   refine Go1.ret1 Try.func15 rfl ?_
   replace hB := hB.trans vc.fr
   exact ⟨true, rfl, hB.same, H⟩
  replace H := ifn h14 H
  refine zo (fun w => opB (op_leq rfl rfl w) (decide_eq_false h14)) (zo (op_pickT rfl rfl rfl) (za rfl (zn ?_)))
  refine Go1.ret1 Try.func15 rfl ?_
  replace hB := hB.trans vc.fr
  exact ⟨false, rfl, hB.same, H⟩
 replace H := ifn h7 H
 refine zo (fun w => opB (op_leq rfl rfl w) (decide_eq_false h7)) (zo (op_pickT rfl rfl rfl) (zm rfl (zp (zp (zp ?_)))))
 refine zp (zp (zp (zo (op_pickF rfl rfl rfl) (za rfl (zn ?_)))))
 refine Go1.ret1 Try.func15 rfl ?_
 replace hB := hB.trans vc.fr
 exact ⟨false, rfl, hB.same, H⟩
theorem body60 : Body Try.prog 60 := ⟨Try.f60, Try.func60, rfl, by kernel_rfl⟩
theorem walk_trans_Valid {A : List Nat} {w0 : World} {p_f : Option Addr} {c_f : Nat} {f : List Int} (hA : ∀ b ∈ A, b < w0.heap.size) (h_f : ISl (Rp.int .i64) A w0 p_f c_f f) {K : Bool → Prop} (H : trans_Valid f K) :
    CallsV Try.prog 60 #[.slice p_f f.length c_f] w0 (fun v w' => ∃ (r0 : Bool), v = .bool r0 ∧ Same w0 w' ∧ K r0) := by
 refine CallsV.of (l := [.slice p_f f.length c_f]) Try.func60 rfl Try.ntmps60 rfl ?_
 have hO := Owns.start hA
 have hB := Fr.refl (bl []) w0
 unfold trans_Valid at H
 refine zq (zr (za rfl (zn (zq (zq ?_)))))
 refine zr (zm rfl (zo (op_len Try.underlying26 rfl) ?_))
 replace h_f := h_f.ch (Ch.start A w0)
 replace H := H h_f.bd
 by_cases h1 : (f.length : Int) < (1 : Int)
 ·replace H := ifp h1 H
  refine zo (fun w => opB (op_lss rfl rfl w) (decide_eq_true h1)) (zm rfl (zp (zp (zp (zo (op_pickT rfl rfl rfl) ?_)))))
  refine zn (zt rfl rfl (zq (zr (za rfl (zn ?_)))))
  refine Go1.ret1 Try.func60 rfl ?_
  exact ⟨false, rfl, hB.same, H⟩
 replace H := ifn h1 H
 refine zo (fun w => opB (op_lss rfl rfl w) (decide_eq_false h1)) (zm rfl (zm rfl (zo (op_len Try.underlying26 rfl) ?_)))
 by_cases h2 : (32 : Int) < (f.length : Int)
 ·replace H := ifp h2 H
  refine zo (fun w => opB (op_gtr rfl rfl w) (decide_eq_true h2)) (zo (op_pickF rfl rfl rfl) (zn (zt rfl rfl (zq (zr ?_)))))
  refine za rfl (zn ?_)
  refine Go1.ret1 Try.func60 rfl ?_
  exact ⟨false, rfl, hB.same, H⟩
 replace H := ifn h2 H
 refine zo (fun w => opB (op_gtr rfl rfl w) (decide_eq_false h2)) (zo (op_pickF rfl rfl rfl) (zn (zf rfl rfl (zk (zq ?_)))))
 refine zq (zr (zm rfl (zo (op_len Try.underlying26 rfl) (zm rfl (zn ?_)))))
 refine zb ?_
 refine Go1.loopW (S := Nat) (fun s σ w => agrees σ [(0, .slice p_f f.length c_f), (13, .slice p_f f.length c_f), (14, .int .i64 (f.length : Int)), (15, .int .i64 (s : Int))] ∧ Owns w0.heap.size w [] A ∧ ISl (Rp.int .i64) (bl [] ++ A) w p_f c_f f ∧ Fr (bl []) w0 (bl []) w) H ⟨⟨rfl, rfl, rfl, rfl, trivial⟩, hO, h_f, hB⟩ ?_
 intro X1 k1_4
 intro H hX1 σ w3
 refine andE fun hag => andE fun hO => andE fun h_f => fun hB => ?_
 refine Go1.keep [(0, .slice p_f f.length c_f), (13, .slice p_f f.length c_f), (14, .int .i64 (f.length : Int)), (15, .int .i64 (k1_4 : Int))] hag ?_
 refine zq (zr ?_)
 by_cases h5 : (k1_4 : Int) < (f.length : Int)
 ·replace H := ifp h5 H
  refine zo (fun w => opB (op_lss rfl rfl w) (decide_eq_true h5)) (zn (zq (zt rfl rfl (zk (zq ?_)))))
  refine zb (zq (zr ?_))
  obtain ⟨h6, H⟩ := H
  obtain ⟨h7, H⟩ := H
  refine zo (op_index Try.underlying26 ti3 rfl rfl h6 h7 (h_f.some_ h6 h7)) (zs (ldInt h_f h6 h7 Try.underlying3 rfl rfl) (za rfl (zn (zq (zr ?_)))))
  refine zm rfl ?_
  by_cases h8 : (ix f (k1_4 : Int)) < (0 : Int)
  ·replace H := ifp h8 H
   refine zo (fun w => opB (op_lss rfl rfl w) (decide_eq_true h8)) (zm rfl (zp (zp (zp (zp ?_)))))
   refine zo (op_pickT rfl rfl rfl) (zn (zt rfl rfl (zq (zr (za rfl ?_)))))
   refine zn ?_
   refine Go1.ret1 Try.func60 rfl ?_
   exact ⟨false, rfl, hB.same, H⟩
  replace H := ifn h8 H
  refine zo (fun w => opB (op_lss rfl rfl w) (decide_eq_false h8)) (zm rfl (zm rfl (zm rfl (zo (op_len Try.underlying26 rfl) ?_))))
  by_cases h9 : (f.length : Int) ≤ (ix f (k1_4 : Int))
  ·replace H := ifp h9 H
   refine zo (fun w => opB (op_geq rfl rfl w) (decide_eq_true h9)) (zo (op_pickF rfl rfl rfl) (zn (zt rfl rfl (zq ?_))))
   refine Go1.cut [] trivial ?_
   intro σ _
   refine zr (za rfl (zn ?_))
   refine Go1.ret1 Try.func60 rfl ?_
   exact ⟨false, rfl, hB.same, H⟩
  replace H := ifn h9 H
  refine zo (fun w => opB (op_geq rfl rfl w) (decide_eq_false h9)) (zo (op_pickF rfl rfl rfl) (zn (zf rfl rfl (zk ?_))))
  refine Go1.inBlock ?_
  refine zr (zo (op_add rfl rfl (wrap_i64 (natbd h5 h_f.bd))) (zm rfl (zn ?_)))
  exact hX1 _ H _ _ ⟨⟨rfl, rfl, rfl, rfl, trivial⟩, hO, h_f, hB⟩
 replace H := ifn h5 H
 refine zo (fun w => opB (op_lss rfl rfl w) (decide_eq_false h5)) (zn (zq (zf rfl rfl ?_)))
 refine Go1.exit rfl ?_
 refine zq (zr (za rfl (zn ?_)))
 refine Go1.ret1 Try.func60 rfl ?_
 exact ⟨true, rfl, hB.same, H⟩
theorem body64 : Body Try.prog 64 := ⟨Try.f64, Try.func64, rfl, by kernel_rfl⟩
theorem walk_slices_Clone_int {A : List Nat} {w0 : World} {p_s : Option Addr} {c_s : Nat} {s : List Int} (hA : ∀ b ∈ A, b < w0.heap.size) (h_s : ISl (Rp.int .i64) A w0 p_s c_s s) {K : List Int → Prop} (H : slices_Clone_int s K) :
    CallsV Try.prog 64 #[.slice p_s s.length c_s] w0 (fun v w' => ∃ (r0 : List Int), ∃ (EI : Nat), ∃ (sL : Option Addr), ∃ (sM : Nat), ∃ (Gr : List Value), v = .slice sL EI sM ∧ Same w0 w' ∧ Owns w0.heap.size w' [.row 3 1 sL EI sM Gr] A ∧ Els (Rp.int .i64) (bl [.row 3 1 sL EI sM Gr] ++ A) w' Gr r0 ∧ K r0) := by
 refine CallsV.of (l := [.slice p_s s.length c_s]) Try.func64 rfl Try.ntmps64 rfl ?_
 have hO := Owns.start hA
 have hB := Fr.refl (bl []) w0
 unfold slices_Clone_int at H
 refine zq (zr (za rfl (zn (zq (zq ?_)))))
 refine zr (zm rfl ?_)
 replace h_s := h_s.ch (Ch.start A w0)
 replace H := H p_s.isNone (fun h => h_s.nilD h)
 by_cases hz2 : p_s.isNone = true
 ·replace H := ifp hz2 H
  refine zo (fun w => opB (op_nilSlice Try.underlying26 rfl rfl w) (hz2)) (zn (zt rfl rfl (zq (zr (za rfl ?_)))))
  refine zn ?_
  have m8 := Stp.nil (e := 3) (r := 1) hO
  replace hO := m8.own
  have hE5 := Els.nil (Rp.int .i64) (bl (.row 3 1 none 0 0 [] :: []) ++ A) w0
  refine Go1.ret1 Try.func64 rfl ?_
  replace hB := hB.trans m8.fr
  exact ⟨(([] : List Int)), 0, none, 0, ([]), rfl, hB.same, hO, hE5, H⟩
 ·replace H := ifn hz2 H
  refine zo (fun w => opB (op_nilSlice Try.underlying26 rfl rfl w) (Bool.eq_false_iff.2 hz2)) (zn (zf rfl rfl (zk (zq (zr ?_)))))
  have hobt := obuild (r := Rp.int .i64) (n := 0) (parts := []) (vs := []) (xs := ([] : List Int)) rfl Try.underlying26 ti3 hO (by decide) (by kernel_rfl) (Els.nil _ _ _) rfl
  obtain ⟨w6, p7, Iy, hE9, FD, BI⟩ := hobt
  refine zg (BI rfl) ?_
  replace hO := Iy.own
  refine zm rfl ?_
  obtain ⟨h13, H⟩ := H
  replace h_s := h_s.ch Iy.ch
  have hobt := oapp Try.underlying26 ti3 rfl 0 hO rfl hE9 h_s rfl h13 (by decide)
  obtain ⟨w14, p15, c16, qc, lC, TQ, Gs⟩ := hobt
  refine zg (Gs (by exact rfl) (by exact rfl)) ?_
  replace hO := lC.own
  refine za rfl (zn ?_)
  refine Go1.ret1 Try.func64 rfl ?_
  replace hB := (hB.trans Iy.fr).trans lC.fr
  exact ⟨((([] : List Int)) ++ s), (0 + s.length), p15, c16, qc, rfl, hB.same, hO, TQ, H⟩
theorem body62 : Body Try.prog 62 := ⟨Try.f62, Try.func62, rfl, by kernel_rfl⟩
theorem walk_trans_Identity {A : List Nat} {w0 : World} {n : Int} (hA : ∀ b ∈ A, b < w0.heap.size) {K : List Int → Prop} (H : trans_Identity n K) :
    CallsV Try.prog 62 #[.int .i64 n] w0 (fun v w' => ∃ (r0 : List Int), ∃ (sL : Option Addr), ∃ (sM : Nat), v = .slice sL r0.length sM ∧ Same w0 w' ∧ ISl (Rp.int .i64) A w' sL sM r0 ∧ K r0) := by
 refine CallsV.of (l := [.int .i64 n]) Try.func62 rfl Try.ntmps62 rfl ?_
 have hO := Owns.start hA
 have hB := Fr.refl (bl []) w0
 unfold trans_Identity at H
 refine zq (zr (za rfl (zn (zq (zq ?_)))))
 refine zr (zm rfl ?_)
 by_cases h1 : n < (1 : Int)
 ·replace H := ifp h1 H
  refine zo (fun w => opB (op_lss rfl rfl w) (decide_eq_true h1)) (zm rfl (zp (zp (zo (op_pickT rfl rfl rfl) (zn ?_)))))
  refine zt rfl rfl (zq (zr (za rfl (zn ?_))))
  refine Go1.ret1 Try.func62 rfl ?_
  exact ⟨([] : List Int), none, 0, rfl, hB.same, (ISl.null _ _ _), H⟩
 replace H := ifn h1 H
 refine zo (fun w => opB (op_lss rfl rfl w) (decide_eq_false h1)) (zm rfl (zm rfl ?_))
 by_cases h2 : (32 : Int) < n
 ·replace H := ifp h2 H
  refine zo (fun w => opB (op_gtr rfl rfl w) (decide_eq_true h2)) (zo (op_pickF rfl rfl rfl) (zn (zt rfl rfl (zq (zr ?_)))))
  refine za rfl (zn ?_)
  refine Go1.ret1 Try.func62 rfl ?_
  exact ⟨([] : List Int), none, 0, rfl, hB.same, (ISl.null _ _ _), H⟩
 replace H := ifn h2 H
 refine zo (fun w => opB (op_gtr rfl rfl w) (decide_eq_false h2)) (zo (op_pickF rfl rfl rfl) (zn (zf rfl rfl (zk (zq ?_)))))
 refine zr (zm rfl ?_)
 obtain ⟨h10, H⟩ := H
 obtain ⟨h11, H⟩ := H
 have hobt := omake (n := n) (r := Rp.int .i64) (d := (0 : Int)) Try.underlying26 ti3 (fun _ _ => rfl) rfl hO h10 h11 (by decide)
 obtain ⟨w3, p4, vs5, vc, hE7, hs8, TS⟩ := hobt
 refine zg (TS rfl rfl) ?_
 replace hO := vc.own
 refine za rfl (zn (zq (zq (zr (zm rfl ?_)))))
 refine zo (op_lenN Try.underlying26 rfl (hE7.neq hO 0 rfl)) (zm rfl (zn (zb ?_)))
 replace hB := hB.trans vc.fr
 refine Go1.loopW (S := Nat × List Int) (fun s σ w => match s with | (k1_14, f1_15) => ∃ (DQ : List Value), agrees σ [(3, .slice p4 n.toNat n.toNat), (14, .int .i64 ((List.replicate n.toNat ((0 : Int))).length : Int)), (15, .int .i64 (k1_14 : Int))] ∧ (fun Z0 => Owns w0.heap.size w Z0 A ∧ Els (Rp.int .i64) (bl Z0 ++ A) w DQ f1_15 ∧ Fr (bl []) w0 (bl Z0) w) [.row 3 1 p4 n.toNat n.toNat DQ]) H ⟨vs5, ⟨rfl, rfl, rfl, trivial⟩, hO, hE7, hB⟩ ?_
 intro X1
 refine prE fun k1_14 => fun f1_15 => ?_
 intro H hX1 σ w13
 refine exE fun DQ => andE fun hag => andE fun hO => andE fun Gt => fun hB => ?_
 dsimp only at H
 refine Go1.keep [(3, .slice p4 n.toNat n.toNat), (14, .int .i64 ((List.replicate n.toNat ((0 : Int))).length : Int)), (15, .int .i64 (k1_14 : Int))] hag ?_
 refine zq (zr ?_)
 by_cases h18 : (k1_14 : Int) < ((List.replicate n.toNat ((0 : Int))).length : Int)
 ·replace H := ifp h18 H
  refine zo (fun w => opB (op_lss rfl rfl w) (decide_eq_true h18)) (zn (zq (zt rfl rfl (zk (zq ?_)))))
  refine zb (zq (zr (zm rfl (za rfl (zn ?_)))))
  refine zr (zm rfl (zm rfl (zm rfl ?_)))
  obtain ⟨h19, H⟩ := H
  obtain ⟨h20, H⟩ := H
  refine zo (op_index Try.underlying26 ti3 rfl rfl h19 (ltn (Gt.neq hO 0 rfl) h20) (Gt.psome hO 0 rfl h19 h20)) ?_
  have hobt := ost (r := Rp.int .i64) rfl 0 hO rfl Gt h19 h20 (v := .int .i64 (k1_14 : Int)) (u := (k1_14 : Int)) rfl rfl
  obtain ⟨w21, Iz, mX, dM, Ei⟩ := hobt
  refine zg (Ei Try.underlying3 rfl ti3 (by exact rfl) (by exact rfl)) ?_
  replace hO := mX.own
  refine zn ?_
  refine Go1.inBlock ?_
  refine zr ?_
  obtain ⟨h26, H⟩ := H
  refine zo (op_add rfl rfl (wrap_i64 h26)) (zm rfl (zn ?_))
  replace hB := hB.trans mX.fr
  exact hX1 _ H _ _ ⟨Iz, ⟨rfl, rfl, rfl, trivial⟩, hO, dM, hB⟩
 replace H := ifn h18 H
 refine zo (fun w => opB (op_lss rfl rfl w) (decide_eq_false h18)) (zn (zq (zf rfl rfl ?_)))
 refine Go1.exit rfl ?_
 refine zq (zr (zm rfl (za rfl (zn ?_))))
 have hobt := freeze 0 hO rfl Gt
 obtain ⟨hO1, CX, TT, TU⟩ := hobt
 replace hO := hO1; clear hO1
 refine Go1.ret1 Try.func62 rfl ?_
 replace hB := hB.trans (Owns.dropFr _ _ 0)
 exact ⟨f1_15, p4, n.toNat, (congrArg (fun nn => Value.slice p4 nn n.toNat) TU), hB.same, (TT.ch (Ch.weak _ _ _)), H⟩
theorem body61 : Body Try.prog 61 := ⟨Try.f61, Try.func61, rfl, by kernel_rfl⟩
theorem walk_enumerate_text {A : List Nat} {w0 : World} {p_f : Option Addr} {c_f : Nat} {f : List Int} (hA : ∀ b ∈ A, b < w0.heap.size) (h_f : ISl (Rp.int .i64) A w0 p_f c_f f) {K : Str → Prop} (H : enumerate_text f K) :
    CallsV Try.prog 61 #[.slice p_f f.length c_f] w0 (fun v w' => ∃ (r0 : Str), v = .string (gstr r0) ∧ Same w0 w' ∧ r0.length ≤ mx ∧ K r0) := by
 refine CallsV.of (l := [.slice p_f f.length c_f]) Try.func61 rfl Try.ntmps61 rfl ?_
 have hO := Owns.start hA
 have hB := Fr.refl (bl []) w0
 unfold enumerate_text at H
 refine zq (zr (za rfl (zn (zq (zr ?_)))))
 refine zm rfl (zo (op_len Try.underlying26 rfl) ?_)
 replace h_f := h_f.ch (Ch.start A w0)
 replace H := H h_f.bd
 obtain ⟨h8, H⟩ := H
 obtain ⟨h9, H⟩ := H
 have hobt := omake (n := (f.length : Int)) (r := Rp.int .u8) (d := (0 : Int)) Try.underlying84 ti5 (fun _ _ => rfl) rfl hO h8 h9 (by decide)
 obtain ⟨w1, p2, vs3, m8, hE5, hs6, Ab⟩ := hobt
 refine zg (Ab rfl rfl) ?_
 replace hO := m8.own
 refine za rfl (zn (zq (zq (zr (zm rfl ?_)))))
 refine zo (op_len Try.underlying26 rfl) (zm rfl (zn (zb ?_)))
 replace h_f := h_f.ch m8.ch
 replace hB := hB.trans m8.fr
 refine Go1.loopW (S := Nat × List Int) (fun s σ w => match s with | (k1_12, b1_13) => ∃ (lb : List Value), agrees σ [(3, .slice p2 f.length f.length), (9, .slice p_f f.length c_f), (10, .int .i64 (f.length : Int)), (11, .int .i64 (k1_12 : Int))] ∧ (fun Z0 => Owns w0.heap.size w Z0 A ∧ Els (Rp.int .u8) (bl Z0 ++ A) w lb b1_13 ∧ ISl (Rp.int .i64) (bl Z0 ++ A) w p_f c_f f ∧ Fr (bl []) w0 (bl Z0) w) [.row 5 1 p2 f.length f.length lb]) H ⟨vs3, ⟨rfl, rfl, rfl, rfl, trivial⟩, hO, hE5, h_f, hB⟩ ?_
 intro X1
 refine prE fun k1_12 => fun b1_13 => ?_
 intro H hX1 σ w11
 refine exE fun lb => andE fun hag => andE fun hO => andE fun cG => andE fun h_f => fun hB => ?_
 dsimp only at H
 refine Go1.keep [(3, .slice p2 f.length f.length), (9, .slice p_f f.length c_f), (10, .int .i64 (f.length : Int)), (11, .int .i64 (k1_12 : Int))] hag ?_
 refine zq (zr ?_)
 by_cases h16 : (k1_12 : Int) < (f.length : Int)
 ·replace H := ifp h16 H
  refine zo (fun w => opB (op_lss rfl rfl w) (decide_eq_true h16)) (zn (zq (zt rfl rfl (zk (zq ?_)))))
  refine zb (zq (zr (zm rfl ?_)))
  obtain ⟨h17, H⟩ := H
  obtain ⟨h18, H⟩ := H
  refine zo (op_index Try.underlying26 ti3 rfl rfl h17 h18 (h_f.some_ h17 h18)) (zs (ldInt h_f h17 h18 Try.underlying3 rfl rfl) (za rfl (za rfl (zn (zr ?_)))))
  refine zm rfl (zm rfl (zm rfl (zo (op_conv Try.underlying3 Try.underlying5 rfl rfl) ?_)))
  obtain ⟨h19, H⟩ := H
  obtain ⟨h20, H⟩ := H
  refine zo (op_index Try.underlying84 ti5 rfl rfl h19 (ltn (cG.neq hO 0 rfl) h20) (cG.psome hO 0 rfl h19 h20)) ?_
  have hobt := ost (r := Rp.int .u8) rfl 0 hO rfl cG h19 h20 (v := .int .u8 (IntKind.u8.wrap (ix f (k1_12 : Int)))) (u := (IntKind.u8.wrap (ix f (k1_12 : Int)))) rfl rfl
  obtain ⟨w21, Iz, mX, dM, Ei⟩ := hobt
  refine zg (Ei Try.underlying5 rfl ti5 (by exact rfl) (by exact rfl)) ?_
  replace hO := mX.own
  refine zn ?_
  refine Go1.inBlock ?_
  refine zr ?_
  replace h_f := h_f.ch mX.ch
  refine zo (op_add rfl rfl (wrap_i64 (natbd h16 h_f.bd))) (zm rfl (zn ?_))
  replace hB := hB.trans mX.fr
  exact hX1 _ H _ _ ⟨Iz, ⟨rfl, rfl, rfl, rfl, trivial⟩, hO, dM, h_f, hB⟩
 replace H := ifn h16 H
 refine zo (fun w => opB (op_lss rfl rfl w) (decide_eq_false h16)) (zn (zq (zf rfl rfl ?_)))
 refine Go1.exit rfl ?_
 refine zq (zr (zm rfl ?_))
 have hle26 := byt_le cG.bd
 refine zs (oldBytes 0 hO rfl cG Try.underlying84 Try.underlying5 Try.underlying9 rfl) (za rfl (zn ?_))
 refine Go1.ret1 Try.func61 rfl ?_
 exact ⟨byt b1_13, rfl, hB.same, hle26, H⟩
theorem body65 : Body Try.prog 65 := ⟨Try.f65, Try.func65, rfl, by kernel_rfl⟩
theorem body49 : Body Try.prog 49 := ⟨Try.f49, Try.func49, rfl, by kernel_rfl⟩
theorem walk_enumerate_begin {A : List Nat} {w0 : World} {nr : Option Addr} {ns : Nat} {a0 : List (List Int)} {a1 : Bool} (hA : ∀ b ∈ A, b < w0.heap.size) (ba : ISl (Rp.sl (Rp.int .i64)) A w0 nr ns a0) {K : Option run → Int → Prop} (H : enumerate_begin a0 a1 K) :
    CallsV Try.prog 49 #[.slice nr a0.length ns, .bool a1] w0 (fun v w' => (∃ (r1 : Int), v = .tuple #[.pointer none, .int .i64 r1] ∧ Same w0 w' ∧ K none r1) ∨ (∃ (q : run), ∃ (r1 : Int), ∃ (b_q : Nat), ∃ (ct : Nat), ∃ (cu : Option Addr), ∃ (cv : Nat), ∃ (dw : List Value), ∃ (cf : Nat), ∃ (cg : Option Addr), ∃ (ci : Nat), ∃ (de : List Value), ∃ (bX : Nat), ∃ (bY : Option Addr), ∃ (b5 : Nat), ∃ (cV : List Value), ∃ (cw : Nat), ∃ (cx : Option Addr), ∃ (cy : Nat), ∃ (dx : List Value), ∃ (cj : Nat), ∃ (ck : Option Addr), ∃ (co : Nat), ∃ (dg : List Value), ∃ (cp : Nat), ∃ (cq : Option Addr), ∃ (cr : Nat), ∃ (dh : List Value), ∃ (d5 : Nat), ∃ (cX : Nat), ∃ (cY : Option Addr), ∃ (c5 : Nat), ∃ (fd : List Value), ∃ (cH : Nat), ∃ (cI : Option Addr), ∃ (cJ : Nat), ∃ (eB : List Value), ∃ (cK : Nat), ∃ (cL : Option Addr), ∃ (cM : Nat), ∃ (eC : List Value), v = .tuple #[.pointer (some ⟨b_q, 0, none⟩), .int .i64 r1] ∧ Same w0 w' ∧ (fun Z0 => Owns w0.heap.size w' Z0 A ∧ Els (Rp.sl (Rp.int .i64)) (bl Z0 ++ A) w' dw q.Enum.Gens ∧ Els (Rp.sl (Rp.int .i64)) (bl Z0 ++ A) w' de q.Enum.Elems ∧ Els (Rp.int .i64) (bl Z0 ++ A) w' cV q.Enum.Prefix ∧ Els (Rp.int .i64) (bl Z0 ++ A) w' dx q.Enum.Last ∧ Els (Rp.sl (Rp.int .i64)) (bl Z0 ++ A) w' dg q.Enum.Right ∧ Els (rpRule) (bl Z0 ++ A) w' dh q.Enum.Rules ∧ Els (Rp.str) (bl Z0 ++ A) w' fd q.words ∧ Els (Rp.int .i64) (bl Z0 ++ A) w' eB q.behind ∧ Els (Rp.int .i64) (bl Z0 ++ A) w' eC q.single ∧ K (some q) r1) [.blk b_q (.cells #[.int .i64 q.Enum.Points, .bool q.Enum.Monoid, .slice cu ct cv, .slice cg cf ci, .slice bY bX b5, .slice cx cw cy, .slice ck cj co, .slice cq cp cr, .int .i64 q.Enum.Done, .map (some d5), .slice cY cX c5, .slice cI cH cJ, .slice cL cK cM] 72 (0, 0)), .row 26 1 cu ct cv dw, .row 26 1 cg cf ci de, .row 3 1 bY bX b5 cV, .row 3 1 cx cw cy dx, .row 26 1 ck cj co dg, .row 39 2 cq cp cr dh, .row 9 1 cY cX c5 fd, .row 3 1 cI cH cJ eB, .row 3 1 cL cK cM eC, .any (mapE (fun a : List UInt8 => Value.string (gstr a)) (fun a : Int => Value.int .i64 a) d5 q.number)])) := by
 refine CallsV.of (l := [.slice nr a0.length ns, .bool a1]) Try.func49 rfl Try.ntmps49 rfl ?_
 have hO := Owns.start hA
 have hB := Fr.refl (bl []) w0
 unfold enumerate_begin at H
 refine zq (zr (za rfl (za rfl (zn (zq ?_)))))
 refine zq (zr (zm rfl (zo (op_len Try.underlying22 rfl) ?_)))
 replace ba := ba.ch (Ch.start A w0)
 replace H := H ba.bd
 by_cases h1 : (a0.length : Int) = (0 : Int)
 ·replace H := ifp h1 H
  refine zo (fun w => opB (op_eql rfl rfl w) (decide_eq_true h1)) (zm rfl (zp (zp (zp (zo (op_pickT rfl rfl rfl) ?_)))))
  refine zn (zt rfl rfl (zq (zr (za rfl (za rfl ?_)))))
  refine zn ?_
  refine Go1.ret2 Try.func49 rfl ?_
  exact Or.inl ⟨((1 : Int)), rfl, hB.same, H⟩
 replace H := ifn h1 H
 refine zo (fun w => opB (op_eql rfl rfl w) (decide_eq_false h1)) (zm rfl (zm rfl (zo (op_len Try.underlying22 rfl) ?_)))
 by_cases h2 : (6 : Int) < (a0.length : Int)
 ·replace H := ifp h2 H
  refine zo (fun w => opB (op_gtr rfl rfl w) (decide_eq_true h2)) (zo (op_pickF rfl rfl rfl) (zn (zt rfl rfl (zq (zr ?_)))))
  refine za rfl (za rfl (zn ?_))
  refine Go1.ret2 Try.func49 rfl ?_
  exact Or.inl ⟨((1 : Int)), rfl, hB.same, H⟩
 replace H := ifn h2 H
 refine zo (fun w => opB (op_gtr rfl rfl w) (decide_eq_false h2)) (zo (op_pickF rfl rfl rfl) (zn (zf rfl rfl (zk (zq ?_)))))
 refine Go1.cut [(0, .slice nr a0.length ns), (1, .bool a1)] ⟨rfl, rfl, trivial⟩ ?_
 intro σ _
 refine zr ?_
 have hobt := omakeMap (fun a : List UInt8 => Value.string (gstr a)) (fun a : Int => Value.int .i64 a) hO
 obtain ⟨w3, B4, IA, hs6, Ab⟩ := hobt
 refine GoR.op Ab rfl rfl ?_
 replace hO := IA.own
 refine zo (op_build Try.underlying72 ti72 (pl := [(0, 9), (9, 1), (10, 1), (11, 1), (12, 1)]) (vs := [(1, .map (some B4))]) (cs := #[.int .i64 (0 : Int), .bool false, .slice none 0 0, .slice none 0 0, .slice none 0 0, .slice none 0 0, .slice none 0 0, .slice none 0 0, .int .i64 (0 : Int), .map (some B4), .slice none 0 0, .slice none 0 0, .slice none 0 0]) (by kernel_rfl) rfl (by kernel_rfl)) ?_
 have hobt := obox (t := 72) (v := .agg #[.int .i64 (0 : Int), .bool false, .slice none 0 0, .slice none 0 0, .slice none 0 0, .slice none 0 0, .slice none 0 0, .slice none 0 0, .int .i64 (0 : Int), .map (some B4), .slice none 0 0, .slice none 0 0, .slice none 0 0]) (cs := #[.int .i64 (0 : Int), .bool false, .slice none 0 0, .slice none 0 0, .slice none 0 0, .slice none 0 0, .slice none 0 0, .slice none 0 0, .int .i64 (0 : Int), .map (some B4), .slice none 0 0, .slice none 0 0, .slice none 0 0]) hO rfl
 obtain ⟨w9, B10, Gu, IB, Gv⟩ := hobt
 refine zg (Gv rfl) ?_
 replace hO := Gu.own
 refine za rfl (zn (zq (zr (zm rfl (zm rfl ?_)))))
 refine zm rfl ?_
 obtain ⟨h15, H⟩ := H
 obtain ⟨h16, H⟩ := H
 replace ba := (ba.ch IA.ch).ch Gu.ch
 refine zo (op_index Try.underlying22 ti26 rfl rfl h15 h16 (ba.some_ h15 h16)) ?_
 have hobt := ldSl ba h15 h16
 obtain ⟨p17, c18, DR, TV⟩ := hobt
 refine zs (TV Try.underlying26 rfl rfl) (zo (op_len Try.underlying26 rfl) ?_)
 replace H := H DR.bd
 refine zm rfl (zo (op_nilCheck rfl) (zo (op_fieldAddr Try.underlying72 rfl ti29 rfl (by decide)) (zo (op_fieldAddr Try.underlying29 rfl ti3 rfl (by decide)) ?_)))
 have hobt := oblkSt2 (v := .int .i64 ((ix a0 (0 : Int)).length : Int)) (i := 0) (cs' := #[.int .i64 ((ix a0 (0 : Int)).length : Int), .bool false, .slice none 0 0, .slice none 0 0, .slice none 0 0, .slice none 0 0, .slice none 0 0, .slice none 0 0, .int .i64 (0 : Int), .map (some B4), .slice none 0 0, .slice none 0 0, .slice none 0 0]) 0 hO rfl rfl rfl rfl
 obtain ⟨w21, eK, BJ⟩ := hobt
 refine zg (BJ Try.underlying3 rfl ti3 (by exact rfl) (by exact rfl)) ?_
 replace hO := eK.own
 refine zo (op_nilCheck rfl) (zo (op_fieldAddr Try.underlying72 rfl ti29 rfl (by decide)) (zo (op_fieldAddr Try.underlying29 rfl ti4 rfl (by decide)) ?_))
 have hobt := oblkSt2 (v := .bool a1) (i := 1) (cs' := #[.int .i64 ((ix a0 (0 : Int)).length : Int), .bool a1, .slice none 0 0, .slice none 0 0, .slice none 0 0, .slice none 0 0, .slice none 0 0, .slice none 0 0, .int .i64 (0 : Int), .map (some B4), .slice none 0 0, .slice none 0 0, .slice none 0 0]) 0 hO rfl rfl rfl rfl
 obtain ⟨w24, sT, Gw⟩ := hobt
 refine zg (Gw Try.underlying4 rfl ti4 (by exact rfl) (by exact rfl)) ?_
 replace hO := sT.own
 refine zn (zq (zq ?_))
 refine Go1.cut [(0, .slice nr a0.length ns), (1, .bool a1), (6, .pointer (some ⟨B10, 0, none⟩))] ⟨rfl, rfl, rfl, trivial⟩ ?_
 intro σ _
 refine zr (zm rfl (zo (op_len Try.underlying22 rfl) (zm rfl (zn (zb ?_)))))
 have gY := Stp.nil (e := 26) (r := 1) hO
 replace hO := gY.own
 have TW := Els.nil (Rp.sl (Rp.int .i64)) (bl (.row 26 1 none 0 0 [] :: [.blk B10 (.cells #[.int .i64 ((ix a0 (0 : Int)).length : Int), .bool a1, .slice none 0 0, .slice none 0 0, .slice none 0 0, .slice none 0 0, .slice none 0 0, .slice none 0 0, .int .i64 (0 : Int), .map (some B4), .slice none 0 0, .slice none 0 0, .slice none 0 0] 72 (0, 0)), .any (mapE (fun a : List UInt8 => Value.string (gstr a)) (fun a : Int => Value.int .i64 a) B4 (([] : List (Str × Int))))]) ++ A) w24
 have Z1 := (eK.ch.trans sT.ch).trans gY.ch
 replace ba := ba.ch Z1
 replace hB := ((((hB.trans IA.fr).trans Gu.fr).trans eK.fr).trans sT.fr).trans gY.fr
 refine Go1.loopW (S := Nat × List (List Int)) (fun s σ w => match s with | (k1_31, d_32) => ∃ (n37 : Nat), ∃ (p35 : Option Addr), ∃ (c36 : Nat), ∃ (iK : List Value), agrees σ [(1, .bool a1), (6, .pointer (some ⟨B10, 0, none⟩)), (39, .slice nr a0.length ns), (40, .int .i64 (a0.length : Int)), (41, .int .i64 (k1_31 : Int))] ∧ (fun Z0 => Owns w0.heap.size w Z0 A ∧ Els (Rp.sl (Rp.int .i64)) (bl Z0 ++ A) w iK d_32 ∧ ISl (Rp.sl (Rp.int .i64)) (bl Z0 ++ A) w nr ns a0 ∧ Fr (bl []) w0 (bl Z0) w) [.row 26 1 p35 n37 c36 iK, .blk B10 (.cells #[.int .i64 ((ix a0 (0 : Int)).length : Int), .bool a1, .slice p35 n37 c36, .slice none 0 0, .slice none 0 0, .slice none 0 0, .slice none 0 0, .slice none 0 0, .int .i64 (0 : Int), .map (some B4), .slice none 0 0, .slice none 0 0, .slice none 0 0] 72 (0, 0)), .any (mapE (fun a : List UInt8 => Value.string (gstr a)) (fun a : Int => Value.int .i64 a) B4 (([] : List (Str × Int))))]) H ⟨0, none, 0, [], ⟨rfl, rfl, rfl, rfl, rfl, trivial⟩, hO, TW, ba, hB⟩ ?_
 intro X1
 refine prE fun k1_31 => fun d_32 => ?_
 intro H hX1 σ w30
 refine exE fun n37 => exE fun p35 => exE fun c36 => exE fun iK => andE fun hag => andE fun hO => andE fun bo => andE fun ba => fun hB => ?_
 dsimp only at H
 refine Go1.keep [(1, .bool a1), (6, .pointer (some ⟨B10, 0, none⟩)), (39, .slice nr a0.length ns), (40, .int .i64 (a0.length : Int)), (41, .int .i64 (k1_31 : Int))] hag ?_
 refine zq (zr ?_)
 by_cases h38 : (k1_31 : Int) < (a0.length : Int)
 ·replace H := ifp h38 H
  refine zo (fun w => opB (op_lss rfl rfl w) (decide_eq_true h38)) (zn (zq (zt rfl rfl (zk (zq ?_)))))
  refine zb (zq (zr ?_))
  obtain ⟨h39, H⟩ := H
  obtain ⟨h40, H⟩ := H
  refine zo (op_index Try.underlying22 ti26 rfl rfl h39 h40 (ba.some_ h39 h40)) ?_
  have hobt := ldSl ba h39 h40
  obtain ⟨p41, c42, t3, TX⟩ := hobt
  refine zs (TX Try.underlying26 rfl rfl) (za rfl (zn (zq (zq (zr ?_)))))
  refine zm rfl (zo (op_len Try.underlying26 rfl) ?_)
  replace H := H t3.bd
  refine zm rfl (zo (op_nilCheck rfl) (zo (op_fieldAddr Try.underlying72 rfl ti29 rfl (by decide)) (zo (op_fieldAddr Try.underlying29 rfl ti3 rfl (by decide)) (zs (oblk (i := 0) 1 hO rfl rfl Try.underlying3 rfl rfl) ?_))))
  by_cases h45 : ((ix a0 (k1_31 : Int)).length : Int) = ((ix a0 (0 : Int)).length : Int)
  ·replace H := ifp h45 H
   refine zo (fun w => opB (op_neq rfl rfl w) (ndT h45)) (zm rfl (zm rfl ?_))
   refine GoR.call (op_call body60 rfl (walk_trans_Valid hO.lt t3 H)) rfl rfl ?_
   rintro v50 w47 ⟨r46, rfl, IC, H⟩
   have Ej := Stp.same hO IC
   replace hO := Ej.own
   cases r46
   ·replace H := ifn Bool.false_ne_true H
    refine zo (op_not rfl) (zo (op_pickF rfl rfl rfl) (zn (zt rfl rfl (zq (zr ?_)))))
    refine za rfl (za rfl (zn ?_))
    refine Go1.ret2 Try.func49 rfl ?_
    replace hB := hB.trans Ej.fr
    exact Or.inl ⟨((4 : Int)), rfl, hB.same, H⟩
   replace H := ifp rfl H
   refine zo (op_not rfl) (zo (op_pickF rfl rfl rfl) (zn (zf rfl rfl (zk ?_))))
   refine Go1.cut [(1, .bool a1), (6, .pointer (some ⟨B10, 0, none⟩)), (8, .slice p41 ((ix a0 (k1_31 : Int)).length) c42), (39, .slice nr a0.length ns), (40, .int .i64 (a0.length : Int)), (41, .int .i64 (k1_31 : Int))] ⟨rfl, rfl, rfl, rfl, rfl, rfl, trivial⟩ ?_
   intro σ _
   refine Go1.drawS 1 [(0, .pure), (1, .pure), (2, .pure), (3, .pure), (4, .pure), (5, .stable), (6, .pure), (7, .loud), (8, .loud), (9, .last), (10, .pure), (11, .pure), (12, .pure), (13, .last)] mixed (by kernel_rfl) ?_
   intro w52 TY
   have Ek := Stp.same hO TY
   replace hO := Ek.own
   refine GoQ.pure rfl (op_move rfl) rfl rfl ?_
   refine GoQ.pure rfl (op_move rfl) rfl rfl ?_
   refine GoQ.pure rfl (op_nilCheck rfl) rfl rfl ?_
   refine GoQ.pure rfl (op_fieldAddr Try.underlying72 rfl ti29 rfl (by decide)) rfl rfl ?_
   refine GoQ.pure rfl (op_fieldAddr Try.underlying29 rfl ti22 rfl (by decide)) rfl rfl ?_
   refine GoQ.stable rfl (oblk (i := 2) 1 hO rfl rfl Try.underlying22 rfl rfl) rfl rfl ?_
   refine GoQ.pure rfl (op_move rfl) rfl rfl ?_
   replace t3 := (t3.ch Ej.ch).ch Ek.ch
   refine GoQ.call rfl (op_call body64 rfl (walk_slices_Clone_int hO.lt t3 H)) (fun v w hr => by obtain ⟨_, _, _, _, _, _, hs, _, _, _⟩ := hr; assumption) rfl rfl ?_
   rintro v60 w57 ⟨r55, J4, E9, Fa, W6, rfl, T0, hN59, ID, H⟩
   have xK := Stp.more hO T0 hN59
   replace hO := xK.own
   replace ID := ID.ch (Ch.assoc _ _ _ _)
   have hobt := freeze 0 hO rfl ID
   obtain ⟨hO1, IE, BK, T1⟩ := hobt
   replace hO := hO1; clear hO1
   have hobt := obuild (r := Rp.sl (Rp.int .i64)) (n := 1) (parts := [(0, .slice E9 J4 Fa)]) (vs := [.slice E9 J4 Fa]) (xs := [r55]) rfl Try.underlying22 ti26 hO (by decide) (by kernel_rfl) (Els.cons rfl ⟨E9, Fa, congrArg some (congrArg (fun nn => Value.slice E9 nn Fa) T1), BK⟩ (Els.nil _ _ _) (by simp [mx])) rfl
   obtain ⟨w66, p67, g0, qO, T3, Oi⟩ := hobt
   refine GoQ.loud rfl (Oi rfl) T3 rfl rfl ?_
   replace hO := g0.own
   have hobt := freeze 0 hO rfl qO
   obtain ⟨hO1, Gx, FE, T4⟩ := hobt
   replace hO := hO1; clear hO1
   obtain ⟨h76, H⟩ := H
   have Z2 := ((((Ej.ch.trans Ek.ch).trans xK.ch).trans IE).trans g0.ch).trans Gx
   replace bo := bo.ch Z2
   have hobt := oapp Try.underlying22 ti26 rfl 0 hO rfl bo FE T4 h76 (by decide)
   obtain ⟨w77, p78, c79, tn, Di, IF, Oj⟩ := hobt
   refine GoQ.last rfl (Oj (by exact rfl) (by exact rfl)) rfl rfl ?_
   replace hO := Di.own
   refine GoQ.pure rfl (op_nilCheck rfl) rfl rfl ?_
   refine GoQ.pure rfl (op_fieldAddr Try.underlying72 rfl ti29 rfl (by decide)) rfl rfl ?_
   refine GoQ.pure rfl (op_fieldAddr Try.underlying29 rfl ti22 rfl (by decide)) rfl rfl ?_
   have hobt := oblkSt2 (v := .slice p78 (n37 + 1) c79) (i := 2) (cs' := #[.int .i64 ((ix a0 (0 : Int)).length : Int), .bool a1, .slice p78 (n37 + 1) c79, .slice none 0 0, .slice none 0 0, .slice none 0 0, .slice none 0 0, .slice none 0 0, .int .i64 (0 : Int), .map (some B4), .slice none 0 0, .slice none 0 0, .slice none 0 0]) 1 hO rfl rfl rfl rfl
   obtain ⟨w85, gT, Ok⟩ := hobt
   refine GoQ.last rfl (Ok Try.underlying22 rfl ti22 (by exact rfl) (by exact rfl)) rfl rfl ?_
   replace hO := gT.own
   refine GoQ.nil ?_
   refine Go1.inBlock ?_
   refine zr ?_
   replace ba := ((ba.ch Z2).ch Di.ch).ch gT.ch
   refine zo (op_add rfl rfl (wrap_i64 (natbd h38 ba.bd))) (zm rfl (zn ?_))
   replace IF := IF.ch gT.ch
   replace hB := (((((((hB.trans Ej.fr).trans Ek.fr).trans xK.fr).trans (Owns.dropFr _ _ 0)).trans g0.fr).trans (Owns.dropFr _ _ 0)).trans Di.fr).trans gT.fr
   exact hX1 _ H _ _ ⟨n37 + 1, p78, c79, tn, ⟨rfl, rfl, rfl, rfl, rfl, trivial⟩, hO, IF, ba, hB⟩
  replace H := ifn h45 H
  refine zo (fun w => opB (op_neq rfl rfl w) (ndF h45)) (zm rfl (zp (zp (zp (zo (op_pickT rfl rfl rfl) ?_)))))
  refine zn (zt rfl rfl (zq ?_))
  refine Go1.cut [] trivial ?_
  intro σ _
  refine zr (za rfl (za rfl (zn ?_)))
  refine Go1.ret2 Try.func49 rfl ?_
  exact Or.inl ⟨((4 : Int)), rfl, hB.same, H⟩
 replace H := ifn h38 H
 refine zo (fun w => opB (op_lss rfl rfl w) (decide_eq_false h38)) (zn (zq (zf rfl rfl ?_)))
 refine Go1.exit rfl ?_
 refine zq (zr (za rfl (zn (zq (zq ?_)))))
 refine zr (zm rfl (zn ?_))
 cases a1
 ·replace H := ifn Bool.false_ne_true H
  refine zf rfl rfl (zk (zq (zq (zr (zm rfl ?_)))))
  refine zo (op_nilCheck rfl) (zo (op_fieldAddr Try.underlying72 rfl ti29 rfl (by decide)) (zo (op_fieldAddr Try.underlying29 rfl ti22 rfl (by decide)) (zs (oblk (i := 2) 1 hO rfl rfl Try.underlying22 rfl rfl) (zo (op_lenN Try.underlying22 rfl (bo.neq hO 0 rfl)) (zm rfl ?_)))))
  refine zn (zb ?_)
  have Fb := Stp.nil (e := 26) (r := 1) hO
  replace hO := Fb.own
  have yr := Els.nil (Rp.sl (Rp.int .i64)) (bl (.row 26 1 none 0 0 [] :: [.row 26 1 p35 n37 c36 iK, .blk B10 (.cells #[.int .i64 ((ix a0 (0 : Int)).length : Int), .bool false, .slice p35 n37 c36, .slice none 0 0, .slice none 0 0, .slice none 0 0, .slice none 0 0, .slice none 0 0, .int .i64 (0 : Int), .map (some B4), .slice none 0 0, .slice none 0 0, .slice none 0 0] 72 (0, 0)), .any (mapE (fun a : List UInt8 => Value.string (gstr a)) (fun a : Int => Value.int .i64 a) B4 (([] : List (Str × Int))))]) ++ A) w30
  have pT := Stp.nil (e := 3) (r := 1) hO
  replace hO := pT.own
  have nt := Els.nil (Rp.int .i64) (bl (.row 3 1 none 0 0 [] :: [.row 26 1 none 0 0 [], .row 26 1 p35 n37 c36 iK, .blk B10 (.cells #[.int .i64 ((ix a0 (0 : Int)).length : Int), .bool false, .slice p35 n37 c36, .slice none 0 0, .slice none 0 0, .slice none 0 0, .slice none 0 0, .slice none 0 0, .int .i64 (0 : Int), .map (some B4), .slice none 0 0, .slice none 0 0, .slice none 0 0] 72 (0, 0)), .any (mapE (fun a : List UInt8 => Value.string (gstr a)) (fun a : Int => Value.int .i64 a) B4 (([] : List (Str × Int))))]) ++ A) w30
  have nu := Stp.nil (e := 3) (r := 1) hO
  replace hO := nu.own
  have BL := Els.nil (Rp.int .i64) (bl (.row 3 1 none 0 0 [] :: [.row 3 1 none 0 0 [], .row 26 1 none 0 0 [], .row 26 1 p35 n37 c36 iK, .blk B10 (.cells #[.int .i64 ((ix a0 (0 : Int)).length : Int), .bool false, .slice p35 n37 c36, .slice none 0 0, .slice none 0 0, .slice none 0 0, .slice none 0 0, .slice none 0 0, .int .i64 (0 : Int), .map (some B4), .slice none 0 0, .slice none 0 0, .slice none 0 0] 72 (0, 0)), .any (mapE (fun a : List UInt8 => Value.string (gstr a)) (fun a : Int => Value.int .i64 a) B4 (([] : List (Str × Int))))]) ++ A) w30
  have BM := Stp.nil (e := 39) (r := 2) hO
  replace hO := BM.own
  have DS := Els.nil (rpRule) (bl (.row 39 2 none 0 0 [] :: [.row 3 1 none 0 0 [], .row 3 1 none 0 0 [], .row 26 1 none 0 0 [], .row 26 1 p35 n37 c36 iK, .blk B10 (.cells #[.int .i64 ((ix a0 (0 : Int)).length : Int), .bool false, .slice p35 n37 c36, .slice none 0 0, .slice none 0 0, .slice none 0 0, .slice none 0 0, .slice none 0 0, .int .i64 (0 : Int), .map (some B4), .slice none 0 0, .slice none 0 0, .slice none 0 0] 72 (0, 0)), .any (mapE (fun a : List UInt8 => Value.string (gstr a)) (fun a : Int => Value.int .i64 a) B4 (([] : List (Str × Int))))]) ++ A) w30
  have gO := Stp.nil (e := 9) (r := 1) hO
  replace hO := gO.own
  have El := Els.nil (Rp.str) (bl (.row 9 1 none 0 0 [] :: [.row 39 2 none 0 0 [], .row 3 1 none 0 0 [], .row 3 1 none 0 0 [], .row 26 1 none 0 0 [], .row 26 1 p35 n37 c36 iK, .blk B10 (.cells #[.int .i64 ((ix a0 (0 : Int)).length : Int), .bool false, .slice p35 n37 c36, .slice none 0 0, .slice none 0 0, .slice none 0 0, .slice none 0 0, .slice none 0 0, .int .i64 (0 : Int), .map (some B4), .slice none 0 0, .slice none 0 0, .slice none 0 0] 72 (0, 0)), .any (mapE (fun a : List UInt8 => Value.string (gstr a)) (fun a : Int => Value.int .i64 a) B4 (([] : List (Str × Int))))]) ++ A) w30
  have lL := Stp.nil (e := 3) (r := 1) hO
  replace hO := lL.own
  have Gy := Els.nil (Rp.int .i64) (bl (.row 3 1 none 0 0 [] :: [.row 9 1 none 0 0 [], .row 39 2 none 0 0 [], .row 3 1 none 0 0 [], .row 3 1 none 0 0 [], .row 26 1 none 0 0 [], .row 26 1 p35 n37 c36 iK, .blk B10 (.cells #[.int .i64 ((ix a0 (0 : Int)).length : Int), .bool false, .slice p35 n37 c36, .slice none 0 0, .slice none 0 0, .slice none 0 0, .slice none 0 0, .slice none 0 0, .int .i64 (0 : Int), .map (some B4), .slice none 0 0, .slice none 0 0, .slice none 0 0] 72 (0, 0)), .any (mapE (fun a : List UInt8 => Value.string (gstr a)) (fun a : Int => Value.int .i64 a) B4 (([] : List (Str × Int))))]) ++ A) w30
  have wC := Stp.nil (e := 3) (r := 1) hO
  replace hO := wC.own
  have Ol := Els.nil (Rp.int .i64) (bl (.row 3 1 none 0 0 [] :: [.row 3 1 none 0 0 [], .row 9 1 none 0 0 [], .row 39 2 none 0 0 [], .row 3 1 none 0 0 [], .row 3 1 none 0 0 [], .row 26 1 none 0 0 [], .row 26 1 p35 n37 c36 iK, .blk B10 (.cells #[.int .i64 ((ix a0 (0 : Int)).length : Int), .bool false, .slice p35 n37 c36, .slice none 0 0, .slice none 0 0, .slice none 0 0, .slice none 0 0, .slice none 0 0, .int .i64 (0 : Int), .map (some B4), .slice none 0 0, .slice none 0 0, .slice none 0 0] 72 (0, 0)), .any (mapE (fun a : List UInt8 => Value.string (gstr a)) (fun a : Int => Value.int .i64 a) B4 (([] : List (Str × Int))))]) ++ A) w30
  replace Gy := Gy.ch wC.ch
  replace El := (El.ch lL.ch).ch wC.ch
  have Z3 := (gO.ch.trans lL.ch).trans wC.ch
  replace DS := DS.ch Z3
  have Z4 := ((BM.ch.trans gO.ch).trans lL.ch).trans wC.ch
  replace BL := BL.ch Z4
  have Z5 := (((nu.ch.trans BM.ch).trans gO.ch).trans lL.ch).trans wC.ch
  replace nt := nt.ch Z5
  have Z6 := ((((pT.ch.trans nu.ch).trans BM.ch).trans gO.ch).trans lL.ch).trans wC.ch
  replace yr := yr.ch Z6
  have Z7 := (((((Fb.ch.trans pT.ch).trans nu.ch).trans BM.ch).trans gO.ch).trans lL.ch).trans wC.ch
  replace bo := bo.ch Z7
  replace hB := ((((((hB.trans Fb.fr).trans pT.fr).trans nu.fr).trans BM.fr).trans gO.fr).trans lL.fr).trans wC.fr
  refine Go1.loopW (S := Nat × List Int × List Int × List Str × List Rule × List Int × List Int × List (List Int) × (List (Str × Int))) (fun s σ w => match s with | (k2_110, d_111, d_117, d_123, d_129, d_135, d_141, d_147, m2_153) => ∃ (kS : Nat), ∃ (m9 : Option Addr), ∃ (na : Nat), ∃ (vn : List Value), ∃ (ld : Nat), ∃ (lV : Option Addr), ∃ (mw : Nat), ∃ (t4 : List Value), ∃ (lg : Nat), ∃ (nb : Option Addr), ∃ (nc : Nat), ∃ (t5 : List Value), ∃ (lh : Nat), ∃ (my : Option Addr), ∃ (mz : Nat), ∃ (t6 : List Value), ∃ (li : Nat), ∃ (nv : Option Addr), ∃ (nw : Nat), ∃ (t7 : List Value), ∃ (lj : Nat), ∃ (oo : Option Addr), ∃ (oq : Nat), ∃ (t8 : List Value), ∃ (lk : Nat), ∃ (oY : Option Addr), ∃ (o0 : Nat), ∃ (t9 : List Value), agrees σ [(6, .pointer (some ⟨B10, 0, none⟩)), (9, .int .i64 (-1 : Int)), (85, .slice p35 n37 c36), (86, .int .i64 (d_32.length : Int)), (87, .int .i64 (k2_110 : Int))] ∧ (fun Z0 => Owns w0.heap.size w Z0 A ∧ Els (Rp.int .i64) (bl Z0 ++ A) w vn d_111 ∧ Els (Rp.int .i64) (bl Z0 ++ A) w t4 d_117 ∧ Els (Rp.str) (bl Z0 ++ A) w t5 d_123 ∧ Els (rpRule) (bl Z0 ++ A) w t6 d_129 ∧ Els (Rp.int .i64) (bl Z0 ++ A) w t7 d_135 ∧ Els (Rp.int .i64) (bl Z0 ++ A) w t8 d_141 ∧ Els (Rp.sl (Rp.int .i64)) (bl Z0 ++ A) w t9 d_147 ∧ Els (Rp.sl (Rp.int .i64)) (bl Z0 ++ A) w iK d_32 ∧ Fr (bl []) w0 (bl Z0) w) [.row 3 1 m9 kS na vn, .row 3 1 lV ld mw t4, .row 9 1 nb lg nc t5, .row 39 2 my lh mz t6, .row 3 1 nv li nw t7, .row 3 1 oo lj oq t8, .row 26 1 oY lk o0 t9, .row 26 1 p35 n37 c36 iK, .blk B10 (.cells #[.int .i64 ((ix a0 (0 : Int)).length : Int), .bool false, .slice p35 n37 c36, .slice oY lk o0, .slice oo lj oq, .slice nv li nw, .slice none 0 0, .slice my lh mz, .int .i64 (0 : Int), .map (some B4), .slice nb lg nc, .slice lV ld mw, .slice m9 kS na] 72 (0, 0)), .any (mapE (fun a : List UInt8 => Value.string (gstr a)) (fun a : Int => Value.int .i64 a) B4 m2_153)]) H ⟨0, none, 0, [], 0, none, 0, [], 0, none, 0, [], 0, none, 0, [], 0, none, 0, [], 0, none, 0, [], 0, none, 0, [], ⟨rfl, rfl, rfl, rfl, rfl, trivial⟩, hO, Ol, Gy, El, DS, BL, nt, yr, bo, hB⟩ ?_
  intro X2
  refine prE fun k2_110 => prE fun d_111 => prE fun d_117 => prE fun d_123 => prE fun d_129 => prE fun d_135 => prE fun d_141 => prE fun d_147 => fun m2_153 => ?_
  intro H hX2 σ T5
  refine exE fun kS => exE fun m9 => exE fun na => exE fun vn => exE fun ld => exE fun lV => exE fun mw => exE fun t4 => exE fun lg => exE fun nb => exE fun nc => exE fun t5 => exE fun lh => exE fun my => exE fun mz => exE fun t6 => exE fun li => exE fun nv => exE fun nw => exE fun t7 => exE fun lj => exE fun oo => exE fun oq => exE fun t8 => exE fun lk => exE fun oY => exE fun o0 => exE fun t9 => andE fun hag => andE fun hO => andE fun dA => andE fun dF => andE fun dN => andE fun dG => andE fun eF => andE fun fe => andE fun fA => andE fun bo => fun hB => ?_
  dsimp only at H
  refine Go1.keep [(6, .pointer (some ⟨B10, 0, none⟩)), (9, .int .i64 (-1 : Int)), (85, .slice p35 n37 c36), (86, .int .i64 (d_32.length : Int)), (87, .int .i64 (k2_110 : Int))] hag ?_
  refine zq (zr ?_)
  by_cases AY : (k2_110 : Int) < (d_32.length : Int)
  ·replace H := ifp AY H
   refine zo (fun w => opB (op_lss rfl rfl w) (decide_eq_true AY)) (zn (zq (zt rfl rfl (zk (zq ?_)))))
   refine zb (zq (zr (zm rfl ?_)))
   obtain ⟨DT, H⟩ := H
   obtain ⟨DU, H⟩ := H
   refine zo (op_index Try.underlying22 ti26 rfl rfl DT (ltn (bo.neq hO 7 rfl) DU) (bo.psome hO 7 rfl DT DU)) ?_
   have hobt := oldSl 7 hO rfl bo DT DU
   obtain ⟨KK, KL, dQ, Om⟩ := hobt
   refine zs (Om Try.underlying26 rfl rfl) (za rfl (za rfl (zn (zq (zr ?_)))))
   refine zm rfl ?_
   obtain ⟨T6, H⟩ := H
   refine zo (op_add rfl rfl (wrap_i64 T6)) (zo (op_conv Try.underlying3 Try.underlying21 rfl rfl) ?_)
   obtain ⟨zI, H⟩ := H
   obtain ⟨FF, H⟩ := H
   refine zo (op_convRS Try.underlying21 Try.underlying9 rfl zI FF) (za rfl (zn (zq ?_)))
   refine Go1.drawS 0 [(0, .pure), (1, .pure), (2, .pure), (3, .stable), (4, .pure), (5, .loud), (6, .stable), (7, .pure), (8, .pure), (9, .pure), (10, .pure), (11, .pure)] mixed (by kernel_rfl) ?_
   intro T7 Gz
   have kB := Stp.same hO Gz
   replace hO := kB.own
   refine GoQ.pure rfl (op_move rfl) rfl rfl ?_
   refine GoQ.pure rfl (op_nilCheck rfl) rfl rfl ?_
   refine GoQ.pure rfl (op_fieldAddr Try.underlying72 rfl ti69 rfl (by decide)) rfl rfl ?_
   refine GoQ.stable rfl (oblk (i := 9) 8 hO rfl rfl Try.underlying69 rfl rfl) rfl rfl ?_
   refine GoQ.pure rfl (op_move rfl) rfl rfl ?_
   replace dQ := dQ.ch kB.ch
   refine GoQ.call rfl (op_call body61 rfl (walk_enumerate_text hO.lt dQ H)) (fun v w hr => by obtain ⟨_, _, hs, _, _⟩ := hr; assumption) rfl rfl ?_
   rintro T8 KM ⟨r167, rfl, GA, WS, H⟩
   have gE := Stp.same hO GA
   replace hO := gE.own
   by_cases C0 : mhas m2_153 r167 = true
   ·replace H := ifp C0 H
    refine GoQ.stable rfl (olookT (a := r167) (MK.str Try.underlying9) 9 hO rfl Try.underlying69 rfl rfl C0) rfl rfl ?_
    refine GoQ.pure rfl (op_move rfl) rfl rfl ?_
    refine GoQ.pure rfl (op_extract rfl rfl) rfl rfl ?_
    refine GoQ.pure rfl (op_extract rfl rfl) rfl rfl ?_
    refine GoQ.pure rfl (op_assign rfl) rfl rfl ?_
    refine GoQ.pure rfl (op_assign rfl) rfl rfl ?_
    refine GoQ.nil ?_
    refine zq (zq ?_)
    refine Go1.cut [(6, .pointer (some ⟨B10, 0, none⟩)), (9, .int .i64 (-1 : Int)), (10, .int .i64 (k2_110 : Int)), (11, .slice KK ((ix d_32 (k2_110 : Int)).length) KL), (12, .string (gstr (chr (IntKind.i32.wrap ((97 : Int) + (k2_110 : Int)))))), (13, .int .i64 (mgt m2_153 r167)), (14, .bool true), (85, .slice p35 n37 c36), (86, .int .i64 (d_32.length : Int)), (87, .int .i64 (k2_110 : Int))] ⟨rfl, rfl, rfl, rfl, rfl, rfl, rfl, rfl, rfl, rfl, trivial⟩ ?_
    intro σ _
    refine zr (zm rfl (zn (zt rfl rfl ?_)))
    refine Go1.drawS 5 [(0, .pure), (1, .pure), (2, .pure), (3, .pure), (4, .pure), (5, .stable), (6, .pure), (7, .pure), (8, .pure), (9, .pure), (10, .stable), (11, .pure), (12, .pure), (13, .stable), (14, .pure), (15, .loud), (16, .last), (17, .pure), (18, .pure), (19, .pure), (20, .last)] mixed (by kernel_rfl) ?_
    intro T9 GB
    have vN := Stp.same hO GB
    replace hO := vN.own
    refine GoQ.pure rfl (op_move rfl) rfl rfl ?_
    refine GoQ.pure rfl (op_move rfl) rfl rfl ?_
    refine GoQ.pure rfl (op_nilCheck rfl) rfl rfl ?_
    refine GoQ.pure rfl (op_fieldAddr Try.underlying72 rfl ti29 rfl (by decide)) rfl rfl ?_
    refine GoQ.pure rfl (op_fieldAddr Try.underlying29 rfl ti27 rfl (by decide)) rfl rfl ?_
    refine GoQ.stable rfl (oblk (i := 7) 8 hO rfl rfl Try.underlying27 rfl rfl) rfl rfl ?_
    refine GoQ.pure rfl (op_move rfl) rfl rfl ?_
    refine GoQ.pure rfl (op_move rfl) rfl rfl ?_
    refine GoQ.pure rfl (op_nilCheck rfl) rfl rfl ?_
    refine GoQ.pure rfl (op_fieldAddr Try.underlying72 rfl ti70 rfl (by decide)) rfl rfl ?_
    refine GoQ.stable rfl (oblk (i := 10) 8 hO rfl rfl Try.underlying70 rfl rfl) rfl rfl ?_
    refine GoQ.pure rfl (op_move rfl) rfl rfl ?_
    obtain ⟨xJ, H⟩ := H
    obtain ⟨CW, H⟩ := H
    have Z8 := (kB.ch.trans gE.ch).trans vN.ch
    replace dN := dN.ch Z8
    refine GoQ.pure rfl (op_index Try.underlying70 ti9 rfl rfl xJ (ltn (dN.neq hO 2 rfl) CW) (dN.psome hO 2 rfl xJ CW)) rfl rfl ?_
    refine GoQ.stable rfl (oldStr 2 hO rfl dN xJ CW Try.underlying9 rfl rfl) rfl rfl ?_
    have hle179 := Els.str_le dN xJ CW
    refine GoQ.pure rfl (op_build Try.underlying39 ti39 (pl := [(0, 1), (1, 1)]) (vs := [(0, .string (gstr (chr (IntKind.i32.wrap ((97 : Int) + (k2_110 : Int)))))), (1, .string (gstr (ix d_123 (mgt m2_153 r167))))]) (cs := #[.string (gstr (chr (IntKind.i32.wrap ((97 : Int) + (k2_110 : Int))))), .string (gstr (ix d_123 (mgt m2_153 r167)))]) (by kernel_rfl) rfl (by kernel_rfl)) rfl rfl ?_
    have hobt := obuildN (r := rpRule) (n := 1) (parts := [(0, .agg #[.string (gstr (chr (IntKind.i32.wrap ((97 : Int) + (k2_110 : Int))))), .string (gstr (ix d_123 (mgt m2_153 r167)))])]) (vs := [.string (gstr (chr (IntKind.i32.wrap ((97 : Int) + (k2_110 : Int))))), .string (gstr (ix d_123 (mgt m2_153 r167)))]) (xs := [(⟨chr (IntKind.i32.wrap ((97 : Int) + (k2_110 : Int))), ix d_123 (mgt m2_153 r167)⟩ : Rule)]) Try.underlying27 ti39 hO (by decide) (by decide) (by kernel_rfl) (Els.flat1 (⟨chr (IntKind.i32.wrap ((97 : Int) + (k2_110 : Int))), ix d_123 (mgt m2_153 r167)⟩ : Rule) ⟨(chr_le _), hle179⟩) rfl
    obtain ⟨IG, Yi, vO, On, Oo, KN⟩ := hobt
    refine GoQ.loud rfl (KN rfl) Oo rfl rfl ?_
    replace hO := vO.own
    have hobt := freeze 0 hO rfl On
    obtain ⟨hO1, yA, vo, GC⟩ := hobt
    dsimp only [eS, eZ] at hO1 yA vo
    replace hB := ((((hB.trans kB.fr).trans gE.fr).trans vN.fr).trans vO.fr).trans (Owns.dropFr _ _ 0)
    dsimp only [eS, eZ] at hB
    replace hO := hO1; clear hO1
    obtain ⟨Ig, H⟩ := H
    replace dG := ((dG.ch Z8).ch vO.ch).ch yA
    have hobt := oapp Try.underlying27 ti39 rfl 3 hO rfl dG vo GC Ig (by decide)
    obtain ⟨KO, GD, GE, Oq, i9, wT, KP⟩ := hobt
    dsimp only [sS, sZ] at i9 wT
    refine GoQ.last rfl (KP (by exact rfl) (by exact rfl)) rfl rfl ?_
    replace hO := i9.own
    refine GoQ.pure rfl (op_nilCheck rfl) rfl rfl ?_
    refine GoQ.pure rfl (op_fieldAddr Try.underlying72 rfl ti29 rfl (by decide)) rfl rfl ?_
    refine GoQ.pure rfl (op_fieldAddr Try.underlying29 rfl ti27 rfl (by decide)) rfl rfl ?_
    have hobt := oblkSt2 (v := .slice GD (lh + 1) GE) (i := 7) (cs' := #[.int .i64 ((ix a0 (0 : Int)).length : Int), .bool false, .slice p35 n37 c36, .slice oY lk o0, .slice oo lj oq, .slice nv li nw, .slice none 0 0, .slice GD (lh + 1) GE, .int .i64 (0 : Int), .map (some B4), .slice nb lg nc, .slice lV ld mw, .slice m9 kS na]) 8 hO rfl rfl rfl rfl
    obtain ⟨Ua, tp, FG⟩ := hobt
    dsimp only [sS, sZ] at tp
    refine GoQ.last rfl (FG Try.underlying27 rfl ti27 (by exact rfl) (by exact rfl)) rfl rfl ?_
    replace hO := tp.own
    refine GoQ.nil ?_
    refine Go1.cut [(6, .pointer (some ⟨B10, 0, none⟩)), (9, .int .i64 (-1 : Int)), (13, .int .i64 (mgt m2_153 r167)), (85, .slice p35 n37 c36), (86, .int .i64 (d_32.length : Int)), (87, .int .i64 (k2_110 : Int))] ⟨rfl, rfl, rfl, rfl, rfl, rfl, trivial⟩ ?_
    intro σ _
    refine zr (zm rfl (zm rfl (zo (op_nilCheck rfl) (zo (op_fieldAddr Try.underlying72 rfl ti26 rfl (by decide)) (zs (oblk (i := 12) 8 hO rfl rfl Try.underlying26 rfl rfl) ?_)))))
    refine zm rfl ?_
    have hobt := obuild (r := Rp.int .i64) (n := 1) (parts := [(0, .int .i64 (mgt m2_153 r167))]) (vs := [.int .i64 (mgt m2_153 r167)]) (xs := [(mgt m2_153 r167)]) rfl Try.underlying26 ti3 hO (by decide) (by kernel_rfl) (Els.cons rfl rfl (Els.nil _ _ _) (by simp [mx])) rfl
    obtain ⟨Ub, Yj, ja, Os, Xe, KQ⟩ := hobt
    refine zg (KQ rfl) ?_
    replace hO := ja.own
    have hobt := freeze 0 hO rfl Os
    obtain ⟨hO1, xL, Dj, Ot⟩ := hobt
    dsimp only [eS, eZ] at hO1 xL Dj
    replace hB := (((hB.trans i9.fr).trans tp.fr).trans ja.fr).trans (Owns.dropFr _ _ 0)
    dsimp only [eS, eZ] at hB
    replace hO := hO1; clear hO1
    obtain ⟨BH, H⟩ := H
    have Z9 := (((((Z8.trans vO.ch).trans yA).trans i9.ch).trans tp.ch).trans ja.ch).trans xL
    replace dA := dA.ch Z9
    have hobt := oapp Try.underlying26 ti3 rfl 0 hO rfl dA Dj Ot BH (by decide)
    obtain ⟨KR, IH, II, Ou, iO, Fc, KS⟩ := hobt
    dsimp only [sS, sZ] at iO Fc
    refine zg (KS (by exact rfl) (by exact rfl)) ?_
    replace hO := iO.own
    refine zo (op_nilCheck rfl) (zo (op_fieldAddr Try.underlying72 rfl ti26 rfl (by decide)) ?_)
    have hobt := oblkSt2 (v := .slice IH (kS + 1) II) (i := 12) (cs' := #[.int .i64 ((ix a0 (0 : Int)).length : Int), .bool false, .slice p35 n37 c36, .slice oY lk o0, .slice oo lj oq, .slice nv li nw, .slice none 0 0, .slice GD (lh + 1) GE, .int .i64 (0 : Int), .map (some B4), .slice nb lg nc, .slice lV ld mw, .slice IH (kS + 1) II]) 8 hO rfl rfl rfl rfl
    obtain ⟨Uc, gr, FH⟩ := hobt
    dsimp only [sS, sZ] at gr
    refine zg (FH Try.underlying26 rfl ti26 (by exact rfl) (by exact rfl)) ?_
    replace hO := gr.own
    refine zn ?_
    refine Go1.inBlock ?_
    refine zr ?_
    replace bo := ((bo.ch Z9).ch iO.ch).ch gr.ch
    refine zo (op_add rfl rfl (wrap_i64 (natbd AY bo.bd))) (zm rfl (zn ?_))
    replace Fc := Fc.ch gr.ch
    replace hB := (hB.trans iO.fr).trans gr.fr
    have Z10 := (((tp.ch.trans ja.ch).trans xL).trans iO.ch).trans gr.ch
    replace wT := wT.ch Z10
    have Z11 := ((((((vO.ch.trans yA).trans i9.ch).trans tp.ch).trans ja.ch).trans xL).trans iO.ch).trans gr.ch
    replace dN := dN.ch Z11
    have Z12 := (Z9.trans iO.ch).trans gr.ch
    replace dF := dF.ch Z12
    replace eF := eF.ch Z12
    replace fe := fe.ch Z12
    replace fA := fA.ch Z12
    exact hX2 _ H _ _ ⟨kS + 1, IH, II, Ou, ld, lV, mw, t4, lg, nb, nc, t5, lh + 1, GD, GE, Oq, li, nv, nw, t7, lj, oo, oq, t8, lk, oY, o0, t9, ⟨rfl, rfl, rfl, rfl, rfl, trivial⟩, hO, Fc, dF, dN, wT, eF, fe, fA, bo, hB⟩
   replace H := ifn C0 H
   refine GoQ.stable rfl (olookF (a := r167) (MK.str Try.underlying9) 9 hO rfl Try.underlying69 ti3 rfl rfl C0) rfl rfl ?_
   refine GoQ.pure rfl (op_move rfl) rfl rfl ?_
   refine GoQ.pure rfl (op_extract rfl rfl) rfl rfl ?_
   refine GoQ.pure rfl (op_extract rfl rfl) rfl rfl ?_
   refine GoQ.pure rfl (op_assign rfl) rfl rfl ?_
   refine GoQ.pure rfl (op_assign rfl) rfl rfl ?_
   refine GoQ.nil ?_
   refine zq (zq (zr (zm rfl (zn (zf rfl rfl ?_)))))
   refine Go1.cut [(6, .pointer (some ⟨B10, 0, none⟩)), (9, .int .i64 (-1 : Int)), (10, .int .i64 (k2_110 : Int)), (11, .slice KK ((ix d_32 (k2_110 : Int)).length) KL), (12, .string (gstr (chr (IntKind.i32.wrap ((97 : Int) + (k2_110 : Int)))))), (85, .slice p35 n37 c36), (86, .int .i64 (d_32.length : Int)), (87, .int .i64 (k2_110 : Int))] ⟨rfl, rfl, rfl, rfl, rfl, rfl, rfl, rfl, trivial⟩ ?_
   intro σ _
   refine zr (zm rfl (zm rfl ?_))
   replace dQ := dQ.ch gE.ch
   refine GoR.call (op_call body64 rfl (walk_slices_Clone_int hO.lt dQ H)) rfl rfl ?_
   rintro Yk Yl ⟨r224, C1, y8, y9, WT, rfl, Ov, hN228, yB, H⟩
   have uA := Stp.more hO Ov hN228
   dsimp only [List.cons_append, List.nil_append] at uA
   replace hO := uA.own
   refine zm rfl (zm rfl (zm rfl (zm rfl ?_)))
   refine GoR.inl (vs := [.pointer (some ⟨B10, 0, none⟩), .slice y8 C1 y9, .int .i64 (-1 : Int), .int .i64 (k2_110 : Int), .string (gstr (chr (IntKind.i32.wrap ((97 : Int) + (k2_110 : Int))))), .int .i64 (-1 : Int)]) (caps := []) rfl rfl body65 Try.func65 rfl Try.ntmps65 rfl rfl rfl ?_
   intro RhR232 hR232
   refine zq (zr (za rfl (zn (zq (zr ?_)))))
   refine zm rfl (zo (op_nilCheck rfl) (zo (op_fieldAddr Try.underlying72 rfl ti29 rfl (by decide)) (zo (op_fieldAddr Try.underlying29 rfl ti22 rfl (by decide)) (zs (oblk (i := 3) 9 hO rfl rfl Try.underlying22 rfl rfl) ?_))))
   have Z13 := (kB.ch.trans gE.ch).trans uA.ch
   replace fA := fA.ch Z13
   refine zo (op_lenN Try.underlying22 rfl (fA.neq hO 7 rfl)) (za rfl (zn (zq ?_)))
   refine Go1.drawS 1 [(0, .pure), (1, .pure), (2, .pure), (3, .stable), (4, .pure), (6, .pure), (5, .loud), (7, .last)] mixed (by kernel_rfl) ?_
   intro Ud GF
   have uB := Stp.same hO GF
   replace hO := uB.own
   refine GoQ.pure rfl (op_move rfl) rfl rfl ?_
   refine GoQ.pure rfl (op_nilCheck rfl) rfl rfl ?_
   refine GoQ.pure rfl (op_fieldAddr Try.underlying72 rfl ti69 rfl (by decide)) rfl rfl ?_
   refine GoQ.stable rfl (oblk (i := 9) 9 hO rfl rfl Try.underlying69 rfl rfl) rfl rfl ?_
   refine GoQ.pure rfl (op_move rfl) rfl rfl ?_
   refine GoQ.pure rfl (op_move rfl) rfl rfl ?_
   replace yB := (yB.ch (Ch.assoc _ _ _ _)).ch uB.ch
   have hobt := rowlend 0 hO rfl yB
   obtain ⟨Ow, Ox⟩ := hobt
   have hOc238 := hO.drop 0
   refine GoQ.call rfl (op_call body61 (show ([.slice y8 C1 y9] : List Value) = [.slice y8 r224.length y9] from by rw [← Ox]) (walk_enumerate_text hOc238.lt Ow H)) (fun v w hr => by obtain ⟨_, _, hs, _, _⟩ := hr; assumption) rfl rfl ?_
   rintro Ym Ue ⟨r239, rfl, GG, WU, H⟩
   have uC := Stp.same hO GG
   replace hO := uC.own
   have hobt := omapUpd (MK.str Try.underlying9) 10 hO rfl Try.underlying69 r239 (d_147.length : Int)
   obtain ⟨Uf, tq, KT⟩ := hobt
   dsimp only [sS, sZ] at tq
   refine GoQ.last rfl (KT (by exact rfl) (by exact rfl) (by exact rfl)) rfl rfl ?_
   replace hO := tq.own
   refine GoQ.nil ?_
   refine zq ?_
   refine Go1.cut [(0, .pointer (some ⟨B10, 0, none⟩)), (1, .slice y8 C1 y9), (2, .int .i64 (-1 : Int)), (3, .int .i64 (k2_110 : Int)), (4, .string (gstr (chr (IntKind.i32.wrap ((97 : Int) + (k2_110 : Int)))))), (5, .int .i64 (-1 : Int)), (13, .int .i64 (d_147.length : Int))] ⟨rfl, rfl, rfl, rfl, rfl, rfl, rfl, trivial⟩ ?_
   intro σ _
   refine zr (zm rfl (zm rfl (zo (op_nilCheck rfl) (zo (op_fieldAddr Try.underlying72 rfl ti29 rfl (by decide)) (zo (op_fieldAddr Try.underlying29 rfl ti22 rfl (by decide)) ?_)))))
   refine zs (oblk (i := 3) 9 hO rfl rfl Try.underlying22 rfl rfl) (zm rfl ?_)
   replace yB := (yB.ch uC.ch).ch tq.ch
   have hobt := freeze 0 hO rfl yB
   obtain ⟨hO1, pU, eA, GH⟩ := hobt
   dsimp only [eS, eZ] at hO1 pU eA
   replace hB := ((((((hB.trans kB.fr).trans gE.fr).trans uA.fr).trans uB.fr).trans uC.fr).trans tq.fr).trans (Owns.dropFr _ _ 0)
   dsimp only [eS, eZ] at hB
   replace hO := hO1; clear hO1
   have hobt := obuild (r := Rp.sl (Rp.int .i64)) (n := 1) (parts := [(0, .slice y8 C1 y9)]) (vs := [.slice y8 C1 y9]) (xs := [r224]) rfl Try.underlying22 ti26 hO (by decide) (by kernel_rfl) (Els.cons rfl ⟨y8, y9, congrArg some (congrArg (fun nn => Value.slice y8 nn y9) GH), eA⟩ (Els.nil _ _ _) (by simp [mx])) rfl
   obtain ⟨Yn, Yo, uD, ua, Xf, KU⟩ := hobt
   refine zg (KU rfl) ?_
   replace hO := uD.own
   have hobt := freeze 0 hO rfl ua
   obtain ⟨hO1, xM, gM, Oy⟩ := hobt
   dsimp only [eS, eZ] at hO1 xM gM
   replace hB := (hB.trans uD.fr).trans (Owns.dropFr _ _ 0)
   dsimp only [eS, eZ] at hB
   replace hO := hO1; clear hO1
   obtain ⟨Ug, H⟩ := H
   have Z14 := ((((uB.ch.trans uC.ch).trans tq.ch).trans pU).trans uD.ch).trans xM
   replace fA := fA.ch Z14
   have hobt := oapp Try.underlying22 ti26 rfl 6 hO rfl fA gM Oy Ug (by decide)
   obtain ⟨Yp, C2, C3, Oz, tt, gU, KV⟩ := hobt
   dsimp only [sS, sZ] at tt gU
   refine zg (KV (by exact rfl) (by exact rfl)) ?_
   replace hO := tt.own
   refine zo (op_nilCheck rfl) (zo (op_fieldAddr Try.underlying72 rfl ti29 rfl (by decide)) (zo (op_fieldAddr Try.underlying29 rfl ti22 rfl (by decide)) ?_))
   have hobt := oblkSt2 (v := .slice C2 (lk + 1) C3) (i := 3) (cs' := #[.int .i64 ((ix a0 (0 : Int)).length : Int), .bool false, .slice p35 n37 c36, .slice C2 (lk + 1) C3, .slice oo lj oq, .slice nv li nw, .slice none 0 0, .slice my lh mz, .int .i64 (0 : Int), .map (some B4), .slice nb lg nc, .slice lV ld mw, .slice m9 kS na]) 8 hO rfl rfl rfl rfl
   obtain ⟨Yq, rU, KW⟩ := hobt
   dsimp only [sS, sZ] at rU
   refine zg (KW Try.underlying22 rfl ti22 (by exact rfl) (by exact rfl)) ?_
   replace hO := rU.own
   refine zn (zq (zr (zm rfl (zm rfl (zo (op_nilCheck rfl) ?_)))))
   refine zo (op_fieldAddr Try.underlying72 rfl ti29 rfl (by decide)) (zo (op_fieldAddr Try.underlying29 rfl ti26 rfl (by decide)) (zs (oblk (i := 4) 8 hO rfl rfl Try.underlying26 rfl rfl) (zm rfl ?_)))
   have hobt := obuild (r := Rp.int .i64) (n := 1) (parts := [(0, .int .i64 (-1 : Int))]) (vs := [.int .i64 (-1 : Int)]) (xs := [(-1 : Int)]) rfl Try.underlying26 ti3 hO (by decide) (by kernel_rfl) (Els.cons rfl rfl (Els.nil _ _ _) (by simp [mx])) rfl
   obtain ⟨Yr, Ys, tu, dr, Xg, KX⟩ := hobt
   refine zg (KX rfl) ?_
   replace hO := tu.own
   have hobt := freeze 0 hO rfl dr
   obtain ⟨hO1, wU, iu, OA⟩ := hobt
   dsimp only [eS, eZ] at hO1 wU iu
   replace hB := (((hB.trans tt.fr).trans rU.fr).trans tu.fr).trans (Owns.dropFr _ _ 0)
   dsimp only [eS, eZ] at hB
   replace hO := hO1; clear hO1
   obtain ⟨Uh, H⟩ := H
   have Z15 := (((((((((Z13.trans uB.ch).trans uC.ch).trans tq.ch).trans pU).trans uD.ch).trans xM).trans tt.ch).trans rU.ch).trans tu.ch).trans wU
   replace fe := fe.ch Z15
   have hobt := oapp Try.underlying26 ti3 rfl 5 hO rfl fe iu OA Uh (by decide)
   obtain ⟨Ui, DW, DX, OB, rV, cz, KY⟩ := hobt
   dsimp only [sS, sZ] at rV cz
   refine zg (KY (by exact rfl) (by exact rfl)) ?_
   replace hO := rV.own
   refine zo (op_nilCheck rfl) (zo (op_fieldAddr Try.underlying72 rfl ti29 rfl (by decide)) (zo (op_fieldAddr Try.underlying29 rfl ti26 rfl (by decide)) ?_))
   have hobt := oblkSt2 (v := .slice DW (lj + 1) DX) (i := 4) (cs' := #[.int .i64 ((ix a0 (0 : Int)).length : Int), .bool false, .slice p35 n37 c36, .slice C2 (lk + 1) C3, .slice DW (lj + 1) DX, .slice nv li nw, .slice none 0 0, .slice my lh mz, .int .i64 (0 : Int), .map (some B4), .slice nb lg nc, .slice lV ld mw, .slice m9 kS na]) 8 hO rfl rfl rfl rfl
   obtain ⟨Yt, qX, K1⟩ := hobt
   dsimp only [sS, sZ] at qX
   refine zg (K1 Try.underlying26 rfl ti26 (by exact rfl) (by exact rfl)) ?_
   replace hO := qX.own
   refine zn (zq ?_)
   refine Go1.cut [(0, .pointer (some ⟨B10, 0, none⟩)), (3, .int .i64 (k2_110 : Int)), (4, .string (gstr (chr (IntKind.i32.wrap ((97 : Int) + (k2_110 : Int)))))), (5, .int .i64 (-1 : Int)), (13, .int .i64 (d_147.length : Int))] ⟨rfl, rfl, rfl, rfl, rfl, trivial⟩ ?_
   intro σ _
   refine zr (zm rfl (zm rfl (zo (op_nilCheck rfl) (zo (op_fieldAddr Try.underlying72 rfl ti29 rfl (by decide)) (zo (op_fieldAddr Try.underlying29 rfl ti26 rfl (by decide)) ?_)))))
   refine zs (oblk (i := 5) 8 hO rfl rfl Try.underlying26 rfl rfl) (zm rfl ?_)
   have hobt := obuild (r := Rp.int .i64) (n := 1) (parts := [(0, .int .i64 (k2_110 : Int))]) (vs := [.int .i64 (k2_110 : Int)]) (xs := [(k2_110 : Int)]) rfl Try.underlying26 ti3 hO (by decide) (by kernel_rfl) (Els.cons rfl rfl (Els.nil _ _ _) (by simp [mx])) rfl
   obtain ⟨Yu, jb, jc, OC, Xh, K2⟩ := hobt
   refine zg (K2 rfl) ?_
   replace hO := jc.own
   have hobt := freeze 0 hO rfl OC
   obtain ⟨hO1, v8, kF, OD⟩ := hobt
   dsimp only [eS, eZ] at hO1 v8 kF
   replace hB := (((hB.trans rV.fr).trans qX.fr).trans jc.fr).trans (Owns.dropFr _ _ 0)
   dsimp only [eS, eZ] at hB
   replace hO := hO1; clear hO1
   obtain ⟨Uj, H⟩ := H
   have Z16 := (((Z15.trans rV.ch).trans qX.ch).trans jc.ch).trans v8
   replace eF := eF.ch Z16
   have hobt := oapp Try.underlying26 ti3 rfl 4 hO rfl eF kF OD Uj (by decide)
   obtain ⟨Uk, EJ, EK, OE, gp, kW, K3⟩ := hobt
   dsimp only [sS, sZ] at gp kW
   refine zg (K3 (by exact rfl) (by exact rfl)) ?_
   replace hO := gp.own
   refine zo (op_nilCheck rfl) (zo (op_fieldAddr Try.underlying72 rfl ti29 rfl (by decide)) (zo (op_fieldAddr Try.underlying29 rfl ti26 rfl (by decide)) ?_))
   have hobt := oblkSt2 (v := .slice EJ (li + 1) EK) (i := 5) (cs' := #[.int .i64 ((ix a0 (0 : Int)).length : Int), .bool false, .slice p35 n37 c36, .slice C2 (lk + 1) C3, .slice DW (lj + 1) DX, .slice EJ (li + 1) EK, .slice none 0 0, .slice my lh mz, .int .i64 (0 : Int), .map (some B4), .slice nb lg nc, .slice lV ld mw, .slice m9 kS na]) 8 hO rfl rfl rfl rfl
   obtain ⟨Yv, qd, K4⟩ := hobt
   dsimp only [sS, sZ] at qd
   refine zg (K4 Try.underlying26 rfl ti26 (by exact rfl) (by exact rfl)) ?_
   replace hO := qd.own
   refine zn (zq (zr (zm rfl (zm rfl (zo (op_nilCheck rfl) ?_)))))
   refine zo (op_fieldAddr Try.underlying72 rfl ti70 rfl (by decide)) (zs (oblk (i := 10) 8 hO rfl rfl Try.underlying70 rfl rfl) (zm rfl ?_))
   have hobt := obuild (r := Rp.str) (n := 1) (parts := [(0, .string (gstr (chr (IntKind.i32.wrap ((97 : Int) + (k2_110 : Int))))))]) (vs := [.string (gstr (chr (IntKind.i32.wrap ((97 : Int) + (k2_110 : Int)))))]) (xs := [chr (IntKind.i32.wrap ((97 : Int) + (k2_110 : Int)))]) rfl Try.underlying70 ti9 hO (by decide) (by kernel_rfl) (Els.cons rfl ⟨rfl, (chr_le _)⟩ (Els.nil _ _ _) (by simp [mx])) rfl
   obtain ⟨Yw, Yx, qY, OF, Xi, K5⟩ := hobt
   refine zg (K5 rfl) ?_
   replace hO := qY.own
   have hobt := freeze 0 hO rfl OF
   obtain ⟨hO1, o6, mc, GJ⟩ := hobt
   dsimp only [eS, eZ] at hO1 o6 mc
   replace hB := (((hB.trans gp.fr).trans qd.fr).trans qY.fr).trans (Owns.dropFr _ _ 0)
   dsimp only [eS, eZ] at hB
   replace hO := hO1; clear hO1
   obtain ⟨Ul, H⟩ := H
   have Z17 := (((Z16.trans gp.ch).trans qd.ch).trans qY.ch).trans o6
   replace dN := dN.ch Z17
   have hobt := oapp Try.underlying70 ti9 rfl 2 hO rfl dN mc GJ Ul (by decide)
   obtain ⟨K6, FI, FJ, OG, g9, pV, K7⟩ := hobt
   dsimp only [sS, sZ] at g9 pV
   refine zg (K7 (by exact rfl) (by exact rfl)) ?_
   replace hO := g9.own
   refine zo (op_nilCheck rfl) (zo (op_fieldAddr Try.underlying72 rfl ti70 rfl (by decide)) ?_)
   have hobt := oblkSt2 (v := .slice FI (lg + 1) FJ) (i := 10) (cs' := #[.int .i64 ((ix a0 (0 : Int)).length : Int), .bool false, .slice p35 n37 c36, .slice C2 (lk + 1) C3, .slice DW (lj + 1) DX, .slice EJ (li + 1) EK, .slice none 0 0, .slice my lh mz, .int .i64 (0 : Int), .map (some B4), .slice FI (lg + 1) FJ, .slice lV ld mw, .slice m9 kS na]) 8 hO rfl rfl rfl rfl
   obtain ⟨Yy, o8, FK⟩ := hobt
   dsimp only [sS, sZ] at o8
   refine zg (FK Try.underlying70 rfl ti70 (by exact rfl) (by exact rfl)) ?_
   replace hO := o8.own
   refine zn (zq ?_)
   refine Go1.cut [(0, .pointer (some ⟨B10, 0, none⟩)), (5, .int .i64 (-1 : Int)), (13, .int .i64 (d_147.length : Int))] ⟨rfl, rfl, rfl, trivial⟩ ?_
   intro σ _
   refine zr (zm rfl (zm rfl (zo (op_nilCheck rfl) (zo (op_fieldAddr Try.underlying72 rfl ti26 rfl (by decide)) (zs (oblk (i := 11) 8 hO rfl rfl Try.underlying26 rfl rfl) ?_)))))
   refine zm rfl ?_
   have hobt := obuild (r := Rp.int .i64) (n := 1) (parts := [(0, .int .i64 (-1 : Int))]) (vs := [.int .i64 (-1 : Int)]) (xs := [(-1 : Int)]) rfl Try.underlying26 ti3 hO (by decide) (by kernel_rfl) (Els.cons rfl rfl (Els.nil _ _ _) (by simp [mx])) rfl
   obtain ⟨Um, Yz, iP, OH, Xj, K8⟩ := hobt
   refine zg (K8 rfl) ?_
   replace hO := iP.own
   have hobt := freeze 0 hO rfl OH
   obtain ⟨hO1, ub, vp, OI⟩ := hobt
   dsimp only [eS, eZ] at hO1 ub vp
   replace hB := (((hB.trans g9.fr).trans o8.fr).trans iP.fr).trans (Owns.dropFr _ _ 0)
   dsimp only [eS, eZ] at hB
   replace hO := hO1; clear hO1
   obtain ⟨EL, H⟩ := H
   have Z18 := (((Z17.trans g9.ch).trans o8.ch).trans iP.ch).trans ub
   replace dF := dF.ch Z18
   have hobt := oapp Try.underlying26 ti3 rfl 1 hO rfl dF vp OI EL (by decide)
   obtain ⟨YA, GK, GL, OJ, o9, wV, FL⟩ := hobt
   dsimp only [sS, sZ] at o9 wV
   refine zg (FL (by exact rfl) (by exact rfl)) ?_
   replace hO := o9.own
   refine zo (op_nilCheck rfl) (zo (op_fieldAddr Try.underlying72 rfl ti26 rfl (by decide)) ?_)
   have hobt := oblkSt2 (v := .slice GK (ld + 1) GL) (i := 11) (cs' := #[.int .i64 ((ix a0 (0 : Int)).length : Int), .bool false, .slice p35 n37 c36, .slice C2 (lk + 1) C3, .slice DW (lj + 1) DX, .slice EJ (li + 1) EK, .slice none 0 0, .slice my lh mz, .int .i64 (0 : Int), .map (some B4), .slice FI (lg + 1) FJ, .slice GK (ld + 1) GL, .slice m9 kS na]) 8 hO rfl rfl rfl rfl
   obtain ⟨YB, oF, K9⟩ := hobt
   dsimp only [sS, sZ] at oF
   refine zg (K9 Try.underlying26 rfl ti26 (by exact rfl) (by exact rfl)) ?_
   replace hO := oF.own
   refine zn (zq (zr (zm rfl (za rfl (zn ?_)))))
   refine Go1.ret1V Try.func65 rfl (show _ = .int .i64 (d_147.length : Int) from rfl) ?_
   refine hR232 _ _ ?_
   refine za rfl (zn (zr (zm rfl (zm rfl (zo (op_nilCheck rfl) ?_)))))
   refine zo (op_fieldAddr Try.underlying72 rfl ti26 rfl (by decide)) (zs (oblk (i := 12) 8 hO rfl rfl Try.underlying26 rfl rfl) (zm rfl ?_))
   have hobt := obuild (r := Rp.int .i64) (n := 1) (parts := [(0, .int .i64 (d_147.length : Int))]) (vs := [.int .i64 (d_147.length : Int)]) (xs := [(d_147.length : Int)]) rfl Try.underlying26 ti3 hO (by decide) (by kernel_rfl) (Els.cons rfl rfl (Els.nil _ _ _) (by simp [mx])) rfl
   obtain ⟨YC, YE, pc, OK, Xk, La⟩ := hobt
   refine zg (La rfl) ?_
   replace hO := pc.own
   have hobt := freeze 0 hO rfl OK
   obtain ⟨hO1, kN, Dk, OL⟩ := hobt
   dsimp only [eS, eZ] at hO1 kN Dk
   replace hB := (((hB.trans o9.fr).trans oF.fr).trans pc.fr).trans (Owns.dropFr _ _ 0)
   dsimp only [eS, eZ] at hB
   replace hO := hO1; clear hO1
   obtain ⟨Un, H⟩ := H
   have Z19 := (((Z18.trans o9.ch).trans oF.ch).trans pc.ch).trans kN
   replace dA := dA.ch Z19
   have hobt := oapp Try.underlying26 ti3 rfl 0 hO rfl dA Dk OL Un (by decide)
   obtain ⟨YF, IJ, IK, pW, oG, Fd, Lb⟩ := hobt
   dsimp only [sS, sZ] at oG Fd
   refine zg (Lb (by exact rfl) (by exact rfl)) ?_
   replace hO := oG.own
   refine zo (op_nilCheck rfl) (zo (op_fieldAddr Try.underlying72 rfl ti26 rfl (by decide)) ?_)
   have hobt := oblkSt2 (v := .slice IJ (kS + 1) IK) (i := 12) (cs' := #[.int .i64 ((ix a0 (0 : Int)).length : Int), .bool false, .slice p35 n37 c36, .slice C2 (lk + 1) C3, .slice DW (lj + 1) DX, .slice EJ (li + 1) EK, .slice none 0 0, .slice my lh mz, .int .i64 (0 : Int), .map (some B4), .slice FI (lg + 1) FJ, .slice GK (ld + 1) GL, .slice IJ (kS + 1) IK]) 8 hO rfl rfl rfl rfl
   obtain ⟨YG, ny, Lc⟩ := hobt
   dsimp only [sS, sZ] at ny
   refine zg (Lc Try.underlying26 rfl ti26 (by exact rfl) (by exact rfl)) ?_
   replace hO := ny.own
   refine zn ?_
   refine Go1.inBlock ?_
   refine Go1.cut [(6, .pointer (some ⟨B10, 0, none⟩)), (9, .int .i64 (-1 : Int)), (85, .slice p35 n37 c36), (86, .int .i64 (d_32.length : Int)), (87, .int .i64 (k2_110 : Int))] ⟨rfl, rfl, rfl, rfl, rfl, trivial⟩ ?_
   intro σ _
   refine zr ?_
   replace bo := ((bo.ch Z19).ch oG.ch).ch ny.ch
   refine zo (op_add rfl rfl (wrap_i64 (natbd AY bo.bd))) (zm rfl (zn ?_))
   replace Fd := Fd.ch ny.ch
   replace hB := (hB.trans oG.fr).trans ny.fr
   have Z20 := (((oF.ch.trans pc.ch).trans kN).trans oG.ch).trans ny.ch
   replace wV := wV.ch Z20
   have Z21 := (((((((o8.ch.trans iP.ch).trans ub).trans o9.ch).trans oF.ch).trans pc.ch).trans kN).trans oG.ch).trans ny.ch
   replace pV := pV.ch Z21
   have Z22 := (((((((((((qd.ch.trans qY.ch).trans o6).trans g9.ch).trans o8.ch).trans iP.ch).trans ub).trans o9.ch).trans oF.ch).trans pc.ch).trans kN).trans oG.ch).trans ny.ch
   replace kW := kW.ch Z22
   have Z23 := (((((((((((((((qX.ch.trans jc.ch).trans v8).trans gp.ch).trans qd.ch).trans qY.ch).trans o6).trans g9.ch).trans o8.ch).trans iP.ch).trans ub).trans o9.ch).trans oF.ch).trans pc.ch).trans kN).trans oG.ch).trans ny.ch
   replace cz := cz.ch Z23
   have Z24 := (((((((((((((((((((rU.ch.trans tu.ch).trans wU).trans rV.ch).trans qX.ch).trans jc.ch).trans v8).trans gp.ch).trans qd.ch).trans qY.ch).trans o6).trans g9.ch).trans o8.ch).trans iP.ch).trans ub).trans o9.ch).trans oF.ch).trans pc.ch).trans kN).trans oG.ch).trans ny.ch
   replace gU := gU.ch Z24
   replace dG := ((dG.ch Z19).ch oG.ch).ch ny.ch
   exact hX2 _ H _ _ ⟨kS + 1, IJ, IK, pW, ld + 1, GK, GL, OJ, lg + 1, FI, FJ, OG, lh, my, mz, t6, li + 1, EJ, EK, OE, lj + 1, DW, DX, OB, lk + 1, C2, C3, Oz, ⟨rfl, rfl, rfl, rfl, rfl, trivial⟩, hO, Fd, wV, pV, dG, kW, cz, gU, bo, hB⟩
  replace H := ifn AY H
  refine zo (fun w => opB (op_lss rfl rfl w) (decide_eq_false AY)) (zn (zq (zf rfl rfl ?_)))
  refine Go1.exit rfl ?_
  refine zq (zr (zm rfl (za rfl (za rfl (zn ?_)))))
  have wD := Stp.nil (e := 26) (r := 1) hO
  replace hO := wD.own
  have nA := Els.nil (Rp.sl (Rp.int .i64)) (bl (.row 26 1 none 0 0 [] :: [.row 3 1 m9 kS na vn, .row 3 1 lV ld mw t4, .row 9 1 nb lg nc t5, .row 39 2 my lh mz t6, .row 3 1 nv li nw t7, .row 3 1 oo lj oq t8, .row 26 1 oY lk o0 t9, .row 26 1 p35 n37 c36 iK, .blk B10 (.cells #[.int .i64 ((ix a0 (0 : Int)).length : Int), .bool false, .slice p35 n37 c36, .slice oY lk o0, .slice oo lj oq, .slice nv li nw, .slice none 0 0, .slice my lh mz, .int .i64 (0 : Int), .map (some B4), .slice nb lg nc, .slice lV ld mw, .slice m9 kS na] 72 (0, 0)), .any (mapE (fun a : List UInt8 => Value.string (gstr a)) (fun a : Int => Value.int .i64 a) B4 m2_153)]) ++ A) T5
  have jd := Stp.front 10 hO rfl
  dsimp only [eS, eZ] at jd
  replace hO := jd.own
  have uE := Stp.front 2 hO rfl
  dsimp only [eS, eZ] at uE
  replace hO := uE.own
  have iQ := Stp.front 3 hO rfl
  dsimp only [eS, eZ] at iQ
  replace hO := iQ.own
  have uF := Stp.front 4 hO rfl
  dsimp only [eS, eZ] at uF
  replace hO := uF.own
  have uG := Stp.front 5 hO rfl
  dsimp only [eS, eZ] at uG
  replace hO := uG.own
  have uH := Stp.front 5 hO rfl
  dsimp only [eS, eZ] at uH
  replace hO := uH.own
  have je := Stp.front 6 hO rfl
  dsimp only [eS, eZ] at je
  replace hO := je.own
  have uI := Stp.front 7 hO rfl
  dsimp only [eS, eZ] at uI
  replace hO := uI.own
  have uJ := Stp.front 8 hO rfl
  dsimp only [eS, eZ] at uJ
  replace hO := uJ.own
  have uK := Stp.front 9 hO rfl
  dsimp only [eS, eZ] at uK
  replace hO := uK.own
  have uL := Stp.front 10 hO rfl
  dsimp only [eS, eZ] at uL
  replace hO := uL.own
  refine Go1.ret2 Try.func49 rfl ?_
  have Z25 := (((((((((jd.ch.trans uE.ch).trans iQ.ch).trans uF.ch).trans uG.ch).trans uH.ch).trans je.ch).trans uI.ch).trans uJ.ch).trans uK.ch).trans uL.ch
  replace nA := nA.ch Z25
  have Z26 := ((((((((((wD.ch.trans jd.ch).trans uE.ch).trans iQ.ch).trans uF.ch).trans uG.ch).trans uH.ch).trans je.ch).trans uI.ch).trans uJ.ch).trans uK.ch).trans uL.ch
  replace dA := dA.ch Z26
  replace dF := dF.ch Z26
  replace dN := dN.ch Z26
  replace dG := dG.ch Z26
  replace eF := eF.ch Z26
  replace fe := fe.ch Z26
  replace fA := fA.ch Z26
  replace bo := bo.ch Z26
  replace hB := (((((((((((hB.trans wD.fr).trans jd.fr).trans uE.fr).trans iQ.fr).trans uF.fr).trans uG.fr).trans uH.fr).trans je.fr).trans uI.fr).trans uJ.fr).trans uK.fr).trans uL.fr
  exact Or.inr ⟨(⟨(⟨((ix a0 (0 : Int)).length : Int), false, d_32, d_147, d_141, d_135, ([] : List (List Int)), d_129, (0 : Int)⟩ : Enum), m2_153, d_123, d_117, d_111⟩ : run), ((0 : Int)), B10, n37, p35, c36, iK, lk, oY, o0, t9, lj, oo, oq, t8, li, nv, nw, t7, 0, none, 0, ([]), lh, my, mz, t6, B4, lg, nb, nc, t5, ld, lV, mw, t4, kS, m9, na, vn, rfl, hB.same, hO, bo, fA, fe, eF, nA, dG, dN, dF, dA, H⟩
 replace H := ifp rfl H
 refine zt rfl rfl (zr (zm rfl (zm rfl (zo (op_nilCheck rfl) (zo (op_fieldAddr Try.underlying72 rfl ti29 rfl (by decide)) ?_)))))
 refine zo (op_fieldAddr Try.underlying29 rfl ti3 rfl (by decide)) (zs (oblk (i := 0) 1 hO rfl rfl Try.underlying3 rfl rfl) ?_)
 refine GoR.call (op_call body62 rfl (walk_trans_Identity hO.lt H)) rfl rfl ?_
 rintro YH Uo ⟨r397, C4, C5, rfl, OM, e9, H⟩
 have Em := Stp.same hO OM
 replace hO := Em.own
 refine GoR.inl (vs := [.pointer (some ⟨B10, 0, none⟩), .slice C4 r397.length C5, .int .i64 (-1 : Int), .int .i64 (-1 : Int), .string (gstr (([] : Str))), .int .i64 (-1 : Int)]) (caps := []) rfl rfl body65 Try.func65 rfl Try.ntmps65 rfl rfl rfl ?_
 intro RhR403 hR403
 refine zq (zr (za rfl (zn (zq (zr ?_)))))
 refine zm rfl (zo (op_nilCheck rfl) (zo (op_fieldAddr Try.underlying72 rfl ti29 rfl (by decide)) (zo (op_fieldAddr Try.underlying29 rfl ti22 rfl (by decide)) (zs (oblk (i := 3) 1 hO rfl rfl Try.underlying22 rfl rfl) (zo (op_len Try.underlying22 rfl) ?_)))))
 refine za rfl (zn (zq ?_))
 refine Go1.cut [(0, .pointer (some ⟨B10, 0, none⟩)), (1, .slice C4 r397.length C5), (2, .int .i64 (-1 : Int)), (3, .int .i64 (-1 : Int)), (4, .string (gstr (([] : Str)))), (5, .int .i64 (-1 : Int)), (13, .int .i64 (0 : Int))] ⟨rfl, rfl, rfl, rfl, rfl, rfl, rfl, trivial⟩ ?_
 intro σ _
 refine Go1.drawS 1 [(0, .pure), (1, .pure), (2, .pure), (3, .stable), (4, .pure), (6, .pure), (5, .loud), (7, .last)] mixed (by kernel_rfl) ?_
 intro YI ON
 have C6 := Stp.same hO ON
 replace hO := C6.own
 refine GoQ.pure rfl (op_move rfl) rfl rfl ?_
 refine GoQ.pure rfl (op_nilCheck rfl) rfl rfl ?_
 refine GoQ.pure rfl (op_fieldAddr Try.underlying72 rfl ti69 rfl (by decide)) rfl rfl ?_
 refine GoQ.stable rfl (oblk (i := 9) 1 hO rfl rfl Try.underlying69 rfl rfl) rfl rfl ?_
 refine GoQ.pure rfl (op_move rfl) rfl rfl ?_
 refine GoQ.pure rfl (op_move rfl) rfl rfl ?_
 replace e9 := e9.ch C6.ch
 refine GoQ.call rfl (op_call body61 rfl (walk_enumerate_text hO.lt e9 H)) (fun v w hr => by obtain ⟨_, _, hs, _, _⟩ := hr; assumption) rfl rfl ?_
 rintro YJ YK ⟨r407, rfl, OO, WW, H⟩
 have C7 := Stp.same hO OO
 replace hO := C7.own
 have hobt := omapUpd (MK.str Try.underlying9) 2 hO rfl Try.underlying69 r407 (0 : Int)
 obtain ⟨Up, ll, Ld⟩ := hobt
 refine GoQ.last rfl (Ld (by exact rfl) (by exact rfl) (by exact rfl)) rfl rfl ?_
 replace hO := ll.own
 refine GoQ.nil ?_
 refine zq (zr (zm rfl (zm rfl (zo (op_nilCheck rfl) (zo (op_fieldAddr Try.underlying72 rfl ti29 rfl (by decide)) ?_)))))
 refine zo (op_fieldAddr Try.underlying29 rfl ti22 rfl (by decide)) (zs (oblk (i := 3) 1 hO rfl rfl Try.underlying22 rfl rfl) (zm rfl ?_))
 replace e9 := (e9.ch C7.ch).ch ll.ch
 have hobt := obuild (r := Rp.sl (Rp.int .i64)) (n := 1) (parts := [(0, .slice C4 r397.length C5)]) (vs := [.slice C4 r397.length C5]) (xs := [r397]) rfl Try.underlying22 ti26 hO (by decide) (by kernel_rfl) (Els.cons rfl ⟨C4, C5, rfl, e9⟩ (Els.nil _ _ _) (by simp [mx])) rfl
 obtain ⟨Uq, YL, C8, OP, Xl, Le⟩ := hobt
 refine zg (Le rfl) ?_
 replace hO := C8.own
 have hobt := freeze 0 hO rfl OP
 obtain ⟨hO1, GM, gu, OQ⟩ := hobt
 replace hO := hO1; clear hO1
 have kC := Stp.nil (e := 26) (r := 1) hO
 replace hO := kC.own
 have jY := Els.nil (Rp.sl (Rp.int .i64)) (bl (.row 26 1 none 0 0 [] :: [.row 26 1 p35 n37 c36 iK, .blk B10 (.cells #[.int .i64 ((ix a0 (0 : Int)).length : Int), .bool true, .slice p35 n37 c36, .slice none 0 0, .slice none 0 0, .slice none 0 0, .slice none 0 0, .slice none 0 0, .int .i64 (0 : Int), .map (some B4), .slice none 0 0, .slice none 0 0, .slice none 0 0] 72 (0, 0)), .any (mapE (fun a : List UInt8 => Value.string (gstr a)) (fun a : Int => Value.int .i64 a) B4 (mput (([] : List (Str × Int))) r407 ((0 : Int))))]) ++ A) Uq
 obtain ⟨Ur, H⟩ := H
 replace gu := gu.ch kC.ch
 have hobt := oapp Try.underlying22 ti26 rfl 0 hO rfl jY gu OQ Ur (by decide)
 obtain ⟨YM, uc, ud, BN, BC, gJ, Lf⟩ := hobt
 refine zg (Lf (by exact rfl) (by exact rfl)) ?_
 replace hO := BC.own
 refine zo (op_nilCheck rfl) (zo (op_fieldAddr Try.underlying72 rfl ti29 rfl (by decide)) (zo (op_fieldAddr Try.underlying29 rfl ti22 rfl (by decide)) ?_))
 have hobt := oblkSt2 (v := .slice uc (0 + 1) ud) (i := 3) (cs' := #[.int .i64 ((ix a0 (0 : Int)).length : Int), .bool true, .slice p35 n37 c36, .slice uc (0 + 1) ud, .slice none 0 0, .slice none 0 0, .slice none 0 0, .slice none 0 0, .int .i64 (0 : Int), .map (some B4), .slice none 0 0, .slice none 0 0, .slice none 0 0]) 2 hO rfl rfl rfl rfl
 obtain ⟨YN, Ac, Lg⟩ := hobt
 refine zg (Lg Try.underlying22 rfl ti22 (by exact rfl) (by exact rfl)) ?_
 replace hO := Ac.own
 refine zn (zq ?_)
 refine Go1.cut [(0, .pointer (some ⟨B10, 0, none⟩)), (2, .int .i64 (-1 : Int)), (3, .int .i64 (-1 : Int)), (4, .string (gstr (([] : Str)))), (5, .int .i64 (-1 : Int)), (13, .int .i64 (0 : Int))] ⟨rfl, rfl, rfl, rfl, rfl, rfl, trivial⟩ ?_
 intro σ _
 refine zr (zm rfl (zm rfl (zo (op_nilCheck rfl) (zo (op_fieldAddr Try.underlying72 rfl ti29 rfl (by decide)) (zo (op_fieldAddr Try.underlying29 rfl ti26 rfl (by decide)) ?_)))))
 refine zs (oblk (i := 4) 2 hO rfl rfl Try.underlying26 rfl rfl) (zm rfl ?_)
 have hobt := obuild (r := Rp.int .i64) (n := 1) (parts := [(0, .int .i64 (-1 : Int))]) (vs := [.int .i64 (-1 : Int)]) (xs := [(-1 : Int)]) rfl Try.underlying26 ti3 hO (by decide) (by kernel_rfl) (Els.cons rfl rfl (Els.nil _ _ _) (by simp [mx])) rfl
 obtain ⟨Us, YO, Ad, OR, Xm, Lh⟩ := hobt
 refine zg (Lh rfl) ?_
 replace hO := Ad.own
 have hobt := freeze 0 hO rfl OR
 obtain ⟨hO1, Dl, g6, OS⟩ := hobt
 dsimp only [eS, eZ] at hO1 Dl g6
 replace hB := ((((((((((hB.trans Em.fr).trans C6.fr).trans C7.fr).trans ll.fr).trans C8.fr).trans (Owns.dropFr _ _ 0)).trans kC.fr).trans BC.fr).trans Ac.fr).trans Ad.fr).trans (Owns.dropFr _ _ 0)
 dsimp only [eS, eZ] at hB
 replace hO := hO1; clear hO1
 have zc := Stp.nil (e := 3) (r := 1) hO
 replace hO := zc.own
 have OT := Els.nil (Rp.int .i64) (bl (.row 3 1 none 0 0 [] :: [.row 26 1 uc (0 + 1) ud BN, .row 26 1 p35 n37 c36 iK, .blk B10 (.cells #[.int .i64 ((ix a0 (0 : Int)).length : Int), .bool true, .slice p35 n37 c36, .slice uc (0 + 1) ud, .slice none 0 0, .slice none 0 0, .slice none 0 0, .slice none 0 0, .int .i64 (0 : Int), .map (some B4), .slice none 0 0, .slice none 0 0, .slice none 0 0] 72 (0, 0)), .any (mapE (fun a : List UInt8 => Value.string (gstr a)) (fun a : Int => Value.int .i64 a) B4 (mput (([] : List (Str × Int))) r407 ((0 : Int))))]) ++ A) Us
 obtain ⟨Ut, H⟩ := H
 replace g6 := g6.ch zc.ch
 have hobt := oapp Try.underlying26 ti3 rfl 0 hO rfl OT g6 OS Ut (by decide)
 obtain ⟨Uu, ww, wx, Dm, mQ, iv, FM⟩ := hobt
 dsimp only [sS, sZ] at mQ iv
 refine zg (FM (by exact rfl) (by exact rfl)) ?_
 replace hO := mQ.own
 refine zo (op_nilCheck rfl) (zo (op_fieldAddr Try.underlying72 rfl ti29 rfl (by decide)) (zo (op_fieldAddr Try.underlying29 rfl ti26 rfl (by decide)) ?_))
 have hobt := oblkSt2 (v := .slice ww (0 + 1) wx) (i := 4) (cs' := #[.int .i64 ((ix a0 (0 : Int)).length : Int), .bool true, .slice p35 n37 c36, .slice uc (0 + 1) ud, .slice ww (0 + 1) wx, .slice none 0 0, .slice none 0 0, .slice none 0 0, .int .i64 (0 : Int), .map (some B4), .slice none 0 0, .slice none 0 0, .slice none 0 0]) 3 hO rfl rfl rfl rfl
 obtain ⟨YP, jU, Li⟩ := hobt
 dsimp only [sS, sZ] at jU
 refine zg (Li Try.underlying26 rfl ti26 (by exact rfl) (by exact rfl)) ?_
 replace hO := jU.own
 refine zn (zq (zr (zm rfl (zm rfl (zo (op_nilCheck rfl) ?_)))))
 refine zo (op_fieldAddr Try.underlying72 rfl ti29 rfl (by decide)) (zo (op_fieldAddr Try.underlying29 rfl ti26 rfl (by decide)) (zs (oblk (i := 5) 3 hO rfl rfl Try.underlying26 rfl rfl) (zm rfl ?_)))
 have hobt := obuild (r := Rp.int .i64) (n := 1) (parts := [(0, .int .i64 (-1 : Int))]) (vs := [.int .i64 (-1 : Int)]) (xs := [(-1 : Int)]) rfl Try.underlying26 ti3 hO (by decide) (by kernel_rfl) (Els.cons rfl rfl (Els.nil _ _ _) (by simp [mx])) rfl
 obtain ⟨Uv, YQ, xN, OU, Xn, Lj⟩ := hobt
 refine zg (Lj rfl) ?_
 replace hO := xN.own
 have hobt := freeze 0 hO rfl OU
 obtain ⟨hO1, Au, j3, OV⟩ := hobt
 dsimp only [eS, eZ] at hO1 Au j3
 replace hB := ((((hB.trans zc.fr).trans mQ.fr).trans jU.fr).trans xN.fr).trans (Owns.dropFr _ _ 0)
 dsimp only [eS, eZ] at hB
 replace hO := hO1; clear hO1
 have jz := Stp.nil (e := 3) (r := 1) hO
 replace hO := jz.own
 have wW := Els.nil (Rp.int .i64) (bl (.row 3 1 none 0 0 [] :: [.row 3 1 ww (0 + 1) wx Dm, .row 26 1 uc (0 + 1) ud BN, .row 26 1 p35 n37 c36 iK, .blk B10 (.cells #[.int .i64 ((ix a0 (0 : Int)).length : Int), .bool true, .slice p35 n37 c36, .slice uc (0 + 1) ud, .slice ww (0 + 1) wx, .slice none 0 0, .slice none 0 0, .slice none 0 0, .int .i64 (0 : Int), .map (some B4), .slice none 0 0, .slice none 0 0, .slice none 0 0] 72 (0, 0)), .any (mapE (fun a : List UInt8 => Value.string (gstr a)) (fun a : Int => Value.int .i64 a) B4 (mput (([] : List (Str × Int))) r407 ((0 : Int))))]) ++ A) Uv
 obtain ⟨Uw, H⟩ := H
 replace j3 := j3.ch jz.ch
 have hobt := oapp Try.underlying26 ti3 rfl 0 hO rfl wW j3 OV Uw (by decide)
 obtain ⟨YR, yt, yu, En, vP, kX, Lk⟩ := hobt
 dsimp only [sS, sZ] at vP kX
 refine zg (Lk (by exact rfl) (by exact rfl)) ?_
 replace hO := vP.own
 refine zo (op_nilCheck rfl) (zo (op_fieldAddr Try.underlying72 rfl ti29 rfl (by decide)) (zo (op_fieldAddr Try.underlying29 rfl ti26 rfl (by decide)) ?_))
 have hobt := oblkSt2 (v := .slice yt (0 + 1) yu) (i := 5) (cs' := #[.int .i64 ((ix a0 (0 : Int)).length : Int), .bool true, .slice p35 n37 c36, .slice uc (0 + 1) ud, .slice ww (0 + 1) wx, .slice yt (0 + 1) yu, .slice none 0 0, .slice none 0 0, .int .i64 (0 : Int), .map (some B4), .slice none 0 0, .slice none 0 0, .slice none 0 0]) 4 hO rfl rfl rfl rfl
 obtain ⟨YS, uM, Ll⟩ := hobt
 dsimp only [sS, sZ] at uM
 refine zg (Ll Try.underlying26 rfl ti26 (by exact rfl) (by exact rfl)) ?_
 replace hO := uM.own
 refine zn (zq ?_)
 refine Go1.cut [(0, .pointer (some ⟨B10, 0, none⟩)), (4, .string (gstr (([] : Str)))), (5, .int .i64 (-1 : Int)), (13, .int .i64 (0 : Int))] ⟨rfl, rfl, rfl, rfl, trivial⟩ ?_
 intro σ _
 refine zr (zm rfl (zm rfl (zo (op_nilCheck rfl) (zo (op_fieldAddr Try.underlying72 rfl ti70 rfl (by decide)) (zs (oblk (i := 10) 4 hO rfl rfl Try.underlying70 rfl rfl) ?_)))))
 refine zm rfl ?_
 have hobt := obuild (r := Rp.str) (n := 1) (parts := [(0, .string (gstr (([] : Str))))]) (vs := [.string (gstr (([] : Str)))]) (xs := [([] : Str)]) rfl Try.underlying70 ti9 hO (by decide) (by kernel_rfl) (Els.cons rfl ⟨rfl, (by decide)⟩ (Els.nil _ _ _) (by simp [mx])) rfl
 obtain ⟨GN, YT, ie, Aw, Xo, Lm⟩ := hobt
 refine zg (Lm rfl) ?_
 replace hO := ie.own
 have hobt := freeze 0 hO rfl Aw
 obtain ⟨hO1, yC, oA, OW⟩ := hobt
 dsimp only [eS, eZ] at hO1 yC oA
 replace hB := ((((hB.trans jz.fr).trans vP.fr).trans uM.fr).trans ie.fr).trans (Owns.dropFr _ _ 0)
 dsimp only [eS, eZ] at hB
 replace hO := hO1; clear hO1
 have uN := Stp.nil (e := 9) (r := 1) hO
 replace hO := uN.own
 have BO := Els.nil (Rp.str) (bl (.row 9 1 none 0 0 [] :: [.row 3 1 yt (0 + 1) yu En, .row 3 1 ww (0 + 1) wx Dm, .row 26 1 uc (0 + 1) ud BN, .row 26 1 p35 n37 c36 iK, .blk B10 (.cells #[.int .i64 ((ix a0 (0 : Int)).length : Int), .bool true, .slice p35 n37 c36, .slice uc (0 + 1) ud, .slice ww (0 + 1) wx, .slice yt (0 + 1) yu, .slice none 0 0, .slice none 0 0, .int .i64 (0 : Int), .map (some B4), .slice none 0 0, .slice none 0 0, .slice none 0 0] 72 (0, 0)), .any (mapE (fun a : List UInt8 => Value.string (gstr a)) (fun a : Int => Value.int .i64 a) B4 (mput (([] : List (Str × Int))) r407 ((0 : Int))))]) ++ A) GN
 obtain ⟨Ux, H⟩ := H
 replace oA := oA.ch uN.ch
 have hobt := oapp Try.underlying70 ti9 rfl 0 hO rfl BO oA OW Ux (by decide)
 obtain ⟨Uy, A4, A5, Fe, tv, rM, Ln⟩ := hobt
 dsimp only [sS, sZ] at tv rM
 refine zg (Ln (by exact rfl) (by exact rfl)) ?_
 replace hO := tv.own
 refine zo (op_nilCheck rfl) (zo (op_fieldAddr Try.underlying72 rfl ti70 rfl (by decide)) ?_)
 have hobt := oblkSt2 (v := .slice A4 (0 + 1) A5) (i := 10) (cs' := #[.int .i64 ((ix a0 (0 : Int)).length : Int), .bool true, .slice p35 n37 c36, .slice uc (0 + 1) ud, .slice ww (0 + 1) wx, .slice yt (0 + 1) yu, .slice none 0 0, .slice none 0 0, .int .i64 (0 : Int), .map (some B4), .slice A4 (0 + 1) A5, .slice none 0 0, .slice none 0 0]) 5 hO rfl rfl rfl rfl
 obtain ⟨YU, rW, FN⟩ := hobt
 dsimp only [sS, sZ] at rW
 refine zg (FN Try.underlying70 rfl ti70 (by exact rfl) (by exact rfl)) ?_
 replace hO := rW.own
 refine zn (zq (zr (zm rfl (zm rfl (zo (op_nilCheck rfl) ?_)))))
 refine zo (op_fieldAddr Try.underlying72 rfl ti26 rfl (by decide)) (zs (oblk (i := 11) 5 hO rfl rfl Try.underlying26 rfl rfl) (zm rfl ?_))
 have hobt := obuild (r := Rp.int .i64) (n := 1) (parts := [(0, .int .i64 (-1 : Int))]) (vs := [.int .i64 (-1 : Int)]) (xs := [(-1 : Int)]) rfl Try.underlying26 ti3 hO (by decide) (by kernel_rfl) (Els.cons rfl rfl (Els.nil _ _ _) (by simp [mx])) rfl
 obtain ⟨Uz, YV, tw, OX, Xp, FO⟩ := hobt
 refine zg (FO rfl) ?_
 replace hO := tw.own
 have hobt := freeze 0 hO rfl OX
 obtain ⟨hO1, wX, wY, OY⟩ := hobt
 dsimp only [eS, eZ] at hO1 wX wY
 replace hB := ((((hB.trans uN.fr).trans tv.fr).trans rW.fr).trans tw.fr).trans (Owns.dropFr _ _ 0)
 dsimp only [eS, eZ] at hB
 replace hO := hO1; clear hO1
 have rX := Stp.nil (e := 3) (r := 1) hO
 replace hO := rX.own
 have O0 := Els.nil (Rp.int .i64) (bl (.row 3 1 none 0 0 [] :: [.row 9 1 A4 (0 + 1) A5 Fe, .row 3 1 yt (0 + 1) yu En, .row 3 1 ww (0 + 1) wx Dm, .row 26 1 uc (0 + 1) ud BN, .row 26 1 p35 n37 c36 iK, .blk B10 (.cells #[.int .i64 ((ix a0 (0 : Int)).length : Int), .bool true, .slice p35 n37 c36, .slice uc (0 + 1) ud, .slice ww (0 + 1) wx, .slice yt (0 + 1) yu, .slice none 0 0, .slice none 0 0, .int .i64 (0 : Int), .map (some B4), .slice A4 (0 + 1) A5, .slice none 0 0, .slice none 0 0] 72 (0, 0)), .any (mapE (fun a : List UInt8 => Value.string (gstr a)) (fun a : Int => Value.int .i64 a) B4 (mput (([] : List (Str × Int))) r407 ((0 : Int))))]) ++ A) Uz
 obtain ⟨UA, H⟩ := H
 replace wY := wY.ch rX.ch
 have hobt := oapp Try.underlying26 ti3 rfl 0 hO rfl O0 wY OY UA (by decide)
 obtain ⟨YW, DY, D0, GO, iR, Ax, Lo⟩ := hobt
 dsimp only [sS, sZ] at iR Ax
 refine zg (Lo (by exact rfl) (by exact rfl)) ?_
 replace hO := iR.own
 refine zo (op_nilCheck rfl) (zo (op_fieldAddr Try.underlying72 rfl ti26 rfl (by decide)) ?_)
 have hobt := oblkSt2 (v := .slice DY (0 + 1) D0) (i := 11) (cs' := #[.int .i64 ((ix a0 (0 : Int)).length : Int), .bool true, .slice p35 n37 c36, .slice uc (0 + 1) ud, .slice ww (0 + 1) wx, .slice yt (0 + 1) yu, .slice none 0 0, .slice none 0 0, .int .i64 (0 : Int), .map (some B4), .slice A4 (0 + 1) A5, .slice DY (0 + 1) D0, .slice none 0 0]) 6 hO rfl rfl rfl rfl
 obtain ⟨IL, qe, Lp⟩ := hobt
 dsimp only [sS, sZ] at qe
 refine zg (Lp Try.underlying26 rfl ti26 (by exact rfl) (by exact rfl)) ?_
 replace hO := qe.own
 refine zn (zq ?_)
 refine Go1.cut [(13, .int .i64 (0 : Int))] ⟨rfl, trivial⟩ ?_
 intro σ _
 refine zr (zm rfl (za rfl (zn ?_)))
 refine Go1.ret1V Try.func65 rfl (show _ = .int .i64 (0 : Int) from rfl) ?_
 refine hR403 _ _ ?_
 refine za rfl (zn (zq (zq (zr (zm rfl ?_)))))
 refine zo (op_nilCheck rfl) (zo (op_fieldAddr Try.underlying72 rfl ti29 rfl (by decide)) (zo (op_fieldAddr Try.underlying29 rfl ti22 rfl (by decide)) (zs (oblk (i := 2) 6 hO rfl rfl Try.underlying22 rfl rfl) ?_)))
 have Z27 := (((((((((((((((((((((((((((Em.ch.trans C6.ch).trans C7.ch).trans ll.ch).trans C8.ch).trans GM).trans kC.ch).trans BC.ch).trans Ac.ch).trans Ad.ch).trans Dl).trans zc.ch).trans mQ.ch).trans jU.ch).trans xN.ch).trans Au).trans jz.ch).trans vP.ch).trans uM.ch).trans ie.ch).trans yC).trans uN.ch).trans tv.ch).trans rW.ch).trans tw.ch).trans wX).trans rX.ch).trans iR.ch).trans qe.ch
 replace bo := bo.ch Z27
 refine zo (op_lenN Try.underlying22 rfl (bo.neq hO 5 rfl)) (zm rfl (zn (zb ?_)))
 have iT := Stp.nil (e := 39) (r := 2) hO
 replace hO := iT.own
 have Dn := Els.nil (rpRule) (bl (.row 39 2 none 0 0 [] :: [.row 3 1 DY (0 + 1) D0 GO, .row 9 1 A4 (0 + 1) A5 Fe, .row 3 1 yt (0 + 1) yu En, .row 3 1 ww (0 + 1) wx Dm, .row 26 1 uc (0 + 1) ud BN, .row 26 1 p35 n37 c36 iK, .blk B10 (.cells #[.int .i64 ((ix a0 (0 : Int)).length : Int), .bool true, .slice p35 n37 c36, .slice uc (0 + 1) ud, .slice ww (0 + 1) wx, .slice yt (0 + 1) yu, .slice none 0 0, .slice none 0 0, .int .i64 (0 : Int), .map (some B4), .slice A4 (0 + 1) A5, .slice DY (0 + 1) D0, .slice none 0 0] 72 (0, 0)), .any (mapE (fun a : List UInt8 => Value.string (gstr a)) (fun a : Int => Value.int .i64 a) B4 (mput (([] : List (Str × Int))) r407 ((0 : Int))))]) ++ A) IL
 have qf := Stp.nil (e := 3) (r := 1) hO
 replace hO := qf.own
 have O1 := Els.nil (Rp.int .i64) (bl (.row 3 1 none 0 0 [] :: [.row 39 2 none 0 0 [], .row 3 1 DY (0 + 1) D0 GO, .row 9 1 A4 (0 + 1) A5 Fe, .row 3 1 yt (0 + 1) yu En, .row 3 1 ww (0 + 1) wx Dm, .row 26 1 uc (0 + 1) ud BN, .row 26 1 p35 n37 c36 iK, .blk B10 (.cells #[.int .i64 ((ix a0 (0 : Int)).length : Int), .bool true, .slice p35 n37 c36, .slice uc (0 + 1) ud, .slice ww (0 + 1) wx, .slice yt (0 + 1) yu, .slice none 0 0, .slice none 0 0, .int .i64 (0 : Int), .map (some B4), .slice A4 (0 + 1) A5, .slice DY (0 + 1) D0, .slice none 0 0] 72 (0, 0)), .any (mapE (fun a : List UInt8 => Value.string (gstr a)) (fun a : Int => Value.int .i64 a) B4 (mput (([] : List (Str × Int))) r407 ((0 : Int))))]) ++ A) IL
 replace Dn := Dn.ch qf.ch
 replace bo := (bo.ch iT.ch).ch qf.ch
 have Z28 := (qe.ch.trans iT.ch).trans qf.ch
 replace Ax := Ax.ch Z28
 replace hB := ((((hB.trans rX.fr).trans iR.fr).trans qe.fr).trans iT.fr).trans qf.fr
 have Z29 := ((((((rW.ch.trans tw.ch).trans wX).trans rX.ch).trans iR.ch).trans qe.ch).trans iT.ch).trans qf.ch
 replace rM := rM.ch Z29
 have Z30 := (((((((((((uM.ch.trans ie.ch).trans yC).trans uN.ch).trans tv.ch).trans rW.ch).trans tw.ch).trans wX).trans rX.ch).trans iR.ch).trans qe.ch).trans iT.ch).trans qf.ch
 replace kX := kX.ch Z30
 have Z31 := ((((((((((((((((jU.ch.trans xN.ch).trans Au).trans jz.ch).trans vP.ch).trans uM.ch).trans ie.ch).trans yC).trans uN.ch).trans tv.ch).trans rW.ch).trans tw.ch).trans wX).trans rX.ch).trans iR.ch).trans qe.ch).trans iT.ch).trans qf.ch
 replace iv := iv.ch Z31
 have Z32 := (((((((((((((((((((((Ac.ch.trans Ad.ch).trans Dl).trans zc.ch).trans mQ.ch).trans jU.ch).trans xN.ch).trans Au).trans jz.ch).trans vP.ch).trans uM.ch).trans ie.ch).trans yC).trans uN.ch).trans tv.ch).trans rW.ch).trans tw.ch).trans wX).trans rX.ch).trans iR.ch).trans qe.ch).trans iT.ch).trans qf.ch
 replace gJ := gJ.ch Z32
 refine Go1.loopW (S := Nat × List Int × List Rule × List Int × List Str × List Int × List Int × List (List Int) × (List (Str × Int))) (fun s σ w => match s with | (k3_548, d_549, d_555, d_561, d_567, d_573, d_579, d_585, m3_591) => ∃ (kT : Nat), ∃ (ne : Option Addr), ∃ (nf : Nat), ∃ (vq : List Value), ∃ (lm : Nat), ∃ (mA : Option Addr), ∃ (mB : Nat), ∃ (ue : List Value), ∃ (lp : Nat), ∃ (mC : Option Addr), ∃ (mD : Nat), ∃ (uf : List Value), ∃ (lr : Nat), ∃ (ng : Option Addr), ∃ (nh : Nat), ∃ (ug : List Value), ∃ (lv : Nat), ∃ (nB : Option Addr), ∃ (nC : Nat), ∃ (uh : List Value), ∃ (lx : Nat), ∃ (ot : Option Addr), ∃ (ou : Nat), ∃ (ui : List Value), ∃ (ly : Nat), ∃ (o3 : Option Addr), ∃ (o4 : Nat), ∃ (uj : List Value), agrees σ [(6, .pointer (some ⟨B10, 0, none⟩)), (9, .int .i64 (0 : Int)), (85, .slice p35 n37 c36), (86, .int .i64 (d_32.length : Int)), (87, .int .i64 (k3_548 : Int))] ∧ (fun Z0 => Owns w0.heap.size w Z0 A ∧ Els (Rp.int .i64) (bl Z0 ++ A) w vq d_549 ∧ Els (rpRule) (bl Z0 ++ A) w ue d_555 ∧ Els (Rp.int .i64) (bl Z0 ++ A) w uf d_561 ∧ Els (Rp.str) (bl Z0 ++ A) w ug d_567 ∧ Els (Rp.int .i64) (bl Z0 ++ A) w uh d_573 ∧ Els (Rp.int .i64) (bl Z0 ++ A) w ui d_579 ∧ Els (Rp.sl (Rp.int .i64)) (bl Z0 ++ A) w uj d_585 ∧ Els (Rp.sl (Rp.int .i64)) (bl Z0 ++ A) w iK d_32 ∧ Fr (bl []) w0 (bl Z0) w) [.row 3 1 ne kT nf vq, .row 39 2 mA lm mB ue, .row 3 1 mC lp mD uf, .row 9 1 ng lr nh ug, .row 3 1 nB lv nC uh, .row 3 1 ot lx ou ui, .row 26 1 o3 ly o4 uj, .row 26 1 p35 n37 c36 iK, .blk B10 (.cells #[.int .i64 ((ix a0 (0 : Int)).length : Int), .bool true, .slice p35 n37 c36, .slice o3 ly o4, .slice ot lx ou, .slice nB lv nC, .slice none 0 0, .slice mA lm mB, .int .i64 (0 : Int), .map (some B4), .slice ng lr nh, .slice mC lp mD, .slice ne kT nf] 72 (0, 0)), .any (mapE (fun a : List UInt8 => Value.string (gstr a)) (fun a : Int => Value.int .i64 a) B4 m3_591)]) H ⟨0, none, 0, [], 0, none, 0, [], 0 + 1, DY, D0, GO, 0 + 1, A4, A5, Fe, 0 + 1, yt, yu, En, 0 + 1, ww, wx, Dm, 0 + 1, uc, ud, BN, ⟨rfl, rfl, rfl, rfl, rfl, trivial⟩, hO, O1, Dn, Ax, rM, kX, iv, gJ, bo, hB⟩ ?_
 intro X3
 refine prE fun k3_548 => prE fun d_549 => prE fun d_555 => prE fun d_561 => prE fun d_567 => prE fun d_573 => prE fun d_579 => prE fun d_585 => fun m3_591 => ?_
 intro H hX3 σ UB
 refine exE fun kT => exE fun ne => exE fun nf => exE fun vq => exE fun lm => exE fun mA => exE fun mB => exE fun ue => exE fun lp => exE fun mC => exE fun mD => exE fun uf => exE fun lr => exE fun ng => exE fun nh => exE fun ug => exE fun lv => exE fun nB => exE fun nC => exE fun uh => exE fun lx => exE fun ot => exE fun ou => exE fun ui => exE fun ly => exE fun o3 => exE fun o4 => exE fun uj => andE fun hag => andE fun hO => andE fun dB => andE fun dy => andE fun dH => andE fun dO => andE fun eG => andE fun ff => andE fun fB => andE fun bo => fun hB => ?_
 dsimp only at H
 refine Go1.keep [(6, .pointer (some ⟨B10, 0, none⟩)), (9, .int .i64 (0 : Int)), (85, .slice p35 n37 c36), (86, .int .i64 (d_32.length : Int)), (87, .int .i64 (k3_548 : Int))] hag ?_
 refine zq (zr ?_)
 by_cases EM : (k3_548 : Int) < (d_32.length : Int)
 ·replace H := ifp EM H
  refine zo (fun w => opB (op_lss rfl rfl w) (decide_eq_true EM)) (zn (zq (zt rfl rfl (zk (zq ?_)))))
  refine zb (zq (zr (zm rfl ?_)))
  obtain ⟨IM, H⟩ := H
  obtain ⟨IN, H⟩ := H
  refine zo (op_index Try.underlying22 ti26 rfl rfl IM (ltn (bo.neq hO 7 rfl) IN) (bo.psome hO 7 rfl IM IN)) ?_
  have hobt := oldSl 7 hO rfl bo IM IN
  obtain ⟨Lr, Ls, er, O2⟩ := hobt
  refine zs (O2 Try.underlying26 rfl rfl) (za rfl (za rfl (zn (zq (zr ?_)))))
  refine zm rfl ?_
  obtain ⟨UC, H⟩ := H
  refine zo (op_add rfl rfl (wrap_i64 UC)) (zo (op_conv Try.underlying3 Try.underlying21 rfl rfl) ?_)
  obtain ⟨UD, H⟩ := H
  obtain ⟨UE, H⟩ := H
  refine zo (op_convRS Try.underlying21 Try.underlying9 rfl UD UE) (za rfl (zn (zq ?_)))
  refine Go1.drawS 0 [(0, .pure), (1, .pure), (2, .pure), (3, .stable), (4, .pure), (5, .loud), (6, .stable), (7, .pure), (8, .pure), (9, .pure), (10, .pure), (11, .pure)] mixed (by kernel_rfl) ?_
  intro YX O3
  have vQ := Stp.same hO O3
  replace hO := vQ.own
  refine GoQ.pure rfl (op_move rfl) rfl rfl ?_
  refine GoQ.pure rfl (op_nilCheck rfl) rfl rfl ?_
  refine GoQ.pure rfl (op_fieldAddr Try.underlying72 rfl ti69 rfl (by decide)) rfl rfl ?_
  refine GoQ.stable rfl (oblk (i := 9) 8 hO rfl rfl Try.underlying69 rfl rfl) rfl rfl ?_
  refine GoQ.pure rfl (op_move rfl) rfl rfl ?_
  replace er := er.ch vQ.ch
  refine GoQ.call rfl (op_call body61 rfl (walk_enumerate_text hO.lt er H)) (fun v w hr => by obtain ⟨_, _, hs, _, _⟩ := hr; assumption) rfl rfl ?_
  rintro YY Y0 ⟨r605, rfl, O4, WX, H⟩
  have vR := Stp.same hO O4
  replace hO := vR.own
  by_cases GP : mhas m3_591 r605 = true
  ·replace H := ifp GP H
   refine GoQ.stable rfl (olookT (a := r605) (MK.str Try.underlying9) 9 hO rfl Try.underlying69 rfl rfl GP) rfl rfl ?_
   refine GoQ.pure rfl (op_move rfl) rfl rfl ?_
   refine GoQ.pure rfl (op_extract rfl rfl) rfl rfl ?_
   refine GoQ.pure rfl (op_extract rfl rfl) rfl rfl ?_
   refine GoQ.pure rfl (op_assign rfl) rfl rfl ?_
   refine GoQ.pure rfl (op_assign rfl) rfl rfl ?_
   refine GoQ.nil ?_
   refine zq (zq ?_)
   refine Go1.cut [(6, .pointer (some ⟨B10, 0, none⟩)), (9, .int .i64 (0 : Int)), (10, .int .i64 (k3_548 : Int)), (11, .slice Lr ((ix d_32 (k3_548 : Int)).length) Ls), (12, .string (gstr (chr (IntKind.i32.wrap ((97 : Int) + (k3_548 : Int)))))), (13, .int .i64 (mgt m3_591 r605)), (14, .bool true), (85, .slice p35 n37 c36), (86, .int .i64 (d_32.length : Int)), (87, .int .i64 (k3_548 : Int))] ⟨rfl, rfl, rfl, rfl, rfl, rfl, rfl, rfl, rfl, rfl, trivial⟩ ?_
   intro σ _
   refine zr (zm rfl (zn (zt rfl rfl ?_)))
   refine Go1.drawS 5 [(0, .pure), (1, .pure), (2, .pure), (3, .pure), (4, .pure), (5, .stable), (6, .pure), (7, .pure), (8, .pure), (9, .pure), (10, .stable), (11, .pure), (12, .pure), (13, .stable), (14, .pure), (15, .loud), (16, .last), (17, .pure), (18, .pure), (19, .pure), (20, .last)] mixed (by kernel_rfl) ?_
   intro Y1 O5
   have vS := Stp.same hO O5
   replace hO := vS.own
   refine GoQ.pure rfl (op_move rfl) rfl rfl ?_
   refine GoQ.pure rfl (op_move rfl) rfl rfl ?_
   refine GoQ.pure rfl (op_nilCheck rfl) rfl rfl ?_
   refine GoQ.pure rfl (op_fieldAddr Try.underlying72 rfl ti29 rfl (by decide)) rfl rfl ?_
   refine GoQ.pure rfl (op_fieldAddr Try.underlying29 rfl ti27 rfl (by decide)) rfl rfl ?_
   refine GoQ.stable rfl (oblk (i := 7) 8 hO rfl rfl Try.underlying27 rfl rfl) rfl rfl ?_
   refine GoQ.pure rfl (op_move rfl) rfl rfl ?_
   refine GoQ.pure rfl (op_move rfl) rfl rfl ?_
   refine GoQ.pure rfl (op_nilCheck rfl) rfl rfl ?_
   refine GoQ.pure rfl (op_fieldAddr Try.underlying72 rfl ti70 rfl (by decide)) rfl rfl ?_
   refine GoQ.stable rfl (oblk (i := 10) 8 hO rfl rfl Try.underlying70 rfl rfl) rfl rfl ?_
   refine GoQ.pure rfl (op_move rfl) rfl rfl ?_
   obtain ⟨GQ, H⟩ := H
   obtain ⟨GR, H⟩ := H
   have Z33 := (vQ.ch.trans vR.ch).trans vS.ch
   replace dO := dO.ch Z33
   refine GoQ.pure rfl (op_index Try.underlying70 ti9 rfl rfl GQ (ltn (dO.neq hO 3 rfl) GR) (dO.psome hO 3 rfl GQ GR)) rfl rfl ?_
   refine GoQ.stable rfl (oldStr 3 hO rfl dO GQ GR Try.underlying9 rfl rfl) rfl rfl ?_
   have hle617 := Els.str_le dO GQ GR
   refine GoQ.pure rfl (op_build Try.underlying39 ti39 (pl := [(0, 1), (1, 1)]) (vs := [(0, .string (gstr (chr (IntKind.i32.wrap ((97 : Int) + (k3_548 : Int)))))), (1, .string (gstr (ix d_567 (mgt m3_591 r605))))]) (cs := #[.string (gstr (chr (IntKind.i32.wrap ((97 : Int) + (k3_548 : Int))))), .string (gstr (ix d_567 (mgt m3_591 r605)))]) (by kernel_rfl) rfl (by kernel_rfl)) rfl rfl ?_
   have hobt := obuildN (r := rpRule) (n := 1) (parts := [(0, .agg #[.string (gstr (chr (IntKind.i32.wrap ((97 : Int) + (k3_548 : Int))))), .string (gstr (ix d_567 (mgt m3_591 r605)))])]) (vs := [.string (gstr (chr (IntKind.i32.wrap ((97 : Int) + (k3_548 : Int))))), .string (gstr (ix d_567 (mgt m3_591 r605)))]) (xs := [(⟨chr (IntKind.i32.wrap ((97 : Int) + (k3_548 : Int))), ix d_567 (mgt m3_591 r605)⟩ : Rule)]) Try.underlying27 ti39 hO (by decide) (by decide) (by kernel_rfl) (Els.flat1 (⟨chr (IntKind.i32.wrap ((97 : Int) + (k3_548 : Int))), ix d_567 (mgt m3_591 r605)⟩ : Rule) ⟨(chr_le _), hle617⟩) rfl
   obtain ⟨UF, UG, lM, GT, J5, FP⟩ := hobt
   refine GoQ.loud rfl (FP rfl) J5 rfl rfl ?_
   replace hO := lM.own
   have hobt := freeze 0 hO rfl GT
   obtain ⟨hO1, pX, nD, GU⟩ := hobt
   dsimp only [eS, eZ] at hO1 pX nD
   replace hB := ((((hB.trans vQ.fr).trans vR.fr).trans vS.fr).trans lM.fr).trans (Owns.dropFr _ _ 0)
   dsimp only [eS, eZ] at hB
   replace hO := hO1; clear hO1
   obtain ⟨IQ, H⟩ := H
   replace dy := ((dy.ch Z33).ch lM.ch).ch pX
   have hobt := oapp Try.underlying27 ti39 rfl 1 hO rfl dy nD GU IQ (by decide)
   obtain ⟨UH, BP, BQ, GW, kO, qP, FQ⟩ := hobt
   dsimp only [sS, sZ] at kO qP
   refine GoQ.last rfl (FQ (by exact rfl) (by exact rfl)) rfl rfl ?_
   replace hO := kO.own
   refine GoQ.pure rfl (op_nilCheck rfl) rfl rfl ?_
   refine GoQ.pure rfl (op_fieldAddr Try.underlying72 rfl ti29 rfl (by decide)) rfl rfl ?_
   refine GoQ.pure rfl (op_fieldAddr Try.underlying29 rfl ti27 rfl (by decide)) rfl rfl ?_
   have hobt := oblkSt2 (v := .slice BP (lm + 1) BQ) (i := 7) (cs' := #[.int .i64 ((ix a0 (0 : Int)).length : Int), .bool true, .slice p35 n37 c36, .slice o3 ly o4, .slice ot lx ou, .slice nB lv nC, .slice none 0 0, .slice BP (lm + 1) BQ, .int .i64 (0 : Int), .map (some B4), .slice ng lr nh, .slice mC lp mD, .slice ne kT nf]) 8 hO rfl rfl rfl rfl
   obtain ⟨UI, kd, FS⟩ := hobt
   dsimp only [sS, sZ] at kd
   refine GoQ.last rfl (FS Try.underlying27 rfl ti27 (by exact rfl) (by exact rfl)) rfl rfl ?_
   replace hO := kd.own
   refine GoQ.nil ?_
   refine Go1.cut [(6, .pointer (some ⟨B10, 0, none⟩)), (9, .int .i64 (0 : Int)), (13, .int .i64 (mgt m3_591 r605)), (85, .slice p35 n37 c36), (86, .int .i64 (d_32.length : Int)), (87, .int .i64 (k3_548 : Int))] ⟨rfl, rfl, rfl, rfl, rfl, rfl, trivial⟩ ?_
   intro σ _
   refine zr (zm rfl (zm rfl (zo (op_nilCheck rfl) (zo (op_fieldAddr Try.underlying72 rfl ti26 rfl (by decide)) (zs (oblk (i := 12) 8 hO rfl rfl Try.underlying26 rfl rfl) ?_)))))
   refine zm rfl ?_
   have hobt := obuild (r := Rp.int .i64) (n := 1) (parts := [(0, .int .i64 (mgt m3_591 r605))]) (vs := [.int .i64 (mgt m3_591 r605)]) (xs := [(mgt m3_591 r605)]) rfl Try.underlying26 ti3 hO (by decide) (by kernel_rfl) (Els.cons rfl rfl (Els.nil _ _ _) (by simp [mx])) rfl
   obtain ⟨Y2, Y3, kD, O6, Xq, Lt⟩ := hobt
   refine zg (Lt rfl) ?_
   replace hO := kD.own
   have hobt := freeze 0 hO rfl O6
   obtain ⟨hO1, xO, Do, O7⟩ := hobt
   dsimp only [eS, eZ] at hO1 xO Do
   replace hB := (((hB.trans kO.fr).trans kd.fr).trans kD.fr).trans (Owns.dropFr _ _ 0)
   dsimp only [eS, eZ] at hB
   replace hO := hO1; clear hO1
   obtain ⟨UJ, H⟩ := H
   have Z34 := (((((Z33.trans lM.ch).trans pX).trans kO.ch).trans kd.ch).trans kD.ch).trans xO
   replace dB := dB.ch Z34
   have hobt := oapp Try.underlying26 ti3 rfl 0 hO rfl dB Do O7 UJ (by decide)
   obtain ⟨Y4, IR, IS, O8, tx, Ff, Lu⟩ := hobt
   dsimp only [sS, sZ] at tx Ff
   refine zg (Lu (by exact rfl) (by exact rfl)) ?_
   replace hO := tx.own
   refine zo (op_nilCheck rfl) (zo (op_fieldAddr Try.underlying72 rfl ti26 rfl (by decide)) ?_)
   have hobt := oblkSt2 (v := .slice IR (kT + 1) IS) (i := 12) (cs' := #[.int .i64 ((ix a0 (0 : Int)).length : Int), .bool true, .slice p35 n37 c36, .slice o3 ly o4, .slice ot lx ou, .slice nB lv nC, .slice none 0 0, .slice BP (lm + 1) BQ, .int .i64 (0 : Int), .map (some B4), .slice ng lr nh, .slice mC lp mD, .slice IR (kT + 1) IS]) 8 hO rfl rfl rfl rfl
   obtain ⟨Y5, rY, Lv⟩ := hobt
   dsimp only [sS, sZ] at rY
   refine zg (Lv Try.underlying26 rfl ti26 (by exact rfl) (by exact rfl)) ?_
   replace hO := rY.own
   refine zn ?_
   refine Go1.inBlock ?_
   refine zr ?_
   replace bo := ((bo.ch Z34).ch tx.ch).ch rY.ch
   refine zo (op_add rfl rfl (wrap_i64 (natbd EM bo.bd))) (zm rfl (zn ?_))
   replace Ff := Ff.ch rY.ch
   replace hB := (hB.trans tx.fr).trans rY.fr
   have Z35 := (((kd.ch.trans kD.ch).trans xO).trans tx.ch).trans rY.ch
   replace qP := qP.ch Z35
   have Z36 := ((((((lM.ch.trans pX).trans kO.ch).trans kd.ch).trans kD.ch).trans xO).trans tx.ch).trans rY.ch
   replace dO := dO.ch Z36
   have Z37 := (Z34.trans tx.ch).trans rY.ch
   replace dH := dH.ch Z37
   replace eG := eG.ch Z37
   replace ff := ff.ch Z37
   replace fB := fB.ch Z37
   exact hX3 _ H _ _ ⟨kT + 1, IR, IS, O8, lm + 1, BP, BQ, GW, lp, mC, mD, uf, lr, ng, nh, ug, lv, nB, nC, uh, lx, ot, ou, ui, ly, o3, o4, uj, ⟨rfl, rfl, rfl, rfl, rfl, trivial⟩, hO, Ff, qP, dH, dO, eG, ff, fB, bo, hB⟩
  replace H := ifn GP H
  refine GoQ.stable rfl (olookF (a := r605) (MK.str Try.underlying9) 9 hO rfl Try.underlying69 ti3 rfl rfl GP) rfl rfl ?_
  refine GoQ.pure rfl (op_move rfl) rfl rfl ?_
  refine GoQ.pure rfl (op_extract rfl rfl) rfl rfl ?_
  refine GoQ.pure rfl (op_extract rfl rfl) rfl rfl ?_
  refine GoQ.pure rfl (op_assign rfl) rfl rfl ?_
  refine GoQ.pure rfl (op_assign rfl) rfl rfl ?_
  refine GoQ.nil ?_
  refine zq (zq (zr (zm rfl (zn (zf rfl rfl ?_)))))
  refine Go1.cut [(6, .pointer (some ⟨B10, 0, none⟩)), (9, .int .i64 (0 : Int)), (10, .int .i64 (k3_548 : Int)), (11, .slice Lr ((ix d_32 (k3_548 : Int)).length) Ls), (12, .string (gstr (chr (IntKind.i32.wrap ((97 : Int) + (k3_548 : Int)))))), (85, .slice p35 n37 c36), (86, .int .i64 (d_32.length : Int)), (87, .int .i64 (k3_548 : Int))] ⟨rfl, rfl, rfl, rfl, rfl, rfl, rfl, rfl, trivial⟩ ?_
  intro σ _
  refine zr (zm rfl (zm rfl ?_))
  replace er := er.ch vR.ch
  refine GoR.call (op_call body64 rfl (walk_slices_Clone_int hO.lt er H)) rfl rfl ?_
  rintro Y6 Y7 ⟨r662, C9, zd, zh, WY, rfl, O9, hN666, yD, H⟩
  have uO := Stp.more hO O9 hN666
  dsimp only [List.cons_append, List.nil_append] at uO
  replace hO := uO.own
  refine zm rfl (zm rfl (zm rfl (zm rfl ?_)))
  refine GoR.inl (vs := [.pointer (some ⟨B10, 0, none⟩), .slice zd C9 zh, .int .i64 (0 : Int), .int .i64 (k3_548 : Int), .string (gstr (chr (IntKind.i32.wrap ((97 : Int) + (k3_548 : Int))))), .int .i64 (0 : Int)]) (caps := []) rfl rfl body65 Try.func65 rfl Try.ntmps65 rfl rfl rfl ?_
  intro RhR670 hR670
  refine zq (zr (za rfl (zn (zq (zr ?_)))))
  refine zm rfl (zo (op_nilCheck rfl) (zo (op_fieldAddr Try.underlying72 rfl ti29 rfl (by decide)) (zo (op_fieldAddr Try.underlying29 rfl ti22 rfl (by decide)) (zs (oblk (i := 3) 9 hO rfl rfl Try.underlying22 rfl rfl) ?_))))
  have Z38 := (vQ.ch.trans vR.ch).trans uO.ch
  replace fB := fB.ch Z38
  refine zo (op_lenN Try.underlying22 rfl (fB.neq hO 7 rfl)) (za rfl (zn (zq ?_)))
  refine Go1.drawS 1 [(0, .pure), (1, .pure), (2, .pure), (3, .stable), (4, .pure), (6, .pure), (5, .loud), (7, .last)] mixed (by kernel_rfl) ?_
  intro Y8 Pa
  have uP := Stp.same hO Pa
  replace hO := uP.own
  refine GoQ.pure rfl (op_move rfl) rfl rfl ?_
  refine GoQ.pure rfl (op_nilCheck rfl) rfl rfl ?_
  refine GoQ.pure rfl (op_fieldAddr Try.underlying72 rfl ti69 rfl (by decide)) rfl rfl ?_
  refine GoQ.stable rfl (oblk (i := 9) 9 hO rfl rfl Try.underlying69 rfl rfl) rfl rfl ?_
  refine GoQ.pure rfl (op_move rfl) rfl rfl ?_
  refine GoQ.pure rfl (op_move rfl) rfl rfl ?_
  replace yD := (yD.ch (Ch.assoc _ _ _ _)).ch uP.ch
  have hobt := rowlend 0 hO rfl yD
  obtain ⟨Pb, Pc⟩ := hobt
  have hOc676 := hO.drop 0
  refine GoQ.call rfl (op_call body61 (show ([.slice zd C9 zh] : List Value) = [.slice zd r662.length zh] from by rw [← Pc]) (walk_enumerate_text hOc676.lt Pb H)) (fun v w hr => by obtain ⟨_, _, hs, _, _⟩ := hr; assumption) rfl rfl ?_
  rintro Y9 aaa ⟨r677, rfl, Pd, W0, H⟩
  have uQ := Stp.same hO Pd
  replace hO := uQ.own
  have hobt := omapUpd (MK.str Try.underlying9) 10 hO rfl Try.underlying69 r677 (d_585.length : Int)
  obtain ⟨aab, tz, Lw⟩ := hobt
  dsimp only [sS, sZ] at tz
  refine GoQ.last rfl (Lw (by exact rfl) (by exact rfl) (by exact rfl)) rfl rfl ?_
  replace hO := tz.own
  refine GoQ.nil ?_
  refine zq ?_
  refine Go1.cut [(0, .pointer (some ⟨B10, 0, none⟩)), (1, .slice zd C9 zh), (2, .int .i64 (0 : Int)), (3, .int .i64 (k3_548 : Int)), (4, .string (gstr (chr (IntKind.i32.wrap ((97 : Int) + (k3_548 : Int)))))), (5, .int .i64 (0 : Int)), (13, .int .i64 (d_585.length : Int))] ⟨rfl, rfl, rfl, rfl, rfl, rfl, rfl, trivial⟩ ?_
  intro σ _
  refine zr (zm rfl (zm rfl (zo (op_nilCheck rfl) (zo (op_fieldAddr Try.underlying72 rfl ti29 rfl (by decide)) (zo (op_fieldAddr Try.underlying29 rfl ti22 rfl (by decide)) ?_)))))
  refine zs (oblk (i := 3) 9 hO rfl rfl Try.underlying22 rfl rfl) (zm rfl ?_)
  replace yD := (yD.ch uQ.ch).ch tz.ch
  have hobt := freeze 0 hO rfl yD
  obtain ⟨hO1, yE, gB, Pe⟩ := hobt
  dsimp only [eS, eZ] at hO1 yE gB
  replace hB := ((((((hB.trans vQ.fr).trans vR.fr).trans uO.fr).trans uP.fr).trans uQ.fr).trans tz.fr).trans (Owns.dropFr _ _ 0)
  dsimp only [eS, eZ] at hB
  replace hO := hO1; clear hO1
  have hobt := obuild (r := Rp.sl (Rp.int .i64)) (n := 1) (parts := [(0, .slice zd C9 zh)]) (vs := [.slice zd C9 zh]) (xs := [r662]) rfl Try.underlying22 ti26 hO (by decide) (by kernel_rfl) (Els.cons rfl ⟨zd, zh, congrArg some (congrArg (fun nn => Value.slice zd nn zh) Pe), gB⟩ (Els.nil _ _ _) (by simp [mx])) rfl
  obtain ⟨aac, aad, uR, Pf, Xr, Lx⟩ := hobt
  refine zg (Lx rfl) ?_
  replace hO := uR.own
  have hobt := freeze 0 hO rfl Pf
  obtain ⟨hO1, xP, gN, Pg⟩ := hobt
  dsimp only [eS, eZ] at hO1 xP gN
  replace hB := (hB.trans uR.fr).trans (Owns.dropFr _ _ 0)
  dsimp only [eS, eZ] at hB
  replace hO := hO1; clear hO1
  obtain ⟨UK, H⟩ := H
  have Z39 := ((((uP.ch.trans uQ.ch).trans tz.ch).trans yE).trans uR.ch).trans xP
  replace fB := fB.ch Z39
  have hobt := oapp Try.underlying22 ti26 rfl 6 hO rfl fB gN Pg UK (by decide)
  obtain ⟨aae, Db, Dc, Ph, tA, gV, Ly⟩ := hobt
  dsimp only [sS, sZ] at tA gV
  refine zg (Ly (by exact rfl) (by exact rfl)) ?_
  replace hO := tA.own
  refine zo (op_nilCheck rfl) (zo (op_fieldAddr Try.underlying72 rfl ti29 rfl (by decide)) (zo (op_fieldAddr Try.underlying29 rfl ti22 rfl (by decide)) ?_))
  have hobt := oblkSt2 (v := .slice Db (ly + 1) Dc) (i := 3) (cs' := #[.int .i64 ((ix a0 (0 : Int)).length : Int), .bool true, .slice p35 n37 c36, .slice Db (ly + 1) Dc, .slice ot lx ou, .slice nB lv nC, .slice none 0 0, .slice mA lm mB, .int .i64 (0 : Int), .map (some B4), .slice ng lr nh, .slice mC lp mD, .slice ne kT nf]) 8 hO rfl rfl rfl rfl
  obtain ⟨aaf, sa, Lz⟩ := hobt
  dsimp only [sS, sZ] at sa
  refine zg (Lz Try.underlying22 rfl ti22 (by exact rfl) (by exact rfl)) ?_
  replace hO := sa.own
  refine zn (zq (zr (zm rfl (zm rfl (zo (op_nilCheck rfl) ?_)))))
  refine zo (op_fieldAddr Try.underlying72 rfl ti29 rfl (by decide)) (zo (op_fieldAddr Try.underlying29 rfl ti26 rfl (by decide)) (zs (oblk (i := 4) 8 hO rfl rfl Try.underlying26 rfl rfl) (zm rfl ?_)))
  have hobt := obuild (r := Rp.int .i64) (n := 1) (parts := [(0, .int .i64 (0 : Int))]) (vs := [.int .i64 (0 : Int)]) (xs := [(0 : Int)]) rfl Try.underlying26 ti3 hO (by decide) (by kernel_rfl) (Els.cons rfl rfl (Els.nil _ _ _) (by simp [mx])) rfl
  obtain ⟨aag, aah, tB, Pi, Xs, LA⟩ := hobt
  refine zg (LA rfl) ?_
  replace hO := tB.own
  have hobt := freeze 0 hO rfl Pi
  obtain ⟨hO1, xa, iw, Pj⟩ := hobt
  dsimp only [eS, eZ] at hO1 xa iw
  replace hB := (((hB.trans tA.fr).trans sa.fr).trans tB.fr).trans (Owns.dropFr _ _ 0)
  dsimp only [eS, eZ] at hB
  replace hO := hO1; clear hO1
  obtain ⟨UL, H⟩ := H
  have Z40 := (((((((((Z38.trans uP.ch).trans uQ.ch).trans tz.ch).trans yE).trans uR.ch).trans xP).trans tA.ch).trans sa.ch).trans tB.ch).trans xa
  replace ff := ff.ch Z40
  have hobt := oapp Try.underlying26 ti3 rfl 5 hO rfl ff iw Pj UL (by decide)
  obtain ⟨aai, D1, D2, Pk, sb, iW, LB⟩ := hobt
  dsimp only [sS, sZ] at sb iW
  refine zg (LB (by exact rfl) (by exact rfl)) ?_
  replace hO := sb.own
  refine zo (op_nilCheck rfl) (zo (op_fieldAddr Try.underlying72 rfl ti29 rfl (by decide)) (zo (op_fieldAddr Try.underlying29 rfl ti26 rfl (by decide)) ?_))
  have hobt := oblkSt2 (v := .slice D1 (lx + 1) D2) (i := 4) (cs' := #[.int .i64 ((ix a0 (0 : Int)).length : Int), .bool true, .slice p35 n37 c36, .slice Db (ly + 1) Dc, .slice D1 (lx + 1) D2, .slice nB lv nC, .slice none 0 0, .slice mA lm mB, .int .i64 (0 : Int), .map (some B4), .slice ng lr nh, .slice mC lp mD, .slice ne kT nf]) 8 hO rfl rfl rfl rfl
  obtain ⟨aaj, q8, LD⟩ := hobt
  dsimp only [sS, sZ] at q8
  refine zg (LD Try.underlying26 rfl ti26 (by exact rfl) (by exact rfl)) ?_
  replace hO := q8.own
  refine zn (zq ?_)
  refine Go1.cut [(0, .pointer (some ⟨B10, 0, none⟩)), (3, .int .i64 (k3_548 : Int)), (4, .string (gstr (chr (IntKind.i32.wrap ((97 : Int) + (k3_548 : Int)))))), (5, .int .i64 (0 : Int)), (13, .int .i64 (d_585.length : Int))] ⟨rfl, rfl, rfl, rfl, rfl, trivial⟩ ?_
  intro σ _
  refine zr (zm rfl (zm rfl (zo (op_nilCheck rfl) (zo (op_fieldAddr Try.underlying72 rfl ti29 rfl (by decide)) (zo (op_fieldAddr Try.underlying29 rfl ti26 rfl (by decide)) ?_)))))
  refine zs (oblk (i := 5) 8 hO rfl rfl Try.underlying26 rfl rfl) (zm rfl ?_)
  have hobt := obuild (r := Rp.int .i64) (n := 1) (parts := [(0, .int .i64 (k3_548 : Int))]) (vs := [.int .i64 (k3_548 : Int)]) (xs := [(k3_548 : Int)]) rfl Try.underlying26 ti3 hO (by decide) (by kernel_rfl) (Els.cons rfl rfl (Els.nil _ _ _) (by simp [mx])) rfl
  obtain ⟨aak, aal, sc, Pl, Xt, LE⟩ := hobt
  refine zg (LE rfl) ?_
  replace hO := sc.own
  have hobt := freeze 0 hO rfl Pl
  obtain ⟨hO1, wa, kG, Pm⟩ := hobt
  dsimp only [eS, eZ] at hO1 wa kG
  replace hB := (((hB.trans sb.fr).trans q8.fr).trans sc.fr).trans (Owns.dropFr _ _ 0)
  dsimp only [eS, eZ] at hB
  replace hO := hO1; clear hO1
  obtain ⟨UM, H⟩ := H
  have Z41 := (((Z40.trans sb.ch).trans q8.ch).trans sc.ch).trans wa
  replace eG := eG.ch Z41
  have hobt := oapp Try.underlying26 ti3 rfl 4 hO rfl eG kG Pm UM (by decide)
  obtain ⟨aam, EO, EP, Pn, q9, kY, LF⟩ := hobt
  dsimp only [sS, sZ] at q9 kY
  refine zg (LF (by exact rfl) (by exact rfl)) ?_
  replace hO := q9.own
  refine zo (op_nilCheck rfl) (zo (op_fieldAddr Try.underlying72 rfl ti29 rfl (by decide)) (zo (op_fieldAddr Try.underlying29 rfl ti26 rfl (by decide)) ?_))
  have hobt := oblkSt2 (v := .slice EO (lv + 1) EP) (i := 5) (cs' := #[.int .i64 ((ix a0 (0 : Int)).length : Int), .bool true, .slice p35 n37 c36, .slice Db (ly + 1) Dc, .slice D1 (lx + 1) D2, .slice EO (lv + 1) EP, .slice none 0 0, .slice mA lm mB, .int .i64 (0 : Int), .map (some B4), .slice ng lr nh, .slice mC lp mD, .slice ne kT nf]) 8 hO rfl rfl rfl rfl
  obtain ⟨aan, qg, LG⟩ := hobt
  dsimp only [sS, sZ] at qg
  refine zg (LG Try.underlying26 rfl ti26 (by exact rfl) (by exact rfl)) ?_
  replace hO := qg.own
  refine zn (zq (zr (zm rfl (zm rfl (zo (op_nilCheck rfl) ?_)))))
  refine zo (op_fieldAddr Try.underlying72 rfl ti70 rfl (by decide)) (zs (oblk (i := 10) 8 hO rfl rfl Try.underlying70 rfl rfl) (zm rfl ?_))
  have hobt := obuild (r := Rp.str) (n := 1) (parts := [(0, .string (gstr (chr (IntKind.i32.wrap ((97 : Int) + (k3_548 : Int))))))]) (vs := [.string (gstr (chr (IntKind.i32.wrap ((97 : Int) + (k3_548 : Int)))))]) (xs := [chr (IntKind.i32.wrap ((97 : Int) + (k3_548 : Int)))]) rfl Try.underlying70 ti9 hO (by decide) (by kernel_rfl) (Els.cons rfl ⟨rfl, (chr_le _)⟩ (Els.nil _ _ _) (by simp [mx])) rfl
  obtain ⟨aao, aap, ra, Po, Xu, LH⟩ := hobt
  refine zg (LH rfl) ?_
  replace hO := ra.own
  have hobt := freeze 0 hO rfl Po
  obtain ⟨hO1, vr, oB, Pp⟩ := hobt
  dsimp only [eS, eZ] at hO1 vr oB
  replace hB := (((hB.trans q9.fr).trans qg.fr).trans ra.fr).trans (Owns.dropFr _ _ 0)
  dsimp only [eS, eZ] at hB
  replace hO := hO1; clear hO1
  obtain ⟨UN, H⟩ := H
  have Z42 := (((Z41.trans q9.ch).trans qg.ch).trans ra.ch).trans vr
  replace dO := dO.ch Z42
  have hobt := oapp Try.underlying70 ti9 rfl 3 hO rfl dO oB Pp UN (by decide)
  obtain ⟨aaq, FT, FU, Pq, qh, pY, LI⟩ := hobt
  dsimp only [sS, sZ] at qh pY
  refine zg (LI (by exact rfl) (by exact rfl)) ?_
  replace hO := qh.own
  refine zo (op_nilCheck rfl) (zo (op_fieldAddr Try.underlying72 rfl ti70 rfl (by decide)) ?_)
  have hobt := oblkSt2 (v := .slice FT (lr + 1) FU) (i := 10) (cs' := #[.int .i64 ((ix a0 (0 : Int)).length : Int), .bool true, .slice p35 n37 c36, .slice Db (ly + 1) Dc, .slice D1 (lx + 1) D2, .slice EO (lv + 1) EP, .slice none 0 0, .slice mA lm mB, .int .i64 (0 : Int), .map (some B4), .slice FT (lr + 1) FU, .slice mC lp mD, .slice ne kT nf]) 8 hO rfl rfl rfl rfl
  obtain ⟨aar, pe, LJ⟩ := hobt
  dsimp only [sS, sZ] at pe
  refine zg (LJ Try.underlying70 rfl ti70 (by exact rfl) (by exact rfl)) ?_
  replace hO := pe.own
  refine zn (zq ?_)
  refine Go1.cut [(0, .pointer (some ⟨B10, 0, none⟩)), (5, .int .i64 (0 : Int)), (13, .int .i64 (d_585.length : Int))] ⟨rfl, rfl, rfl, trivial⟩ ?_
  intro σ _
  refine zr (zm rfl (zm rfl (zo (op_nilCheck rfl) (zo (op_fieldAddr Try.underlying72 rfl ti26 rfl (by decide)) (zs (oblk (i := 11) 8 hO rfl rfl Try.underlying26 rfl rfl) ?_)))))
  refine zm rfl ?_
  have hobt := obuild (r := Rp.int .i64) (n := 1) (parts := [(0, .int .i64 (0 : Int))]) (vs := [.int .i64 (0 : Int)]) (xs := [(0 : Int)]) rfl Try.underlying26 ti3 hO (by decide) (by kernel_rfl) (Els.cons rfl rfl (Els.nil _ _ _) (by simp [mx])) rfl
  obtain ⟨aas, aat, qi, Pr, Xv, LK⟩ := hobt
  refine zg (LK rfl) ?_
  replace hO := qi.own
  have hobt := freeze 0 hO rfl Pr
  obtain ⟨hO1, uk, vt, Ps⟩ := hobt
  dsimp only [eS, eZ] at hO1 uk vt
  replace hB := (((hB.trans qh.fr).trans pe.fr).trans qi.fr).trans (Owns.dropFr _ _ 0)
  dsimp only [eS, eZ] at hB
  replace hO := hO1; clear hO1
  obtain ⟨UO, H⟩ := H
  have Z43 := (((Z42.trans qh.ch).trans pe.ch).trans qi.ch).trans uk
  replace dH := dH.ch Z43
  have hobt := oapp Try.underlying26 ti3 rfl 2 hO rfl dH vt Ps UO (by decide)
  obtain ⟨aau, GX, GY, Pt, pg, xb, LM⟩ := hobt
  dsimp only [sS, sZ] at pg xb
  refine zg (LM (by exact rfl) (by exact rfl)) ?_
  replace hO := pg.own
  refine zo (op_nilCheck rfl) (zo (op_fieldAddr Try.underlying72 rfl ti26 rfl (by decide)) ?_)
  have hobt := oblkSt2 (v := .slice GX (lp + 1) GY) (i := 11) (cs' := #[.int .i64 ((ix a0 (0 : Int)).length : Int), .bool true, .slice p35 n37 c36, .slice Db (ly + 1) Dc, .slice D1 (lx + 1) D2, .slice EO (lv + 1) EP, .slice none 0 0, .slice mA lm mB, .int .i64 (0 : Int), .map (some B4), .slice FT (lr + 1) FU, .slice GX (lp + 1) GY, .slice ne kT nf]) 8 hO rfl rfl rfl rfl
  obtain ⟨aav, oH, LN⟩ := hobt
  dsimp only [sS, sZ] at oH
  refine zg (LN Try.underlying26 rfl ti26 (by exact rfl) (by exact rfl)) ?_
  replace hO := oH.own
  refine zn (zq (zr (zm rfl (za rfl (zn ?_)))))
  refine Go1.ret1V Try.func65 rfl (show _ = .int .i64 (d_585.length : Int) from rfl) ?_
  refine hR670 _ _ ?_
  refine za rfl (zn (zr (zm rfl (zm rfl (zo (op_nilCheck rfl) ?_)))))
  refine zo (op_fieldAddr Try.underlying72 rfl ti26 rfl (by decide)) (zs (oblk (i := 12) 8 hO rfl rfl Try.underlying26 rfl rfl) (zm rfl ?_))
  have hobt := obuild (r := Rp.int .i64) (n := 1) (parts := [(0, .int .i64 (d_585.length : Int))]) (vs := [.int .i64 (d_585.length : Int)]) (xs := [(d_585.length : Int)]) rfl Try.underlying26 ti3 hO (by decide) (by kernel_rfl) (Els.cons rfl rfl (Els.nil _ _ _) (by simp [mx])) rfl
  obtain ⟨aaw, aax, ph, Pu, Xw, LO⟩ := hobt
  refine zg (LO rfl) ?_
  replace hO := ph.own
  have hobt := freeze 0 hO rfl Pu
  obtain ⟨hO1, sU, Dp, Pv⟩ := hobt
  dsimp only [eS, eZ] at hO1 sU Dp
  replace hB := (((hB.trans pg.fr).trans oH.fr).trans ph.fr).trans (Owns.dropFr _ _ 0)
  dsimp only [eS, eZ] at hB
  replace hO := hO1; clear hO1
  obtain ⟨UP, H⟩ := H
  have Z44 := (((Z43.trans pg.ch).trans oH.ch).trans ph.ch).trans sU
  replace dB := dB.ch Z44
  have hobt := oapp Try.underlying26 ti3 rfl 0 hO rfl dB Dp Pv UP (by decide)
  obtain ⟨aay, IT, IU, Pw, oI, Fg, LP⟩ := hobt
  dsimp only [sS, sZ] at oI Fg
  refine zg (LP (by exact rfl) (by exact rfl)) ?_
  replace hO := oI.own
  refine zo (op_nilCheck rfl) (zo (op_fieldAddr Try.underlying72 rfl ti26 rfl (by decide)) ?_)
  have hobt := oblkSt2 (v := .slice IT (kT + 1) IU) (i := 12) (cs' := #[.int .i64 ((ix a0 (0 : Int)).length : Int), .bool true, .slice p35 n37 c36, .slice Db (ly + 1) Dc, .slice D1 (lx + 1) D2, .slice EO (lv + 1) EP, .slice none 0 0, .slice mA lm mB, .int .i64 (0 : Int), .map (some B4), .slice FT (lr + 1) FU, .slice GX (lp + 1) GY, .slice IT (kT + 1) IU]) 8 hO rfl rfl rfl rfl
  obtain ⟨aaz, nE, LQ⟩ := hobt
  dsimp only [sS, sZ] at nE
  refine zg (LQ Try.underlying26 rfl ti26 (by exact rfl) (by exact rfl)) ?_
  replace hO := nE.own
  refine zn ?_
  refine Go1.inBlock ?_
  refine Go1.cut [(6, .pointer (some ⟨B10, 0, none⟩)), (9, .int .i64 (0 : Int)), (85, .slice p35 n37 c36), (86, .int .i64 (d_32.length : Int)), (87, .int .i64 (k3_548 : Int))] ⟨rfl, rfl, rfl, rfl, rfl, trivial⟩ ?_
  intro σ _
  refine zr ?_
  replace bo := ((bo.ch Z44).ch oI.ch).ch nE.ch
  refine zo (op_add rfl rfl (wrap_i64 (natbd EM bo.bd))) (zm rfl (zn ?_))
  replace Fg := Fg.ch nE.ch
  replace hB := (hB.trans oI.fr).trans nE.fr
  have Z45 := (((oH.ch.trans ph.ch).trans sU).trans oI.ch).trans nE.ch
  replace xb := xb.ch Z45
  have Z46 := (((((((pe.ch.trans qi.ch).trans uk).trans pg.ch).trans oH.ch).trans ph.ch).trans sU).trans oI.ch).trans nE.ch
  replace pY := pY.ch Z46
  have Z47 := (((((((((((qg.ch.trans ra.ch).trans vr).trans qh.ch).trans pe.ch).trans qi.ch).trans uk).trans pg.ch).trans oH.ch).trans ph.ch).trans sU).trans oI.ch).trans nE.ch
  replace kY := kY.ch Z47
  have Z48 := (((((((((((((((q8.ch.trans sc.ch).trans wa).trans q9.ch).trans qg.ch).trans ra.ch).trans vr).trans qh.ch).trans pe.ch).trans qi.ch).trans uk).trans pg.ch).trans oH.ch).trans ph.ch).trans sU).trans oI.ch).trans nE.ch
  replace iW := iW.ch Z48
  have Z49 := (((((((((((((((((((sa.ch.trans tB.ch).trans xa).trans sb.ch).trans q8.ch).trans sc.ch).trans wa).trans q9.ch).trans qg.ch).trans ra.ch).trans vr).trans qh.ch).trans pe.ch).trans qi.ch).trans uk).trans pg.ch).trans oH.ch).trans ph.ch).trans sU).trans oI.ch).trans nE.ch
  replace gV := gV.ch Z49
  replace dy := ((dy.ch Z44).ch oI.ch).ch nE.ch
  exact hX3 _ H _ _ ⟨kT + 1, IT, IU, Pw, lm, mA, mB, ue, lp + 1, GX, GY, Pt, lr + 1, FT, FU, Pq, lv + 1, EO, EP, Pn, lx + 1, D1, D2, Pk, ly + 1, Db, Dc, Ph, ⟨rfl, rfl, rfl, rfl, rfl, trivial⟩, hO, Fg, dy, xb, pY, kY, iW, gV, bo, hB⟩
 replace H := ifn EM H
 refine zo (fun w => opB (op_lss rfl rfl w) (decide_eq_false EM)) (zn (zq (zf rfl rfl ?_)))
 refine Go1.exit rfl ?_
 refine zq (zr (zm rfl (za rfl (za rfl (zn ?_)))))
 have wE := Stp.nil (e := 26) (r := 1) hO
 replace hO := wE.own
 have nF := Els.nil (Rp.sl (Rp.int .i64)) (bl (.row 26 1 none 0 0 [] :: [.row 3 1 ne kT nf vq, .row 39 2 mA lm mB ue, .row 3 1 mC lp mD uf, .row 9 1 ng lr nh ug, .row 3 1 nB lv nC uh, .row 3 1 ot lx ou ui, .row 26 1 o3 ly o4 uj, .row 26 1 p35 n37 c36 iK, .blk B10 (.cells #[.int .i64 ((ix a0 (0 : Int)).length : Int), .bool true, .slice p35 n37 c36, .slice o3 ly o4, .slice ot lx ou, .slice nB lv nC, .slice none 0 0, .slice mA lm mB, .int .i64 (0 : Int), .map (some B4), .slice ng lr nh, .slice mC lp mD, .slice ne kT nf] 72 (0, 0)), .any (mapE (fun a : List UInt8 => Value.string (gstr a)) (fun a : Int => Value.int .i64 a) B4 m3_591)]) ++ A) UB
 have uS := Stp.front 10 hO rfl
 dsimp only [eS, eZ] at uS
 replace hO := uS.own
 have uT := Stp.front 2 hO rfl
 dsimp only [eS, eZ] at uT
 replace hO := uT.own
 have uU := Stp.front 4 hO rfl
 dsimp only [eS, eZ] at uU
 replace hO := uU.own
 have uV := Stp.front 5 hO rfl
 dsimp only [eS, eZ] at uV
 replace hO := uV.own
 have uW := Stp.front 5 hO rfl
 dsimp only [eS, eZ] at uW
 replace hO := uW.own
 have uX := Stp.front 5 hO rfl
 dsimp only [eS, eZ] at uX
 replace hO := uX.own
 have uY := Stp.front 6 hO rfl
 dsimp only [eS, eZ] at uY
 replace hO := uY.own
 have u0 := Stp.front 7 hO rfl
 dsimp only [eS, eZ] at u0
 replace hO := u0.own
 have u3 := Stp.front 8 hO rfl
 dsimp only [eS, eZ] at u3
 replace hO := u3.own
 have u4 := Stp.front 9 hO rfl
 dsimp only [eS, eZ] at u4
 replace hO := u4.own
 have u5 := Stp.front 10 hO rfl
 dsimp only [eS, eZ] at u5
 replace hO := u5.own
 refine Go1.ret2 Try.func49 rfl ?_
 have Z50 := (((((((((uS.ch.trans uT.ch).trans uU.ch).trans uV.ch).trans uW.ch).trans uX.ch).trans uY.ch).trans u0.ch).trans u3.ch).trans u4.ch).trans u5.ch
 replace nF := nF.ch Z50
 have Z51 := ((((((((((wE.ch.trans uS.ch).trans uT.ch).trans uU.ch).trans uV.ch).trans uW.ch).trans uX.ch).trans uY.ch).trans u0.ch).trans u3.ch).trans u4.ch).trans u5.ch
 replace dB := dB.ch Z51
 replace dy := dy.ch Z51
 replace dH := dH.ch Z51
 replace dO := dO.ch Z51
 replace eG := eG.ch Z51
 replace ff := ff.ch Z51
 replace fB := fB.ch Z51
 replace bo := bo.ch Z51
 replace hB := (((((((((((hB.trans wE.fr).trans uS.fr).trans uT.fr).trans uU.fr).trans uV.fr).trans uW.fr).trans uX.fr).trans uY.fr).trans u0.fr).trans u3.fr).trans u4.fr).trans u5.fr
 exact Or.inr ⟨(⟨(⟨((ix a0 (0 : Int)).length : Int), true, d_32, d_585, d_579, d_573, ([] : List (List Int)), d_555, (0 : Int)⟩ : Enum), m3_591, d_567, d_561, d_549⟩ : run), ((0 : Int)), B10, n37, p35, c36, iK, ly, o3, o4, uj, lx, ot, ou, ui, lv, nB, nC, uh, 0, none, 0, ([]), lm, mA, mB, ue, B4, lr, ng, nh, ug, lp, mC, mD, uf, kT, ne, nf, vq, rfl, hB.same, hO, bo, fB, ff, eG, nF, dy, dO, dH, dB, H⟩
theorem body37 : Body Try.prog 37 := ⟨Try.f37, Try.func37, rfl, by kernel_rfl⟩
theorem walk_trans_Compose {A : List Nat} {w0 : World} {p_f : Option Addr} {c_f : Nat} {p_g : Option Addr} {c_g : Nat} {f : List Int} {g : List Int} (hA : ∀ b ∈ A, b < w0.heap.size) (h_f : ISl (Rp.int .i64) A w0 p_f c_f f) (h_g : ISl (Rp.int .i64) A w0 p_g c_g g) {K : List Int → Prop} (H : trans_Compose f g K) :
    CallsV Try.prog 37 #[.slice p_f f.length c_f, .slice p_g g.length c_g] w0 (fun v w' => ∃ (r0 : List Int), ∃ (sL : Option Addr), ∃ (sM : Nat), v = .slice sL r0.length sM ∧ Same w0 w' ∧ ISl (Rp.int .i64) A w' sL sM r0 ∧ K r0) := by
 refine CallsV.of (l := [.slice p_f f.length c_f, .slice p_g g.length c_g]) Try.func37 rfl Try.ntmps37 rfl ?_
 have hO := Owns.start hA
 have hB := Fr.refl (bl []) w0
 unfold trans_Compose at H
 refine zq (zr (za rfl (zn (zq (zq ?_)))))
 refine zr (zm rfl (zo (op_len Try.underlying26 rfl) ?_))
 replace h_f := h_f.ch (Ch.start A w0)
 replace H := H h_f.bd
 refine zm rfl (zo (op_len Try.underlying26 rfl) ?_)
 replace h_g := h_g.ch (Ch.start A w0)
 replace H := H h_g.bd
 by_cases h1 : (f.length : Int) = (g.length : Int)
 ·replace H := ifp h1 H
  refine zo (fun w => opB (op_neq rfl rfl w) (ndT h1)) (zm rfl (zm rfl ?_))
  refine GoR.call (op_call body60 rfl (walk_trans_Valid hO.lt h_f H)) rfl rfl ?_
  rintro v6 w3 ⟨r2, rfl, hs4, H⟩
  have qQ := Stp.same hO hs4
  replace hO := qQ.own
  cases r2
  ·replace H := ifn Bool.false_ne_true H
   refine zo (op_not rfl) (zo (op_pickF rfl rfl rfl) (zm rfl (zp (zp (zp ?_)))))
   refine zo (op_pickT rfl rfl rfl) (zn (zt rfl rfl (zq (zr (za rfl ?_)))))
   refine zn ?_
   refine Go1.ret1 Try.func37 rfl ?_
   replace hB := hB.trans qQ.fr
   exact ⟨([] : List Int), none, 0, rfl, hB.same, (ISl.null _ _ _), H⟩
  replace H := ifp rfl H
  refine zo (op_not rfl) (zo (op_pickF rfl rfl rfl) (zm rfl (zm rfl ?_)))
  replace h_g := h_g.ch qQ.ch
  refine GoR.call (op_call body60 rfl (walk_trans_Valid hO.lt h_g H)) rfl rfl ?_
  rintro v12 w9 ⟨r8, rfl, FD, H⟩
  have Ay := Stp.same hO FD
  replace hO := Ay.own
  cases r8
  ·replace H := ifn Bool.false_ne_true H
   refine zo (op_not rfl) (zo (op_pickF rfl rfl rfl) (zn (zt rfl rfl (zq ?_))))
   refine Go1.cut [] trivial ?_
   intro σ _
   refine zr (za rfl (zn ?_))
   refine Go1.ret1 Try.func37 rfl ?_
   replace hB := (hB.trans qQ.fr).trans Ay.fr
   exact ⟨([] : List Int), none, 0, rfl, hB.same, (ISl.null _ _ _), H⟩
  replace H := ifp rfl H
  refine zo (op_not rfl) (zo (op_pickF rfl rfl rfl) (zn (zf rfl rfl (zk (zq ?_)))))
  refine zr (zm rfl (zo (op_len Try.underlying26 rfl) ?_))
  obtain ⟨h21, H⟩ := H
  obtain ⟨h22, H⟩ := H
  have hobt := omake (n := (f.length : Int)) (r := Rp.int .i64) (d := (0 : Int)) Try.underlying26 ti3 (fun _ _ => rfl) rfl hO h21 h22 (by decide)
  obtain ⟨w14, p15, DQ, lB, e8, EQ, Gs⟩ := hobt
  refine zg (Gs rfl rfl) ?_
  replace hO := lB.own
  refine za rfl (zn (zq (zq (zr (zm rfl ?_)))))
  refine zo (op_len Try.underlying26 rfl) (zm rfl (zn (zb ?_)))
  replace h_g := (h_g.ch Ay.ch).ch lB.ch
  have Z1 := (qQ.ch.trans Ay.ch).trans lB.ch
  replace h_f := h_f.ch Z1
  replace hB := ((hB.trans qQ.fr).trans Ay.fr).trans lB.fr
  refine Go1.loopW (S := Nat × List Int) (fun s σ w => match s with | (k1_25, h1_26) => ∃ (D3 : List Value), agrees σ [(1, .slice p_g g.length c_g), (5, .slice p15 f.length f.length), (26, .slice p_f f.length c_f), (27, .int .i64 (f.length : Int)), (28, .int .i64 (k1_25 : Int))] ∧ (fun Z0 => Owns w0.heap.size w Z0 A ∧ Els (Rp.int .i64) (bl Z0 ++ A) w D3 h1_26 ∧ ISl (Rp.int .i64) (bl Z0 ++ A) w p_f c_f f ∧ ISl (Rp.int .i64) (bl Z0 ++ A) w p_g c_g g ∧ Fr (bl []) w0 (bl Z0) w) [.row 3 1 p15 f.length f.length D3]) H ⟨DQ, ⟨rfl, rfl, rfl, rfl, rfl, trivial⟩, hO, e8, h_f, h_g, hB⟩ ?_
  intro X1
  refine prE fun k1_25 => fun h1_26 => ?_
  intro H hX1 σ w24
  refine exE fun D3 => andE fun hag => andE fun hO => andE fun A6 => andE fun h_f => andE fun h_g => fun hB => ?_
  dsimp only at H
  refine Go1.keep [(1, .slice p_g g.length c_g), (5, .slice p15 f.length f.length), (26, .slice p_f f.length c_f), (27, .int .i64 (f.length : Int)), (28, .int .i64 (k1_25 : Int))] hag ?_
  refine zq (zr ?_)
  by_cases h29 : (k1_25 : Int) < (f.length : Int)
  ·replace H := ifp h29 H
   refine zo (fun w => opB (op_lss rfl rfl w) (decide_eq_true h29)) (zn (zq (zt rfl rfl (zk (zq ?_)))))
   refine zb (zq (zr (zm rfl ?_)))
   obtain ⟨h30, H⟩ := H
   obtain ⟨h31, H⟩ := H
   refine zo (op_index Try.underlying26 ti3 rfl rfl h30 h31 (h_f.some_ h30 h31)) (zs (ldInt h_f h30 h31 Try.underlying3 rfl rfl) (za rfl (za rfl (zn (zr ?_)))))
   refine zm rfl (zm rfl (zm rfl (zm rfl ?_)))
   obtain ⟨h32, H⟩ := H
   obtain ⟨h33, H⟩ := H
   refine zo (op_index Try.underlying26 ti3 rfl rfl h32 h33 (h_g.some_ h32 h33)) (zs (ldInt h_g h32 h33 Try.underlying3 rfl rfl) ?_)
   obtain ⟨h34, H⟩ := H
   obtain ⟨h35, H⟩ := H
   refine zo (op_index Try.underlying26 ti3 rfl rfl h34 (ltn (A6.neq hO 0 rfl) h35) (A6.psome hO 0 rfl h34 h35)) ?_
   have hobt := ost (r := Rp.int .i64) rfl 0 hO rfl A6 h34 h35 (v := .int .i64 (ix g (ix f (k1_25 : Int)))) (u := (ix g (ix f (k1_25 : Int)))) rfl rfl
   obtain ⟨w36, rb, gl, fW, G0⟩ := hobt
   refine zg (G0 Try.underlying3 rfl ti3 (by exact rfl) (by exact rfl)) ?_
   replace hO := gl.own
   refine zn ?_
   refine Go1.inBlock ?_
   refine zr ?_
   replace h_f := h_f.ch gl.ch
   refine zo (op_add rfl rfl (wrap_i64 (natbd h29 h_f.bd))) (zm rfl (zn ?_))
   replace h_g := h_g.ch gl.ch
   replace hB := hB.trans gl.fr
   exact hX1 _ H _ _ ⟨rb, ⟨rfl, rfl, rfl, rfl, rfl, trivial⟩, hO, fW, h_f, h_g, hB⟩
  replace H := ifn h29 H
  refine zo (fun w => opB (op_lss rfl rfl w) (decide_eq_false h29)) (zn (zq (zf rfl rfl ?_)))
  refine Go1.exit rfl ?_
  refine zq (zr (zm rfl (za rfl (zn ?_))))
  have hobt := freeze 0 hO rfl A6
  obtain ⟨hO1, LS, UQ, UR⟩ := hobt
  replace hO := hO1; clear hO1
  refine Go1.ret1 Try.func37 rfl ?_
  replace hB := hB.trans (Owns.dropFr _ _ 0)
  exact ⟨h1_26, p15, f.length, (congrArg (fun nn => Value.slice p15 nn f.length) UR), hB.same, (UQ.ch (Ch.weak _ _ _)), H⟩
 replace H := ifn h1 H
 refine zo (fun w => opB (op_neq rfl rfl w) (ndF h1)) (zm rfl (zp (zp (zp (zo (op_pickT rfl rfl rfl) ?_)))))
 refine zm rfl (zp (zp (zp (zo (op_pickT rfl rfl rfl) (zn ?_)))))
 refine zt rfl rfl (zq ?_)
 refine Go1.cut [] trivial ?_
 intro σ _
 refine zr (za rfl (zn ?_))
 refine Go1.ret1 Try.func37 rfl ?_
 exact ⟨([] : List Int), none, 0, rfl, hB.same, (ISl.null _ _ _), H⟩
end Sg
