/- The walks: each call keeps to its plain transformer. Printed by walkgen.py. -/
import Derived.Test.YtjegjjdfgefkoaaTi
import Derived.Test.YtjegjjdfgefkoaaAl
namespace Sg
open Go Go.RowKit Go.Proofs
set_option linter.unusedVariables false
set_option linter.unusedSimpArgs false
set_option maxRecDepth 100000
set_option maxHeartbeats 4000000
theorem body48 : Body Try.prog 48 := ⟨Try.f48, Try.func48, rfl, by kernel_rfl⟩
theorem walk_ref11_Valid {A : List Nat} {w0 : World} {p_f : Option Addr} {c_f : Nat} {f : List Int} (hA : ∀ b ∈ A, b < w0.heap.size) (h_f : ISl (Rp.int .i64) A w0 p_f c_f f) {K : Bool → Prop} (H : ref11_Valid f K) :
    CallsV Try.prog 48 #[.slice p_f f.length c_f] w0 (fun v w' => ∃ (r0 : Bool), v = .bool r0 ∧ Same w0 w' ∧ K r0) := by
 refine CallsV.of (l := [.slice p_f f.length c_f]) Try.func48 rfl Try.ntmps48 rfl ?_
 have hO := Owns.start hA
 have hB := Fr.refl (bl []) w0
 unfold ref11_Valid at H
 refine zq (zr (za rfl (zn (zq (zq ?_)))))
 refine zr (zm rfl (zo (op_len Try.underlying26 rfl) ?_))
 replace h_f := h_f.ch (Ch.start A w0)
 replace H := H h_f.bd
 by_cases h1 : (f.length : Int) < (1 : Int)
 ·replace H := ifp h1 H
  refine zo (fun w => opB (op_lss rfl rfl w) (decide_eq_true h1)) (zm rfl (zp (zp (zp (zo (op_pickT rfl rfl rfl) ?_)))))
  refine zn (zt rfl rfl (zq (zr (za rfl (zn ?_)))))
  refine Go1.ret1 Try.func48 rfl ?_
  exact ⟨false, rfl, hB.same, H⟩
 replace H := ifn h1 H
 refine zo (fun w => opB (op_lss rfl rfl w) (decide_eq_false h1)) (zm rfl (zm rfl (zo (op_len Try.underlying26 rfl) ?_)))
 by_cases h2 : (32 : Int) < (f.length : Int)
 ·replace H := ifp h2 H
  refine zo (fun w => opB (op_gtr rfl rfl w) (decide_eq_true h2)) (zo (op_pickF rfl rfl rfl) (zn (zt rfl rfl (zq (zr ?_)))))
  refine za rfl (zn ?_)
  refine Go1.ret1 Try.func48 rfl ?_
  exact ⟨false, rfl, hB.same, H⟩
 replace H := ifn h2 H
 refine zo (fun w => opB (op_gtr rfl rfl w) (decide_eq_false h2)) (zo (op_pickF rfl rfl rfl) (zn (zf rfl rfl (zk (zq ?_)))))
 refine zq (zr (zm rfl (zo (op_len Try.underlying26 rfl) (zm rfl (zn ?_)))))
 refine zb ?_
 refine Go1.loopW (S := Nat) (fun s σ w => agrees σ [(0, .slice p_f f.length c_f), (13, .slice p_f f.length c_f), (14, .int .i64 (f.length : Int)), (15, .int .i64 (s : Int))] ∧ Owns w0.heap.size w [] A ∧ ISl (Rp.int .i64) (bl [] ++ A) w p_f c_f f ∧ Fr (bl []) w0 (bl []) w) H ⟨⟨rfl, rfl, rfl, rfl, trivial⟩, hO, h_f, hB⟩ ?_
 intro X1 k1_4
 intro H hX1 σ w3
 refine andE fun hag => andE fun hO => andE fun h_f => fun hB => ?_
 refine Go1.keep [(0, .slice p_f f.length c_f), (13, .slice p_f f.length c_f), (14, .int .i64 (f.length : Int)), (15, .int .i64 (k1_4 : Int))] hag ?_
 refine zq (zr ?_)
 by_cases h5 : (k1_4 : Int) < (f.length : Int)
 ·replace H := ifp h5 H
  refine zo (fun w => opB (op_lss rfl rfl w) (decide_eq_true h5)) (zn (zq (zt rfl rfl (zk (zq ?_)))))
  refine zb (zq (zr ?_))
  obtain ⟨h6, H⟩ := H
  obtain ⟨h7, H⟩ := H
  refine zo (op_index Try.underlying26 ti3 rfl rfl h6 h7 (h_f.some_ h6 h7)) (zs (ldInt h_f h6 h7 Try.underlying3 rfl rfl) (za rfl (zn (zq (zr ?_)))))
  refine zm rfl ?_
  by_cases h8 : (ix f (k1_4 : Int)) < (0 : Int)
  ·replace H := ifp h8 H
   refine zo (fun w => opB (op_lss rfl rfl w) (decide_eq_true h8)) (zm rfl (zp (zp (zp (zp ?_)))))
   refine zo (op_pickT rfl rfl rfl) (zn (zt rfl rfl (zq (zr (za rfl ?_)))))
   refine zn ?_
   refine Go1.ret1 Try.func48 rfl ?_
   exact ⟨false, rfl, hB.same, H⟩
  replace H := ifn h8 H
  refine zo (fun w => opB (op_lss rfl rfl w) (decide_eq_false h8)) (zm rfl (zm rfl (zm rfl (zo (op_len Try.underlying26 rfl) ?_))))
  by_cases h9 : (f.length : Int) ≤ (ix f (k1_4 : Int))
  ·replace H := ifp h9 H
   refine zo (fun w => opB (op_geq rfl rfl w) (decide_eq_true h9)) (zo (op_pickF rfl rfl rfl) (zn (zt rfl rfl (zq ?_))))
   refine Go1.cut [] trivial ?_
   intro σ _
   refine zr (za rfl (zn ?_))
   refine Go1.ret1 Try.func48 rfl ?_
   exact ⟨false, rfl, hB.same, H⟩
  replace H := ifn h9 H
  refine zo (fun w => opB (op_geq rfl rfl w) (decide_eq_false h9)) (zo (op_pickF rfl rfl rfl) (zn (zf rfl rfl (zk ?_))))
  refine Go1.inBlock ?_
  refine zr (zo (op_add rfl rfl (wrap_i64 (natbd h5 h_f.bd))) (zm rfl (zn ?_)))
  exact hX1 _ H _ _ ⟨⟨rfl, rfl, rfl, rfl, trivial⟩, hO, h_f, hB⟩
 replace H := ifn h5 H
 refine zo (fun w => opB (op_lss rfl rfl w) (decide_eq_false h5)) (zn (zq (zf rfl rfl ?_)))
 refine Go1.exit rfl ?_
 refine zq (zr (za rfl (zn ?_)))
 refine Go1.ret1 Try.func48 rfl ?_
 exact ⟨true, rfl, hB.same, H⟩
theorem body14 : Body Try.prog 14 := ⟨Try.f14, Try.func14, rfl, by kernel_rfl⟩
theorem walk_ref11_MayGens {A : List Nat} {w0 : World} {qE : Option Addr} {qF : Nat} {gens : List (List Int)} (hA : ∀ b ∈ A, b < w0.heap.size) (gK : ISl (Rp.sl (Rp.int .i64)) A w0 qE qF gens) {K : Bool → Prop} (H : ref11_MayGens gens K) :
    CallsV Try.prog 14 #[.slice qE gens.length qF] w0 (fun v w' => ∃ (r0 : Bool), v = .bool r0 ∧ Same w0 w' ∧ K r0) := by
 refine CallsV.of (l := [.slice qE gens.length qF]) Try.func14 rfl Try.ntmps14 rfl ?_
 have hO := Owns.start hA
 have hB := Fr.refl (bl []) w0
 unfold ref11_MayGens at H
 refine zq (zr (za rfl (zn (zq (zq ?_)))))
 refine zr (zm rfl (zo (op_len Try.underlying22 rfl) ?_))
 replace gK := gK.ch (Ch.start A w0)
 replace H := H gK.bd
 by_cases h1 : (gens.length : Int) < (1 : Int)
 ·replace H := ifp h1 H
  refine zo (fun w => opB (op_lss rfl rfl w) (decide_eq_true h1)) (zm rfl (zp (zp (zp (zo (op_pickT rfl rfl rfl) ?_)))))
  refine zn (zt rfl rfl (zq (zr (za rfl (zn ?_)))))
  refine Go1.ret1 Try.func14 rfl ?_
  exact ⟨false, rfl, hB.same, H⟩
 replace H := ifn h1 H
 refine zo (fun w => opB (op_lss rfl rfl w) (decide_eq_false h1)) (zm rfl (zm rfl (zo (op_len Try.underlying22 rfl) ?_)))
 by_cases h2 : (6 : Int) < (gens.length : Int)
 ·replace H := ifp h2 H
  refine zo (fun w => opB (op_gtr rfl rfl w) (decide_eq_true h2)) (zo (op_pickF rfl rfl rfl) (zn (zt rfl rfl (zq (zr ?_)))))
  refine za rfl (zn ?_)
  refine Go1.ret1 Try.func14 rfl ?_
  exact ⟨false, rfl, hB.same, H⟩
 replace H := ifn h2 H
 refine zo (fun w => opB (op_gtr rfl rfl w) (decide_eq_false h2)) (zo (op_pickF rfl rfl rfl) (zn (zf rfl rfl (zk (zq ?_)))))
 refine zq (zr (zm rfl (zo (op_len Try.underlying22 rfl) (zm rfl (zn ?_)))))
 refine zb ?_
 refine Go1.loopW (S := Nat) (fun s σ w => agrees σ [(0, .slice qE gens.length qF), (13, .slice qE gens.length qF), (14, .int .i64 (gens.length : Int)), (15, .int .i64 (s : Int))] ∧ Owns w0.heap.size w [] A ∧ ISl (Rp.sl (Rp.int .i64)) (bl [] ++ A) w qE qF gens ∧ Fr (bl []) w0 (bl []) w) H ⟨⟨rfl, rfl, rfl, rfl, trivial⟩, hO, gK, hB⟩ ?_
 intro X1 k1_4
 intro H hX1 σ w3
 refine andE fun hag => andE fun hO => andE fun gK => fun hB => ?_
 refine Go1.keep [(0, .slice qE gens.length qF), (13, .slice qE gens.length qF), (14, .int .i64 (gens.length : Int)), (15, .int .i64 (k1_4 : Int))] hag ?_
 refine zq (zr ?_)
 by_cases h5 : (k1_4 : Int) < (gens.length : Int)
 ·replace H := ifp h5 H
  refine zo (fun w => opB (op_lss rfl rfl w) (decide_eq_true h5)) (zn (zq (zt rfl rfl (zk (zq ?_)))))
  refine zb (zq (zr ?_))
  obtain ⟨h6, H⟩ := H
  obtain ⟨h7, H⟩ := H
  refine zo (op_index Try.underlying22 ti26 rfl rfl h6 h7 (gK.some_ h6 h7)) ?_
  have hobt := ldSl gK h6 h7
  obtain ⟨p8, c9, H7, XF⟩ := hobt
  refine zs (XF Try.underlying26 rfl rfl) (za rfl (zn (zq (zr (zm rfl ?_)))))
  refine GoR.call (op_call body48 rfl (walk_ref11_Valid hO.lt H7 H)) rfl rfl ?_
  rintro v16 w13 ⟨r12, rfl, Km, H⟩
  have k8 := Stp.same hO Km
  replace hO := k8.own
  cases r12
  ·replace H := ifn Bool.false_ne_true H
   refine zo (op_not rfl) (zm rfl (zp (zp (zp (zp ?_)))))
   refine zp (zp (zp (zo (op_pickT rfl rfl rfl) (zn (zt rfl rfl ?_)))))
   refine zq (zr (za rfl (zn ?_)))
   refine Go1.ret1 Try.func14 rfl ?_
   replace hB := hB.trans k8.fr
   exact ⟨false, rfl, hB.same, H⟩
  replace H := ifp rfl H
  refine zo (op_not rfl) (zm rfl (zm rfl (zo (op_len Try.underlying26 rfl) ?_)))
  replace H7 := H7.ch k8.ch
  replace H := H H7.bd
  refine zm rfl ?_
  obtain ⟨h18, H⟩ := H
  obtain ⟨h19, H⟩ := H
  replace gK := gK.ch k8.ch
  refine zo (op_index Try.underlying22 ti26 rfl rfl h18 h19 (gK.some_ h18 h19)) ?_
  have hobt := ldSl gK h18 h19
  obtain ⟨p20, c21, XG, XH⟩ := hobt
  refine zs (XH Try.underlying26 rfl rfl) (zo (op_len Try.underlying26 rfl) ?_)
  replace H := H XG.bd
  by_cases h24 : ((ix gens (k1_4 : Int)).length : Int) = ((ix gens (0 : Int)).length : Int)
  ·replace H := ifp h24 H
   refine zo (fun w => opB (op_neq rfl rfl w) (ndT h24)) (zo (op_pickF rfl rfl rfl) (zn (zf rfl rfl (zk ?_))))
   refine Go1.inBlock ?_
   refine Go1.cut [(0, .slice qE gens.length qF), (13, .slice qE gens.length qF), (14, .int .i64 (gens.length : Int)), (15, .int .i64 (k1_4 : Int))] ⟨rfl, rfl, rfl, rfl, trivial⟩ ?_
   intro σ _
   refine zr (zo (op_add rfl rfl (wrap_i64 (natbd h5 gK.bd))) (zm rfl (zn ?_)))
   replace hB := hB.trans k8.fr
   exact hX1 _ H _ _ ⟨⟨rfl, rfl, rfl, rfl, trivial⟩, hO, gK, hB⟩
  replace H := ifn h24 H
  refine zo (fun w => opB (op_neq rfl rfl w) (ndF h24)) (zo (op_pickF rfl rfl rfl) (zn (zt rfl rfl (zq (zr ?_)))))
  refine za rfl (zn ?_)
  refine Go1.ret1 Try.func14 rfl ?_
  replace hB := hB.trans k8.fr
  exact ⟨false, rfl, hB.same, H⟩
 replace H := ifn h5 H
 refine zo (fun w => opB (op_lss rfl rfl w) (decide_eq_false h5)) (zn (zq (zf rfl rfl ?_)))
 refine Go1.exit rfl ?_
 refine zq (zr (za rfl (zn ?_)))
 refine Go1.ret1 Try.func14 rfl ?_
 exact ⟨true, rfl, hB.same, H⟩
theorem body15 : Body Try.prog 15 := ⟨Try.f15, Try.func15, rfl, by kernel_rfl⟩
theorem walk_law12_little {A : List Nat} {w0 : World} {qE : Option Addr} {qF : Nat} {gens : List (List Int)} {points : Int} {letters : Int} (hA : ∀ b ∈ A, b < w0.heap.size) (gK : ISl (Rp.sl (Rp.int .i64)) A w0 qE qF gens) {K : Bool → Prop} (H : law12_little gens points letters K) :
    CallsV Try.prog 15 #[.slice qE gens.length qF, .int .i64 points, .int .i64 letters] w0 (fun v w' => ∃ (r0 : Bool), v = .bool r0 ∧ Same w0 w' ∧ K r0) := by
 refine CallsV.of (l := [.slice qE gens.length qF, .int .i64 points, .int .i64 letters]) Try.func15 rfl Try.ntmps15 rfl ?_
 have hO := Owns.start hA
 have hB := Fr.refl (bl []) w0
 unfold law12_little at H
 refine zq (zr (za rfl (zn (zq (zr ?_)))))
 refine zm rfl ?_
 replace gK := gK.ch (Ch.start A w0)
 refine GoR.call (op_call body14 rfl (walk_ref11_MayGens hO.lt gK H)) rfl rfl ?_
 rintro v5 w2 ⟨r1, rfl, hs3, H⟩
 have Gm := Stp.same hO hs3
 replace hO := Gm.own
 refine zm rfl ?_
 cases r1
 ·replace H := ifn Bool.false_ne_true H
  refine zp (zp (zp (zp (zo (op_pickF rfl rfl rfl) (zm rfl ?_)))))
  refine zp (zp (zp (zp (zp (zp ?_)))))
  refine zo (op_pickF rfl rfl rfl) (za rfl (zn ?_))
  refine Go1.ret1 Try.func15 rfl ?_
  replace hB := hB.trans Gm.fr
  exact ⟨false, rfl, hB.same, H⟩
 replace H := ifp rfl H
 refine zm rfl (zo (op_len Try.underlying22 rfl) ?_)
 replace gK := gK.ch Gm.ch
 replace H := H gK.bd
 refine zm rfl ?_
 by_cases h7 : (gens.length : Int) ≤ letters
 ·replace H := ifp h7 H
  refine zo (fun w => opB (op_leq rfl rfl w) (decide_eq_true h7)) (zo (op_pickT rfl rfl rfl) (zm rfl (zm rfl ?_)))
  obtain ⟨h8, H⟩ := H
  obtain ⟨h9, H⟩ := H
  refine zo (op_index Try.underlying22 ti26 rfl rfl h8 h9 (gK.some_ h8 h9)) ?_
  have hobt := ldSl gK h8 h9
  obtain ⟨p10, c11, Hp, Kn⟩ := hobt
  refine zs (Kn Try.underlying26 rfl rfl) (zo (op_len Try.underlying26 rfl) ?_)
  replace H := H Hp.bd
  refine zm rfl ?_
  by_cases h14 : ((ix gens (0 : Int)).length : Int) ≤ points
  ·replace H := ifp h14 H
   refine zo (fun w => opB (op_leq rfl rfl w) (decide_eq_true h14)) (zo (op_pickT rfl rfl rfl) (za rfl (zn ?_)))
   refine Go1.ret1 Try.func15 rfl ?_
   replace hB := hB.trans Gm.fr
   exact ⟨true, rfl, hB.same, H⟩
  replace H := ifn h14 H
  refine zo (fun w => opB (op_leq rfl rfl w) (decide_eq_false h14)) (zo (op_pickT rfl rfl rfl) (za rfl (zn ?_)))
  refine Go1.ret1 Try.func15 rfl ?_
  replace hB := hB.trans Gm.fr
  exact ⟨false, rfl, hB.same, H⟩
 replace H := ifn h7 H
 refine zo (fun w => opB (op_leq rfl rfl w) (decide_eq_false h7)) (zo (op_pickT rfl rfl rfl) (zm rfl (zp (zp (zp ?_)))))
 refine zp (zp (zp (zo (op_pickF rfl rfl rfl) (za rfl (zn ?_)))))
 refine Go1.ret1 Try.func15 rfl ?_
 replace hB := hB.trans Gm.fr
 exact ⟨false, rfl, hB.same, H⟩
theorem body60 : Body Try.prog 60 := ⟨Try.f60, Try.func60, rfl, by kernel_rfl⟩
theorem walk_trans_Valid {A : List Nat} {w0 : World} {p_f : Option Addr} {c_f : Nat} {f : List Int} (hA : ∀ b ∈ A, b < w0.heap.size) (h_f : ISl (Rp.int .i64) A w0 p_f c_f f) {K : Bool → Prop} (H : trans_Valid f K) :
    CallsV Try.prog 60 #[.slice p_f f.length c_f] w0 (fun v w' => ∃ (r0 : Bool), v = .bool r0 ∧ Same w0 w' ∧ K r0) := by
 refine CallsV.of (l := [.slice p_f f.length c_f]) Try.func60 rfl Try.ntmps60 rfl ?_
 have hO := Owns.start hA
 have hB := Fr.refl (bl []) w0
 unfold trans_Valid at H
 refine zq (zr (za rfl (zn (zq (zq ?_)))))
 refine zr (zm rfl (zo (op_len Try.underlying26 rfl) ?_))
 replace h_f := h_f.ch (Ch.start A w0)
 replace H := H h_f.bd
 by_cases h1 : (f.length : Int) < (1 : Int)
 ·replace H := ifp h1 H
  refine zo (fun w => opB (op_lss rfl rfl w) (decide_eq_true h1)) (zm rfl (zp (zp (zp (zo (op_pickT rfl rfl rfl) ?_)))))
  refine zn (zt rfl rfl (zq (zr (za rfl (zn ?_)))))
  refine Go1.ret1 Try.func60 rfl ?_
  exact ⟨false, rfl, hB.same, H⟩
 replace H := ifn h1 H
 refine zo (fun w => opB (op_lss rfl rfl w) (decide_eq_false h1)) (zm rfl (zm rfl (zo (op_len Try.underlying26 rfl) ?_)))
 by_cases h2 : (32 : Int) < (f.length : Int)
 ·replace H := ifp h2 H
  refine zo (fun w => opB (op_gtr rfl rfl w) (decide_eq_true h2)) (zo (op_pickF rfl rfl rfl) (zn (zt rfl rfl (zq (zr ?_)))))
  refine za rfl (zn ?_)
  refine Go1.ret1 Try.func60 rfl ?_
  exact ⟨false, rfl, hB.same, H⟩
 replace H := ifn h2 H
 refine zo (fun w => opB (op_gtr rfl rfl w) (decide_eq_false h2)) (zo (op_pickF rfl rfl rfl) (zn (zf rfl rfl (zk (zq ?_)))))
 refine zq (zr (zm rfl (zo (op_len Try.underlying26 rfl) (zm rfl (zn ?_)))))
 refine zb ?_
 refine Go1.loopW (S := Nat) (fun s σ w => agrees σ [(0, .slice p_f f.length c_f), (13, .slice p_f f.length c_f), (14, .int .i64 (f.length : Int)), (15, .int .i64 (s : Int))] ∧ Owns w0.heap.size w [] A ∧ ISl (Rp.int .i64) (bl [] ++ A) w p_f c_f f ∧ Fr (bl []) w0 (bl []) w) H ⟨⟨rfl, rfl, rfl, rfl, trivial⟩, hO, h_f, hB⟩ ?_
 intro X1 k1_4
 intro H hX1 σ w3
 refine andE fun hag => andE fun hO => andE fun h_f => fun hB => ?_
 refine Go1.keep [(0, .slice p_f f.length c_f), (13, .slice p_f f.length c_f), (14, .int .i64 (f.length : Int)), (15, .int .i64 (k1_4 : Int))] hag ?_
 refine zq (zr ?_)
 by_cases h5 : (k1_4 : Int) < (f.length : Int)
 ·replace H := ifp h5 H
  refine zo (fun w => opB (op_lss rfl rfl w) (decide_eq_true h5)) (zn (zq (zt rfl rfl (zk (zq ?_)))))
  refine zb (zq (zr ?_))
  obtain ⟨h6, H⟩ := H
  obtain ⟨h7, H⟩ := H
  refine zo (op_index Try.underlying26 ti3 rfl rfl h6 h7 (h_f.some_ h6 h7)) (zs (ldInt h_f h6 h7 Try.underlying3 rfl rfl) (za rfl (zn (zq (zr ?_)))))
  refine zm rfl ?_
  by_cases h8 : (ix f (k1_4 : Int)) < (0 : Int)
  ·replace H := ifp h8 H
   refine zo (fun w => opB (op_lss rfl rfl w) (decide_eq_true h8)) (zm rfl (zp (zp (zp (zp ?_)))))
   refine zo (op_pickT rfl rfl rfl) (zn (zt rfl rfl (zq (zr (za rfl ?_)))))
   refine zn ?_
   refine Go1.ret1 Try.func60 rfl ?_
   exact ⟨false, rfl, hB.same, H⟩
  replace H := ifn h8 H
  refine zo (fun w => opB (op_lss rfl rfl w) (decide_eq_false h8)) (zm rfl (zm rfl (zm rfl (zo (op_len Try.underlying26 rfl) ?_))))
  by_cases h9 : (f.length : Int) ≤ (ix f (k1_4 : Int))
  ·replace H := ifp h9 H
   refine zo (fun w => opB (op_geq rfl rfl w) (decide_eq_true h9)) (zo (op_pickF rfl rfl rfl) (zn (zt rfl rfl (zq ?_))))
   refine Go1.cut [] trivial ?_
   intro σ _
   refine zr (za rfl (zn ?_))
   refine Go1.ret1 Try.func60 rfl ?_
   exact ⟨false, rfl, hB.same, H⟩
  replace H := ifn h9 H
  refine zo (fun w => opB (op_geq rfl rfl w) (decide_eq_false h9)) (zo (op_pickF rfl rfl rfl) (zn (zf rfl rfl (zk ?_))))
  refine Go1.inBlock ?_
  refine zr (zo (op_add rfl rfl (wrap_i64 (natbd h5 h_f.bd))) (zm rfl (zn ?_)))
  exact hX1 _ H _ _ ⟨⟨rfl, rfl, rfl, rfl, trivial⟩, hO, h_f, hB⟩
 replace H := ifn h5 H
 refine zo (fun w => opB (op_lss rfl rfl w) (decide_eq_false h5)) (zn (zq (zf rfl rfl ?_)))
 refine Go1.exit rfl ?_
 refine zq (zr (za rfl (zn ?_)))
 refine Go1.ret1 Try.func60 rfl ?_
 exact ⟨true, rfl, hB.same, H⟩
theorem body64 : Body Try.prog 64 := ⟨Try.f64, Try.func64, rfl, by kernel_rfl⟩
theorem walk_slices_Clone_int {A : List Nat} {w0 : World} {p_s : Option Addr} {c_s : Nat} {s : List Int} (hA : ∀ b ∈ A, b < w0.heap.size) (h_s : ISl (Rp.int .i64) A w0 p_s c_s s) {K : List Int → Prop} (H : slices_Clone_int s K) :
    CallsV Try.prog 64 #[.slice p_s s.length c_s] w0 (fun v w' => ∃ (r0 : List Int), ∃ (Gn : Nat), ∃ (wD : Option Addr), ∃ (wE : Nat), ∃ (H8 : List Value), v = .slice wD Gn wE ∧ Same w0 w' ∧ Owns w0.heap.size w' [.row 3 1 wD Gn wE H8] A ∧ Els (Rp.int .i64) (bl [.row 3 1 wD Gn wE H8] ++ A) w' H8 r0 ∧ K r0) := by
 refine CallsV.of (l := [.slice p_s s.length c_s]) Try.func64 rfl Try.ntmps64 rfl ?_
 have hO := Owns.start hA
 have hB := Fr.refl (bl []) w0
 unfold slices_Clone_int at H
 refine zq (zr (za rfl (zn (zq (zq ?_)))))
 refine zr (zm rfl ?_)
 replace h_s := h_s.ch (Ch.start A w0)
 replace H := H p_s.isNone (fun h => h_s.nilD h)
 by_cases hz2 : p_s.isNone = true
 ·replace H := ifp hz2 H
  refine zo (fun w => opB (op_nilSlice Try.underlying26 rfl rfl w) (hz2)) (zn (zt rfl rfl (zq (zr (za rfl ?_)))))
  refine zn ?_
  have o6 := Stp.nil (e := 3) (r := 1) hO
  replace hO := o6.own
  have hE5 := Els.nil (Rp.int .i64) (bl (.row 3 1 none 0 0 [] :: []) ++ A) w0
  refine Go1.ret1 Try.func64 rfl ?_
  replace hB := hB.trans o6.fr
  exact ⟨(([] : List Int)), 0, none, 0, ([]), rfl, hB.same, hO, hE5, H⟩
 ·replace H := ifn hz2 H
  refine zo (fun w => opB (op_nilSlice Try.underlying26 rfl rfl w) (Bool.eq_false_iff.2 hz2)) (zn (zf rfl rfl (zk (zq (zr ?_)))))
  have hobt := obuild (r := Rp.int .i64) (n := 0) (parts := []) (vs := []) (xs := ([] : List Int)) rfl Try.underlying26 ti3 hO (by decide) (by kernel_rfl) (Els.nil _ _ _) rfl
  obtain ⟨w6, p7, Ko, hE9, Hq, C8⟩ := hobt
  refine zg (C8 rfl) ?_
  replace hO := Ko.own
  refine zm rfl ?_
  obtain ⟨h13, H⟩ := H
  replace h_s := h_s.ch Ko.ch
  have hobt := oapp Try.underlying26 ti3 rfl 0 hO rfl hE9 h_s rfl h13 (by decide)
  obtain ⟨w14, p15, c16, sg, qv, XI, H9⟩ := hobt
  refine zg (H9 (by exact rfl) (by exact rfl)) ?_
  replace hO := qv.own
  refine za rfl (zn ?_)
  refine Go1.ret1 Try.func64 rfl ?_
  replace hB := (hB.trans Ko.fr).trans qv.fr
  exact ⟨((([] : List Int)) ++ s), (0 + s.length), p15, c16, sg, rfl, hB.same, hO, XI, H⟩
theorem body62 : Body Try.prog 62 := ⟨Try.f62, Try.func62, rfl, by kernel_rfl⟩
theorem walk_trans_Identity {A : List Nat} {w0 : World} {n : Int} (hA : ∀ b ∈ A, b < w0.heap.size) {K : List Int → Prop} (H : trans_Identity n K) :
    CallsV Try.prog 62 #[.int .i64 n] w0 (fun v w' => ∃ (r0 : List Int), ∃ (wD : Option Addr), ∃ (wE : Nat), v = .slice wD r0.length wE ∧ Same w0 w' ∧ ISl (Rp.int .i64) A w' wD wE r0 ∧ K r0) := by
 refine CallsV.of (l := [.int .i64 n]) Try.func62 rfl Try.ntmps62 rfl ?_
 have hO := Owns.start hA
 have hB := Fr.refl (bl []) w0
 unfold trans_Identity at H
 refine zq (zr (za rfl (zn (zq (zq ?_)))))
 refine zr (zm rfl ?_)
 by_cases h1 : n < (1 : Int)
 ·replace H := ifp h1 H
  refine zo (fun w => opB (op_lss rfl rfl w) (decide_eq_true h1)) (zm rfl (zp (zp (zo (op_pickT rfl rfl rfl) (zn ?_)))))
  refine zt rfl rfl (zq (zr (za rfl (zn ?_))))
  refine Go1.ret1 Try.func62 rfl ?_
  exact ⟨([] : List Int), none, 0, rfl, hB.same, (ISl.null _ _ _), H⟩
 replace H := ifn h1 H
 refine zo (fun w => opB (op_lss rfl rfl w) (decide_eq_false h1)) (zm rfl (zm rfl ?_))
 by_cases h2 : (32 : Int) < n
 ·replace H := ifp h2 H
  refine zo (fun w => opB (op_gtr rfl rfl w) (decide_eq_true h2)) (zo (op_pickF rfl rfl rfl) (zn (zt rfl rfl (zq (zr ?_)))))
  refine za rfl (zn ?_)
  refine Go1.ret1 Try.func62 rfl ?_
  exact ⟨([] : List Int), none, 0, rfl, hB.same, (ISl.null _ _ _), H⟩
 replace H := ifn h2 H
 refine zo (fun w => opB (op_gtr rfl rfl w) (decide_eq_false h2)) (zo (op_pickF rfl rfl rfl) (zn (zf rfl rfl (zk (zq ?_)))))
 refine zr (zm rfl ?_)
 obtain ⟨h10, H⟩ := H
 obtain ⟨h11, H⟩ := H
 have hobt := omake (n := n) (r := Rp.int .i64) (d := (0 : Int)) Try.underlying26 ti3 (fun _ _ => rfl) rfl hO h10 h11 (by decide)
 obtain ⟨w3, p4, vs5, Gm, hE7, hs8, XJ⟩ := hobt
 refine zg (XJ rfl rfl) ?_
 replace hO := Gm.own
 refine za rfl (zn (zq (zq (zr (zm rfl ?_)))))
 refine zo (op_lenN Try.underlying26 rfl (hE7.neq hO 0 rfl)) (zm rfl (zn (zb ?_)))
 replace hB := hB.trans Gm.fr
 refine Go1.loopW (S := Nat × List Int) (fun s σ w => match s with | (k1_14, f1_15) => ∃ (Fs : List Value), agrees σ [(3, .slice p4 n.toNat n.toNat), (14, .int .i64 ((List.replicate n.toNat ((0 : Int))).length : Int)), (15, .int .i64 (k1_14 : Int))] ∧ (fun Z0 => Owns w0.heap.size w Z0 A ∧ Els (Rp.int .i64) (bl Z0 ++ A) w Fs f1_15 ∧ Fr (bl []) w0 (bl Z0) w) [.row 3 1 p4 n.toNat n.toNat Fs]) H ⟨vs5, ⟨rfl, rfl, rfl, trivial⟩, hO, hE7, hB⟩ ?_
 intro X1
 refine prE fun k1_14 => fun f1_15 => ?_
 intro H hX1 σ w13
 refine exE fun Fs => andE fun hag => andE fun hO => andE fun Ia => fun hB => ?_
 dsimp only at H
 refine Go1.keep [(3, .slice p4 n.toNat n.toNat), (14, .int .i64 ((List.replicate n.toNat ((0 : Int))).length : Int)), (15, .int .i64 (k1_14 : Int))] hag ?_
 refine zq (zr ?_)
 by_cases h18 : (k1_14 : Int) < ((List.replicate n.toNat ((0 : Int))).length : Int)
 ·replace H := ifp h18 H
  refine zo (fun w => opB (op_lss rfl rfl w) (decide_eq_true h18)) (zn (zq (zt rfl rfl (zk (zq ?_)))))
  refine zb (zq (zr (zm rfl (za rfl (zn ?_)))))
  refine zr (zm rfl (zm rfl (zm rfl ?_)))
  obtain ⟨h19, H⟩ := H
  obtain ⟨h20, H⟩ := H
  refine zo (op_index Try.underlying26 ti3 rfl rfl h19 (ltn (Ia.neq hO 0 rfl) h20) (Ia.psome hO 0 rfl h19 h20)) ?_
  have hobt := ost (r := Rp.int .i64) rfl 0 hO rfl Ia h19 h20 (v := .int .i64 (k1_14 : Int)) (u := (k1_14 : Int)) rfl rfl
  obtain ⟨w21, Kq, vm, dA, FU⟩ := hobt
  refine zg (FU Try.underlying3 rfl ti3 (by exact rfl) (by exact rfl)) ?_
  replace hO := vm.own
  refine zn ?_
  refine Go1.inBlock ?_
  refine zr ?_
  obtain ⟨h26, H⟩ := H
  refine zo (op_add rfl rfl (wrap_i64 h26)) (zm rfl (zn ?_))
  replace hB := hB.trans vm.fr
  exact hX1 _ H _ _ ⟨Kq, ⟨rfl, rfl, rfl, trivial⟩, hO, dA, hB⟩
 replace H := ifn h18 H
 refine zo (fun w => opB (op_lss rfl rfl w) (decide_eq_false h18)) (zn (zq (zf rfl rfl ?_)))
 refine Go1.exit rfl ?_
 refine zq (zr (zm rfl (za rfl (zn ?_))))
 have hobt := freeze 0 hO rfl Ia
 obtain ⟨hO1, Eb, XK, XL⟩ := hobt
 replace hO := hO1; clear hO1
 refine Go1.ret1 Try.func62 rfl ?_
 replace hB := hB.trans (Owns.dropFr _ _ 0)
 exact ⟨f1_15, p4, n.toNat, (congrArg (fun nn => Value.slice p4 nn n.toNat) XL), hB.same, (XK.ch (Ch.weak _ _ _)), H⟩
theorem body61 : Body Try.prog 61 := ⟨Try.f61, Try.func61, rfl, by kernel_rfl⟩
theorem walk_enumerate_text {A : List Nat} {w0 : World} {p_f : Option Addr} {c_f : Nat} {f : List Int} (hA : ∀ b ∈ A, b < w0.heap.size) (h_f : ISl (Rp.int .i64) A w0 p_f c_f f) {K : Str → Prop} (H : enumerate_text f K) :
    CallsV Try.prog 61 #[.slice p_f f.length c_f] w0 (fun v w' => ∃ (r0 : Str), v = .string (gstr r0) ∧ Same w0 w' ∧ r0.length ≤ mx ∧ K r0) := by
 refine CallsV.of (l := [.slice p_f f.length c_f]) Try.func61 rfl Try.ntmps61 rfl ?_
 have hO := Owns.start hA
 have hB := Fr.refl (bl []) w0
 unfold enumerate_text at H
 refine zq (zr (za rfl (zn (zq (zr ?_)))))
 refine zm rfl (zo (op_len Try.underlying26 rfl) ?_)
 replace h_f := h_f.ch (Ch.start A w0)
 replace H := H h_f.bd
 obtain ⟨h8, H⟩ := H
 obtain ⟨h9, H⟩ := H
 have hobt := omake (n := (f.length : Int)) (r := Rp.int .u8) (d := (0 : Int)) Try.underlying84 ti5 (fun _ _ => rfl) rfl hO h8 h9 (by decide)
 obtain ⟨w1, p2, vs3, o6, hE5, hs6, Br⟩ := hobt
 refine zg (Br rfl rfl) ?_
 replace hO := o6.own
 refine za rfl (zn (zq (zq (zr (zm rfl ?_)))))
 refine zo (op_len Try.underlying26 rfl) (zm rfl (zn (zb ?_)))
 replace h_f := h_f.ch o6.ch
 replace hB := hB.trans o6.fr
 refine Go1.loopW (S := Nat × List Int) (fun s σ w => match s with | (k1_12, b1_13) => ∃ (li : List Value), agrees σ [(3, .slice p2 f.length f.length), (9, .slice p_f f.length c_f), (10, .int .i64 (f.length : Int)), (11, .int .i64 (k1_12 : Int))] ∧ (fun Z0 => Owns w0.heap.size w Z0 A ∧ Els (Rp.int .u8) (bl Z0 ++ A) w li b1_13 ∧ ISl (Rp.int .i64) (bl Z0 ++ A) w p_f c_f f ∧ Fr (bl []) w0 (bl Z0) w) [.row 5 1 p2 f.length f.length li]) H ⟨vs3, ⟨rfl, rfl, rfl, rfl, trivial⟩, hO, hE5, h_f, hB⟩ ?_
 intro X1
 refine prE fun k1_12 => fun b1_13 => ?_
 intro H hX1 σ w11
 refine exE fun li => andE fun hag => andE fun hO => andE fun ca => andE fun h_f => fun hB => ?_
 dsimp only at H
 refine Go1.keep [(3, .slice p2 f.length f.length), (9, .slice p_f f.length c_f), (10, .int .i64 (f.length : Int)), (11, .int .i64 (k1_12 : Int))] hag ?_
 refine zq (zr ?_)
 by_cases h16 : (k1_12 : Int) < (f.length : Int)
 ·replace H := ifp h16 H
  refine zo (fun w => opB (op_lss rfl rfl w) (decide_eq_true h16)) (zn (zq (zt rfl rfl (zk (zq ?_)))))
  refine zb (zq (zr (zm rfl ?_)))
  obtain ⟨h17, H⟩ := H
  obtain ⟨h18, H⟩ := H
  refine zo (op_index Try.underlying26 ti3 rfl rfl h17 h18 (h_f.some_ h17 h18)) (zs (ldInt h_f h17 h18 Try.underlying3 rfl rfl) (za rfl (za rfl (zn (zr ?_)))))
  refine zm rfl (zm rfl (zm rfl (zo (op_conv Try.underlying3 Try.underlying5 rfl rfl) ?_)))
  obtain ⟨h19, H⟩ := H
  obtain ⟨h20, H⟩ := H
  refine zo (op_index Try.underlying84 ti5 rfl rfl h19 (ltn (ca.neq hO 0 rfl) h20) (ca.psome hO 0 rfl h19 h20)) ?_
  have hobt := ost (r := Rp.int .u8) rfl 0 hO rfl ca h19 h20 (v := .int .u8 (IntKind.u8.wrap (ix f (k1_12 : Int)))) (u := (IntKind.u8.wrap (ix f (k1_12 : Int)))) rfl rfl
  obtain ⟨w21, Kq, vm, dA, FU⟩ := hobt
  refine zg (FU Try.underlying5 rfl ti5 (by exact rfl) (by exact rfl)) ?_
  replace hO := vm.own
  refine zn ?_
  refine Go1.inBlock ?_
  refine zr ?_
  replace h_f := h_f.ch vm.ch
  refine zo (op_add rfl rfl (wrap_i64 (natbd h16 h_f.bd))) (zm rfl (zn ?_))
  replace hB := hB.trans vm.fr
  exact hX1 _ H _ _ ⟨Kq, ⟨rfl, rfl, rfl, rfl, trivial⟩, hO, dA, h_f, hB⟩
 replace H := ifn h16 H
 refine zo (fun w => opB (op_lss rfl rfl w) (decide_eq_false h16)) (zn (zq (zf rfl rfl ?_)))
 refine Go1.exit rfl ?_
 refine zq (zr (zm rfl ?_))
 have hle26 := byt_le ca.bd
 refine zs (oldBytes 0 hO rfl ca Try.underlying84 Try.underlying5 Try.underlying9 rfl) (za rfl (zn ?_))
 refine Go1.ret1 Try.func61 rfl ?_
 exact ⟨byt b1_13, rfl, hB.same, hle26, H⟩
theorem body65 : Body Try.prog 65 := ⟨Try.f65, Try.func65, rfl, by kernel_rfl⟩
theorem body49 : Body Try.prog 49 := ⟨Try.f49, Try.func49, rfl, by kernel_rfl⟩
theorem walk_enumerate_begin {A : List Nat} {w0 : World} {si : Option Addr} {sj : Nat} {a0 : List (List Int)} {a1 : Bool} (hA : ∀ b ∈ A, b < w0.heap.size) (aL : ISl (Rp.sl (Rp.int .i64)) A w0 si sj a0) {K : Option run → Int → Prop} (H : enumerate_begin a0 a1 K) :
    CallsV Try.prog 49 #[.slice si a0.length sj, .bool a1] w0 (fun v w' => (∃ (r1 : Int), v = .tuple #[.pointer none, .int .i64 r1] ∧ Same w0 w' ∧ K none r1) ∨ (∃ (q : run), ∃ (r1 : Int), ∃ (b_q : Nat), ∃ (bv : Nat), ∃ (bw : Option Addr), ∃ (bx : Nat), ∃ (dj : List Value), ∃ (bj : Nat), ∃ (bk : Option Addr), ∃ (bm : Nat), ∃ (cQ : List Value), ∃ (a8 : Nat), ∃ (a9 : Option Addr), ∃ (ba : Nat), ∃ (cA : List Value), ∃ (bz : Nat), ∃ (bA : Option Addr), ∃ (bB : Nat), ∃ (dk : List Value), ∃ (bn : Nat), ∃ (bo : Option Addr), ∃ (bp : Nat), ∃ (cR : List Value), ∃ (bq : Nat), ∃ (bt : Option Addr), ∃ (bu : Nat), ∃ (cS : List Value), ∃ (dM : Nat), ∃ (cJ : Nat), ∃ (cK : Option Addr), ∃ (cL : Nat), ∃ (eB : List Value), ∃ (cb : Nat), ∃ (cd : Option Addr), ∃ (ce : Nat), ∃ (dW : List Value), ∃ (cf : Nat), ∃ (cg : Option Addr), ∃ (ci : Nat), ∃ (dX : List Value), v = .tuple #[.pointer (some ⟨b_q, 0, none⟩), .int .i64 r1] ∧ Same w0 w' ∧ (fun Z0 => Owns w0.heap.size w' Z0 A ∧ Els (Rp.sl (Rp.int .i64)) (bl Z0 ++ A) w' dj q.Enum.Gens ∧ Els (Rp.sl (Rp.int .i64)) (bl Z0 ++ A) w' cQ q.Enum.Elems ∧ Els (Rp.int .i64) (bl Z0 ++ A) w' cA q.Enum.Prefix ∧ Els (Rp.int .i64) (bl Z0 ++ A) w' dk q.Enum.Last ∧ Els (Rp.sl (Rp.int .i64)) (bl Z0 ++ A) w' cR q.Enum.Right ∧ Els (rpRule) (bl Z0 ++ A) w' cS q.Enum.Rules ∧ Els (Rp.str) (bl Z0 ++ A) w' eB q.words ∧ Els (Rp.int .i64) (bl Z0 ++ A) w' dW q.behind ∧ Els (Rp.int .i64) (bl Z0 ++ A) w' dX q.single ∧ K (some q) r1) [.blk b_q (.cells #[.int .i64 q.Enum.Points, .bool q.Enum.Monoid, .slice bw bv bx, .slice bk bj bm, .slice a9 a8 ba, .slice bA bz bB, .slice bo bn bp, .slice bt bq bu, .int .i64 q.Enum.Done, .map (some dM), .slice cK cJ cL, .slice cd cb ce, .slice cg cf ci] 72 (0, 0)), .row 26 1 bw bv bx dj, .row 26 1 bk bj bm cQ, .row 3 1 a9 a8 ba cA, .row 3 1 bA bz bB dk, .row 26 1 bo bn bp cR, .row 39 2 bt bq bu cS, .row 9 1 cK cJ cL eB, .row 3 1 cd cb ce dW, .row 3 1 cg cf ci dX, .any (mapE (fun a : List UInt8 => Value.string (gstr a)) (fun a : Int => Value.int .i64 a) dM q.number)])) := by
 refine CallsV.of (l := [.slice si a0.length sj, .bool a1]) Try.func49 rfl Try.ntmps49 rfl ?_
 have hO := Owns.start hA
 have hB := Fr.refl (bl []) w0
 unfold enumerate_begin at H
 refine zq (zr (za rfl (za rfl (zn (zq ?_)))))
 refine zq (zr (zm rfl (zo (op_len Try.underlying22 rfl) ?_)))
 replace aL := aL.ch (Ch.start A w0)
 replace H := H aL.bd
 by_cases h1 : (a0.length : Int) = (0 : Int)
 ·replace H := ifp h1 H
  refine zo (fun w => opB (op_eql rfl rfl w) (decide_eq_true h1)) (zm rfl (zp (zp (zp (zo (op_pickT rfl rfl rfl) ?_)))))
  refine zn (zt rfl rfl (zq (zr (za rfl (za rfl ?_)))))
  refine zn ?_
  refine Go1.ret2 Try.func49 rfl ?_
  exact Or.inl ⟨((1 : Int)), rfl, hB.same, H⟩
 replace H := ifn h1 H
 refine zo (fun w => opB (op_eql rfl rfl w) (decide_eq_false h1)) (zm rfl (zm rfl (zo (op_len Try.underlying22 rfl) ?_)))
 by_cases h2 : (6 : Int) < (a0.length : Int)
 ·replace H := ifp h2 H
  refine zo (fun w => opB (op_gtr rfl rfl w) (decide_eq_true h2)) (zo (op_pickF rfl rfl rfl) (zn (zt rfl rfl (zq (zr ?_)))))
  refine za rfl (za rfl (zn ?_))
  refine Go1.ret2 Try.func49 rfl ?_
  exact Or.inl ⟨((1 : Int)), rfl, hB.same, H⟩
 replace H := ifn h2 H
 refine zo (fun w => opB (op_gtr rfl rfl w) (decide_eq_false h2)) (zo (op_pickF rfl rfl rfl) (zn (zf rfl rfl (zk (zq ?_)))))
 refine Go1.cut [(0, .slice si a0.length sj), (1, .bool a1)] ⟨rfl, rfl, trivial⟩ ?_
 intro σ _
 refine zr ?_
 have hobt := omakeMap (fun a : List UInt8 => Value.string (gstr a)) (fun a : Int => Value.int .i64 a) hO
 obtain ⟨w3, B4, Kr, hs6, Br⟩ := hobt
 refine GoR.op Br rfl rfl ?_
 replace hO := Kr.own
 refine zo (op_build Try.underlying72 ti72 (pl := [(0, 9), (9, 1), (10, 1), (11, 1), (12, 1)]) (vs := [(1, .map (some B4))]) (cs := #[.int .i64 (0 : Int), .bool false, .slice none 0 0, .slice none 0 0, .slice none 0 0, .slice none 0 0, .slice none 0 0, .slice none 0 0, .int .i64 (0 : Int), .map (some B4), .slice none 0 0, .slice none 0 0, .slice none 0 0]) (by kernel_rfl) rfl (by kernel_rfl)) ?_
 have hobt := obox (t := 72) (v := .agg #[.int .i64 (0 : Int), .bool false, .slice none 0 0, .slice none 0 0, .slice none 0 0, .slice none 0 0, .slice none 0 0, .slice none 0 0, .int .i64 (0 : Int), .map (some B4), .slice none 0 0, .slice none 0 0, .slice none 0 0]) (cs := #[.int .i64 (0 : Int), .bool false, .slice none 0 0, .slice none 0 0, .slice none 0 0, .slice none 0 0, .slice none 0 0, .slice none 0 0, .int .i64 (0 : Int), .map (some B4), .slice none 0 0, .slice none 0 0, .slice none 0 0]) hO rfl
 obtain ⟨w9, B10, Ib, Ks, Ic⟩ := hobt
 refine zg (Ic rfl) ?_
 replace hO := Ib.own
 refine za rfl (zn (zq (zr (zm rfl (zm rfl ?_)))))
 refine zm rfl ?_
 obtain ⟨h15, H⟩ := H
 obtain ⟨h16, H⟩ := H
 replace aL := (aL.ch Kr.ch).ch Ib.ch
 refine zo (op_index Try.underlying22 ti26 rfl rfl h15 h16 (aL.some_ h15 h16)) ?_
 have hobt := ldSl aL h15 h16
 obtain ⟨p17, c18, Ft, XM⟩ := hobt
 refine zs (XM Try.underlying26 rfl rfl) (zo (op_len Try.underlying26 rfl) ?_)
 replace H := H Ft.bd
 refine zm rfl (zo (op_nilCheck rfl) (zo (op_fieldAddr Try.underlying72 rfl ti29 rfl (by decide)) (zo (op_fieldAddr Try.underlying29 rfl ti3 rfl (by decide)) ?_)))
 have hobt := oblkSt2 (v := .int .i64 ((ix a0 (0 : Int)).length : Int)) (i := 0) (cs' := #[.int .i64 ((ix a0 (0 : Int)).length : Int), .bool false, .slice none 0 0, .slice none 0 0, .slice none 0 0, .slice none 0 0, .slice none 0 0, .slice none 0 0, .int .i64 (0 : Int), .map (some B4), .slice none 0 0, .slice none 0 0, .slice none 0 0]) 0 hO rfl rfl rfl rfl
 obtain ⟨w21, fq, C9⟩ := hobt
 refine zg (C9 Try.underlying3 rfl ti3 (by exact rfl) (by exact rfl)) ?_
 replace hO := fq.own
 refine zo (op_nilCheck rfl) (zo (op_fieldAddr Try.underlying72 rfl ti29 rfl (by decide)) (zo (op_fieldAddr Try.underlying29 rfl ti4 rfl (by decide)) ?_))
 have hobt := oblkSt2 (v := .bool a1) (i := 1) (cs' := #[.int .i64 ((ix a0 (0 : Int)).length : Int), .bool a1, .slice none 0 0, .slice none 0 0, .slice none 0 0, .slice none 0 0, .slice none 0 0, .slice none 0 0, .int .i64 (0 : Int), .map (some B4), .slice none 0 0, .slice none 0 0, .slice none 0 0]) 0 hO rfl rfl rfl rfl
 obtain ⟨w24, uA, Id⟩ := hobt
 refine zg (Id Try.underlying4 rfl ti4 (by exact rfl) (by exact rfl)) ?_
 replace hO := uA.own
 refine zn (zq (zq ?_))
 refine Go1.cut [(0, .slice si a0.length sj), (1, .bool a1), (6, .pointer (some ⟨B10, 0, none⟩))] ⟨rfl, rfl, rfl, trivial⟩ ?_
 intro σ _
 refine zr (zm rfl (zo (op_len Try.underlying22 rfl) (zm rfl (zn (zb ?_)))))
 have pt := Stp.nil (e := 26) (r := 1) hO
 replace hO := pt.own
 have XN := Els.nil (Rp.sl (Rp.int .i64)) (bl (.row 26 1 none 0 0 [] :: [.blk B10 (.cells #[.int .i64 ((ix a0 (0 : Int)).length : Int), .bool a1, .slice none 0 0, .slice none 0 0, .slice none 0 0, .slice none 0 0, .slice none 0 0, .slice none 0 0, .int .i64 (0 : Int), .map (some B4), .slice none 0 0, .slice none 0 0, .slice none 0 0] 72 (0, 0)), .any (mapE (fun a : List UInt8 => Value.string (gstr a)) (fun a : Int => Value.int .i64 a) B4 (([] : List (Str × Int))))]) ++ A) w24
 have Z1 := (fq.ch.trans uA.ch).trans pt.ch
 replace aL := aL.ch Z1
 replace hB := ((((hB.trans Kr.fr).trans Ib.fr).trans fq.fr).trans uA.fr).trans pt.fr
 refine Go1.loopW (S := Nat × List (List Int)) (fun s σ w => match s with | (k1_31, d_32) => ∃ (n37 : Nat), ∃ (p35 : Option Addr), ∃ (c36 : Nat), ∃ (iD : List Value), agrees σ [(1, .bool a1), (6, .pointer (some ⟨B10, 0, none⟩)), (39, .slice si a0.length sj), (40, .int .i64 (a0.length : Int)), (41, .int .i64 (k1_31 : Int))] ∧ (fun Z0 => Owns w0.heap.size w Z0 A ∧ Els (Rp.sl (Rp.int .i64)) (bl Z0 ++ A) w iD d_32 ∧ ISl (Rp.sl (Rp.int .i64)) (bl Z0 ++ A) w si sj a0 ∧ Fr (bl []) w0 (bl Z0) w) [.row 26 1 p35 n37 c36 iD, .blk B10 (.cells #[.int .i64 ((ix a0 (0 : Int)).length : Int), .bool a1, .slice p35 n37 c36, .slice none 0 0, .slice none 0 0, .slice none 0 0, .slice none 0 0, .slice none 0 0, .int .i64 (0 : Int), .map (some B4), .slice none 0 0, .slice none 0 0, .slice none 0 0] 72 (0, 0)), .any (mapE (fun a : List UInt8 => Value.string (gstr a)) (fun a : Int => Value.int .i64 a) B4 (([] : List (Str × Int))))]) H ⟨0, none, 0, [], ⟨rfl, rfl, rfl, rfl, rfl, trivial⟩, hO, XN, aL, hB⟩ ?_
 intro X1
 refine prE fun k1_31 => fun d_32 => ?_
 intro H hX1 σ w30
 refine exE fun n37 => exE fun p35 => exE fun c36 => exE fun iD => andE fun hag => andE fun hO => andE fun aQ => andE fun aL => fun hB => ?_
 dsimp only at H
 refine Go1.keep [(1, .bool a1), (6, .pointer (some ⟨B10, 0, none⟩)), (39, .slice si a0.length sj), (40, .int .i64 (a0.length : Int)), (41, .int .i64 (k1_31 : Int))] hag ?_
 refine zq (zr ?_)
 by_cases h38 : (k1_31 : Int) < (a0.length : Int)
 ·replace H := ifp h38 H
  refine zo (fun w => opB (op_lss rfl rfl w) (decide_eq_true h38)) (zn (zq (zt rfl rfl (zk (zq ?_)))))
  refine zb (zq (zr ?_))
  obtain ⟨h39, H⟩ := H
  obtain ⟨h40, H⟩ := H
  refine zo (op_index Try.underlying22 ti26 rfl rfl h39 h40 (aL.some_ h39 h40)) ?_
  have hobt := ldSl aL h39 h40
  obtain ⟨p41, c42, vn, XO⟩ := hobt
  refine zs (XO Try.underlying26 rfl rfl) (za rfl (zn (zq (zq (zr ?_)))))
  refine zm rfl (zo (op_len Try.underlying26 rfl) ?_)
  replace H := H vn.bd
  refine zm rfl (zo (op_nilCheck rfl) (zo (op_fieldAddr Try.underlying72 rfl ti29 rfl (by decide)) (zo (op_fieldAddr Try.underlying29 rfl ti3 rfl (by decide)) (zs (oblk (i := 0) 1 hO rfl rfl Try.underlying3 rfl rfl) ?_))))
  by_cases h45 : ((ix a0 (k1_31 : Int)).length : Int) = ((ix a0 (0 : Int)).length : Int)
  ·replace H := ifp h45 H
   refine zo (fun w => opB (op_neq rfl rfl w) (ndT h45)) (zm rfl (zm rfl ?_))
   refine GoR.call (op_call body60 rfl (walk_trans_Valid hO.lt vn H)) rfl rfl ?_
   rintro v50 w47 ⟨r46, rfl, XP, H⟩
   have FV := Stp.same hO XP
   replace hO := FV.own
   cases r46
   ·replace H := ifn Bool.false_ne_true H
    refine zo (op_not rfl) (zo (op_pickF rfl rfl rfl) (zn (zt rfl rfl (zq (zr ?_)))))
    refine za rfl (za rfl (zn ?_))
    refine Go1.ret2 Try.func49 rfl ?_
    replace hB := hB.trans FV.fr
    exact Or.inl ⟨((4 : Int)), rfl, hB.same, H⟩
   replace H := ifp rfl H
   refine zo (op_not rfl) (zo (op_pickF rfl rfl rfl) (zn (zf rfl rfl (zk ?_))))
   refine Go1.cut [(1, .bool a1), (6, .pointer (some ⟨B10, 0, none⟩)), (8, .slice p41 ((ix a0 (k1_31 : Int)).length) c42), (39, .slice si a0.length sj), (40, .int .i64 (a0.length : Int)), (41, .int .i64 (k1_31 : Int))] ⟨rfl, rfl, rfl, rfl, rfl, rfl, trivial⟩ ?_
   intro σ _
   refine Go1.drawS 1 [(0, .pure), (1, .pure), (2, .pure), (3, .pure), (4, .pure), (5, .stable), (6, .pure), (7, .loud), (8, .loud), (9, .last), (10, .pure), (11, .pure), (12, .pure), (13, .last)] mixed (by kernel_rfl) ?_
   intro w52 XQ
   have FW := Stp.same hO XQ
   replace hO := FW.own
   refine GoQ.pure rfl (op_move rfl) rfl rfl ?_
   refine GoQ.pure rfl (op_move rfl) rfl rfl ?_
   refine GoQ.pure rfl (op_nilCheck rfl) rfl rfl ?_
   refine GoQ.pure rfl (op_fieldAddr Try.underlying72 rfl ti29 rfl (by decide)) rfl rfl ?_
   refine GoQ.pure rfl (op_fieldAddr Try.underlying29 rfl ti22 rfl (by decide)) rfl rfl ?_
   refine GoQ.stable rfl (oblk (i := 2) 1 hO rfl rfl Try.underlying22 rfl rfl) rfl rfl ?_
   refine GoQ.pure rfl (op_move rfl) rfl rfl ?_
   replace vn := (vn.ch FV.ch).ch FW.ch
   refine GoQ.call rfl (op_call body64 rfl (walk_slices_Clone_int hO.lt vn H)) (fun v w hr => by obtain ⟨_, _, _, _, _, _, hs, _, _, _⟩ := hr; assumption) rfl rfl ?_
   rintro v60 w57 ⟨r55, L5, GT, GU, acr, rfl, XR, hN59, Kt, H⟩
   have jw := Stp.more hO XR hN59
   replace hO := jw.own
   replace Kt := Kt.ch (Ch.assoc _ _ _ _)
   have hobt := freeze 0 hO rfl Kt
   obtain ⟨hO1, Ku, Db, XS⟩ := hobt
   replace hO := hO1; clear hO1
   have hobt := obuild (r := Rp.sl (Rp.int .i64)) (n := 1) (parts := [(0, .slice GT L5 GU)]) (vs := [.slice GT L5 GU]) (xs := [r55]) rfl Try.underlying22 ti26 hO (by decide) (by kernel_rfl) (Els.cons rfl ⟨GT, GU, congrArg some (congrArg (fun nn => Value.slice GT nn GU) XS), Db⟩ (Els.nil _ _ _) (by simp [mx])) rfl
   obtain ⟨w66, p67, mC, sI, XT, Q2⟩ := hobt
   refine GoQ.loud rfl (Q2 rfl) XT rfl rfl ?_
   replace hO := mC.own
   have hobt := freeze 0 hO rfl sI
   obtain ⟨hO1, Ie, Hr, XU⟩ := hobt
   replace hO := hO1; clear hO1
   obtain ⟨h76, H⟩ := H
   have Z2 := ((((FV.ch.trans FW.ch).trans jw.ch).trans Ku).trans mC.ch).trans Ie
   replace aQ := aQ.ch Z2
   have hobt := oapp Try.underlying22 ti26 rfl 0 hO rfl aQ Hr XU h76 (by decide)
   obtain ⟨w77, p78, c79, uL, EU, Kv, Q3⟩ := hobt
   refine GoQ.last rfl (Q3 (by exact rfl) (by exact rfl)) rfl rfl ?_
   replace hO := EU.own
   refine GoQ.pure rfl (op_nilCheck rfl) rfl rfl ?_
   refine GoQ.pure rfl (op_fieldAddr Try.underlying72 rfl ti29 rfl (by decide)) rfl rfl ?_
   refine GoQ.pure rfl (op_fieldAddr Try.underlying29 rfl ti22 rfl (by decide)) rfl rfl ?_
   have hobt := oblkSt2 (v := .slice p78 (n37 + 1) c79) (i := 2) (cs' := #[.int .i64 ((ix a0 (0 : Int)).length : Int), .bool a1, .slice p78 (n37 + 1) c79, .slice none 0 0, .slice none 0 0, .slice none 0 0, .slice none 0 0, .slice none 0 0, .int .i64 (0 : Int), .map (some B4), .slice none 0 0, .slice none 0 0, .slice none 0 0]) 1 hO rfl rfl rfl rfl
   obtain ⟨w85, gF, Q4⟩ := hobt
   refine GoQ.last rfl (Q4 Try.underlying22 rfl ti22 (by exact rfl) (by exact rfl)) rfl rfl ?_
   replace hO := gF.own
   refine GoQ.nil ?_
   refine Go1.inBlock ?_
   refine zr ?_
   replace aL := ((aL.ch Z2).ch EU.ch).ch gF.ch
   refine zo (op_add rfl rfl (wrap_i64 (natbd h38 aL.bd))) (zm rfl (zn ?_))
   replace Kv := Kv.ch gF.ch
   replace hB := (((((((hB.trans FV.fr).trans FW.fr).trans jw.fr).trans (Owns.dropFr _ _ 0)).trans mC.fr).trans (Owns.dropFr _ _ 0)).trans EU.fr).trans gF.fr
   exact hX1 _ H _ _ ⟨n37 + 1, p78, c79, uL, ⟨rfl, rfl, rfl, rfl, rfl, trivial⟩, hO, Kv, aL, hB⟩
  replace H := ifn h45 H
  refine zo (fun w => opB (op_neq rfl rfl w) (ndF h45)) (zm rfl (zp (zp (zp (zo (op_pickT rfl rfl rfl) ?_)))))
  refine zn (zt rfl rfl (zq ?_))
  refine Go1.cut [] trivial ?_
  intro σ _
  refine zr (za rfl (za rfl (zn ?_)))
  refine Go1.ret2 Try.func49 rfl ?_
  exact Or.inl ⟨((4 : Int)), rfl, hB.same, H⟩
 replace H := ifn h38 H
 refine zo (fun w => opB (op_lss rfl rfl w) (decide_eq_false h38)) (zn (zq (zf rfl rfl ?_)))
 refine Go1.exit rfl ?_
 refine zq (zr (za rfl (zn (zq (zq ?_)))))
 refine zr (zm rfl (zn ?_))
 cases a1
 ·replace H := ifn Bool.false_ne_true H
  refine zf rfl rfl (zk (zq (zq (zr (zm rfl ?_)))))
  refine zo (op_nilCheck rfl) (zo (op_fieldAddr Try.underlying72 rfl ti29 rfl (by decide)) (zo (op_fieldAddr Try.underlying29 rfl ti22 rfl (by decide)) (zs (oblk (i := 2) 1 hO rfl rfl Try.underlying22 rfl rfl) (zo (op_lenN Try.underlying22 rfl (aQ.neq hO 0 rfl)) (zm rfl ?_)))))
  refine zn (zb ?_)
  have GW := Stp.nil (e := 26) (r := 1) hO
  replace hO := GW.own
  have zR := Els.nil (Rp.sl (Rp.int .i64)) (bl (.row 26 1 none 0 0 [] :: [.row 26 1 p35 n37 c36 iD, .blk B10 (.cells #[.int .i64 ((ix a0 (0 : Int)).length : Int), .bool false, .slice p35 n37 c36, .slice none 0 0, .slice none 0 0, .slice none 0 0, .slice none 0 0, .slice none 0 0, .int .i64 (0 : Int), .map (some B4), .slice none 0 0, .slice none 0 0, .slice none 0 0] 72 (0, 0)), .any (mapE (fun a : List UInt8 => Value.string (gstr a)) (fun a : Int => Value.int .i64 a) B4 (([] : List (Str × Int))))]) ++ A) w30
  have gS := Stp.nil (e := 3) (r := 1) hO
  replace hO := gS.own
  have pv := Els.nil (Rp.int .i64) (bl (.row 3 1 none 0 0 [] :: [.row 26 1 none 0 0 [], .row 26 1 p35 n37 c36 iD, .blk B10 (.cells #[.int .i64 ((ix a0 (0 : Int)).length : Int), .bool false, .slice p35 n37 c36, .slice none 0 0, .slice none 0 0, .slice none 0 0, .slice none 0 0, .slice none 0 0, .int .i64 (0 : Int), .map (some B4), .slice none 0 0, .slice none 0 0, .slice none 0 0] 72 (0, 0)), .any (mapE (fun a : List UInt8 => Value.string (gstr a)) (fun a : Int => Value.int .i64 a) B4 (([] : List (Str × Int))))]) ++ A) w30
  have EV := Stp.nil (e := 3) (r := 1) hO
  replace hO := EV.own
  have Dc := Els.nil (Rp.int .i64) (bl (.row 3 1 none 0 0 [] :: [.row 3 1 none 0 0 [], .row 26 1 none 0 0 [], .row 26 1 p35 n37 c36 iD, .blk B10 (.cells #[.int .i64 ((ix a0 (0 : Int)).length : Int), .bool false, .slice p35 n37 c36, .slice none 0 0, .slice none 0 0, .slice none 0 0, .slice none 0 0, .slice none 0 0, .int .i64 (0 : Int), .map (some B4), .slice none 0 0, .slice none 0 0, .slice none 0 0] 72 (0, 0)), .any (mapE (fun a : List UInt8 => Value.string (gstr a)) (fun a : Int => Value.int .i64 a) B4 (([] : List (Str × Int))))]) ++ A) w30
  have Dd := Stp.nil (e := 39) (r := 2) hO
  replace hO := Dd.own
  have Fu := Els.nil (rpRule) (bl (.row 39 2 none 0 0 [] :: [.row 3 1 none 0 0 [], .row 3 1 none 0 0 [], .row 26 1 none 0 0 [], .row 26 1 p35 n37 c36 iD, .blk B10 (.cells #[.int .i64 ((ix a0 (0 : Int)).length : Int), .bool false, .slice p35 n37 c36, .slice none 0 0, .slice none 0 0, .slice none 0 0, .slice none 0 0, .slice none 0 0, .int .i64 (0 : Int), .map (some B4), .slice none 0 0, .slice none 0 0, .slice none 0 0] 72 (0, 0)), .any (mapE (fun a : List UInt8 => Value.string (gstr a)) (fun a : Int => Value.int .i64 a) B4 (([] : List (Str × Int))))]) ++ A) w30
  have gv := Stp.nil (e := 9) (r := 1) hO
  replace hO := gv.own
  have FX := Els.nil (Rp.str) (bl (.row 9 1 none 0 0 [] :: [.row 39 2 none 0 0 [], .row 3 1 none 0 0 [], .row 3 1 none 0 0 [], .row 26 1 none 0 0 [], .row 26 1 p35 n37 c36 iD, .blk B10 (.cells #[.int .i64 ((ix a0 (0 : Int)).length : Int), .bool false, .slice p35 n37 c36, .slice none 0 0, .slice none 0 0, .slice none 0 0, .slice none 0 0, .slice none 0 0, .int .i64 (0 : Int), .map (some B4), .slice none 0 0, .slice none 0 0, .slice none 0 0] 72 (0, 0)), .any (mapE (fun a : List UInt8 => Value.string (gstr a)) (fun a : Int => Value.int .i64 a) B4 (([] : List (Str × Int))))]) ++ A) w30
  have lX := Stp.nil (e := 3) (r := 1) hO
  replace hO := lX.own
  have Ig := Els.nil (Rp.int .i64) (bl (.row 3 1 none 0 0 [] :: [.row 9 1 none 0 0 [], .row 39 2 none 0 0 [], .row 3 1 none 0 0 [], .row 3 1 none 0 0 [], .row 26 1 none 0 0 [], .row 26 1 p35 n37 c36 iD, .blk B10 (.cells #[.int .i64 ((ix a0 (0 : Int)).length : Int), .bool false, .slice p35 n37 c36, .slice none 0 0, .slice none 0 0, .slice none 0 0, .slice none 0 0, .slice none 0 0, .int .i64 (0 : Int), .map (some B4), .slice none 0 0, .slice none 0 0, .slice none 0 0] 72 (0, 0)), .any (mapE (fun a : List UInt8 => Value.string (gstr a)) (fun a : Int => Value.int .i64 a) B4 (([] : List (Str × Int))))]) ++ A) w30
  have x8 := Stp.nil (e := 3) (r := 1) hO
  replace hO := x8.own
  have Q5 := Els.nil (Rp.int .i64) (bl (.row 3 1 none 0 0 [] :: [.row 3 1 none 0 0 [], .row 9 1 none 0 0 [], .row 39 2 none 0 0 [], .row 3 1 none 0 0 [], .row 3 1 none 0 0 [], .row 26 1 none 0 0 [], .row 26 1 p35 n37 c36 iD, .blk B10 (.cells #[.int .i64 ((ix a0 (0 : Int)).length : Int), .bool false, .slice p35 n37 c36, .slice none 0 0, .slice none 0 0, .slice none 0 0, .slice none 0 0, .slice none 0 0, .int .i64 (0 : Int), .map (some B4), .slice none 0 0, .slice none 0 0, .slice none 0 0] 72 (0, 0)), .any (mapE (fun a : List UInt8 => Value.string (gstr a)) (fun a : Int => Value.int .i64 a) B4 (([] : List (Str × Int))))]) ++ A) w30
  replace Ig := Ig.ch x8.ch
  replace FX := (FX.ch lX.ch).ch x8.ch
  have Z3 := (gv.ch.trans lX.ch).trans x8.ch
  replace Fu := Fu.ch Z3
  have Z4 := ((Dd.ch.trans gv.ch).trans lX.ch).trans x8.ch
  replace Dc := Dc.ch Z4
  have Z5 := (((EV.ch.trans Dd.ch).trans gv.ch).trans lX.ch).trans x8.ch
  replace pv := pv.ch Z5
  have Z6 := ((((gS.ch.trans EV.ch).trans Dd.ch).trans gv.ch).trans lX.ch).trans x8.ch
  replace zR := zR.ch Z6
  have Z7 := (((((GW.ch.trans gS.ch).trans EV.ch).trans Dd.ch).trans gv.ch).trans lX.ch).trans x8.ch
  replace aQ := aQ.ch Z7
  replace hB := ((((((hB.trans GW.fr).trans gS.fr).trans EV.fr).trans Dd.fr).trans gv.fr).trans lX.fr).trans x8.fr
  refine Go1.loopW (S := Nat × List Int × List Int × List Str × List Rule × List Int × List Int × List (List Int) × (List (Str × Int))) (fun s σ w => match s with | (k2_110, d_111, d_117, d_123, d_129, d_135, d_141, d_147, m2_153) => ∃ (kW : Nat), ∃ (o7 : Option Addr), ∃ (o8 : Nat), ∃ (wO : List Value), ∃ (lj : Nat), ∃ (mE : Option Addr), ∃ (oA : Nat), ∃ (vo : List Value), ∃ (lk : Nat), ∃ (o9 : Option Addr), ∃ (pc : Nat), ∃ (vp : List Value), ∃ (ll : Nat), ∃ (oB : Option Addr), ∃ (oC : Nat), ∃ (vq : List Value), ∃ (lm : Nat), ∃ (px : Option Addr), ∃ (pz : Nat), ∃ (vr : List Value), ∃ (lp : Nat), ∃ (qp : Option Addr), ∃ (qq : Nat), ∃ (vt : List Value), ∃ (lr : Nat), ∃ (qV : Option Addr), ∃ (qW : Nat), ∃ (vu : List Value), agrees σ [(6, .pointer (some ⟨B10, 0, none⟩)), (9, .int .i64 (-1 : Int)), (85, .slice p35 n37 c36), (86, .int .i64 (d_32.length : Int)), (87, .int .i64 (k2_110 : Int))] ∧ (fun Z0 => Owns w0.heap.size w Z0 A ∧ Els (Rp.int .i64) (bl Z0 ++ A) w wO d_111 ∧ Els (Rp.int .i64) (bl Z0 ++ A) w vo d_117 ∧ Els (Rp.str) (bl Z0 ++ A) w vp d_123 ∧ Els (rpRule) (bl Z0 ++ A) w vq d_129 ∧ Els (Rp.int .i64) (bl Z0 ++ A) w vr d_135 ∧ Els (Rp.int .i64) (bl Z0 ++ A) w vt d_141 ∧ Els (Rp.sl (Rp.int .i64)) (bl Z0 ++ A) w vu d_147 ∧ Els (Rp.sl (Rp.int .i64)) (bl Z0 ++ A) w iD d_32 ∧ Fr (bl []) w0 (bl Z0) w) [.row 3 1 o7 kW o8 wO, .row 3 1 mE lj oA vo, .row 9 1 o9 lk pc vp, .row 39 2 oB ll oC vq, .row 3 1 px lm pz vr, .row 3 1 qp lp qq vt, .row 26 1 qV lr qW vu, .row 26 1 p35 n37 c36 iD, .blk B10 (.cells #[.int .i64 ((ix a0 (0 : Int)).length : Int), .bool false, .slice p35 n37 c36, .slice qV lr qW, .slice qp lp qq, .slice px lm pz, .slice none 0 0, .slice oB ll oC, .int .i64 (0 : Int), .map (some B4), .slice o9 lk pc, .slice mE lj oA, .slice o7 kW o8] 72 (0, 0)), .any (mapE (fun a : List UInt8 => Value.string (gstr a)) (fun a : Int => Value.int .i64 a) B4 m2_153)]) H ⟨0, none, 0, [], 0, none, 0, [], 0, none, 0, [], 0, none, 0, [], 0, none, 0, [], 0, none, 0, [], 0, none, 0, [], ⟨rfl, rfl, rfl, rfl, rfl, trivial⟩, hO, Q5, Ig, FX, Fu, Dc, pv, zR, aQ, hB⟩ ?_
  intro X2
  refine prE fun k2_110 => prE fun d_111 => prE fun d_117 => prE fun d_123 => prE fun d_129 => prE fun d_135 => prE fun d_141 => prE fun d_147 => fun m2_153 => ?_
  intro H hX2 σ XV
  refine exE fun kW => exE fun o7 => exE fun o8 => exE fun wO => exE fun lj => exE fun mE => exE fun oA => exE fun vo => exE fun lk => exE fun o9 => exE fun pc => exE fun vp => exE fun ll => exE fun oB => exE fun oC => exE fun vq => exE fun lm => exE fun px => exE fun pz => exE fun vr => exE fun lp => exE fun qp => exE fun qq => exE fun vt => exE fun lr => exE fun qV => exE fun qW => exE fun vu => andE fun hag => andE fun hO => andE fun dn => andE fun du => andE fun dB => andE fun dw => andE fun dY => andE fun eC => andE fun eX => andE fun aQ => fun hB => ?_
  dsimp only at H
  refine Go1.keep [(6, .pointer (some ⟨B10, 0, none⟩)), (9, .int .i64 (-1 : Int)), (85, .slice p35 n37 c36), (86, .int .i64 (d_32.length : Int)), (87, .int .i64 (k2_110 : Int))] hag ?_
  refine zq (zr ?_)
  by_cases Gp : (k2_110 : Int) < (d_32.length : Int)
  ·replace H := ifp Gp H
   refine zo (fun w => opB (op_lss rfl rfl w) (decide_eq_true Gp)) (zn (zq (zt rfl rfl (zk (zq ?_)))))
   refine zb (zq (zr (zm rfl ?_)))
   obtain ⟨Fv, H⟩ := H
   obtain ⟨Fw, H⟩ := H
   refine zo (op_index Try.underlying22 ti26 rfl rfl Fv (ltn (aQ.neq hO 7 rfl) Fw) (aQ.psome hO 7 rfl Fv Fw)) ?_
   have hobt := oldSl 7 hO rfl aQ Fv Fw
   obtain ⟨MV, MW, dD, Q6⟩ := hobt
   refine zs (Q6 Try.underlying26 rfl rfl) (za rfl (za rfl (zn (zq (zr ?_)))))
   refine zm rfl ?_
   obtain ⟨XW, H⟩ := H
   refine zo (op_add rfl rfl (wrap_i64 XW)) (zo (op_conv Try.underlying3 Try.underlying21 rfl rfl) ?_)
   obtain ⟨Fx, H⟩ := H
   obtain ⟨Hs, H⟩ := H
   refine zo (op_convRS Try.underlying21 Try.underlying9 rfl Fx Hs) (za rfl (zn (zq ?_)))
   refine Go1.drawS 0 [(0, .pure), (1, .pure), (2, .pure), (3, .stable), (4, .pure), (5, .loud), (6, .stable), (7, .pure), (8, .pure), (9, .pure), (10, .pure), (11, .pure)] mixed (by kernel_rfl) ?_
   intro adD Q7
   have ku := Stp.same hO Q7
   replace hO := ku.own
   refine GoQ.pure rfl (op_move rfl) rfl rfl ?_
   refine GoQ.pure rfl (op_nilCheck rfl) rfl rfl ?_
   refine GoQ.pure rfl (op_fieldAddr Try.underlying72 rfl ti69 rfl (by decide)) rfl rfl ?_
   refine GoQ.stable rfl (oblk (i := 9) 8 hO rfl rfl Try.underlying69 rfl rfl) rfl rfl ?_
   refine GoQ.pure rfl (op_move rfl) rfl rfl ?_
   replace dD := dD.ch ku.ch
   refine GoQ.call rfl (op_call body61 rfl (walk_enumerate_text hO.lt dD H)) (fun v w hr => by obtain ⟨_, _, hs, _, _⟩ := hr; assumption) rfl rfl ?_
   rintro XX MX ⟨r167, rfl, Ih, acf, H⟩
   have f8 := Stp.same hO Ih
   replace hO := f8.own
   by_cases Ec : mhas m2_153 r167 = true
   ·replace H := ifp Ec H
    refine GoQ.stable rfl (olookT (a := r167) (MK.str Try.underlying9) 9 hO rfl Try.underlying69 rfl rfl Ec) rfl rfl ?_
    refine GoQ.pure rfl (op_move rfl) rfl rfl ?_
    refine GoQ.pure rfl (op_extract rfl rfl) rfl rfl ?_
    refine GoQ.pure rfl (op_extract rfl rfl) rfl rfl ?_
    refine GoQ.pure rfl (op_assign rfl) rfl rfl ?_
    refine GoQ.pure rfl (op_assign rfl) rfl rfl ?_
    refine GoQ.nil ?_
    refine zq (zq ?_)
    refine Go1.cut [(6, .pointer (some ⟨B10, 0, none⟩)), (9, .int .i64 (-1 : Int)), (10, .int .i64 (k2_110 : Int)), (11, .slice MV ((ix d_32 (k2_110 : Int)).length) MW), (12, .string (gstr (chr (IntKind.i32.wrap ((97 : Int) + (k2_110 : Int)))))), (13, .int .i64 (mgt m2_153 r167)), (14, .bool true), (85, .slice p35 n37 c36), (86, .int .i64 (d_32.length : Int)), (87, .int .i64 (k2_110 : Int))] ⟨rfl, rfl, rfl, rfl, rfl, rfl, rfl, rfl, rfl, rfl, trivial⟩ ?_
    intro σ _
    refine zr (zm rfl (zn (zt rfl rfl ?_)))
    refine Go1.drawS 5 [(0, .pure), (1, .pure), (2, .pure), (3, .pure), (4, .pure), (5, .stable), (6, .pure), (7, .pure), (8, .pure), (9, .pure), (10, .stable), (11, .pure), (12, .pure), (13, .stable), (14, .pure), (15, .loud), (16, .last), (17, .pure), (18, .pure), (19, .pure), (20, .last)] mixed (by kernel_rfl) ?_
    intro XY Ii
    have xo := Stp.same hO Ii
    replace hO := xo.own
    refine GoQ.pure rfl (op_move rfl) rfl rfl ?_
    refine GoQ.pure rfl (op_move rfl) rfl rfl ?_
    refine GoQ.pure rfl (op_nilCheck rfl) rfl rfl ?_
    refine GoQ.pure rfl (op_fieldAddr Try.underlying72 rfl ti29 rfl (by decide)) rfl rfl ?_
    refine GoQ.pure rfl (op_fieldAddr Try.underlying29 rfl ti27 rfl (by decide)) rfl rfl ?_
    refine GoQ.stable rfl (oblk (i := 7) 8 hO rfl rfl Try.underlying27 rfl rfl) rfl rfl ?_
    refine GoQ.pure rfl (op_move rfl) rfl rfl ?_
    refine GoQ.pure rfl (op_move rfl) rfl rfl ?_
    refine GoQ.pure rfl (op_nilCheck rfl) rfl rfl ?_
    refine GoQ.pure rfl (op_fieldAddr Try.underlying72 rfl ti70 rfl (by decide)) rfl rfl ?_
    refine GoQ.stable rfl (oblk (i := 10) 8 hO rfl rfl Try.underlying70 rfl rfl) rfl rfl ?_
    refine GoQ.pure rfl (op_move rfl) rfl rfl ?_
    obtain ⟨Cm, H⟩ := H
    obtain ⟨Ij, H⟩ := H
    have Z8 := (ku.ch.trans f8.ch).trans xo.ch
    replace dB := dB.ch Z8
    refine GoQ.pure rfl (op_index Try.underlying70 ti9 rfl rfl Cm (ltn (dB.neq hO 2 rfl) Ij) (dB.psome hO 2 rfl Cm Ij)) rfl rfl ?_
    refine GoQ.stable rfl (oldStr 2 hO rfl dB Cm Ij Try.underlying9 rfl rfl) rfl rfl ?_
    have hle179 := Els.str_le dB Cm Ij
    refine GoQ.pure rfl (op_build Try.underlying39 ti39 (pl := [(0, 1), (1, 1)]) (vs := [(0, .string (gstr (chr (IntKind.i32.wrap ((97 : Int) + (k2_110 : Int)))))), (1, .string (gstr (ix d_123 (mgt m2_153 r167))))]) (cs := #[.string (gstr (chr (IntKind.i32.wrap ((97 : Int) + (k2_110 : Int))))), .string (gstr (ix d_123 (mgt m2_153 r167)))]) (by kernel_rfl) rfl (by kernel_rfl)) rfl rfl ?_
    have hobt := obuildN (r := rpRule) (n := 1) (parts := [(0, .agg #[.string (gstr (chr (IntKind.i32.wrap ((97 : Int) + (k2_110 : Int))))), .string (gstr (ix d_123 (mgt m2_153 r167)))])]) (vs := [.string (gstr (chr (IntKind.i32.wrap ((97 : Int) + (k2_110 : Int))))), .string (gstr (ix d_123 (mgt m2_153 r167)))]) (xs := [(⟨chr (IntKind.i32.wrap ((97 : Int) + (k2_110 : Int))), ix d_123 (mgt m2_153 r167)⟩ : Rule)]) Try.underlying27 ti39 hO (by decide) (by decide) (by kernel_rfl) (Els.flat1 (⟨chr (IntKind.i32.wrap ((97 : Int) + (k2_110 : Int))), ix d_123 (mgt m2_153 r167)⟩ : Rule) ⟨(chr_le _), hle179⟩) rfl
    obtain ⟨Kw, adE, xp, Q8, Q9, MY⟩ := hobt
    refine GoQ.loud rfl (MY rfl) Q9 rfl rfl ?_
    replace hO := xp.own
    have hobt := freeze 0 hO rfl Q8
    obtain ⟨hO1, zY, wP, Ik⟩ := hobt
    dsimp only [eS, eZ] at hO1 zY wP
    replace hB := ((((hB.trans ku.fr).trans f8.fr).trans xo.fr).trans xp.fr).trans (Owns.dropFr _ _ 0)
    dsimp only [eS, eZ] at hB
    replace hO := hO1; clear hO1
    obtain ⟨X0, H⟩ := H
    replace dw := ((dw.ch Z8).ch xp.ch).ch zY
    have hobt := oapp Try.underlying27 ti39 rfl 3 hO rfl dw wP Ik X0 (by decide)
    obtain ⟨X9, Il, Im, Ra, vX, yo, M0⟩ := hobt
    dsimp only [sS, sZ] at vX yo
    refine GoQ.last rfl (M0 (by exact rfl) (by exact rfl)) rfl rfl ?_
    replace hO := vX.own
    refine GoQ.pure rfl (op_nilCheck rfl) rfl rfl ?_
    refine GoQ.pure rfl (op_fieldAddr Try.underlying72 rfl ti29 rfl (by decide)) rfl rfl ?_
    refine GoQ.pure rfl (op_fieldAddr Try.underlying29 rfl ti27 rfl (by decide)) rfl rfl ?_
    have hobt := oblkSt2 (v := .slice Il (ll + 1) Im) (i := 7) (cs' := #[.int .i64 ((ix a0 (0 : Int)).length : Int), .bool false, .slice p35 n37 c36, .slice qV lr qW, .slice qp lp qq, .slice px lm pz, .slice none 0 0, .slice Il (ll + 1) Im, .int .i64 (0 : Int), .map (some B4), .slice o9 lk pc, .slice mE lj oA, .slice o7 kW o8]) 8 hO rfl rfl rfl rfl
    obtain ⟨Ya, uM, Ht⟩ := hobt
    dsimp only [sS, sZ] at uM
    refine GoQ.last rfl (Ht Try.underlying27 rfl ti27 (by exact rfl) (by exact rfl)) rfl rfl ?_
    replace hO := uM.own
    refine GoQ.nil ?_
    refine Go1.cut [(6, .pointer (some ⟨B10, 0, none⟩)), (9, .int .i64 (-1 : Int)), (13, .int .i64 (mgt m2_153 r167)), (85, .slice p35 n37 c36), (86, .int .i64 (d_32.length : Int)), (87, .int .i64 (k2_110 : Int))] ⟨rfl, rfl, rfl, rfl, rfl, rfl, trivial⟩ ?_
    intro σ _
    refine zr (zm rfl (zm rfl (zo (op_nilCheck rfl) (zo (op_fieldAddr Try.underlying72 rfl ti26 rfl (by decide)) (zs (oblk (i := 12) 8 hO rfl rfl Try.underlying26 rfl rfl) ?_)))))
    refine zm rfl ?_
    have hobt := obuild (r := Rp.int .i64) (n := 1) (parts := [(0, .int .i64 (mgt m2_153 r167))]) (vs := [.int .i64 (mgt m2_153 r167)]) (xs := [(mgt m2_153 r167)]) rfl Try.underlying26 ti3 hO (by decide) (by kernel_rfl) (Els.cons rfl rfl (Els.nil _ _ _) (by simp [mx])) rfl
    obtain ⟨adF, adG, vY, Rb, acv, M1⟩ := hobt
    refine zg (M1 rfl) ?_
    replace hO := vY.own
    have hobt := freeze 0 hO rfl Rb
    obtain ⟨hO1, y4, EW, Rc⟩ := hobt
    dsimp only [eS, eZ] at hO1 y4 EW
    replace hB := (((hB.trans vX.fr).trans uM.fr).trans vY.fr).trans (Owns.dropFr _ _ 0)
    dsimp only [eS, eZ] at hB
    replace hO := hO1; clear hO1
    obtain ⟨Hu, H⟩ := H
    have Z9 := (((((Z8.trans xp.ch).trans zY).trans vX.ch).trans uM.ch).trans vY.ch).trans y4
    replace dn := dn.ch Z9
    have hobt := oapp Try.underlying26 ti3 rfl 0 hO rfl dn EW Rc Hu (by decide)
    obtain ⟨Yb, Kx, Ky, Rd, uN, GX, Hv⟩ := hobt
    dsimp only [sS, sZ] at uN GX
    refine zg (Hv (by exact rfl) (by exact rfl)) ?_
    replace hO := uN.own
    refine zo (op_nilCheck rfl) (zo (op_fieldAddr Try.underlying72 rfl ti26 rfl (by decide)) ?_)
    have hobt := oblkSt2 (v := .slice Kx (kW + 1) Ky) (i := 12) (cs' := #[.int .i64 ((ix a0 (0 : Int)).length : Int), .bool false, .slice p35 n37 c36, .slice qV lr qW, .slice qp lp qq, .slice px lm pz, .slice none 0 0, .slice Il (ll + 1) Im, .int .i64 (0 : Int), .map (some B4), .slice o9 lk pc, .slice mE lj oA, .slice Kx (kW + 1) Ky]) 8 hO rfl rfl rfl rfl
    obtain ⟨Yc, fT, Hw⟩ := hobt
    dsimp only [sS, sZ] at fT
    refine zg (Hw Try.underlying26 rfl ti26 (by exact rfl) (by exact rfl)) ?_
    replace hO := fT.own
    refine zn ?_
    refine Go1.inBlock ?_
    refine zr ?_
    replace aQ := ((aQ.ch Z9).ch uN.ch).ch fT.ch
    refine zo (op_add rfl rfl (wrap_i64 (natbd Gp aQ.bd))) (zm rfl (zn ?_))
    replace GX := GX.ch fT.ch
    replace hB := (hB.trans uN.fr).trans fT.fr
    have Z10 := (((uM.ch.trans vY.ch).trans y4).trans uN.ch).trans fT.ch
    replace yo := yo.ch Z10
    have Z11 := ((((((xp.ch.trans zY).trans vX.ch).trans uM.ch).trans vY.ch).trans y4).trans uN.ch).trans fT.ch
    replace dB := dB.ch Z11
    have Z12 := (Z9.trans uN.ch).trans fT.ch
    replace du := du.ch Z12
    replace dY := dY.ch Z12
    replace eC := eC.ch Z12
    replace eX := eX.ch Z12
    exact hX2 _ H _ _ ⟨kW + 1, Kx, Ky, Rd, lj, mE, oA, vo, lk, o9, pc, vp, ll + 1, Il, Im, Ra, lm, px, pz, vr, lp, qp, qq, vt, lr, qV, qW, vu, ⟨rfl, rfl, rfl, rfl, rfl, trivial⟩, hO, GX, du, dB, yo, dY, eC, eX, aQ, hB⟩
   replace H := ifn Ec H
   refine GoQ.stable rfl (olookF (a := r167) (MK.str Try.underlying9) 9 hO rfl Try.underlying69 ti3 rfl rfl Ec) rfl rfl ?_
   refine GoQ.pure rfl (op_move rfl) rfl rfl ?_
   refine GoQ.pure rfl (op_extract rfl rfl) rfl rfl ?_
   refine GoQ.pure rfl (op_extract rfl rfl) rfl rfl ?_
   refine GoQ.pure rfl (op_assign rfl) rfl rfl ?_
   refine GoQ.pure rfl (op_assign rfl) rfl rfl ?_
   refine GoQ.nil ?_
   refine zq (zq (zr (zm rfl (zn (zf rfl rfl ?_)))))
   refine Go1.cut [(6, .pointer (some ⟨B10, 0, none⟩)), (9, .int .i64 (-1 : Int)), (10, .int .i64 (k2_110 : Int)), (11, .slice MV ((ix d_32 (k2_110 : Int)).length) MW), (12, .string (gstr (chr (IntKind.i32.wrap ((97 : Int) + (k2_110 : Int)))))), (85, .slice p35 n37 c36), (86, .int .i64 (d_32.length : Int)), (87, .int .i64 (k2_110 : Int))] ⟨rfl, rfl, rfl, rfl, rfl, rfl, rfl, rfl, trivial⟩ ?_
   intro σ _
   refine zr (zm rfl (zm rfl ?_))
   replace dD := dD.ch f8.ch
   refine GoR.call (op_call body64 rfl (walk_slices_Clone_int hO.lt dD H)) rfl rfl ?_
   rintro adH adI ⟨r224, Ed, Ax, Ay, acg, rfl, Re, hN228, q8, H⟩
   have v3 := Stp.more hO Re hN228
   dsimp only [List.cons_append, List.nil_append] at v3
   replace hO := v3.own
   refine zm rfl (zm rfl (zm rfl (zm rfl ?_)))
   refine GoR.inl (vs := [.pointer (some ⟨B10, 0, none⟩), .slice Ax Ed Ay, .int .i64 (-1 : Int), .int .i64 (k2_110 : Int), .string (gstr (chr (IntKind.i32.wrap ((97 : Int) + (k2_110 : Int))))), .int .i64 (-1 : Int)]) (caps := []) rfl rfl body65 Try.func65 rfl Try.ntmps65 rfl rfl rfl ?_
   intro RhR232 hR232
   refine zq (zr (za rfl (zn (zq (zr ?_)))))
   refine zm rfl (zo (op_nilCheck rfl) (zo (op_fieldAddr Try.underlying72 rfl ti29 rfl (by decide)) (zo (op_fieldAddr Try.underlying29 rfl ti22 rfl (by decide)) (zs (oblk (i := 3) 9 hO rfl rfl Try.underlying22 rfl rfl) ?_))))
   have Z13 := (ku.ch.trans f8.ch).trans v3.ch
   replace eX := eX.ch Z13
   refine zo (op_lenN Try.underlying22 rfl (eX.neq hO 7 rfl)) (za rfl (zn (zq ?_)))
   refine Go1.drawS 1 [(0, .pure), (1, .pure), (2, .pure), (3, .stable), (4, .pure), (6, .pure), (5, .loud), (7, .last)] mixed (by kernel_rfl) ?_
   intro adJ Rf
   have v4 := Stp.same hO Rf
   replace hO := v4.own
   refine GoQ.pure rfl (op_move rfl) rfl rfl ?_
   refine GoQ.pure rfl (op_nilCheck rfl) rfl rfl ?_
   refine GoQ.pure rfl (op_fieldAddr Try.underlying72 rfl ti69 rfl (by decide)) rfl rfl ?_
   refine GoQ.stable rfl (oblk (i := 9) 9 hO rfl rfl Try.underlying69 rfl rfl) rfl rfl ?_
   refine GoQ.pure rfl (op_move rfl) rfl rfl ?_
   refine GoQ.pure rfl (op_move rfl) rfl rfl ?_
   replace q8 := (q8.ch (Ch.assoc _ _ _ _)).ch v4.ch
   have hobt := rowlend 0 hO rfl q8
   obtain ⟨Rg, Rh⟩ := hobt
   have hOc238 := hO.drop 0
   refine GoQ.call rfl (op_call body61 (show ([.slice Ax Ed Ay] : List Value) = [.slice Ax r224.length Ay] from by rw [← Rh]) (walk_enumerate_text hOc238.lt Rg H)) (fun v w hr => by obtain ⟨_, _, hs, _, _⟩ := hr; assumption) rfl rfl ?_
   rintro adK Yd ⟨r239, rfl, Io, ach, H⟩
   have v7 := Stp.same hO Io
   replace hO := v7.own
   have hobt := omapUpd (MK.str Try.underlying9) 10 hO rfl Try.underlying69 r239 (d_147.length : Int)
   obtain ⟨Ye, uO, M2⟩ := hobt
   dsimp only [sS, sZ] at uO
   refine GoQ.last rfl (M2 (by exact rfl) (by exact rfl) (by exact rfl)) rfl rfl ?_
   replace hO := uO.own
   refine GoQ.nil ?_
   refine zq ?_
   refine Go1.cut [(0, .pointer (some ⟨B10, 0, none⟩)), (1, .slice Ax Ed Ay), (2, .int .i64 (-1 : Int)), (3, .int .i64 (k2_110 : Int)), (4, .string (gstr (chr (IntKind.i32.wrap ((97 : Int) + (k2_110 : Int)))))), (5, .int .i64 (-1 : Int)), (13, .int .i64 (d_147.length : Int))] ⟨rfl, rfl, rfl, rfl, rfl, rfl, rfl, trivial⟩ ?_
   intro σ _
   refine zr (zm rfl (zm rfl (zo (op_nilCheck rfl) (zo (op_fieldAddr Try.underlying72 rfl ti29 rfl (by decide)) (zo (op_fieldAddr Try.underlying29 rfl ti22 rfl (by decide)) ?_)))))
   refine zs (oblk (i := 3) 9 hO rfl rfl Try.underlying22 rfl rfl) (zm rfl ?_)
   replace q8 := (q8.ch v7.ch).ch uO.ch
   have hobt := freeze 0 hO rfl q8
   obtain ⟨hO1, rV, dV, Ip⟩ := hobt
   dsimp only [eS, eZ] at hO1 rV dV
   replace hB := ((((((hB.trans ku.fr).trans f8.fr).trans v3.fr).trans v4.fr).trans v7.fr).trans uO.fr).trans (Owns.dropFr _ _ 0)
   dsimp only [eS, eZ] at hB
   replace hO := hO1; clear hO1
   have hobt := obuild (r := Rp.sl (Rp.int .i64)) (n := 1) (parts := [(0, .slice Ax Ed Ay)]) (vs := [.slice Ax Ed Ay]) (xs := [r224]) rfl Try.underlying22 ti26 hO (by decide) (by kernel_rfl) (Els.cons rfl ⟨Ax, Ay, congrArg some (congrArg (fun nn => Value.slice Ax nn Ay) Ip), dV⟩ (Els.nil _ _ _) (by simp [mx])) rfl
   obtain ⟨adL, adM, v8, vw, acw, M3⟩ := hobt
   refine zg (M3 rfl) ?_
   replace hO := v8.own
   have hobt := freeze 0 hO rfl vw
   obtain ⟨hO1, y5, gt, Ri⟩ := hobt
   dsimp only [eS, eZ] at hO1 y5 gt
   replace hB := (hB.trans v8.fr).trans (Owns.dropFr _ _ 0)
   dsimp only [eS, eZ] at hB
   replace hO := hO1; clear hO1
   obtain ⟨Yf, H⟩ := H
   have Z14 := ((((v4.ch.trans v7.ch).trans uO.ch).trans rV).trans v8.ch).trans y5
   replace eX := eX.ch Z14
   have hobt := oapp Try.underlying22 ti26 rfl 6 hO rfl eX gt Ri Yf (by decide)
   obtain ⟨adN, Ee, Ef, Rj, gQ, gG, M4⟩ := hobt
   dsimp only [sS, sZ] at gQ gG
   refine zg (M4 (by exact rfl) (by exact rfl)) ?_
   replace hO := gQ.own
   refine zo (op_nilCheck rfl) (zo (op_fieldAddr Try.underlying72 rfl ti29 rfl (by decide)) (zo (op_fieldAddr Try.underlying29 rfl ti22 rfl (by decide)) ?_))
   have hobt := oblkSt2 (v := .slice Ee (lr + 1) Ef) (i := 3) (cs' := #[.int .i64 ((ix a0 (0 : Int)).length : Int), .bool false, .slice p35 n37 c36, .slice Ee (lr + 1) Ef, .slice qp lp qq, .slice px lm pz, .slice none 0 0, .slice oB ll oC, .int .i64 (0 : Int), .map (some B4), .slice o9 lk pc, .slice mE lj oA, .slice o7 kW o8]) 8 hO rfl rfl rfl rfl
   obtain ⟨adO, tT, M5⟩ := hobt
   dsimp only [sS, sZ] at tT
   refine zg (M5 Try.underlying22 rfl ti22 (by exact rfl) (by exact rfl)) ?_
   replace hO := tT.own
   refine zn (zq (zr (zm rfl (zm rfl (zo (op_nilCheck rfl) ?_)))))
   refine zo (op_fieldAddr Try.underlying72 rfl ti29 rfl (by decide)) (zo (op_fieldAddr Try.underlying29 rfl ti26 rfl (by decide)) (zs (oblk (i := 4) 8 hO rfl rfl Try.underlying26 rfl rfl) (zm rfl ?_)))
   have hobt := obuild (r := Rp.int .i64) (n := 1) (parts := [(0, .int .i64 (-1 : Int))]) (vs := [.int .i64 (-1 : Int)]) (xs := [(-1 : Int)]) rfl Try.underlying26 ti3 hO (by decide) (by kernel_rfl) (Els.cons rfl rfl (Els.nil _ _ _) (by simp [mx])) rfl
   obtain ⟨adP, adQ, uP, dg, acx, M6⟩ := hobt
   refine zg (M6 rfl) ?_
   replace hO := uP.own
   have hobt := freeze 0 hO rfl dg
   obtain ⟨hO1, yp, ii, Rk⟩ := hobt
   dsimp only [eS, eZ] at hO1 yp ii
   replace hB := (((hB.trans gQ.fr).trans tT.fr).trans uP.fr).trans (Owns.dropFr _ _ 0)
   dsimp only [eS, eZ] at hB
   replace hO := hO1; clear hO1
   obtain ⟨Yg, H⟩ := H
   have Z15 := (((((((((Z13.trans v4.ch).trans v7.ch).trans uO.ch).trans rV).trans v8.ch).trans y5).trans gQ.ch).trans tT.ch).trans uP.ch).trans yp
   replace eC := eC.ch Z15
   have hobt := oapp Try.underlying26 ti3 rfl 5 hO rfl eC ii Rk Yg (by decide)
   obtain ⟨adR, Fy, Fz, Rl, tU, bM, M7⟩ := hobt
   dsimp only [sS, sZ] at tU bM
   refine zg (M7 (by exact rfl) (by exact rfl)) ?_
   replace hO := tU.own
   refine zo (op_nilCheck rfl) (zo (op_fieldAddr Try.underlying72 rfl ti29 rfl (by decide)) (zo (op_fieldAddr Try.underlying29 rfl ti26 rfl (by decide)) ?_))
   have hobt := oblkSt2 (v := .slice Fy (lp + 1) Fz) (i := 4) (cs' := #[.int .i64 ((ix a0 (0 : Int)).length : Int), .bool false, .slice p35 n37 c36, .slice Ee (lr + 1) Ef, .slice Fy (lp + 1) Fz, .slice px lm pz, .slice none 0 0, .slice oB ll oC, .int .i64 (0 : Int), .map (some B4), .slice o9 lk pc, .slice mE lj oA, .slice o7 kW o8]) 8 hO rfl rfl rfl rfl
   obtain ⟨adS, sV, M8⟩ := hobt
   dsimp only [sS, sZ] at sV
   refine zg (M8 Try.underlying26 rfl ti26 (by exact rfl) (by exact rfl)) ?_
   replace hO := sV.own
   refine zn (zq ?_)
   refine Go1.cut [(0, .pointer (some ⟨B10, 0, none⟩)), (3, .int .i64 (k2_110 : Int)), (4, .string (gstr (chr (IntKind.i32.wrap ((97 : Int) + (k2_110 : Int)))))), (5, .int .i64 (-1 : Int)), (13, .int .i64 (d_147.length : Int))] ⟨rfl, rfl, rfl, rfl, rfl, trivial⟩ ?_
   intro σ _
   refine zr (zm rfl (zm rfl (zo (op_nilCheck rfl) (zo (op_fieldAddr Try.underlying72 rfl ti29 rfl (by decide)) (zo (op_fieldAddr Try.underlying29 rfl ti26 rfl (by decide)) ?_)))))
   refine zs (oblk (i := 5) 8 hO rfl rfl Try.underlying26 rfl rfl) (zm rfl ?_)
   have hobt := obuild (r := Rp.int .i64) (n := 1) (parts := [(0, .int .i64 (k2_110 : Int))]) (vs := [.int .i64 (k2_110 : Int)]) (xs := [(k2_110 : Int)]) rfl Try.underlying26 ti3 hO (by decide) (by kernel_rfl) (Els.cons rfl rfl (Els.nil _ _ _) (by simp [mx])) rfl
   obtain ⟨adT, iY, i4, Rm, L6, M9⟩ := hobt
   refine zg (M9 rfl) ?_
   replace hO := i4.own
   have hobt := freeze 0 hO rfl Rm
   obtain ⟨hO1, xF, kC, Rn⟩ := hobt
   dsimp only [eS, eZ] at hO1 xF kC
   replace hB := (((hB.trans tU.fr).trans sV.fr).trans i4.fr).trans (Owns.dropFr _ _ 0)
   dsimp only [eS, eZ] at hB
   replace hO := hO1; clear hO1
   obtain ⟨Yh, H⟩ := H
   have Z16 := (((Z15.trans tU.ch).trans sV.ch).trans i4.ch).trans xF
   replace dY := dY.ch Z16
   have hobt := oapp Try.underlying26 ti3 rfl 4 hO rfl dY kC Rn Yh (by decide)
   obtain ⟨adU, Gq, Gr, Ro, kK, k9, Na⟩ := hobt
   dsimp only [sS, sZ] at kK k9
   refine zg (Na (by exact rfl) (by exact rfl)) ?_
   replace hO := kK.own
   refine zo (op_nilCheck rfl) (zo (op_fieldAddr Try.underlying72 rfl ti29 rfl (by decide)) (zo (op_fieldAddr Try.underlying29 rfl ti26 rfl (by decide)) ?_))
   have hobt := oblkSt2 (v := .slice Gq (lm + 1) Gr) (i := 5) (cs' := #[.int .i64 ((ix a0 (0 : Int)).length : Int), .bool false, .slice p35 n37 c36, .slice Ee (lr + 1) Ef, .slice Fy (lp + 1) Fz, .slice Gq (lm + 1) Gr, .slice none 0 0, .slice oB ll oC, .int .i64 (0 : Int), .map (some B4), .slice o9 lk pc, .slice mE lj oA, .slice o7 kW o8]) 8 hO rfl rfl rfl rfl
   obtain ⟨adV, sk, Nb⟩ := hobt
   dsimp only [sS, sZ] at sk
   refine zg (Nb Try.underlying26 rfl ti26 (by exact rfl) (by exact rfl)) ?_
   replace hO := sk.own
   refine zn (zq (zr (zm rfl (zm rfl (zo (op_nilCheck rfl) ?_)))))
   refine zo (op_fieldAddr Try.underlying72 rfl ti70 rfl (by decide)) (zs (oblk (i := 10) 8 hO rfl rfl Try.underlying70 rfl rfl) (zm rfl ?_))
   have hobt := obuild (r := Rp.str) (n := 1) (parts := [(0, .string (gstr (chr (IntKind.i32.wrap ((97 : Int) + (k2_110 : Int))))))]) (vs := [.string (gstr (chr (IntKind.i32.wrap ((97 : Int) + (k2_110 : Int)))))]) (xs := [chr (IntKind.i32.wrap ((97 : Int) + (k2_110 : Int)))]) rfl Try.underlying70 ti9 hO (by decide) (by kernel_rfl) (Els.cons rfl ⟨rfl, (chr_le _)⟩ (Els.nil _ _ _) (by simp [mx])) rfl
   obtain ⟨adW, adX, sW, Rq, L7, Nc⟩ := hobt
   refine zg (Nc rfl) ?_
   replace hO := sW.own
   have hobt := freeze 0 hO rfl Rq
   obtain ⟨hO1, q9, oa, Iq⟩ := hobt
   dsimp only [eS, eZ] at hO1 q9 oa
   replace hB := (((hB.trans kK.fr).trans sk.fr).trans sW.fr).trans (Owns.dropFr _ _ 0)
   dsimp only [eS, eZ] at hB
   replace hO := hO1; clear hO1
   obtain ⟨Yi, H⟩ := H
   have Z17 := (((Z16.trans kK.ch).trans sk.ch).trans sW.ch).trans q9
   replace dB := dB.ch Z17
   have hobt := oapp Try.underlying70 ti9 rfl 2 hO rfl dB oa Iq Yi (by decide)
   obtain ⟨Nd, Hx, Hy, Rr, gW, rW, Nf⟩ := hobt
   dsimp only [sS, sZ] at gW rW
   refine zg (Nf (by exact rfl) (by exact rfl)) ?_
   replace hO := gW.own
   refine zo (op_nilCheck rfl) (zo (op_fieldAddr Try.underlying72 rfl ti70 rfl (by decide)) ?_)
   have hobt := oblkSt2 (v := .slice Hx (lk + 1) Hy) (i := 10) (cs' := #[.int .i64 ((ix a0 (0 : Int)).length : Int), .bool false, .slice p35 n37 c36, .slice Ee (lr + 1) Ef, .slice Fy (lp + 1) Fz, .slice Gq (lm + 1) Gr, .slice none 0 0, .slice oB ll oC, .int .i64 (0 : Int), .map (some B4), .slice Hx (lk + 1) Hy, .slice mE lj oA, .slice o7 kW o8]) 8 hO rfl rfl rfl rfl
   obtain ⟨adY, rp, Hz⟩ := hobt
   dsimp only [sS, sZ] at rp
   refine zg (Hz Try.underlying70 rfl ti70 (by exact rfl) (by exact rfl)) ?_
   replace hO := rp.own
   refine zn (zq ?_)
   refine Go1.cut [(0, .pointer (some ⟨B10, 0, none⟩)), (5, .int .i64 (-1 : Int)), (13, .int .i64 (d_147.length : Int))] ⟨rfl, rfl, rfl, trivial⟩ ?_
   intro σ _
   refine zr (zm rfl (zm rfl (zo (op_nilCheck rfl) (zo (op_fieldAddr Try.underlying72 rfl ti26 rfl (by decide)) (zs (oblk (i := 11) 8 hO rfl rfl Try.underlying26 rfl rfl) ?_)))))
   refine zm rfl ?_
   have hobt := obuild (r := Rp.int .i64) (n := 1) (parts := [(0, .int .i64 (-1 : Int))]) (vs := [.int .i64 (-1 : Int)]) (xs := [(-1 : Int)]) rfl Try.underlying26 ti3 hO (by decide) (by kernel_rfl) (Els.cons rfl rfl (Els.nil _ _ _) (by simp [mx])) rfl
   obtain ⟨ad0, ad1, iI, Rs, acy, Ng⟩ := hobt
   refine zg (Ng rfl) ?_
   replace hO := iI.own
   have hobt := freeze 0 hO rfl Rs
   obtain ⟨hO1, vy, wQ, Rt⟩ := hobt
   dsimp only [eS, eZ] at hO1 vy wQ
   replace hB := (((hB.trans gW.fr).trans rp.fr).trans iI.fr).trans (Owns.dropFr _ _ 0)
   dsimp only [eS, eZ] at hB
   replace hO := hO1; clear hO1
   obtain ⟨Gs, H⟩ := H
   have Z18 := (((Z17.trans gW.ch).trans rp.ch).trans iI.ch).trans vy
   replace du := du.ch Z18
   have hobt := oapp Try.underlying26 ti3 rfl 1 hO rfl du wQ Rt Gs (by decide)
   obtain ⟨ad2, Ir, Iu, Ru, rq, yq, HA⟩ := hobt
   dsimp only [sS, sZ] at rq yq
   refine zg (HA (by exact rfl) (by exact rfl)) ?_
   replace hO := rq.own
   refine zo (op_nilCheck rfl) (zo (op_fieldAddr Try.underlying72 rfl ti26 rfl (by decide)) ?_)
   have hobt := oblkSt2 (v := .slice Ir (lj + 1) Iu) (i := 11) (cs' := #[.int .i64 ((ix a0 (0 : Int)).length : Int), .bool false, .slice p35 n37 c36, .slice Ee (lr + 1) Ef, .slice Fy (lp + 1) Fz, .slice Gq (lm + 1) Gr, .slice none 0 0, .slice oB ll oC, .int .i64 (0 : Int), .map (some B4), .slice Hx (lk + 1) Hy, .slice Ir (lj + 1) Iu, .slice o7 kW o8]) 8 hO rfl rfl rfl rfl
   obtain ⟨ad3, qG, Nh⟩ := hobt
   dsimp only [sS, sZ] at qG
   refine zg (Nh Try.underlying26 rfl ti26 (by exact rfl) (by exact rfl)) ?_
   replace hO := qG.own
   refine zn (zq (zr (zm rfl (za rfl (zn ?_)))))
   refine Go1.ret1V Try.func65 rfl (show _ = .int .i64 (d_147.length : Int) from rfl) ?_
   refine hR232 _ _ ?_
   refine za rfl (zn (zr (zm rfl (zm rfl (zo (op_nilCheck rfl) ?_)))))
   refine zo (op_fieldAddr Try.underlying72 rfl ti26 rfl (by decide)) (zs (oblk (i := 12) 8 hO rfl rfl Try.underlying26 rfl rfl) (zm rfl ?_))
   have hobt := obuild (r := Rp.int .i64) (n := 1) (parts := [(0, .int .i64 (d_147.length : Int))]) (vs := [.int .i64 (d_147.length : Int)]) (xs := [(d_147.length : Int)]) rfl Try.underlying26 ti3 hO (by decide) (by kernel_rfl) (Els.cons rfl rfl (Els.nil _ _ _) (by simp [mx])) rfl
   obtain ⟨Yj, ad4, rs, Rv, L8, Ni⟩ := hobt
   refine zg (Ni rfl) ?_
   replace hO := rs.own
   have hobt := freeze 0 hO rfl Rv
   obtain ⟨hO1, kM, EX, Rw⟩ := hobt
   dsimp only [eS, eZ] at hO1 kM EX
   replace hB := (((hB.trans rq.fr).trans qG.fr).trans rs.fr).trans (Owns.dropFr _ _ 0)
   dsimp only [eS, eZ] at hB
   replace hO := hO1; clear hO1
   obtain ⟨Yk, H⟩ := H
   have Z19 := (((Z18.trans rq.ch).trans qG.ch).trans rs.ch).trans kM
   replace dn := dn.ch Z19
   have hobt := oapp Try.underlying26 ti3 rfl 0 hO rfl dn EX Rw Yk (by decide)
   obtain ⟨ad5, Kz, KA, rX, qH, GY, Nj⟩ := hobt
   dsimp only [sS, sZ] at qH GY
   refine zg (Nj (by exact rfl) (by exact rfl)) ?_
   replace hO := qH.own
   refine zo (op_nilCheck rfl) (zo (op_fieldAddr Try.underlying72 rfl ti26 rfl (by decide)) ?_)
   have hobt := oblkSt2 (v := .slice Kz (kW + 1) KA) (i := 12) (cs' := #[.int .i64 ((ix a0 (0 : Int)).length : Int), .bool false, .slice p35 n37 c36, .slice Ee (lr + 1) Ef, .slice Fy (lp + 1) Fz, .slice Gq (lm + 1) Gr, .slice none 0 0, .slice oB ll oC, .int .i64 (0 : Int), .map (some B4), .slice Hx (lk + 1) Hy, .slice Ir (lj + 1) Iu, .slice Kz (kW + 1) KA]) 8 hO rfl rfl rfl rfl
   obtain ⟨Yl, pC, Nk⟩ := hobt
   dsimp only [sS, sZ] at pC
   refine zg (Nk Try.underlying26 rfl ti26 (by exact rfl) (by exact rfl)) ?_
   replace hO := pC.own
   refine zn ?_
   refine Go1.inBlock ?_
   refine Go1.cut [(6, .pointer (some ⟨B10, 0, none⟩)), (9, .int .i64 (-1 : Int)), (85, .slice p35 n37 c36), (86, .int .i64 (d_32.length : Int)), (87, .int .i64 (k2_110 : Int))] ⟨rfl, rfl, rfl, rfl, rfl, trivial⟩ ?_
   intro σ _
   refine zr ?_
   replace aQ := ((aQ.ch Z19).ch qH.ch).ch pC.ch
   refine zo (op_add rfl rfl (wrap_i64 (natbd Gp aQ.bd))) (zm rfl (zn ?_))
   replace GY := GY.ch pC.ch
   replace hB := (hB.trans qH.fr).trans pC.fr
   have Z20 := (((qG.ch.trans rs.ch).trans kM).trans qH.ch).trans pC.ch
   replace yq := yq.ch Z20
   have Z21 := (((((((rp.ch.trans iI.ch).trans vy).trans rq.ch).trans qG.ch).trans rs.ch).trans kM).trans qH.ch).trans pC.ch
   replace rW := rW.ch Z21
   have Z22 := (((((((((((sk.ch.trans sW.ch).trans q9).trans gW.ch).trans rp.ch).trans iI.ch).trans vy).trans rq.ch).trans qG.ch).trans rs.ch).trans kM).trans qH.ch).trans pC.ch
   replace k9 := k9.ch Z22
   have Z23 := (((((((((((((((sV.ch.trans i4.ch).trans xF).trans kK.ch).trans sk.ch).trans sW.ch).trans q9).trans gW.ch).trans rp.ch).trans iI.ch).trans vy).trans rq.ch).trans qG.ch).trans rs.ch).trans kM).trans qH.ch).trans pC.ch
   replace bM := bM.ch Z23
   have Z24 := (((((((((((((((((((tT.ch.trans uP.ch).trans yp).trans tU.ch).trans sV.ch).trans i4.ch).trans xF).trans kK.ch).trans sk.ch).trans sW.ch).trans q9).trans gW.ch).trans rp.ch).trans iI.ch).trans vy).trans rq.ch).trans qG.ch).trans rs.ch).trans kM).trans qH.ch).trans pC.ch
   replace gG := gG.ch Z24
   replace dw := ((dw.ch Z19).ch qH.ch).ch pC.ch
   exact hX2 _ H _ _ ⟨kW + 1, Kz, KA, rX, lj + 1, Ir, Iu, Ru, lk + 1, Hx, Hy, Rr, ll, oB, oC, vq, lm + 1, Gq, Gr, Ro, lp + 1, Fy, Fz, Rl, lr + 1, Ee, Ef, Rj, ⟨rfl, rfl, rfl, rfl, rfl, trivial⟩, hO, GY, yq, rW, dw, k9, bM, gG, aQ, hB⟩
  replace H := ifn Gp H
  refine zo (fun w => opB (op_lss rfl rfl w) (decide_eq_false Gp)) (zn (zq (zf rfl rfl ?_)))
  refine Go1.exit rfl ?_
  refine zq (zr (zm rfl (za rfl (za rfl (zn ?_)))))
  have gX := Stp.nil (e := 26) (r := 1) hO
  replace hO := gX.own
  have pD := Els.nil (Rp.sl (Rp.int .i64)) (bl (.row 26 1 none 0 0 [] :: [.row 3 1 o7 kW o8 wO, .row 3 1 mE lj oA vo, .row 9 1 o9 lk pc vp, .row 39 2 oB ll oC vq, .row 3 1 px lm pz vr, .row 3 1 qp lp qq vt, .row 26 1 qV lr qW vu, .row 26 1 p35 n37 c36 iD, .blk B10 (.cells #[.int .i64 ((ix a0 (0 : Int)).length : Int), .bool false, .slice p35 n37 c36, .slice qV lr qW, .slice qp lp qq, .slice px lm pz, .slice none 0 0, .slice oB ll oC, .int .i64 (0 : Int), .map (some B4), .slice o9 lk pc, .slice mE lj oA, .slice o7 kW o8] 72 (0, 0)), .any (mapE (fun a : List UInt8 => Value.string (gstr a)) (fun a : Int => Value.int .i64 a) B4 m2_153)]) ++ A) XV
  have i5 := Stp.front 10 hO rfl
  dsimp only [eS, eZ] at i5
  replace hO := i5.own
  have wa := Stp.front 2 hO rfl
  dsimp only [eS, eZ] at wa
  replace hO := wa.own
  have iJ := Stp.front 3 hO rfl
  dsimp only [eS, eZ] at iJ
  replace hO := iJ.own
  have wb := Stp.front 4 hO rfl
  dsimp only [eS, eZ] at wb
  replace hO := wb.own
  have wc := Stp.front 5 hO rfl
  dsimp only [eS, eZ] at wc
  replace hO := wc.own
  have gL := Stp.front 5 hO rfl
  dsimp only [eS, eZ] at gL
  replace hO := gL.own
  have i6 := Stp.front 6 hO rfl
  dsimp only [eS, eZ] at i6
  replace hO := i6.own
  have we := Stp.front 7 hO rfl
  dsimp only [eS, eZ] at we
  replace hO := we.own
  have gY := Stp.front 8 hO rfl
  dsimp only [eS, eZ] at gY
  replace hO := gY.own
  have wg := Stp.front 9 hO rfl
  dsimp only [eS, eZ] at wg
  replace hO := wg.own
  have wh := Stp.front 10 hO rfl
  dsimp only [eS, eZ] at wh
  replace hO := wh.own
  refine Go1.ret2 Try.func49 rfl ?_
  have Z25 := (((((((((i5.ch.trans wa.ch).trans iJ.ch).trans wb.ch).trans wc.ch).trans gL.ch).trans i6.ch).trans we.ch).trans gY.ch).trans wg.ch).trans wh.ch
  replace pD := pD.ch Z25
  have Z26 := ((((((((((gX.ch.trans i5.ch).trans wa.ch).trans iJ.ch).trans wb.ch).trans wc.ch).trans gL.ch).trans i6.ch).trans we.ch).trans gY.ch).trans wg.ch).trans wh.ch
  replace dn := dn.ch Z26
  replace du := du.ch Z26
  replace dB := dB.ch Z26
  replace dw := dw.ch Z26
  replace dY := dY.ch Z26
  replace eC := eC.ch Z26
  replace eX := eX.ch Z26
  replace aQ := aQ.ch Z26
  replace hB := (((((((((((hB.trans gX.fr).trans i5.fr).trans wa.fr).trans iJ.fr).trans wb.fr).trans wc.fr).trans gL.fr).trans i6.fr).trans we.fr).trans gY.fr).trans wg.fr).trans wh.fr
  exact Or.inr ⟨(⟨(⟨((ix a0 (0 : Int)).length : Int), false, d_32, d_147, d_141, d_135, ([] : List (List Int)), d_129, (0 : Int)⟩ : Enum), m2_153, d_123, d_117, d_111⟩ : run), ((0 : Int)), B10, n37, p35, c36, iD, lr, qV, qW, vu, lp, qp, qq, vt, lm, px, pz, vr, 0, none, 0, ([]), ll, oB, oC, vq, B4, lk, o9, pc, vp, lj, mE, oA, vo, kW, o7, o8, wO, rfl, hB.same, hO, aQ, eX, eC, dY, pD, dw, dB, du, dn, H⟩
 replace H := ifp rfl H
 refine zt rfl rfl (zr (zm rfl (zm rfl (zo (op_nilCheck rfl) (zo (op_fieldAddr Try.underlying72 rfl ti29 rfl (by decide)) ?_)))))
 refine zo (op_fieldAddr Try.underlying29 rfl ti3 rfl (by decide)) (zs (oblk (i := 0) 1 hO rfl rfl Try.underlying3 rfl rfl) ?_)
 refine GoR.call (op_call body62 rfl (walk_trans_Identity hO.lt H)) rfl rfl ?_
 rintro ad6 Ym ⟨r397, Eg, Eh, rfl, Rx, eA, H⟩
 have FY := Stp.same hO Rx
 replace hO := FY.own
 refine GoR.inl (vs := [.pointer (some ⟨B10, 0, none⟩), .slice Eg r397.length Eh, .int .i64 (-1 : Int), .int .i64 (-1 : Int), .string (gstr (([] : Str))), .int .i64 (-1 : Int)]) (caps := []) rfl rfl body65 Try.func65 rfl Try.ntmps65 rfl rfl rfl ?_
 intro RhR403 hR403
 refine zq (zr (za rfl (zn (zq (zr ?_)))))
 refine zm rfl (zo (op_nilCheck rfl) (zo (op_fieldAddr Try.underlying72 rfl ti29 rfl (by decide)) (zo (op_fieldAddr Try.underlying29 rfl ti22 rfl (by decide)) (zs (oblk (i := 3) 1 hO rfl rfl Try.underlying22 rfl rfl) (zo (op_len Try.underlying22 rfl) ?_)))))
 refine za rfl (zn (zq ?_))
 refine Go1.cut [(0, .pointer (some ⟨B10, 0, none⟩)), (1, .slice Eg r397.length Eh), (2, .int .i64 (-1 : Int)), (3, .int .i64 (-1 : Int)), (4, .string (gstr (([] : Str)))), (5, .int .i64 (-1 : Int)), (13, .int .i64 (0 : Int))] ⟨rfl, rfl, rfl, rfl, rfl, rfl, rfl, trivial⟩ ?_
 intro σ _
 refine Go1.drawS 1 [(0, .pure), (1, .pure), (2, .pure), (3, .stable), (4, .pure), (6, .pure), (5, .loud), (7, .last)] mixed (by kernel_rfl) ?_
 intro ad7 Ry
 have Ei := Stp.same hO Ry
 replace hO := Ei.own
 refine GoQ.pure rfl (op_move rfl) rfl rfl ?_
 refine GoQ.pure rfl (op_nilCheck rfl) rfl rfl ?_
 refine GoQ.pure rfl (op_fieldAddr Try.underlying72 rfl ti69 rfl (by decide)) rfl rfl ?_
 refine GoQ.stable rfl (oblk (i := 9) 1 hO rfl rfl Try.underlying69 rfl rfl) rfl rfl ?_
 refine GoQ.pure rfl (op_move rfl) rfl rfl ?_
 refine GoQ.pure rfl (op_move rfl) rfl rfl ?_
 replace eA := eA.ch Ei.ch
 refine GoQ.call rfl (op_call body61 rfl (walk_enumerate_text hO.lt eA H)) (fun v w hr => by obtain ⟨_, _, hs, _, _⟩ := hr; assumption) rfl rfl ?_
 rintro ad8 ad9 ⟨r407, rfl, Rz, aci, H⟩
 have Ej := Stp.same hO Rz
 replace hO := Ej.own
 have hobt := omapUpd (MK.str Try.underlying9) 2 hO rfl Try.underlying69 r407 (0 : Int)
 obtain ⟨Nl, lv, Nm⟩ := hobt
 refine GoQ.last rfl (Nm (by exact rfl) (by exact rfl) (by exact rfl)) rfl rfl ?_
 replace hO := lv.own
 refine GoQ.nil ?_
 refine zq (zr (zm rfl (zm rfl (zo (op_nilCheck rfl) (zo (op_fieldAddr Try.underlying72 rfl ti29 rfl (by decide)) ?_)))))
 refine zo (op_fieldAddr Try.underlying29 rfl ti22 rfl (by decide)) (zs (oblk (i := 3) 1 hO rfl rfl Try.underlying22 rfl rfl) (zm rfl ?_))
 replace eA := (eA.ch Ej.ch).ch lv.ch
 have hobt := obuild (r := Rp.sl (Rp.int .i64)) (n := 1) (parts := [(0, .slice Eg r397.length Eh)]) (vs := [.slice Eg r397.length Eh]) (xs := [r397]) rfl Try.underlying22 ti26 hO (by decide) (by kernel_rfl) (Els.cons rfl ⟨Eg, Eh, rfl, eA⟩ (Els.nil _ _ _) (by simp [mx])) rfl
 obtain ⟨Yn, aea, Ek, RA, acz, Nn⟩ := hobt
 refine zg (Nn rfl) ?_
 replace hO := Ek.own
 have hobt := freeze 0 hO rfl RA
 obtain ⟨hO1, Iv, fX, RB⟩ := hobt
 replace hO := hO1; clear hO1
 have kw := Stp.nil (e := 26) (r := 1) hO
 replace hO := kw.own
 have jU := Els.nil (Rp.sl (Rp.int .i64)) (bl (.row 26 1 none 0 0 [] :: [.row 26 1 p35 n37 c36 iD, .blk B10 (.cells #[.int .i64 ((ix a0 (0 : Int)).length : Int), .bool true, .slice p35 n37 c36, .slice none 0 0, .slice none 0 0, .slice none 0 0, .slice none 0 0, .slice none 0 0, .int .i64 (0 : Int), .map (some B4), .slice none 0 0, .slice none 0 0, .slice none 0 0] 72 (0, 0)), .any (mapE (fun a : List UInt8 => Value.string (gstr a)) (fun a : Int => Value.int .i64 a) B4 (mput (([] : List (Str × Int))) r407 ((0 : Int))))]) ++ A) Yn
 obtain ⟨Yo, H⟩ := H
 replace fX := fX.ch kw.ch
 have hobt := oapp Try.underlying22 ti26 rfl 0 hO rfl jU fX RB Yo (by decide)
 obtain ⟨KB, vz, vA, De, C5, gm, Np⟩ := hobt
 refine zg (Np (by exact rfl) (by exact rfl)) ?_
 replace hO := C5.own
 refine zo (op_nilCheck rfl) (zo (op_fieldAddr Try.underlying72 rfl ti29 rfl (by decide)) (zo (op_fieldAddr Try.underlying29 rfl ti22 rfl (by decide)) ?_))
 have hobt := oblkSt2 (v := .slice vz (0 + 1) vA) (i := 3) (cs' := #[.int .i64 ((ix a0 (0 : Int)).length : Int), .bool true, .slice p35 n37 c36, .slice vz (0 + 1) vA, .slice none 0 0, .slice none 0 0, .slice none 0 0, .slice none 0 0, .int .i64 (0 : Int), .map (some B4), .slice none 0 0, .slice none 0 0, .slice none 0 0]) 2 hO rfl rfl rfl rfl
 obtain ⟨aeb, Bs, Nq⟩ := hobt
 refine zg (Nq Try.underlying22 rfl ti22 (by exact rfl) (by exact rfl)) ?_
 replace hO := Bs.own
 refine zn (zq ?_)
 refine Go1.cut [(0, .pointer (some ⟨B10, 0, none⟩)), (2, .int .i64 (-1 : Int)), (3, .int .i64 (-1 : Int)), (4, .string (gstr (([] : Str)))), (5, .int .i64 (-1 : Int)), (13, .int .i64 (0 : Int))] ⟨rfl, rfl, rfl, rfl, rfl, rfl, trivial⟩ ?_
 intro σ _
 refine zr (zm rfl (zm rfl (zo (op_nilCheck rfl) (zo (op_fieldAddr Try.underlying72 rfl ti29 rfl (by decide)) (zo (op_fieldAddr Try.underlying29 rfl ti26 rfl (by decide)) ?_)))))
 refine zs (oblk (i := 4) 2 hO rfl rfl Try.underlying26 rfl rfl) (zm rfl ?_)
 have hobt := obuild (r := Rp.int .i64) (n := 1) (parts := [(0, .int .i64 (-1 : Int))]) (vs := [.int .i64 (-1 : Int)]) (xs := [(-1 : Int)]) rfl Try.underlying26 ti3 hO (by decide) (by kernel_rfl) (Els.cons rfl rfl (Els.nil _ _ _) (by simp [mx])) rfl
 obtain ⟨Nr, aec, Bt, RD, acA, Ns⟩ := hobt
 refine zg (Ns rfl) ?_
 replace hO := Bt.own
 have hobt := freeze 0 hO rfl RD
 obtain ⟨hO1, EY, gT, RE⟩ := hobt
 dsimp only [eS, eZ] at hO1 EY gT
 replace hB := ((((((((((hB.trans FY.fr).trans Ei.fr).trans Ej.fr).trans lv.fr).trans Ek.fr).trans (Owns.dropFr _ _ 0)).trans kw.fr).trans C5.fr).trans Bs.fr).trans Bt.fr).trans (Owns.dropFr _ _ 0)
 dsimp only [eS, eZ] at hB
 replace hO := hO1; clear hO1
 have Az := Stp.nil (e := 3) (r := 1) hO
 replace hO := Az.own
 have RF := Els.nil (Rp.int .i64) (bl (.row 3 1 none 0 0 [] :: [.row 26 1 vz (0 + 1) vA De, .row 26 1 p35 n37 c36 iD, .blk B10 (.cells #[.int .i64 ((ix a0 (0 : Int)).length : Int), .bool true, .slice p35 n37 c36, .slice vz (0 + 1) vA, .slice none 0 0, .slice none 0 0, .slice none 0 0, .slice none 0 0, .int .i64 (0 : Int), .map (some B4), .slice none 0 0, .slice none 0 0, .slice none 0 0] 72 (0, 0)), .any (mapE (fun a : List UInt8 => Value.string (gstr a)) (fun a : Int => Value.int .i64 a) B4 (mput (([] : List (Str × Int))) r407 ((0 : Int))))]) ++ A) Nr
 obtain ⟨Yp, H⟩ := H
 replace gT := gT.ch Az.ch
 have hobt := oapp Try.underlying26 ti3 rfl 0 hO rfl RF gT RE Yp (by decide)
 obtain ⟨Yq, x2, x3, E0, oR, ik, HB⟩ := hobt
 dsimp only [sS, sZ] at oR ik
 refine zg (HB (by exact rfl) (by exact rfl)) ?_
 replace hO := oR.own
 refine zo (op_nilCheck rfl) (zo (op_fieldAddr Try.underlying72 rfl ti29 rfl (by decide)) (zo (op_fieldAddr Try.underlying29 rfl ti26 rfl (by decide)) ?_))
 have hobt := oblkSt2 (v := .slice x2 (0 + 1) x3) (i := 4) (cs' := #[.int .i64 ((ix a0 (0 : Int)).length : Int), .bool true, .slice p35 n37 c36, .slice vz (0 + 1) vA, .slice x2 (0 + 1) x3, .slice none 0 0, .slice none 0 0, .slice none 0 0, .int .i64 (0 : Int), .map (some B4), .slice none 0 0, .slice none 0 0, .slice none 0 0]) 3 hO rfl rfl rfl rfl
 obtain ⟨aed, jQ, Nt⟩ := hobt
 dsimp only [sS, sZ] at jQ
 refine zg (Nt Try.underlying26 rfl ti26 (by exact rfl) (by exact rfl)) ?_
 replace hO := jQ.own
 refine zn (zq (zr (zm rfl (zm rfl (zo (op_nilCheck rfl) ?_)))))
 refine zo (op_fieldAddr Try.underlying72 rfl ti29 rfl (by decide)) (zo (op_fieldAddr Try.underlying29 rfl ti26 rfl (by decide)) (zs (oblk (i := 5) 3 hO rfl rfl Try.underlying26 rfl rfl) (zm rfl ?_)))
 have hobt := obuild (r := Rp.int .i64) (n := 1) (parts := [(0, .int .i64 (-1 : Int))]) (vs := [.int .i64 (-1 : Int)]) (xs := [(-1 : Int)]) rfl Try.underlying26 ti3 hO (by decide) (by kernel_rfl) (Els.cons rfl rfl (Els.nil _ _ _) (by simp [mx])) rfl
 obtain ⟨Yr, aee, y6, RG, acB, Nu⟩ := hobt
 refine zg (Nu rfl) ?_
 replace hO := y6.own
 have hobt := freeze 0 hO rfl RG
 obtain ⟨hO1, BQ, jV, RH⟩ := hobt
 dsimp only [eS, eZ] at hO1 BQ jV
 replace hB := ((((hB.trans Az.fr).trans oR.fr).trans jQ.fr).trans y6.fr).trans (Owns.dropFr _ _ 0)
 dsimp only [eS, eZ] at hB
 replace hO := hO1; clear hO1
 have jv := Stp.nil (e := 3) (r := 1) hO
 replace hO := jv.own
 have yr := Els.nil (Rp.int .i64) (bl (.row 3 1 none 0 0 [] :: [.row 3 1 x2 (0 + 1) x3 E0, .row 26 1 vz (0 + 1) vA De, .row 26 1 p35 n37 c36 iD, .blk B10 (.cells #[.int .i64 ((ix a0 (0 : Int)).length : Int), .bool true, .slice p35 n37 c36, .slice vz (0 + 1) vA, .slice x2 (0 + 1) x3, .slice none 0 0, .slice none 0 0, .slice none 0 0, .int .i64 (0 : Int), .map (some B4), .slice none 0 0, .slice none 0 0, .slice none 0 0] 72 (0, 0)), .any (mapE (fun a : List UInt8 => Value.string (gstr a)) (fun a : Int => Value.int .i64 a) B4 (mput (([] : List (Str × Int))) r407 ((0 : Int))))]) ++ A) Yr
 obtain ⟨Ys, H⟩ := H
 replace jV := jV.ch jv.ch
 have hobt := oapp Try.underlying26 ti3 rfl 0 hO rfl yr jV RH Ys (by decide)
 obtain ⟨Yt, zS, zT, F0, gz, la, Nv⟩ := hobt
 dsimp only [sS, sZ] at gz la
 refine zg (Nv (by exact rfl) (by exact rfl)) ?_
 replace hO := gz.own
 refine zo (op_nilCheck rfl) (zo (op_fieldAddr Try.underlying72 rfl ti29 rfl (by decide)) (zo (op_fieldAddr Try.underlying29 rfl ti26 rfl (by decide)) ?_))
 have hobt := oblkSt2 (v := .slice zS (0 + 1) zT) (i := 5) (cs' := #[.int .i64 ((ix a0 (0 : Int)).length : Int), .bool true, .slice p35 n37 c36, .slice vz (0 + 1) vA, .slice x2 (0 + 1) x3, .slice zS (0 + 1) zT, .slice none 0 0, .slice none 0 0, .int .i64 (0 : Int), .map (some B4), .slice none 0 0, .slice none 0 0, .slice none 0 0]) 4 hO rfl rfl rfl rfl
 obtain ⟨aef, wi, Nw⟩ := hobt
 dsimp only [sS, sZ] at wi
 refine zg (Nw Try.underlying26 rfl ti26 (by exact rfl) (by exact rfl)) ?_
 replace hO := wi.own
 refine zn (zq ?_)
 refine Go1.cut [(0, .pointer (some ⟨B10, 0, none⟩)), (4, .string (gstr (([] : Str)))), (5, .int .i64 (-1 : Int)), (13, .int .i64 (0 : Int))] ⟨rfl, rfl, rfl, rfl, trivial⟩ ?_
 intro σ _
 refine zr (zm rfl (zm rfl (zo (op_nilCheck rfl) (zo (op_fieldAddr Try.underlying72 rfl ti70 rfl (by decide)) (zs (oblk (i := 10) 4 hO rfl rfl Try.underlying70 rfl rfl) ?_)))))
 refine zm rfl ?_
 have hobt := obuild (r := Rp.str) (n := 1) (parts := [(0, .string (gstr (([] : Str))))]) (vs := [.string (gstr (([] : Str)))]) (xs := [([] : Str)]) rfl Try.underlying70 ti9 hO (by decide) (by kernel_rfl) (Els.cons rfl ⟨rfl, (by decide)⟩ (Els.nil _ _ _) (by simp [mx])) rfl
 obtain ⟨Iw, aeg, ia, BR, acC, Nx⟩ := hobt
 refine zg (Nx rfl) ?_
 replace hO := ia.own
 have hobt := freeze 0 hO rfl BR
 obtain ⟨hO1, z3, qw, RI⟩ := hobt
 dsimp only [eS, eZ] at hO1 z3 qw
 replace hB := ((((hB.trans jv.fr).trans gz.fr).trans wi.fr).trans ia.fr).trans (Owns.dropFr _ _ 0)
 dsimp only [eS, eZ] at hB
 replace hO := hO1; clear hO1
 have wj := Stp.nil (e := 9) (r := 1) hO
 replace hO := wj.own
 have Df := Els.nil (Rp.str) (bl (.row 9 1 none 0 0 [] :: [.row 3 1 zS (0 + 1) zT F0, .row 3 1 x2 (0 + 1) x3 E0, .row 26 1 vz (0 + 1) vA De, .row 26 1 p35 n37 c36 iD, .blk B10 (.cells #[.int .i64 ((ix a0 (0 : Int)).length : Int), .bool true, .slice p35 n37 c36, .slice vz (0 + 1) vA, .slice x2 (0 + 1) x3, .slice zS (0 + 1) zT, .slice none 0 0, .slice none 0 0, .int .i64 (0 : Int), .map (some B4), .slice none 0 0, .slice none 0 0, .slice none 0 0] 72 (0, 0)), .any (mapE (fun a : List UInt8 => Value.string (gstr a)) (fun a : Int => Value.int .i64 a) B4 (mput (([] : List (Str × Int))) r407 ((0 : Int))))]) ++ A) Iw
 obtain ⟨Yu, H⟩ := H
 replace qw := qw.ch wj.ch
 have hobt := oapp Try.underlying70 ti9 rfl 0 hO rfl Df qw RI Yu (by decide)
 obtain ⟨Yv, Cn, Co, G0, uQ, tJ, Ny⟩ := hobt
 dsimp only [sS, sZ] at uQ tJ
 refine zg (Ny (by exact rfl) (by exact rfl)) ?_
 replace hO := uQ.own
 refine zo (op_nilCheck rfl) (zo (op_fieldAddr Try.underlying72 rfl ti70 rfl (by decide)) ?_)
 have hobt := oblkSt2 (v := .slice Cn (0 + 1) Co) (i := 10) (cs' := #[.int .i64 ((ix a0 (0 : Int)).length : Int), .bool true, .slice p35 n37 c36, .slice vz (0 + 1) vA, .slice x2 (0 + 1) x3, .slice zS (0 + 1) zT, .slice none 0 0, .slice none 0 0, .int .i64 (0 : Int), .map (some B4), .slice Cn (0 + 1) Co, .slice none 0 0, .slice none 0 0]) 5 hO rfl rfl rfl rfl
 obtain ⟨Yw, tV, HC⟩ := hobt
 dsimp only [sS, sZ] at tV
 refine zg (HC Try.underlying70 rfl ti70 (by exact rfl) (by exact rfl)) ?_
 replace hO := tV.own
 refine zn (zq (zr (zm rfl (zm rfl (zo (op_nilCheck rfl) ?_)))))
 refine zo (op_fieldAddr Try.underlying72 rfl ti26 rfl (by decide)) (zs (oblk (i := 11) 5 hO rfl rfl Try.underlying26 rfl rfl) (zm rfl ?_))
 have hobt := obuild (r := Rp.int .i64) (n := 1) (parts := [(0, .int .i64 (-1 : Int))]) (vs := [.int .i64 (-1 : Int)]) (xs := [(-1 : Int)]) rfl Try.underlying26 ti3 hO (by decide) (by kernel_rfl) (Els.cons rfl rfl (Els.nil _ _ _) (by simp [mx])) rfl
 obtain ⟨Yx, aeh, uR, RJ, L9, HD⟩ := hobt
 refine zg (HD rfl) ?_
 replace hO := uR.own
 have hobt := freeze 0 hO rfl RJ
 obtain ⟨hO1, yt, yu, RK⟩ := hobt
 dsimp only [eS, eZ] at hO1 yt yu
 replace hB := ((((hB.trans wj.fr).trans uQ.fr).trans tV.fr).trans uR.fr).trans (Owns.dropFr _ _ 0)
 dsimp only [eS, eZ] at hB
 replace hO := hO1; clear hO1
 have tW := Stp.nil (e := 3) (r := 1) hO
 replace hO := tW.own
 have RL := Els.nil (Rp.int .i64) (bl (.row 3 1 none 0 0 [] :: [.row 9 1 Cn (0 + 1) Co G0, .row 3 1 zS (0 + 1) zT F0, .row 3 1 x2 (0 + 1) x3 E0, .row 26 1 vz (0 + 1) vA De, .row 26 1 p35 n37 c36 iD, .blk B10 (.cells #[.int .i64 ((ix a0 (0 : Int)).length : Int), .bool true, .slice p35 n37 c36, .slice vz (0 + 1) vA, .slice x2 (0 + 1) x3, .slice zS (0 + 1) zT, .slice none 0 0, .slice none 0 0, .int .i64 (0 : Int), .map (some B4), .slice Cn (0 + 1) Co, .slice none 0 0, .slice none 0 0] 72 (0, 0)), .any (mapE (fun a : List UInt8 => Value.string (gstr a)) (fun a : Int => Value.int .i64 a) B4 (mput (([] : List (Str × Int))) r407 ((0 : Int))))]) ++ A) Yx
 obtain ⟨Yy, H⟩ := H
 replace yu := yu.ch tW.ch
 have hobt := oapp Try.underlying26 ti3 rfl 0 hO rfl RL yu RK Yy (by decide)
 obtain ⟨aei, FA, FB, Ix, iK, BS, Nz⟩ := hobt
 dsimp only [sS, sZ] at iK BS
 refine zg (Nz (by exact rfl) (by exact rfl)) ?_
 replace hO := iK.own
 refine zo (op_nilCheck rfl) (zo (op_fieldAddr Try.underlying72 rfl ti26 rfl (by decide)) ?_)
 have hobt := oblkSt2 (v := .slice FA (0 + 1) FB) (i := 11) (cs' := #[.int .i64 ((ix a0 (0 : Int)).length : Int), .bool true, .slice p35 n37 c36, .slice vz (0 + 1) vA, .slice x2 (0 + 1) x3, .slice zS (0 + 1) zT, .slice none 0 0, .slice none 0 0, .int .i64 (0 : Int), .map (some B4), .slice Cn (0 + 1) Co, .slice FA (0 + 1) FB, .slice none 0 0]) 6 hO rfl rfl rfl rfl
 obtain ⟨Iy, sm, NA⟩ := hobt
 dsimp only [sS, sZ] at sm
 refine zg (NA Try.underlying26 rfl ti26 (by exact rfl) (by exact rfl)) ?_
 replace hO := sm.own
 refine zn (zq ?_)
 refine Go1.cut [(13, .int .i64 (0 : Int))] ⟨rfl, trivial⟩ ?_
 intro σ _
 refine zr (zm rfl (za rfl (zn ?_)))
 refine Go1.ret1V Try.func65 rfl (show _ = .int .i64 (0 : Int) from rfl) ?_
 refine hR403 _ _ ?_
 refine za rfl (zn (zq (zq (zr (zm rfl ?_)))))
 refine zo (op_nilCheck rfl) (zo (op_fieldAddr Try.underlying72 rfl ti29 rfl (by decide)) (zo (op_fieldAddr Try.underlying29 rfl ti22 rfl (by decide)) (zs (oblk (i := 2) 6 hO rfl rfl Try.underlying22 rfl rfl) ?_)))
 have Z27 := (((((((((((((((((((((((((((FY.ch.trans Ei.ch).trans Ej.ch).trans lv.ch).trans Ek.ch).trans Iv).trans kw.ch).trans C5.ch).trans Bs.ch).trans Bt.ch).trans EY).trans Az.ch).trans oR.ch).trans jQ.ch).trans y6.ch).trans BQ).trans jv.ch).trans gz.ch).trans wi.ch).trans ia.ch).trans z3).trans wj.ch).trans uQ.ch).trans tV.ch).trans uR.ch).trans yt).trans tW.ch).trans iK.ch).trans sm.ch
 replace aQ := aQ.ch Z27
 refine zo (op_lenN Try.underlying22 rfl (aQ.neq hO 5 rfl)) (zm rfl (zn (zb ?_)))
 have f9 := Stp.nil (e := 39) (r := 2) hO
 replace hO := f9.own
 have E3 := Els.nil (rpRule) (bl (.row 39 2 none 0 0 [] :: [.row 3 1 FA (0 + 1) FB Ix, .row 9 1 Cn (0 + 1) Co G0, .row 3 1 zS (0 + 1) zT F0, .row 3 1 x2 (0 + 1) x3 E0, .row 26 1 vz (0 + 1) vA De, .row 26 1 p35 n37 c36 iD, .blk B10 (.cells #[.int .i64 ((ix a0 (0 : Int)).length : Int), .bool true, .slice p35 n37 c36, .slice vz (0 + 1) vA, .slice x2 (0 + 1) x3, .slice zS (0 + 1) zT, .slice none 0 0, .slice none 0 0, .int .i64 (0 : Int), .map (some B4), .slice Cn (0 + 1) Co, .slice FA (0 + 1) FB, .slice none 0 0] 72 (0, 0)), .any (mapE (fun a : List UInt8 => Value.string (gstr a)) (fun a : Int => Value.int .i64 a) B4 (mput (([] : List (Str × Int))) r407 ((0 : Int))))]) ++ A) Iy
 have ig := Stp.nil (e := 3) (r := 1) hO
 replace hO := ig.own
 have RM := Els.nil (Rp.int .i64) (bl (.row 3 1 none 0 0 [] :: [.row 39 2 none 0 0 [], .row 3 1 FA (0 + 1) FB Ix, .row 9 1 Cn (0 + 1) Co G0, .row 3 1 zS (0 + 1) zT F0, .row 3 1 x2 (0 + 1) x3 E0, .row 26 1 vz (0 + 1) vA De, .row 26 1 p35 n37 c36 iD, .blk B10 (.cells #[.int .i64 ((ix a0 (0 : Int)).length : Int), .bool true, .slice p35 n37 c36, .slice vz (0 + 1) vA, .slice x2 (0 + 1) x3, .slice zS (0 + 1) zT, .slice none 0 0, .slice none 0 0, .int .i64 (0 : Int), .map (some B4), .slice Cn (0 + 1) Co, .slice FA (0 + 1) FB, .slice none 0 0] 72 (0, 0)), .any (mapE (fun a : List UInt8 => Value.string (gstr a)) (fun a : Int => Value.int .i64 a) B4 (mput (([] : List (Str × Int))) r407 ((0 : Int))))]) ++ A) Iy
 replace E3 := E3.ch ig.ch
 replace aQ := (aQ.ch f9.ch).ch ig.ch
 have Z28 := (sm.ch.trans f9.ch).trans ig.ch
 replace BS := BS.ch Z28
 replace hB := ((((hB.trans tW.fr).trans iK.fr).trans sm.fr).trans f9.fr).trans ig.fr
 have Z29 := ((((((tV.ch.trans uR.ch).trans yt).trans tW.ch).trans iK.ch).trans sm.ch).trans f9.ch).trans ig.ch
 replace tJ := tJ.ch Z29
 have Z30 := (((((((((((wi.ch.trans ia.ch).trans z3).trans wj.ch).trans uQ.ch).trans tV.ch).trans uR.ch).trans yt).trans tW.ch).trans iK.ch).trans sm.ch).trans f9.ch).trans ig.ch
 replace la := la.ch Z30
 have Z31 := ((((((((((((((((jQ.ch.trans y6.ch).trans BQ).trans jv.ch).trans gz.ch).trans wi.ch).trans ia.ch).trans z3).trans wj.ch).trans uQ.ch).trans tV.ch).trans uR.ch).trans yt).trans tW.ch).trans iK.ch).trans sm.ch).trans f9.ch).trans ig.ch
 replace ik := ik.ch Z31
 have Z32 := (((((((((((((((((((((Bs.ch.trans Bt.ch).trans EY).trans Az.ch).trans oR.ch).trans jQ.ch).trans y6.ch).trans BQ).trans jv.ch).trans gz.ch).trans wi.ch).trans ia.ch).trans z3).trans wj.ch).trans uQ.ch).trans tV.ch).trans uR.ch).trans yt).trans tW.ch).trans iK.ch).trans sm.ch).trans f9.ch).trans ig.ch
 replace gm := gm.ch Z32
 refine Go1.loopW (S := Nat × List Int × List Rule × List Int × List Str × List Int × List Int × List (List Int) × (List (Str × Int))) (fun s σ w => match s with | (k3_548, d_549, d_555, d_561, d_567, d_573, d_579, d_585, m3_591) => ∃ (kX : Nat), ∃ (pe : Option Addr), ∃ (pg : Nat), ∃ (wR : List Value), ∃ (lx : Nat), ∃ (oD : Option Addr), ∃ (oE : Nat), ∃ (vB : List Value), ∃ (ly : Nat), ∃ (oF : Option Addr), ∃ (oG : Nat), ∃ (vC : List Value), ∃ (lz : Nat), ∃ (ph : Option Addr), ∃ (pi : Nat), ∃ (vD : List Value), ∃ (lA : Nat), ∃ (pE : Option Addr), ∃ (pF : Nat), ∃ (vE : List Value), ∃ (lB : Nat), ∃ (qr : Option Addr), ∃ (qs : Nat), ∃ (vF : List Value), ∃ (lC : Nat), ∃ (qX : Option Addr), ∃ (qY : Nat), ∃ (vG : List Value), agrees σ [(6, .pointer (some ⟨B10, 0, none⟩)), (9, .int .i64 (0 : Int)), (85, .slice p35 n37 c36), (86, .int .i64 (d_32.length : Int)), (87, .int .i64 (k3_548 : Int))] ∧ (fun Z0 => Owns w0.heap.size w Z0 A ∧ Els (Rp.int .i64) (bl Z0 ++ A) w wR d_549 ∧ Els (rpRule) (bl Z0 ++ A) w vB d_555 ∧ Els (Rp.int .i64) (bl Z0 ++ A) w vC d_561 ∧ Els (Rp.str) (bl Z0 ++ A) w vD d_567 ∧ Els (Rp.int .i64) (bl Z0 ++ A) w vE d_573 ∧ Els (Rp.int .i64) (bl Z0 ++ A) w vF d_579 ∧ Els (Rp.sl (Rp.int .i64)) (bl Z0 ++ A) w vG d_585 ∧ Els (Rp.sl (Rp.int .i64)) (bl Z0 ++ A) w iD d_32 ∧ Fr (bl []) w0 (bl Z0) w) [.row 3 1 pe kX pg wR, .row 39 2 oD lx oE vB, .row 3 1 oF ly oG vC, .row 9 1 ph lz pi vD, .row 3 1 pE lA pF vE, .row 3 1 qr lB qs vF, .row 26 1 qX lC qY vG, .row 26 1 p35 n37 c36 iD, .blk B10 (.cells #[.int .i64 ((ix a0 (0 : Int)).length : Int), .bool true, .slice p35 n37 c36, .slice qX lC qY, .slice qr lB qs, .slice pE lA pF, .slice none 0 0, .slice oD lx oE, .int .i64 (0 : Int), .map (some B4), .slice ph lz pi, .slice oF ly oG, .slice pe kX pg] 72 (0, 0)), .any (mapE (fun a : List UInt8 => Value.string (gstr a)) (fun a : Int => Value.int .i64 a) B4 m3_591)]) H ⟨0, none, 0, [], 0, none, 0, [], 0 + 1, FA, FB, Ix, 0 + 1, Cn, Co, G0, 0 + 1, zS, zT, F0, 0 + 1, x2, x3, E0, 0 + 1, vz, vA, De, ⟨rfl, rfl, rfl, rfl, rfl, trivial⟩, hO, RM, E3, BS, tJ, la, ik, gm, aQ, hB⟩ ?_
 intro X3
 refine prE fun k3_548 => prE fun d_549 => prE fun d_555 => prE fun d_561 => prE fun d_567 => prE fun d_573 => prE fun d_579 => prE fun d_585 => fun m3_591 => ?_
 intro H hX3 σ Yz
 refine exE fun kX => exE fun pe => exE fun pg => exE fun wR => exE fun lx => exE fun oD => exE fun oE => exE fun vB => exE fun ly => exE fun oF => exE fun oG => exE fun vC => exE fun lz => exE fun ph => exE fun pi => exE fun vD => exE fun lA => exE fun pE => exE fun pF => exE fun vE => exE fun lB => exE fun qr => exE fun qs => exE fun vF => exE fun lC => exE fun qX => exE fun qY => exE fun vG => andE fun hag => andE fun hO => andE fun dp => andE fun dl => andE fun dx => andE fun dC => andE fun d4 => andE fun eF => andE fun eY => andE fun aQ => fun hB => ?_
 dsimp only at H
 refine Go1.keep [(6, .pointer (some ⟨B10, 0, none⟩)), (9, .int .i64 (0 : Int)), (85, .slice p35 n37 c36), (86, .int .i64 (d_32.length : Int)), (87, .int .i64 (k3_548 : Int))] hag ?_
 refine zq (zr ?_)
 by_cases Gt : (k3_548 : Int) < (d_32.length : Int)
 ·replace H := ifp Gt H
  refine zo (fun w => opB (op_lss rfl rfl w) (decide_eq_true Gt)) (zn (zq (zt rfl rfl (zk (zq ?_)))))
  refine zb (zq (zr (zm rfl ?_)))
  obtain ⟨El, H⟩ := H
  obtain ⟨Em, H⟩ := H
  refine zo (op_index Try.underlying22 ti26 rfl rfl El (ltn (aQ.neq hO 7 rfl) Em) (aQ.psome hO 7 rfl El Em)) ?_
  have hobt := oldSl 7 hO rfl aQ El Em
  obtain ⟨NB, NC, dT, RN⟩ := hobt
  refine zs (RN Try.underlying26 rfl rfl) (za rfl (za rfl (zn (zq (zr ?_)))))
  refine zm rfl ?_
  obtain ⟨YA, H⟩ := H
  refine zo (op_add rfl rfl (wrap_i64 YA)) (zo (op_conv Try.underlying3 Try.underlying21 rfl rfl) ?_)
  obtain ⟨YB, H⟩ := H
  obtain ⟨YC, H⟩ := H
  refine zo (op_convRS Try.underlying21 Try.underlying9 rfl YB YC) (za rfl (zn (zq ?_)))
  refine Go1.drawS 0 [(0, .pure), (1, .pure), (2, .pure), (3, .stable), (4, .pure), (5, .loud), (6, .stable), (7, .pure), (8, .pure), (9, .pure), (10, .pure), (11, .pure)] mixed (by kernel_rfl) ?_
  intro YE Iz
  have xq := Stp.same hO Iz
  replace hO := xq.own
  refine GoQ.pure rfl (op_move rfl) rfl rfl ?_
  refine GoQ.pure rfl (op_nilCheck rfl) rfl rfl ?_
  refine GoQ.pure rfl (op_fieldAddr Try.underlying72 rfl ti69 rfl (by decide)) rfl rfl ?_
  refine GoQ.stable rfl (oblk (i := 9) 8 hO rfl rfl Try.underlying69 rfl rfl) rfl rfl ?_
  refine GoQ.pure rfl (op_move rfl) rfl rfl ?_
  replace dT := dT.ch xq.ch
  refine GoQ.call rfl (op_call body61 rfl (walk_enumerate_text hO.lt dT H)) (fun v w hr => by obtain ⟨_, _, hs, _, _⟩ := hr; assumption) rfl rfl ?_
  rintro aej aek ⟨r605, rfl, RO, acj, H⟩
  have xr := Stp.same hO RO
  replace hO := xr.own
  by_cases IA : mhas m3_591 r605 = true
  ·replace H := ifp IA H
   refine GoQ.stable rfl (olookT (a := r605) (MK.str Try.underlying9) 9 hO rfl Try.underlying69 rfl rfl IA) rfl rfl ?_
   refine GoQ.pure rfl (op_move rfl) rfl rfl ?_
   refine GoQ.pure rfl (op_extract rfl rfl) rfl rfl ?_
   refine GoQ.pure rfl (op_extract rfl rfl) rfl rfl ?_
   refine GoQ.pure rfl (op_assign rfl) rfl rfl ?_
   refine GoQ.pure rfl (op_assign rfl) rfl rfl ?_
   refine GoQ.nil ?_
   refine zq (zq ?_)
   refine Go1.cut [(6, .pointer (some ⟨B10, 0, none⟩)), (9, .int .i64 (0 : Int)), (10, .int .i64 (k3_548 : Int)), (11, .slice NB ((ix d_32 (k3_548 : Int)).length) NC), (12, .string (gstr (chr (IntKind.i32.wrap ((97 : Int) + (k3_548 : Int)))))), (13, .int .i64 (mgt m3_591 r605)), (14, .bool true), (85, .slice p35 n37 c36), (86, .int .i64 (d_32.length : Int)), (87, .int .i64 (k3_548 : Int))] ⟨rfl, rfl, rfl, rfl, rfl, rfl, rfl, rfl, rfl, rfl, trivial⟩ ?_
   intro σ _
   refine zr (zm rfl (zn (zt rfl rfl ?_)))
   refine Go1.drawS 5 [(0, .pure), (1, .pure), (2, .pure), (3, .pure), (4, .pure), (5, .stable), (6, .pure), (7, .pure), (8, .pure), (9, .pure), (10, .stable), (11, .pure), (12, .pure), (13, .stable), (14, .pure), (15, .loud), (16, .last), (17, .pure), (18, .pure), (19, .pure), (20, .last)] mixed (by kernel_rfl) ?_
   intro ael RQ
   have xt := Stp.same hO RQ
   replace hO := xt.own
   refine GoQ.pure rfl (op_move rfl) rfl rfl ?_
   refine GoQ.pure rfl (op_move rfl) rfl rfl ?_
   refine GoQ.pure rfl (op_nilCheck rfl) rfl rfl ?_
   refine GoQ.pure rfl (op_fieldAddr Try.underlying72 rfl ti29 rfl (by decide)) rfl rfl ?_
   refine GoQ.pure rfl (op_fieldAddr Try.underlying29 rfl ti27 rfl (by decide)) rfl rfl ?_
   refine GoQ.stable rfl (oblk (i := 7) 8 hO rfl rfl Try.underlying27 rfl rfl) rfl rfl ?_
   refine GoQ.pure rfl (op_move rfl) rfl rfl ?_
   refine GoQ.pure rfl (op_move rfl) rfl rfl ?_
   refine GoQ.pure rfl (op_nilCheck rfl) rfl rfl ?_
   refine GoQ.pure rfl (op_fieldAddr Try.underlying72 rfl ti70 rfl (by decide)) rfl rfl ?_
   refine GoQ.stable rfl (oblk (i := 10) 8 hO rfl rfl Try.underlying70 rfl rfl) rfl rfl ?_
   refine GoQ.pure rfl (op_move rfl) rfl rfl ?_
   obtain ⟨IB, H⟩ := H
   obtain ⟨IC, H⟩ := H
   have Z33 := (xq.ch.trans xr.ch).trans xt.ch
   replace dC := dC.ch Z33
   refine GoQ.pure rfl (op_index Try.underlying70 ti9 rfl rfl IB (ltn (dC.neq hO 3 rfl) IC) (dC.psome hO 3 rfl IB IC)) rfl rfl ?_
   refine GoQ.stable rfl (oldStr 3 hO rfl dC IB IC Try.underlying9 rfl rfl) rfl rfl ?_
   have hle617 := Els.str_le dC IB IC
   refine GoQ.pure rfl (op_build Try.underlying39 ti39 (pl := [(0, 1), (1, 1)]) (vs := [(0, .string (gstr (chr (IntKind.i32.wrap ((97 : Int) + (k3_548 : Int)))))), (1, .string (gstr (ix d_567 (mgt m3_591 r605))))]) (cs := #[.string (gstr (chr (IntKind.i32.wrap ((97 : Int) + (k3_548 : Int))))), .string (gstr (ix d_567 (mgt m3_591 r605)))]) (by kernel_rfl) rfl (by kernel_rfl)) rfl rfl ?_
   have hobt := obuildN (r := rpRule) (n := 1) (parts := [(0, .agg #[.string (gstr (chr (IntKind.i32.wrap ((97 : Int) + (k3_548 : Int))))), .string (gstr (ix d_567 (mgt m3_591 r605)))])]) (vs := [.string (gstr (chr (IntKind.i32.wrap ((97 : Int) + (k3_548 : Int))))), .string (gstr (ix d_567 (mgt m3_591 r605)))]) (xs := [(⟨chr (IntKind.i32.wrap ((97 : Int) + (k3_548 : Int))), ix d_567 (mgt m3_591 r605)⟩ : Rule)]) Try.underlying27 ti39 hO (by decide) (by decide) (by kernel_rfl) (Els.flat1 (⟨chr (IntKind.i32.wrap ((97 : Int) + (k3_548 : Int))), ix d_567 (mgt m3_591 r605)⟩ : Rule) ⟨(chr_le _), hle617⟩) rfl
   obtain ⟨YF, YG, lY, ID, Ma, HE⟩ := hobt
   refine GoQ.loud rfl (HE rfl) Ma rfl rfl ?_
   replace hO := lY.own
   have hobt := freeze 0 hO rfl ID
   obtain ⟨hO1, rY, pG, IE⟩ := hobt
   dsimp only [eS, eZ] at hO1 rY pG
   replace hB := ((((hB.trans xq.fr).trans xr.fr).trans xt.fr).trans lY.fr).trans (Owns.dropFr _ _ 0)
   dsimp only [eS, eZ] at hB
   replace hO := hO1; clear hO1
   obtain ⟨KC, H⟩ := H
   replace dl := ((dl.ch Z33).ch lY.ch).ch rY
   have hobt := oapp Try.underlying27 ti39 rfl 1 hO rfl dl pG IE KC (by decide)
   obtain ⟨YH, Dg, Dh, IF, kN, sJ, HF⟩ := hobt
   dsimp only [sS, sZ] at kN sJ
   refine GoQ.last rfl (HF (by exact rfl) (by exact rfl)) rfl rfl ?_
   replace hO := kN.own
   refine GoQ.pure rfl (op_nilCheck rfl) rfl rfl ?_
   refine GoQ.pure rfl (op_fieldAddr Try.underlying72 rfl ti29 rfl (by decide)) rfl rfl ?_
   refine GoQ.pure rfl (op_fieldAddr Try.underlying29 rfl ti27 rfl (by decide)) rfl rfl ?_
   have hobt := oblkSt2 (v := .slice Dg (lx + 1) Dh) (i := 7) (cs' := #[.int .i64 ((ix a0 (0 : Int)).length : Int), .bool true, .slice p35 n37 c36, .slice qX lC qY, .slice qr lB qs, .slice pE lA pF, .slice none 0 0, .slice Dg (lx + 1) Dh, .int .i64 (0 : Int), .map (some B4), .slice ph lz pi, .slice oF ly oG, .slice pe kX pg]) 8 hO rfl rfl rfl rfl
   obtain ⟨YI, j9, HG⟩ := hobt
   dsimp only [sS, sZ] at j9
   refine GoQ.last rfl (HG Try.underlying27 rfl ti27 (by exact rfl) (by exact rfl)) rfl rfl ?_
   replace hO := j9.own
   refine GoQ.nil ?_
   refine Go1.cut [(6, .pointer (some ⟨B10, 0, none⟩)), (9, .int .i64 (0 : Int)), (13, .int .i64 (mgt m3_591 r605)), (85, .slice p35 n37 c36), (86, .int .i64 (d_32.length : Int)), (87, .int .i64 (k3_548 : Int))] ⟨rfl, rfl, rfl, rfl, rfl, rfl, trivial⟩ ?_
   intro σ _
   refine zr (zm rfl (zm rfl (zo (op_nilCheck rfl) (zo (op_fieldAddr Try.underlying72 rfl ti26 rfl (by decide)) (zs (oblk (i := 12) 8 hO rfl rfl Try.underlying26 rfl rfl) ?_)))))
   refine zm rfl ?_
   have hobt := obuild (r := Rp.int .i64) (n := 1) (parts := [(0, .int .i64 (mgt m3_591 r605))]) (vs := [.int .i64 (mgt m3_591 r605)]) (xs := [(mgt m3_591 r605)]) rfl Try.underlying26 ti3 hO (by decide) (by kernel_rfl) (Els.cons rfl rfl (Els.nil _ _ _) (by simp [mx])) rfl
   obtain ⟨YJ, aem, kx, RR, acD, ND⟩ := hobt
   refine zg (ND rfl) ?_
   replace hO := kx.own
   have hobt := freeze 0 hO rfl RR
   obtain ⟨hO1, y7, E4, RS⟩ := hobt
   dsimp only [eS, eZ] at hO1 y7 E4
   replace hB := (((hB.trans kN.fr).trans j9.fr).trans kx.fr).trans (Owns.dropFr _ _ 0)
   dsimp only [eS, eZ] at hB
   replace hO := hO1; clear hO1
   obtain ⟨YK, H⟩ := H
   have Z34 := (((((Z33.trans lY.ch).trans rY).trans kN.ch).trans j9.ch).trans kx.ch).trans y7
   replace dp := dp.ch Z34
   have hobt := oapp Try.underlying26 ti3 rfl 0 hO rfl dp E4 RS YK (by decide)
   obtain ⟨aen, KD, KE, RT, uS, G1, NE⟩ := hobt
   dsimp only [sS, sZ] at uS G1
   refine zg (NE (by exact rfl) (by exact rfl)) ?_
   replace hO := uS.own
   refine zo (op_nilCheck rfl) (zo (op_fieldAddr Try.underlying72 rfl ti26 rfl (by decide)) ?_)
   have hobt := oblkSt2 (v := .slice KD (kX + 1) KE) (i := 12) (cs' := #[.int .i64 ((ix a0 (0 : Int)).length : Int), .bool true, .slice p35 n37 c36, .slice qX lC qY, .slice qr lB qs, .slice pE lA pF, .slice none 0 0, .slice Dg (lx + 1) Dh, .int .i64 (0 : Int), .map (some B4), .slice ph lz pi, .slice oF ly oG, .slice KD (kX + 1) KE]) 8 hO rfl rfl rfl rfl
   obtain ⟨aeo, tX, NF⟩ := hobt
   dsimp only [sS, sZ] at tX
   refine zg (NF Try.underlying26 rfl ti26 (by exact rfl) (by exact rfl)) ?_
   replace hO := tX.own
   refine zn ?_
   refine Go1.inBlock ?_
   refine zr ?_
   replace aQ := ((aQ.ch Z34).ch uS.ch).ch tX.ch
   refine zo (op_add rfl rfl (wrap_i64 (natbd Gt aQ.bd))) (zm rfl (zn ?_))
   replace G1 := G1.ch tX.ch
   replace hB := (hB.trans uS.fr).trans tX.fr
   have Z35 := (((j9.ch.trans kx.ch).trans y7).trans uS.ch).trans tX.ch
   replace sJ := sJ.ch Z35
   have Z36 := ((((((lY.ch.trans rY).trans kN.ch).trans j9.ch).trans kx.ch).trans y7).trans uS.ch).trans tX.ch
   replace dC := dC.ch Z36
   have Z37 := (Z34.trans uS.ch).trans tX.ch
   replace dx := dx.ch Z37
   replace d4 := d4.ch Z37
   replace eF := eF.ch Z37
   replace eY := eY.ch Z37
   exact hX3 _ H _ _ ⟨kX + 1, KD, KE, RT, lx + 1, Dg, Dh, IF, ly, oF, oG, vC, lz, ph, pi, vD, lA, pE, pF, vE, lB, qr, qs, vF, lC, qX, qY, vG, ⟨rfl, rfl, rfl, rfl, rfl, trivial⟩, hO, G1, sJ, dx, dC, d4, eF, eY, aQ, hB⟩
  replace H := ifn IA H
  refine GoQ.stable rfl (olookF (a := r605) (MK.str Try.underlying9) 9 hO rfl Try.underlying69 ti3 rfl rfl IA) rfl rfl ?_
  refine GoQ.pure rfl (op_move rfl) rfl rfl ?_
  refine GoQ.pure rfl (op_extract rfl rfl) rfl rfl ?_
  refine GoQ.pure rfl (op_extract rfl rfl) rfl rfl ?_
  refine GoQ.pure rfl (op_assign rfl) rfl rfl ?_
  refine GoQ.pure rfl (op_assign rfl) rfl rfl ?_
  refine GoQ.nil ?_
  refine zq (zq (zr (zm rfl (zn (zf rfl rfl ?_)))))
  refine Go1.cut [(6, .pointer (some ⟨B10, 0, none⟩)), (9, .int .i64 (0 : Int)), (10, .int .i64 (k3_548 : Int)), (11, .slice NB ((ix d_32 (k3_548 : Int)).length) NC), (12, .string (gstr (chr (IntKind.i32.wrap ((97 : Int) + (k3_548 : Int)))))), (85, .slice p35 n37 c36), (86, .int .i64 (d_32.length : Int)), (87, .int .i64 (k3_548 : Int))] ⟨rfl, rfl, rfl, rfl, rfl, rfl, rfl, rfl, trivial⟩ ?_
  intro σ _
  refine zr (zm rfl (zm rfl ?_))
  replace dT := dT.ch xr.ch
  refine GoR.call (op_call body64 rfl (walk_slices_Clone_int hO.lt dT H)) rfl rfl ?_
  rintro aep aeq ⟨r662, En, AA, AB, ack, rfl, RU, hN666, z4, H⟩
  have wk := Stp.more hO RU hN666
  dsimp only [List.cons_append, List.nil_append] at wk
  replace hO := wk.own
  refine zm rfl (zm rfl (zm rfl (zm rfl ?_)))
  refine GoR.inl (vs := [.pointer (some ⟨B10, 0, none⟩), .slice AA En AB, .int .i64 (0 : Int), .int .i64 (k3_548 : Int), .string (gstr (chr (IntKind.i32.wrap ((97 : Int) + (k3_548 : Int))))), .int .i64 (0 : Int)]) (caps := []) rfl rfl body65 Try.func65 rfl Try.ntmps65 rfl rfl rfl ?_
  intro RhR670 hR670
  refine zq (zr (za rfl (zn (zq (zr ?_)))))
  refine zm rfl (zo (op_nilCheck rfl) (zo (op_fieldAddr Try.underlying72 rfl ti29 rfl (by decide)) (zo (op_fieldAddr Try.underlying29 rfl ti22 rfl (by decide)) (zs (oblk (i := 3) 9 hO rfl rfl Try.underlying22 rfl rfl) ?_))))
  have Z38 := (xq.ch.trans xr.ch).trans wk.ch
  replace eY := eY.ch Z38
  refine zo (op_lenN Try.underlying22 rfl (eY.neq hO 7 rfl)) (za rfl (zn (zq ?_)))
  refine Go1.drawS 1 [(0, .pure), (1, .pure), (2, .pure), (3, .stable), (4, .pure), (6, .pure), (5, .loud), (7, .last)] mixed (by kernel_rfl) ?_
  intro aer RV
  have wl := Stp.same hO RV
  replace hO := wl.own
  refine GoQ.pure rfl (op_move rfl) rfl rfl ?_
  refine GoQ.pure rfl (op_nilCheck rfl) rfl rfl ?_
  refine GoQ.pure rfl (op_fieldAddr Try.underlying72 rfl ti69 rfl (by decide)) rfl rfl ?_
  refine GoQ.stable rfl (oblk (i := 9) 9 hO rfl rfl Try.underlying69 rfl rfl) rfl rfl ?_
  refine GoQ.pure rfl (op_move rfl) rfl rfl ?_
  refine GoQ.pure rfl (op_move rfl) rfl rfl ?_
  replace z4 := (z4.ch (Ch.assoc _ _ _ _)).ch wl.ch
  have hobt := rowlend 0 hO rfl z4
  obtain ⟨RW, RX⟩ := hobt
  have hOc676 := hO.drop 0
  refine GoQ.call rfl (op_call body61 (show ([.slice AA En AB] : List Value) = [.slice AA r662.length AB] from by rw [← RX]) (walk_enumerate_text hOc676.lt RW H)) (fun v w hr => by obtain ⟨_, _, hs, _, _⟩ := hr; assumption) rfl rfl ?_
  rintro aes aet ⟨r677, rfl, RY, acl, H⟩
  have wm := Stp.same hO RY
  replace hO := wm.own
  have hobt := omapUpd (MK.str Try.underlying9) 10 hO rfl Try.underlying69 r677 (d_585.length : Int)
  obtain ⟨aeu, uT, NG⟩ := hobt
  dsimp only [sS, sZ] at uT
  refine GoQ.last rfl (NG (by exact rfl) (by exact rfl) (by exact rfl)) rfl rfl ?_
  replace hO := uT.own
  refine GoQ.nil ?_
  refine zq ?_
  refine Go1.cut [(0, .pointer (some ⟨B10, 0, none⟩)), (1, .slice AA En AB), (2, .int .i64 (0 : Int)), (3, .int .i64 (k3_548 : Int)), (4, .string (gstr (chr (IntKind.i32.wrap ((97 : Int) + (k3_548 : Int)))))), (5, .int .i64 (0 : Int)), (13, .int .i64 (d_585.length : Int))] ⟨rfl, rfl, rfl, rfl, rfl, rfl, rfl, trivial⟩ ?_
  intro σ _
  refine zr (zm rfl (zm rfl (zo (op_nilCheck rfl) (zo (op_fieldAddr Try.underlying72 rfl ti29 rfl (by decide)) (zo (op_fieldAddr Try.underlying29 rfl ti22 rfl (by decide)) ?_)))))
  refine zs (oblk (i := 3) 9 hO rfl rfl Try.underlying22 rfl rfl) (zm rfl ?_)
  replace z4 := (z4.ch wm.ch).ch uT.ch
  have hobt := freeze 0 hO rfl z4
  obtain ⟨hO1, z5, f6, R0⟩ := hobt
  dsimp only [eS, eZ] at hO1 z5 f6
  replace hB := ((((((hB.trans xq.fr).trans xr.fr).trans wk.fr).trans wl.fr).trans wm.fr).trans uT.fr).trans (Owns.dropFr _ _ 0)
  dsimp only [eS, eZ] at hB
  replace hO := hO1; clear hO1
  have hobt := obuild (r := Rp.sl (Rp.int .i64)) (n := 1) (parts := [(0, .slice AA En AB)]) (vs := [.slice AA En AB]) (xs := [r662]) rfl Try.underlying22 ti26 hO (by decide) (by kernel_rfl) (Els.cons rfl ⟨AA, AB, congrArg some (congrArg (fun nn => Value.slice AA nn AB) R0), f6⟩ (Els.nil _ _ _) (by simp [mx])) rfl
  obtain ⟨aev, aew, wn, R2, acE, NH⟩ := hobt
  refine zg (NH rfl) ?_
  replace hO := wn.own
  have hobt := freeze 0 hO rfl R2
  obtain ⟨hO1, y8, gu, R3⟩ := hobt
  dsimp only [eS, eZ] at hO1 y8 gu
  replace hB := (hB.trans wn.fr).trans (Owns.dropFr _ _ 0)
  dsimp only [eS, eZ] at hB
  replace hO := hO1; clear hO1
  obtain ⟨YL, H⟩ := H
  have Z39 := ((((wl.ch.trans wm.ch).trans uT.ch).trans z5).trans wn.ch).trans y8
  replace eY := eY.ch Z39
  have hobt := oapp Try.underlying22 ti26 rfl 6 hO rfl eY gu R3 YL (by decide)
  obtain ⟨aex, Eo, Ep, R4, uU, gH, HH⟩ := hobt
  dsimp only [sS, sZ] at uU gH
  refine zg (HH (by exact rfl) (by exact rfl)) ?_
  replace hO := uU.own
  refine zo (op_nilCheck rfl) (zo (op_fieldAddr Try.underlying72 rfl ti29 rfl (by decide)) (zo (op_fieldAddr Try.underlying29 rfl ti22 rfl (by decide)) ?_))
  have hobt := oblkSt2 (v := .slice Eo (lC + 1) Ep) (i := 3) (cs' := #[.int .i64 ((ix a0 (0 : Int)).length : Int), .bool true, .slice p35 n37 c36, .slice Eo (lC + 1) Ep, .slice qr lB qs, .slice pE lA pF, .slice none 0 0, .slice oD lx oE, .int .i64 (0 : Int), .map (some B4), .slice ph lz pi, .slice oF ly oG, .slice pe kX pg]) 8 hO rfl rfl rfl rfl
  obtain ⟨aey, tY, NI⟩ := hobt
  dsimp only [sS, sZ] at tY
  refine zg (NI Try.underlying22 rfl ti22 (by exact rfl) (by exact rfl)) ?_
  replace hO := tY.own
  refine zn (zq (zr (zm rfl (zm rfl (zo (op_nilCheck rfl) ?_)))))
  refine zo (op_fieldAddr Try.underlying72 rfl ti29 rfl (by decide)) (zo (op_fieldAddr Try.underlying29 rfl ti26 rfl (by decide)) (zs (oblk (i := 4) 8 hO rfl rfl Try.underlying26 rfl rfl) (zm rfl ?_)))
  have hobt := obuild (r := Rp.int .i64) (n := 1) (parts := [(0, .int .i64 (0 : Int))]) (vs := [.int .i64 (0 : Int)]) (xs := [(0 : Int)]) rfl Try.underlying26 ti3 hO (by decide) (by kernel_rfl) (Els.cons rfl rfl (Els.nil _ _ _) (by simp [mx])) rfl
  obtain ⟨aez, aeA, gR, Di, acF, NJ⟩ := hobt
  refine zg (NJ rfl) ?_
  replace hO := gR.own
  have hobt := freeze 0 hO rfl Di
  obtain ⟨hO1, yv, io, R5⟩ := hobt
  dsimp only [eS, eZ] at hO1 yv io
  replace hB := (((hB.trans uU.fr).trans tY.fr).trans gR.fr).trans (Owns.dropFr _ _ 0)
  dsimp only [eS, eZ] at hB
  replace hO := hO1; clear hO1
  obtain ⟨HI, H⟩ := H
  have Z40 := (((((((((Z38.trans wl.ch).trans wm.ch).trans uT.ch).trans z5).trans wn.ch).trans y8).trans uU.ch).trans tY.ch).trans gR.ch).trans yv
  replace eF := eF.ch Z40
  have hobt := oapp Try.underlying26 ti3 rfl 5 hO rfl eF io R5 HI (by decide)
  obtain ⟨YM, FC, FD, R6, t0, iP, NK⟩ := hobt
  dsimp only [sS, sZ] at t0 iP
  refine zg (NK (by exact rfl) (by exact rfl)) ?_
  replace hO := t0.own
  refine zo (op_nilCheck rfl) (zo (op_fieldAddr Try.underlying72 rfl ti29 rfl (by decide)) (zo (op_fieldAddr Try.underlying29 rfl ti26 rfl (by decide)) ?_))
  have hobt := oblkSt2 (v := .slice FC (lB + 1) FD) (i := 4) (cs' := #[.int .i64 ((ix a0 (0 : Int)).length : Int), .bool true, .slice p35 n37 c36, .slice Eo (lC + 1) Ep, .slice FC (lB + 1) FD, .slice pE lA pF, .slice none 0 0, .slice oD lx oE, .int .i64 (0 : Int), .map (some B4), .slice ph lz pi, .slice oF ly oG, .slice pe kX pg]) 8 hO rfl rfl rfl rfl
  obtain ⟨aeB, sX, NL⟩ := hobt
  dsimp only [sS, sZ] at sX
  refine zg (NL Try.underlying26 rfl ti26 (by exact rfl) (by exact rfl)) ?_
  replace hO := sX.own
  refine zn (zq ?_)
  refine Go1.cut [(0, .pointer (some ⟨B10, 0, none⟩)), (3, .int .i64 (k3_548 : Int)), (4, .string (gstr (chr (IntKind.i32.wrap ((97 : Int) + (k3_548 : Int)))))), (5, .int .i64 (0 : Int)), (13, .int .i64 (d_585.length : Int))] ⟨rfl, rfl, rfl, rfl, rfl, trivial⟩ ?_
  intro σ _
  refine zr (zm rfl (zm rfl (zo (op_nilCheck rfl) (zo (op_fieldAddr Try.underlying72 rfl ti29 rfl (by decide)) (zo (op_fieldAddr Try.underlying29 rfl ti26 rfl (by decide)) ?_)))))
  refine zs (oblk (i := 5) 8 hO rfl rfl Try.underlying26 rfl rfl) (zm rfl ?_)
  have hobt := obuild (r := Rp.int .i64) (n := 1) (parts := [(0, .int .i64 (k3_548 : Int))]) (vs := [.int .i64 (k3_548 : Int)]) (xs := [(k3_548 : Int)]) rfl Try.underlying26 ti3 hO (by decide) (by kernel_rfl) (Els.cons rfl rfl (Els.nil _ _ _) (by simp [mx])) rfl
  obtain ⟨aeC, aeD, t3, R7, acG, NM⟩ := hobt
  refine zg (NM rfl) ?_
  replace hO := t3.own
  have hobt := freeze 0 hO rfl R7
  obtain ⟨hO1, xG, kD, R8⟩ := hobt
  dsimp only [eS, eZ] at hO1 xG kD
  replace hB := (((hB.trans t0.fr).trans sX.fr).trans t3.fr).trans (Owns.dropFr _ _ 0)
  dsimp only [eS, eZ] at hB
  replace hO := hO1; clear hO1
  obtain ⟨YN, H⟩ := H
  have Z41 := (((Z40.trans t0.ch).trans sX.ch).trans t3.ch).trans xG
  replace d4 := d4.ch Z41
  have hobt := oapp Try.underlying26 ti3 rfl 4 hO rfl d4 kD R8 YN (by decide)
  obtain ⟨aeE, Gu, Gv, R9, sY, lb, NN⟩ := hobt
  dsimp only [sS, sZ] at sY lb
  refine zg (NN (by exact rfl) (by exact rfl)) ?_
  replace hO := sY.own
  refine zo (op_nilCheck rfl) (zo (op_fieldAddr Try.underlying72 rfl ti29 rfl (by decide)) (zo (op_fieldAddr Try.underlying29 rfl ti26 rfl (by decide)) ?_))
  have hobt := oblkSt2 (v := .slice Gu (lA + 1) Gv) (i := 5) (cs' := #[.int .i64 ((ix a0 (0 : Int)).length : Int), .bool true, .slice p35 n37 c36, .slice Eo (lC + 1) Ep, .slice FC (lB + 1) FD, .slice Gu (lA + 1) Gv, .slice none 0 0, .slice oD lx oE, .int .i64 (0 : Int), .map (some B4), .slice ph lz pi, .slice oF ly oG, .slice pe kX pg]) 8 hO rfl rfl rfl rfl
  obtain ⟨aeF, sn, NO⟩ := hobt
  dsimp only [sS, sZ] at sn
  refine zg (NO Try.underlying26 rfl ti26 (by exact rfl) (by exact rfl)) ?_
  replace hO := sn.own
  refine zn (zq (zr (zm rfl (zm rfl (zo (op_nilCheck rfl) ?_)))))
  refine zo (op_fieldAddr Try.underlying72 rfl ti70 rfl (by decide)) (zs (oblk (i := 10) 8 hO rfl rfl Try.underlying70 rfl rfl) (zm rfl ?_))
  have hobt := obuild (r := Rp.str) (n := 1) (parts := [(0, .string (gstr (chr (IntKind.i32.wrap ((97 : Int) + (k3_548 : Int))))))]) (vs := [.string (gstr (chr (IntKind.i32.wrap ((97 : Int) + (k3_548 : Int)))))]) (xs := [chr (IntKind.i32.wrap ((97 : Int) + (k3_548 : Int)))]) rfl Try.underlying70 ti9 hO (by decide) (by kernel_rfl) (Els.cons rfl ⟨rfl, (chr_le _)⟩ (Els.nil _ _ _) (by simp [mx])) rfl
  obtain ⟨aeG, aeH, ta, Sa, acH, NP⟩ := hobt
  refine zg (NP rfl) ?_
  replace hO := ta.own
  have hobt := freeze 0 hO rfl Sa
  obtain ⟨hO1, wS, qx, Sb⟩ := hobt
  dsimp only [eS, eZ] at hO1 wS qx
  replace hB := (((hB.trans sY.fr).trans sn.fr).trans ta.fr).trans (Owns.dropFr _ _ 0)
  dsimp only [eS, eZ] at hB
  replace hO := hO1; clear hO1
  obtain ⟨YO, H⟩ := H
  have Z42 := (((Z41.trans sY.ch).trans sn.ch).trans ta.ch).trans wS
  replace dC := dC.ch Z42
  have hobt := oapp Try.underlying70 ti9 rfl 3 hO rfl dC qx Sb YO (by decide)
  obtain ⟨aeI, HJ, HK, Sc, sq, sa, NQ⟩ := hobt
  dsimp only [sS, sZ] at sq sa
  refine zg (NQ (by exact rfl) (by exact rfl)) ?_
  replace hO := sq.own
  refine zo (op_nilCheck rfl) (zo (op_fieldAddr Try.underlying72 rfl ti70 rfl (by decide)) ?_)
  have hobt := oblkSt2 (v := .slice HJ (lz + 1) HK) (i := 10) (cs' := #[.int .i64 ((ix a0 (0 : Int)).length : Int), .bool true, .slice p35 n37 c36, .slice Eo (lC + 1) Ep, .slice FC (lB + 1) FD, .slice Gu (lA + 1) Gv, .slice none 0 0, .slice oD lx oE, .int .i64 (0 : Int), .map (some B4), .slice HJ (lz + 1) HK, .slice oF ly oG, .slice pe kX pg]) 8 hO rfl rfl rfl rfl
  obtain ⟨aeJ, ru, NR⟩ := hobt
  dsimp only [sS, sZ] at ru
  refine zg (NR Try.underlying70 rfl ti70 (by exact rfl) (by exact rfl)) ?_
  replace hO := ru.own
  refine zn (zq ?_)
  refine Go1.cut [(0, .pointer (some ⟨B10, 0, none⟩)), (5, .int .i64 (0 : Int)), (13, .int .i64 (d_585.length : Int))] ⟨rfl, rfl, rfl, trivial⟩ ?_
  intro σ _
  refine zr (zm rfl (zm rfl (zo (op_nilCheck rfl) (zo (op_fieldAddr Try.underlying72 rfl ti26 rfl (by decide)) (zs (oblk (i := 11) 8 hO rfl rfl Try.underlying26 rfl rfl) ?_)))))
  refine zm rfl ?_
  have hobt := obuild (r := Rp.int .i64) (n := 1) (parts := [(0, .int .i64 (0 : Int))]) (vs := [.int .i64 (0 : Int)]) (xs := [(0 : Int)]) rfl Try.underlying26 ti3 hO (by decide) (by kernel_rfl) (Els.cons rfl rfl (Els.nil _ _ _) (by simp [mx])) rfl
  obtain ⟨aeK, aeL, sr, Sd, acI, NS⟩ := hobt
  refine zg (NS rfl) ?_
  replace hO := sr.own
  have hobt := freeze 0 hO rfl Sd
  obtain ⟨hO1, vH, wT, Se⟩ := hobt
  dsimp only [eS, eZ] at hO1 vH wT
  replace hB := (((hB.trans sq.fr).trans ru.fr).trans sr.fr).trans (Owns.dropFr _ _ 0)
  dsimp only [eS, eZ] at hB
  replace hO := hO1; clear hO1
  obtain ⟨YP, H⟩ := H
  have Z43 := (((Z42.trans sq.ch).trans ru.ch).trans sr.ch).trans vH
  replace dx := dx.ch Z43
  have hobt := oapp Try.underlying26 ti3 rfl 2 hO rfl dx wT Se YP (by decide)
  obtain ⟨aeM, IG, IH, Sf, rv, yw, NT⟩ := hobt
  dsimp only [sS, sZ] at rv yw
  refine zg (NT (by exact rfl) (by exact rfl)) ?_
  replace hO := rv.own
  refine zo (op_nilCheck rfl) (zo (op_fieldAddr Try.underlying72 rfl ti26 rfl (by decide)) ?_)
  have hobt := oblkSt2 (v := .slice IG (ly + 1) IH) (i := 11) (cs' := #[.int .i64 ((ix a0 (0 : Int)).length : Int), .bool true, .slice p35 n37 c36, .slice Eo (lC + 1) Ep, .slice FC (lB + 1) FD, .slice Gu (lA + 1) Gv, .slice none 0 0, .slice oD lx oE, .int .i64 (0 : Int), .map (some B4), .slice HJ (lz + 1) HK, .slice IG (ly + 1) IH, .slice pe kX pg]) 8 hO rfl rfl rfl rfl
  obtain ⟨aeN, qI, NU⟩ := hobt
  dsimp only [sS, sZ] at qI
  refine zg (NU Try.underlying26 rfl ti26 (by exact rfl) (by exact rfl)) ?_
  replace hO := qI.own
  refine zn (zq (zr (zm rfl (za rfl (zn ?_)))))
  refine Go1.ret1V Try.func65 rfl (show _ = .int .i64 (d_585.length : Int) from rfl) ?_
  refine hR670 _ _ ?_
  refine za rfl (zn (zr (zm rfl (zm rfl (zo (op_nilCheck rfl) ?_)))))
  refine zo (op_fieldAddr Try.underlying72 rfl ti26 rfl (by decide)) (zs (oblk (i := 12) 8 hO rfl rfl Try.underlying26 rfl rfl) (zm rfl ?_))
  have hobt := obuild (r := Rp.int .i64) (n := 1) (parts := [(0, .int .i64 (d_585.length : Int))]) (vs := [.int .i64 (d_585.length : Int)]) (xs := [(d_585.length : Int)]) rfl Try.underlying26 ti3 hO (by decide) (by kernel_rfl) (Els.cons rfl rfl (Els.nil _ _ _) (by simp [mx])) rfl
  obtain ⟨aeO, aeP, ry, Sh, acJ, NV⟩ := hobt
  refine zg (NV rfl) ?_
  replace hO := ry.own
  have hobt := freeze 0 hO rfl Sh
  obtain ⟨hO1, uB, E5, Si⟩ := hobt
  dsimp only [eS, eZ] at hO1 uB E5
  replace hB := (((hB.trans rv.fr).trans qI.fr).trans ry.fr).trans (Owns.dropFr _ _ 0)
  dsimp only [eS, eZ] at hB
  replace hO := hO1; clear hO1
  obtain ⟨YQ, H⟩ := H
  have Z44 := (((Z43.trans rv.ch).trans qI.ch).trans ry.ch).trans uB
  replace dp := dp.ch Z44
  have hobt := oapp Try.underlying26 ti3 rfl 0 hO rfl dp E5 Si YQ (by decide)
  obtain ⟨aeQ, KF, KG, Sj, qJ, G3, NW⟩ := hobt
  dsimp only [sS, sZ] at qJ G3
  refine zg (NW (by exact rfl) (by exact rfl)) ?_
  replace hO := qJ.own
  refine zo (op_nilCheck rfl) (zo (op_fieldAddr Try.underlying72 rfl ti26 rfl (by decide)) ?_)
  have hobt := oblkSt2 (v := .slice KF (kX + 1) KG) (i := 12) (cs' := #[.int .i64 ((ix a0 (0 : Int)).length : Int), .bool true, .slice p35 n37 c36, .slice Eo (lC + 1) Ep, .slice FC (lB + 1) FD, .slice Gu (lA + 1) Gv, .slice none 0 0, .slice oD lx oE, .int .i64 (0 : Int), .map (some B4), .slice HJ (lz + 1) HK, .slice IG (ly + 1) IH, .slice KF (kX + 1) KG]) 8 hO rfl rfl rfl rfl
  obtain ⟨aeR, pI, NX⟩ := hobt
  dsimp only [sS, sZ] at pI
  refine zg (NX Try.underlying26 rfl ti26 (by exact rfl) (by exact rfl)) ?_
  replace hO := pI.own
  refine zn ?_
  refine Go1.inBlock ?_
  refine Go1.cut [(6, .pointer (some ⟨B10, 0, none⟩)), (9, .int .i64 (0 : Int)), (85, .slice p35 n37 c36), (86, .int .i64 (d_32.length : Int)), (87, .int .i64 (k3_548 : Int))] ⟨rfl, rfl, rfl, rfl, rfl, trivial⟩ ?_
  intro σ _
  refine zr ?_
  replace aQ := ((aQ.ch Z44).ch qJ.ch).ch pI.ch
  refine zo (op_add rfl rfl (wrap_i64 (natbd Gt aQ.bd))) (zm rfl (zn ?_))
  replace G3 := G3.ch pI.ch
  replace hB := (hB.trans qJ.fr).trans pI.fr
  have Z45 := (((qI.ch.trans ry.ch).trans uB).trans qJ.ch).trans pI.ch
  replace yw := yw.ch Z45
  have Z46 := (((((((ru.ch.trans sr.ch).trans vH).trans rv.ch).trans qI.ch).trans ry.ch).trans uB).trans qJ.ch).trans pI.ch
  replace sa := sa.ch Z46
  have Z47 := (((((((((((sn.ch.trans ta.ch).trans wS).trans sq.ch).trans ru.ch).trans sr.ch).trans vH).trans rv.ch).trans qI.ch).trans ry.ch).trans uB).trans qJ.ch).trans pI.ch
  replace lb := lb.ch Z47
  have Z48 := (((((((((((((((sX.ch.trans t3.ch).trans xG).trans sY.ch).trans sn.ch).trans ta.ch).trans wS).trans sq.ch).trans ru.ch).trans sr.ch).trans vH).trans rv.ch).trans qI.ch).trans ry.ch).trans uB).trans qJ.ch).trans pI.ch
  replace iP := iP.ch Z48
  have Z49 := (((((((((((((((((((tY.ch.trans gR.ch).trans yv).trans t0.ch).trans sX.ch).trans t3.ch).trans xG).trans sY.ch).trans sn.ch).trans ta.ch).trans wS).trans sq.ch).trans ru.ch).trans sr.ch).trans vH).trans rv.ch).trans qI.ch).trans ry.ch).trans uB).trans qJ.ch).trans pI.ch
  replace gH := gH.ch Z49
  replace dl := ((dl.ch Z44).ch qJ.ch).ch pI.ch
  exact hX3 _ H _ _ ⟨kX + 1, KF, KG, Sj, lx, oD, oE, vB, ly + 1, IG, IH, Sf, lz + 1, HJ, HK, Sc, lA + 1, Gu, Gv, R9, lB + 1, FC, FD, R6, lC + 1, Eo, Ep, R4, ⟨rfl, rfl, rfl, rfl, rfl, trivial⟩, hO, G3, dl, yw, sa, lb, iP, gH, aQ, hB⟩
 replace H := ifn Gt H
 refine zo (fun w => opB (op_lss rfl rfl w) (decide_eq_false Gt)) (zn (zq (zf rfl rfl ?_)))
 refine Go1.exit rfl ?_
 refine zq (zr (zm rfl (za rfl (za rfl (zn ?_)))))
 have x9 := Stp.nil (e := 26) (r := 1) hO
 replace hO := x9.own
 have pK := Els.nil (Rp.sl (Rp.int .i64)) (bl (.row 26 1 none 0 0 [] :: [.row 3 1 pe kX pg wR, .row 39 2 oD lx oE vB, .row 3 1 oF ly oG vC, .row 9 1 ph lz pi vD, .row 3 1 pE lA pF vE, .row 3 1 qr lB qs vF, .row 26 1 qX lC qY vG, .row 26 1 p35 n37 c36 iD, .blk B10 (.cells #[.int .i64 ((ix a0 (0 : Int)).length : Int), .bool true, .slice p35 n37 c36, .slice qX lC qY, .slice qr lB qs, .slice pE lA pF, .slice none 0 0, .slice oD lx oE, .int .i64 (0 : Int), .map (some B4), .slice ph lz pi, .slice oF ly oG, .slice pe kX pg] 72 (0, 0)), .any (mapE (fun a : List UInt8 => Value.string (gstr a)) (fun a : Int => Value.int .i64 a) B4 m3_591)]) ++ A) Yz
 have g5 := Stp.front 10 hO rfl
 dsimp only [eS, eZ] at g5
 replace hO := g5.own
 have wo := Stp.front 2 hO rfl
 dsimp only [eS, eZ] at wo
 replace hO := wo.own
 have wq := Stp.front 4 hO rfl
 dsimp only [eS, eZ] at wq
 replace hO := wq.own
 have wr := Stp.front 5 hO rfl
 dsimp only [eS, eZ] at wr
 replace hO := wr.own
 have g6 := Stp.front 5 hO rfl
 dsimp only [eS, eZ] at g6
 replace hO := g6.own
 have ws := Stp.front 5 hO rfl
 dsimp only [eS, eZ] at ws
 replace hO := ws.own
 have wt := Stp.front 6 hO rfl
 dsimp only [eS, eZ] at wt
 replace hO := wt.own
 have wu := Stp.front 7 hO rfl
 dsimp only [eS, eZ] at wu
 replace hO := wu.own
 have wv := Stp.front 8 hO rfl
 dsimp only [eS, eZ] at wv
 replace hO := wv.own
 have ww := Stp.front 9 hO rfl
 dsimp only [eS, eZ] at ww
 replace hO := ww.own
 have wx := Stp.front 10 hO rfl
 dsimp only [eS, eZ] at wx
 replace hO := wx.own
 refine Go1.ret2 Try.func49 rfl ?_
 have Z50 := (((((((((g5.ch.trans wo.ch).trans wq.ch).trans wr.ch).trans g6.ch).trans ws.ch).trans wt.ch).trans wu.ch).trans wv.ch).trans ww.ch).trans wx.ch
 replace pK := pK.ch Z50
 have Z51 := ((((((((((x9.ch.trans g5.ch).trans wo.ch).trans wq.ch).trans wr.ch).trans g6.ch).trans ws.ch).trans wt.ch).trans wu.ch).trans wv.ch).trans ww.ch).trans wx.ch
 replace dp := dp.ch Z51
 replace dl := dl.ch Z51
 replace dx := dx.ch Z51
 replace dC := dC.ch Z51
 replace d4 := d4.ch Z51
 replace eF := eF.ch Z51
 replace eY := eY.ch Z51
 replace aQ := aQ.ch Z51
 replace hB := (((((((((((hB.trans x9.fr).trans g5.fr).trans wo.fr).trans wq.fr).trans wr.fr).trans g6.fr).trans ws.fr).trans wt.fr).trans wu.fr).trans wv.fr).trans ww.fr).trans wx.fr
 exact Or.inr ⟨(⟨(⟨((ix a0 (0 : Int)).length : Int), true, d_32, d_585, d_579, d_573, ([] : List (List Int)), d_555, (0 : Int)⟩ : Enum), m3_591, d_567, d_561, d_549⟩ : run), ((0 : Int)), B10, n37, p35, c36, iD, lC, qX, qY, vG, lB, qr, qs, vF, lA, pE, pF, vE, 0, none, 0, ([]), lx, oD, oE, vB, B4, lz, ph, pi, vD, ly, oF, oG, vC, kX, pe, pg, wR, rfl, hB.same, hO, aQ, eY, eF, d4, pK, dl, dC, dx, dp, H⟩
theorem body37 : Body Try.prog 37 := ⟨Try.f37, Try.func37, rfl, by kernel_rfl⟩
theorem walk_trans_Compose {A : List Nat} {w0 : World} {p_f : Option Addr} {c_f : Nat} {p_g : Option Addr} {c_g : Nat} {f : List Int} {g : List Int} (hA : ∀ b ∈ A, b < w0.heap.size) (h_f : ISl (Rp.int .i64) A w0 p_f c_f f) (h_g : ISl (Rp.int .i64) A w0 p_g c_g g) {K : List Int → Prop} (H : trans_Compose f g K) :
    CallsV Try.prog 37 #[.slice p_f f.length c_f, .slice p_g g.length c_g] w0 (fun v w' => ∃ (r0 : List Int), ∃ (wD : Option Addr), ∃ (wE : Nat), v = .slice wD r0.length wE ∧ Same w0 w' ∧ ISl (Rp.int .i64) A w' wD wE r0 ∧ K r0) := by
 refine CallsV.of (l := [.slice p_f f.length c_f, .slice p_g g.length c_g]) Try.func37 rfl Try.ntmps37 rfl ?_
 have hO := Owns.start hA
 have hB := Fr.refl (bl []) w0
 unfold trans_Compose at H
 refine zq (zr (za rfl (zn (zq (zq ?_)))))
 refine zr (zm rfl (zo (op_len Try.underlying26 rfl) ?_))
 replace h_f := h_f.ch (Ch.start A w0)
 replace H := H h_f.bd
 refine zm rfl (zo (op_len Try.underlying26 rfl) ?_)
 replace h_g := h_g.ch (Ch.start A w0)
 replace H := H h_g.bd
 by_cases h1 : (f.length : Int) = (g.length : Int)
 ·replace H := ifp h1 H
  refine zo (fun w => opB (op_neq rfl rfl w) (ndT h1)) (zm rfl (zm rfl ?_))
  refine GoR.call (op_call body60 rfl (walk_trans_Valid hO.lt h_f H)) rfl rfl ?_
  rintro v6 w3 ⟨r2, rfl, hs4, H⟩
  have sK := Stp.same hO hs4
  replace hO := sK.own
  cases r2
  ·replace H := ifn Bool.false_ne_true H
   refine zo (op_not rfl) (zo (op_pickF rfl rfl rfl) (zm rfl (zp (zp (zp ?_)))))
   refine zo (op_pickT rfl rfl rfl) (zn (zt rfl rfl (zq (zr (za rfl ?_)))))
   refine zn ?_
   refine Go1.ret1 Try.func37 rfl ?_
   replace hB := hB.trans sK.fr
   exact ⟨([] : List Int), none, 0, rfl, hB.same, (ISl.null _ _ _), H⟩
  replace H := ifp rfl H
  refine zo (op_not rfl) (zo (op_pickF rfl rfl rfl) (zm rfl (zm rfl ?_)))
  replace h_g := h_g.ch sK.ch
  refine GoR.call (op_call body60 rfl (walk_trans_Valid hO.lt h_g H)) rfl rfl ?_
  rintro v12 w9 ⟨r8, rfl, Hq, H⟩
  have BT := Stp.same hO Hq
  replace hO := BT.own
  cases r8
  ·replace H := ifn Bool.false_ne_true H
   refine zo (op_not rfl) (zo (op_pickF rfl rfl rfl) (zn (zt rfl rfl (zq ?_))))
   refine Go1.cut [] trivial ?_
   intro σ _
   refine zr (za rfl (zn ?_))
   refine Go1.ret1 Try.func37 rfl ?_
   replace hB := (hB.trans sK.fr).trans BT.fr
   exact ⟨([] : List Int), none, 0, rfl, hB.same, (ISl.null _ _ _), H⟩
  replace H := ifp rfl H
  refine zo (op_not rfl) (zo (op_pickF rfl rfl rfl) (zn (zf rfl rfl (zk (zq ?_)))))
  refine zr (zm rfl (zo (op_len Try.underlying26 rfl) ?_))
  obtain ⟨h21, H⟩ := H
  obtain ⟨h22, H⟩ := H
  have hobt := omake (n := (f.length : Int)) (r := Rp.int .i64) (d := (0 : Int)) Try.underlying26 ti3 (fun _ _ => rfl) rfl hO h21 h22 (by decide)
  obtain ⟨w14, p15, Fs, k8, et, Er, H9⟩ := hobt
  refine zg (H9 rfl rfl) ?_
  replace hO := k8.own
  refine za rfl (zn (zq (zq (zr (zm rfl ?_)))))
  refine zo (op_len Try.underlying26 rfl) (zm rfl (zn (zb ?_)))
  replace h_g := (h_g.ch BT.ch).ch k8.ch
  have Z1 := (sK.ch.trans BT.ch).trans k8.ch
  replace h_f := h_f.ch Z1
  replace hB := ((hB.trans sK.fr).trans BT.fr).trans k8.fr
  refine Go1.loopW (S := Nat × List Int) (fun s σ w => match s with | (k1_25, h1_26) => ∃ (FE : List Value), agrees σ [(1, .slice p_g g.length c_g), (5, .slice p15 f.length f.length), (26, .slice p_f f.length c_f), (27, .int .i64 (f.length : Int)), (28, .int .i64 (k1_25 : Int))] ∧ (fun Z0 => Owns w0.heap.size w Z0 A ∧ Els (Rp.int .i64) (bl Z0 ++ A) w FE h1_26 ∧ ISl (Rp.int .i64) (bl Z0 ++ A) w p_f c_f f ∧ ISl (Rp.int .i64) (bl Z0 ++ A) w p_g c_g g ∧ Fr (bl []) w0 (bl Z0) w) [.row 3 1 p15 f.length f.length FE]) H ⟨Fs, ⟨rfl, rfl, rfl, rfl, rfl, trivial⟩, hO, et, h_f, h_g, hB⟩ ?_
  intro X1
  refine prE fun k1_25 => fun h1_26 => ?_
  intro H hX1 σ w24
  refine exE fun FE => andE fun hag => andE fun hO => andE fun Cp => andE fun h_f => andE fun h_g => fun hB => ?_
  dsimp only at H
  refine Go1.keep [(1, .slice p_g g.length c_g), (5, .slice p15 f.length f.length), (26, .slice p_f f.length c_f), (27, .int .i64 (f.length : Int)), (28, .int .i64 (k1_25 : Int))] hag ?_
  refine zq (zr ?_)
  by_cases h29 : (k1_25 : Int) < (f.length : Int)
  ·replace H := ifp h29 H
   refine zo (fun w => opB (op_lss rfl rfl w) (decide_eq_true h29)) (zn (zq (zt rfl rfl (zk (zq ?_)))))
   refine zb (zq (zr (zm rfl ?_)))
   obtain ⟨h30, H⟩ := H
   obtain ⟨h31, H⟩ := H
   refine zo (op_index Try.underlying26 ti3 rfl rfl h30 h31 (h_f.some_ h30 h31)) (zs (ldInt h_f h30 h31 Try.underlying3 rfl rfl) (za rfl (za rfl (zn (zr ?_)))))
   refine zm rfl (zm rfl (zm rfl (zm rfl ?_)))
   obtain ⟨h32, H⟩ := H
   obtain ⟨h33, H⟩ := H
   refine zo (op_index Try.underlying26 ti3 rfl rfl h32 h33 (h_g.some_ h32 h33)) (zs (ldInt h_g h32 h33 Try.underlying3 rfl rfl) ?_)
   obtain ⟨h34, H⟩ := H
   obtain ⟨h35, H⟩ := H
   refine zo (op_index Try.underlying26 ti3 rfl rfl h34 (ltn (Cp.neq hO 0 rfl) h35) (Cp.psome hO 0 rfl h34 h35)) ?_
   have hobt := ost (r := Rp.int .i64) rfl 0 hO rfl Cp h34 h35 (v := .int .i64 (ix g (ix f (k1_25 : Int)))) (u := (ix g (ix f (k1_25 : Int)))) rfl rfl
   obtain ⟨w36, tc, ld, fy, II⟩ := hobt
   refine zg (II Try.underlying3 rfl ti3 (by exact rfl) (by exact rfl)) ?_
   replace hO := ld.own
   refine zn ?_
   refine Go1.inBlock ?_
   refine zr ?_
   replace h_f := h_f.ch ld.ch
   refine zo (op_add rfl rfl (wrap_i64 (natbd h29 h_f.bd))) (zm rfl (zn ?_))
   replace h_g := h_g.ch ld.ch
   replace hB := hB.trans ld.fr
   exact hX1 _ H _ _ ⟨tc, ⟨rfl, rfl, rfl, rfl, rfl, trivial⟩, hO, fy, h_f, h_g, hB⟩
  replace H := ifn h29 H
  refine zo (fun w => opB (op_lss rfl rfl w) (decide_eq_false h29)) (zn (zq (zf rfl rfl ?_)))
  refine Go1.exit rfl ?_
  refine zq (zr (zm rfl (za rfl (zn ?_))))
  have hobt := freeze 0 hO rfl Cp
  obtain ⟨hO1, NY, YR, YS⟩ := hobt
  replace hO := hO1; clear hO1
  refine Go1.ret1 Try.func37 rfl ?_
  replace hB := hB.trans (Owns.dropFr _ _ 0)
  exact ⟨h1_26, p15, f.length, (congrArg (fun nn => Value.slice p15 nn f.length) YS), hB.same, (YR.ch (Ch.weak _ _ _)), H⟩
 replace H := ifn h1 H
 refine zo (fun w => opB (op_neq rfl rfl w) (ndF h1)) (zm rfl (zp (zp (zp (zo (op_pickT rfl rfl rfl) ?_)))))
 refine zm rfl (zp (zp (zp (zo (op_pickT rfl rfl rfl) (zn ?_)))))
 refine zt rfl rfl (zq ?_)
 refine Go1.cut [] trivial ?_
 intro σ _
 refine zr (za rfl (zn ?_))
 refine Go1.ret1 Try.func37 rfl ?_
 exact ⟨([] : List Int), none, 0, rfl, hB.same, (ISl.null _ _ _), H⟩
end Sg
