/- The walks: each call keeps to its plain transformer. Printed by walkgen.py. -/
import Derived.Test.YtjegjjdfgefkoaaTi
import Derived.Test.YtjegjjdfgefkoaaAl
namespace Sg
open Go Go.RowKit Go.Proofs
set_option linter.unusedVariables false
set_option linter.unusedSimpArgs false
set_option maxRecDepth 100000
set_option maxHeartbeats 4000000
theorem body48 : Body Try.prog 48 := ⟨Try.f48, Try.func48, rfl, by kernel_rfl⟩
theorem walk_ref11_Valid {A : List Nat} {w0 : World} {p_f : Option Addr} {c_f : Nat} {f : List Int} (hA : ∀ b ∈ A, b < w0.heap.size) (h_f : ISl (Rp.int .i64) A w0 p_f c_f f) {K : Bool → Prop} (H : ref11_Valid f K) :
    CallsV Try.prog 48 #[.slice p_f f.length c_f] w0 (fun v w' => ∃ (r0 : Bool), v = .bool r0 ∧ Same w0 w' ∧ K r0) := by
 refine CallsV.of (l := [.slice p_f f.length c_f]) Try.func48 rfl Try.ntmps48 rfl ?_
 have hO := Owns.start hA
 have hB := Fr.refl (bl []) w0
 unfold ref11_Valid at H
 refine zq (zr (za rfl (zn (zq (zq ?_)))))
 refine zr (zm rfl (zo (op_len Try.underlying26 rfl) ?_))
 replace h_f := h_f.ch (Ch.start A w0)
 replace H := H h_f.bd
 by_cases h1 : (f.length : Int) < (1 : Int)
 ·replace H := ifp h1 H
  refine zo (fun w => opB (op_lss rfl rfl w) (decide_eq_true h1)) (zm rfl (zp (zp (zp (zo (op_pickT rfl rfl rfl) ?_)))))
  refine zn (zt rfl rfl (zq (zr (za rfl (zn ?_)))))
  refine Go1.ret1 Try.func48 rfl ?_
  exact ⟨false, rfl, hB.same, H⟩
 replace H := ifn h1 H
 refine zo (fun w => opB (op_lss rfl rfl w) (decide_eq_false h1)) (zm rfl (zm rfl (zo (op_len Try.underlying26 rfl) ?_)))
 by_cases h2 : (32 : Int) < (f.length : Int)
 ·replace H := ifp h2 H
  refine zo (fun w => opB (op_gtr rfl rfl w) (decide_eq_true h2)) (zo (op_pickF rfl rfl rfl) (zn (zt rfl rfl (zq (zr ?_)))))
  refine za rfl (zn ?_)
  refine Go1.ret1 Try.func48 rfl ?_
  exact ⟨false, rfl, hB.same, H⟩
 replace H := ifn h2 H
 refine zo (fun w => opB (op_gtr rfl rfl w) (decide_eq_false h2)) (zo (op_pickF rfl rfl rfl) (zn (zf rfl rfl (zk (zq ?_)))))
 refine zq (zr (zm rfl (zo (op_len Try.underlying26 rfl) (zm rfl (zn ?_)))))
 refine zb ?_
 refine Go1.loopW (S := Nat) (fun s σ w => agrees σ [(0, .slice p_f f.length c_f), (13, .slice p_f f.length c_f), (14, .int .i64 (f.length : Int)), (15, .int .i64 (s : Int))] ∧ Owns w0.heap.size w [] A ∧ ISl (Rp.int .i64) (bl [] ++ A) w p_f c_f f ∧ Fr (bl []) w0 (bl []) w) H ⟨⟨rfl, rfl, rfl, rfl, trivial⟩, hO, h_f, hB⟩ ?_
 intro X1 k1_4
 intro H hX1 σ w3
 refine andE fun hag => andE fun hO => andE fun h_f => fun hB => ?_
 refine Go1.keep [(0, .slice p_f f.length c_f), (13, .slice p_f f.length c_f), (14, .int .i64 (f.length : Int)), (15, .int .i64 (k1_4 : Int))] hag ?_
 refine zq (zr ?_)
 by_cases h5 : (k1_4 : Int) < (f.length : Int)
 ·replace H := ifp h5 H
  refine zo (fun w => opB (op_lss rfl rfl w) (decide_eq_true h5)) (zn (zq (zt rfl rfl (zk (zq ?_)))))
  refine zb (zq (zr ?_))
  obtain ⟨h6, H⟩ := H
  obtain ⟨h7, H⟩ := H
  refine zo (op_index Try.underlying26 ti3 rfl rfl h6 h7 (h_f.some_ h6 h7)) (zs (ldInt h_f h6 h7 Try.underlying3 rfl rfl) (za rfl (zn (zq (zr ?_)))))
  refine zm rfl ?_
  by_cases h8 : (ix f (k1_4 : Int)) < (0 : Int)
  ·replace H := ifp h8 H
   refine zo (fun w => opB (op_lss rfl rfl w) (decide_eq_true h8)) (zm rfl (zp (zp (zp (zp ?_)))))
   refine zo (op_pickT rfl rfl rfl) (zn (zt rfl rfl (zq (zr (za rfl ?_)))))
   refine zn ?_
   refine Go1.ret1 Try.func48 rfl ?_
   exact ⟨false, rfl, hB.same, H⟩
  replace H := ifn h8 H
  refine zo (fun w => opB (op_lss rfl rfl w) (decide_eq_false h8)) (zm rfl (zm rfl (zm rfl (zo (op_len Try.underlying26 rfl) ?_))))
  by_cases h9 : (f.length : Int) ≤ (ix f (k1_4 : Int))
  ·replace H := ifp h9 H
   refine zo (fun w => opB (op_geq rfl rfl w) (decide_eq_true h9)) (zo (op_pickF rfl rfl rfl) (zn (zt rfl rfl (zq ?_))))
   refine Go1.cut [] trivial ?_
   intro σ _
   refine zr (za rfl (zn ?_))
   refine Go1.ret1 Try.func48 rfl ?_
   exact ⟨false, rfl, hB.same, H⟩
  replace H := ifn h9 H
  refine zo (fun w => opB (op_geq rfl rfl w) (decide_eq_false h9)) (zo (op_pickF rfl rfl rfl) (zn (zf rfl rfl (zk ?_))))
  refine Go1.inBlock ?_
  refine zr (zo (op_add rfl rfl (wrap_i64 (natbd h5 h_f.bd))) (zm rfl (zn ?_)))
  exact hX1 _ H _ _ ⟨⟨rfl, rfl, rfl, rfl, trivial⟩, hO, h_f, hB⟩
 replace H := ifn h5 H
 refine zo (fun w => opB (op_lss rfl rfl w) (decide_eq_false h5)) (zn (zq (zf rfl rfl ?_)))
 refine Go1.exit rfl ?_
 refine zq (zr (za rfl (zn ?_)))
 refine Go1.ret1 Try.func48 rfl ?_
 exact ⟨true, rfl, hB.same, H⟩
theorem body14 : Body Try.prog 14 := ⟨Try.f14, Try.func14, rfl, by kernel_rfl⟩
theorem walk_ref11_MayGens {A : List Nat} {w0 : World} {mt : Option Addr} {mv : Nat} {gens : List (List Int)} (hA : ∀ b ∈ A, b < w0.heap.size) (dw : ISl (Rp.sl (Rp.int .i64)) A w0 mt mv gens) {K : Bool → Prop} (H : ref11_MayGens gens K) :
    CallsV Try.prog 14 #[.slice mt gens.length mv] w0 (fun v w' => ∃ (r0 : Bool), v = .bool r0 ∧ Same w0 w' ∧ K r0) := by
 refine CallsV.of (l := [.slice mt gens.length mv]) Try.func14 rfl Try.ntmps14 rfl ?_
 have hO := Owns.start hA
 have hB := Fr.refl (bl []) w0
 unfold ref11_MayGens at H
 refine zq (zr (za rfl (zn (zq (zq ?_)))))
 refine zr (zm rfl (zo (op_len Try.underlying22 rfl) ?_))
 replace dw := dw.ch (Ch.start A w0)
 replace H := H dw.bd
 by_cases h1 : (gens.length : Int) < (1 : Int)
 ·replace H := ifp h1 H
  refine zo (fun w => opB (op_lss rfl rfl w) (decide_eq_true h1)) (zm rfl (zp (zp (zp (zo (op_pickT rfl rfl rfl) ?_)))))
  refine zn (zt rfl rfl (zq (zr (za rfl (zn ?_)))))
  refine Go1.ret1 Try.func14 rfl ?_
  exact ⟨false, rfl, hB.same, H⟩
 replace H := ifn h1 H
 refine zo (fun w => opB (op_lss rfl rfl w) (decide_eq_false h1)) (zm rfl (zm rfl (zo (op_len Try.underlying22 rfl) ?_)))
 by_cases h2 : (6 : Int) < (gens.length : Int)
 ·replace H := ifp h2 H
  refine zo (fun w => opB (op_gtr rfl rfl w) (decide_eq_true h2)) (zo (op_pickF rfl rfl rfl) (zn (zt rfl rfl (zq (zr ?_)))))
  refine za rfl (zn ?_)
  refine Go1.ret1 Try.func14 rfl ?_
  exact ⟨false, rfl, hB.same, H⟩
 replace H := ifn h2 H
 refine zo (fun w => opB (op_gtr rfl rfl w) (decide_eq_false h2)) (zo (op_pickF rfl rfl rfl) (zn (zf rfl rfl (zk (zq ?_)))))
 refine zq (zr (zm rfl (zo (op_len Try.underlying22 rfl) (zm rfl (zn ?_)))))
 refine zb ?_
 refine Go1.loopW (S := Nat) (fun s σ w => agrees σ [(0, .slice mt gens.length mv), (13, .slice mt gens.length mv), (14, .int .i64 (gens.length : Int)), (15, .int .i64 (s : Int))] ∧ Owns w0.heap.size w [] A ∧ ISl (Rp.sl (Rp.int .i64)) (bl [] ++ A) w mt mv gens ∧ Fr (bl []) w0 (bl []) w) H ⟨⟨rfl, rfl, rfl, rfl, trivial⟩, hO, dw, hB⟩ ?_
 intro X1 k1_4
 intro H hX1 σ w3
 refine andE fun hag => andE fun hO => andE fun dw => fun hB => ?_
 refine Go1.keep [(0, .slice mt gens.length mv), (13, .slice mt gens.length mv), (14, .int .i64 (gens.length : Int)), (15, .int .i64 (k1_4 : Int))] hag ?_
 refine zq (zr ?_)
 by_cases h5 : (k1_4 : Int) < (gens.length : Int)
 ·replace H := ifp h5 H
  refine zo (fun w => opB (op_lss rfl rfl w) (decide_eq_true h5)) (zn (zq (zt rfl rfl (zk (zq ?_)))))
  refine zb (zq (zr ?_))
  obtain ⟨h6, H⟩ := H
  obtain ⟨h7, H⟩ := H
  refine zo (op_index Try.underlying22 ti26 rfl rfl h6 h7 (dw.some_ h6 h7)) ?_
  have hobt := ldSl dw h6 h7
  obtain ⟨p8, c9, K8, YJ⟩ := hobt
  refine zs (YJ Try.underlying26 rfl rfl) (za rfl (zn (zq (zr (zm rfl ?_)))))
  refine GoR.call (op_call body48 rfl (walk_ref11_Valid hO.lt K8 H)) rfl rfl ?_
  rintro v16 w13 ⟨r12, rfl, Nd, H⟩
  have lG := Stp.same hO Nd
  replace hO := lG.own
  cases r12
  ·replace H := ifn Bool.false_ne_true H
   refine zo (op_not rfl) (zm rfl (zp (zp (zp (zp ?_)))))
   refine zp (zp (zp (zo (op_pickT rfl rfl rfl) (zn (zt rfl rfl ?_)))))
   refine zq (zr (za rfl (zn ?_)))
   refine Go1.ret1 Try.func14 rfl ?_
   replace hB := hB.trans lG.fr
   exact ⟨false, rfl, hB.same, H⟩
  replace H := ifp rfl H
  refine zo (op_not rfl) (zm rfl (zm rfl (zo (op_len Try.underlying26 rfl) ?_)))
  replace K8 := K8.ch lG.ch
  replace H := H K8.bd
  refine zm rfl ?_
  obtain ⟨h18, H⟩ := H
  obtain ⟨h19, H⟩ := H
  replace dw := dw.ch lG.ch
  refine zo (op_index Try.underlying22 ti26 rfl rfl h18 h19 (dw.some_ h18 h19)) ?_
  have hobt := ldSl dw h18 h19
  obtain ⟨p20, c21, YK, YL⟩ := hobt
  refine zs (YL Try.underlying26 rfl rfl) (zo (op_len Try.underlying26 rfl) ?_)
  replace H := H YK.bd
  by_cases h24 : ((ix gens (k1_4 : Int)).length : Int) = ((ix gens (0 : Int)).length : Int)
  ·replace H := ifp h24 H
   refine zo (fun w => opB (op_neq rfl rfl w) (ndT h24)) (zo (op_pickF rfl rfl rfl) (zn (zf rfl rfl (zk ?_))))
   refine Go1.inBlock ?_
   refine Go1.cut [(0, .slice mt gens.length mv), (13, .slice mt gens.length mv), (14, .int .i64 (gens.length : Int)), (15, .int .i64 (k1_4 : Int))] ⟨rfl, rfl, rfl, rfl, trivial⟩ ?_
   intro σ _
   refine zr (zo (op_add rfl rfl (wrap_i64 (natbd h5 dw.bd))) (zm rfl (zn ?_)))
   replace hB := hB.trans lG.fr
   exact hX1 _ H _ _ ⟨⟨rfl, rfl, rfl, rfl, trivial⟩, hO, dw, hB⟩
  replace H := ifn h24 H
  refine zo (fun w => opB (op_neq rfl rfl w) (ndF h24)) (zo (op_pickF rfl rfl rfl) (zn (zt rfl rfl (zq (zr ?_)))))
  refine za rfl (zn ?_)
  refine Go1.ret1 Try.func14 rfl ?_
  replace hB := hB.trans lG.fr
  exact ⟨false, rfl, hB.same, H⟩
 replace H := ifn h5 H
 refine zo (fun w => opB (op_lss rfl rfl w) (decide_eq_false h5)) (zn (zq (zf rfl rfl ?_)))
 refine Go1.exit rfl ?_
 refine zq (zr (za rfl (zn ?_)))
 refine Go1.ret1 Try.func14 rfl ?_
 exact ⟨true, rfl, hB.same, H⟩
theorem body15 : Body Try.prog 15 := ⟨Try.f15, Try.func15, rfl, by kernel_rfl⟩
theorem walk_law12_little {A : List Nat} {w0 : World} {mt : Option Addr} {mv : Nat} {gens : List (List Int)} {points : Int} {letters : Int} (hA : ∀ b ∈ A, b < w0.heap.size) (dw : ISl (Rp.sl (Rp.int .i64)) A w0 mt mv gens) {K : Bool → Prop} (H : law12_little gens points letters K) :
    CallsV Try.prog 15 #[.slice mt gens.length mv, .int .i64 points, .int .i64 letters] w0 (fun v w' => ∃ (r0 : Bool), v = .bool r0 ∧ Same w0 w' ∧ K r0) := by
 refine CallsV.of (l := [.slice mt gens.length mv, .int .i64 points, .int .i64 letters]) Try.func15 rfl Try.ntmps15 rfl ?_
 have hO := Owns.start hA
 have hB := Fr.refl (bl []) w0
 unfold law12_little at H
 refine zq (zr (za rfl (zn (zq (zr ?_)))))
 refine zm rfl ?_
 replace dw := dw.ch (Ch.start A w0)
 refine GoR.call (op_call body14 rfl (walk_ref11_MayGens hO.lt dw H)) rfl rfl ?_
 rintro v5 w2 ⟨r1, rfl, hs3, H⟩
 have Cm := Stp.same hO hs3
 replace hO := Cm.own
 refine zm rfl ?_
 cases r1
 ·replace H := ifn Bool.false_ne_true H
  refine zp (zp (zp (zp (zo (op_pickF rfl rfl rfl) (zm rfl ?_)))))
  refine zp (zp (zp (zp (zp (zp ?_)))))
  refine zo (op_pickF rfl rfl rfl) (za rfl (zn ?_))
  refine Go1.ret1 Try.func15 rfl ?_
  replace hB := hB.trans Cm.fr
  exact ⟨false, rfl, hB.same, H⟩
 replace H := ifp rfl H
 refine zm rfl (zo (op_len Try.underlying22 rfl) ?_)
 replace dw := dw.ch Cm.ch
 replace H := H dw.bd
 refine zm rfl ?_
 by_cases h7 : (gens.length : Int) ≤ letters
 ·replace H := ifp h7 H
  refine zo (fun w => opB (op_leq rfl rfl w) (decide_eq_true h7)) (zo (op_pickT rfl rfl rfl) (zm rfl (zm rfl ?_)))
  obtain ⟨h8, H⟩ := H
  obtain ⟨h9, H⟩ := H
  refine zo (op_index Try.underlying22 ti26 rfl rfl h8 h9 (dw.some_ h8 h9)) ?_
  have hobt := ldSl dw h8 h9
  obtain ⟨p10, c11, Kg, Nf⟩ := hobt
  refine zs (Nf Try.underlying26 rfl rfl) (zo (op_len Try.underlying26 rfl) ?_)
  replace H := H Kg.bd
  refine zm rfl ?_
  by_cases h14 : ((ix gens (0 : Int)).length : Int) ≤ points
  ·replace H := ifp h14 H
   refine zo (fun w => opB (op_leq rfl rfl w) (decide_eq_true h14)) (zo (op_pickT rfl rfl rfl) (za rfl (zn ?_)))
   refine Go1.ret1 Try.func15 rfl ?_
   replace hB := hB.trans Cm.fr
   exact ⟨true, rfl, hB.same, H⟩
  replace H := ifn h14 H
  refine zo (fun w => opB (op_leq rfl rfl w) (decide_eq_false h14)) (zo (op_pickT rfl rfl rfl) (za rfl (zn ?_)))
  refine Go1.ret1 Try.func15 rfl ?_
  replace hB := hB.trans Cm.fr
  exact ⟨false, rfl, hB.same, H⟩
 replace H := ifn h7 H
 refine zo (fun w => opB (op_leq rfl rfl w) (decide_eq_false h7)) (zo (op_pickT rfl rfl rfl) (zm rfl (zp (zp (zp ?_)))))
 refine zp (zp (zp (zo (op_pickF rfl rfl rfl) (za rfl (zn ?_)))))
 refine Go1.ret1 Try.func15 rfl ?_
 replace hB := hB.trans Cm.fr
 exact ⟨false, rfl, hB.same, H⟩
theorem body60 : Body Try.prog 60 := ⟨Try.f60, Try.func60, rfl, by kernel_rfl⟩
theorem walk_trans_Valid {A : List Nat} {w0 : World} {p_f : Option Addr} {c_f : Nat} {f : List Int} (hA : ∀ b ∈ A, b < w0.heap.size) (h_f : ISl (Rp.int .i64) A w0 p_f c_f f) {K : Bool → Prop} (H : trans_Valid f K) :
    CallsV Try.prog 60 #[.slice p_f f.length c_f] w0 (fun v w' => ∃ (r0 : Bool), v = .bool r0 ∧ Same w0 w' ∧ K r0) := by
 refine CallsV.of (l := [.slice p_f f.length c_f]) Try.func60 rfl Try.ntmps60 rfl ?_
 have hO := Owns.start hA
 have hB := Fr.refl (bl []) w0
 unfold trans_Valid at H
 refine zq (zr (za rfl (zn (zq (zq ?_)))))
 refine zr (zm rfl (zo (op_len Try.underlying26 rfl) ?_))
 replace h_f := h_f.ch (Ch.start A w0)
 replace H := H h_f.bd
 by_cases h1 : (f.length : Int) < (1 : Int)
 ·replace H := ifp h1 H
  refine zo (fun w => opB (op_lss rfl rfl w) (decide_eq_true h1)) (zm rfl (zp (zp (zp (zo (op_pickT rfl rfl rfl) ?_)))))
  refine zn (zt rfl rfl (zq (zr (za rfl (zn ?_)))))
  refine Go1.ret1 Try.func60 rfl ?_
  exact ⟨false, rfl, hB.same, H⟩
 replace H := ifn h1 H
 refine zo (fun w => opB (op_lss rfl rfl w) (decide_eq_false h1)) (zm rfl (zm rfl (zo (op_len Try.underlying26 rfl) ?_)))
 by_cases h2 : (32 : Int) < (f.length : Int)
 ·replace H := ifp h2 H
  refine zo (fun w => opB (op_gtr rfl rfl w) (decide_eq_true h2)) (zo (op_pickF rfl rfl rfl) (zn (zt rfl rfl (zq (zr ?_)))))
  refine za rfl (zn ?_)
  refine Go1.ret1 Try.func60 rfl ?_
  exact ⟨false, rfl, hB.same, H⟩
 replace H := ifn h2 H
 refine zo (fun w => opB (op_gtr rfl rfl w) (decide_eq_false h2)) (zo (op_pickF rfl rfl rfl) (zn (zf rfl rfl (zk (zq ?_)))))
 refine zq (zr (zm rfl (zo (op_len Try.underlying26 rfl) (zm rfl (zn ?_)))))
 refine zb ?_
 refine Go1.loopW (S := Nat) (fun s σ w => agrees σ [(0, .slice p_f f.length c_f), (13, .slice p_f f.length c_f), (14, .int .i64 (f.length : Int)), (15, .int .i64 (s : Int))] ∧ Owns w0.heap.size w [] A ∧ ISl (Rp.int .i64) (bl [] ++ A) w p_f c_f f ∧ Fr (bl []) w0 (bl []) w) H ⟨⟨rfl, rfl, rfl, rfl, trivial⟩, hO, h_f, hB⟩ ?_
 intro X1 k1_4
 intro H hX1 σ w3
 refine andE fun hag => andE fun hO => andE fun h_f => fun hB => ?_
 refine Go1.keep [(0, .slice p_f f.length c_f), (13, .slice p_f f.length c_f), (14, .int .i64 (f.length : Int)), (15, .int .i64 (k1_4 : Int))] hag ?_
 refine zq (zr ?_)
 by_cases h5 : (k1_4 : Int) < (f.length : Int)
 ·replace H := ifp h5 H
  refine zo (fun w => opB (op_lss rfl rfl w) (decide_eq_true h5)) (zn (zq (zt rfl rfl (zk (zq ?_)))))
  refine zb (zq (zr ?_))
  obtain ⟨h6, H⟩ := H
  obtain ⟨h7, H⟩ := H
  refine zo (op_index Try.underlying26 ti3 rfl rfl h6 h7 (h_f.some_ h6 h7)) (zs (ldInt h_f h6 h7 Try.underlying3 rfl rfl) (za rfl (zn (zq (zr ?_)))))
  refine zm rfl ?_
  by_cases h8 : (ix f (k1_4 : Int)) < (0 : Int)
  ·replace H := ifp h8 H
   refine zo (fun w => opB (op_lss rfl rfl w) (decide_eq_true h8)) (zm rfl (zp (zp (zp (zp ?_)))))
   refine zo (op_pickT rfl rfl rfl) (zn (zt rfl rfl (zq (zr (za rfl ?_)))))
   refine zn ?_
   refine Go1.ret1 Try.func60 rfl ?_
   exact ⟨false, rfl, hB.same, H⟩
  replace H := ifn h8 H
  refine zo (fun w => opB (op_lss rfl rfl w) (decide_eq_false h8)) (zm rfl (zm rfl (zm rfl (zo (op_len Try.underlying26 rfl) ?_))))
  by_cases h9 : (f.length : Int) ≤ (ix f (k1_4 : Int))
  ·replace H := ifp h9 H
   refine zo (fun w => opB (op_geq rfl rfl w) (decide_eq_true h9)) (zo (op_pickF rfl rfl rfl) (zn (zt rfl rfl (zq ?_))))
   refine Go1.cut [] trivial ?_
   intro σ _
   refine zr (za rfl (zn ?_))
   refine Go1.ret1 Try.func60 rfl ?_
   exact ⟨false, rfl, hB.same, H⟩
  replace H := ifn h9 H
  refine zo (fun w => opB (op_geq rfl rfl w) (decide_eq_false h9)) (zo (op_pickF rfl rfl rfl) (zn (zf rfl rfl (zk ?_))))
  refine Go1.inBlock ?_
  refine zr (zo (op_add rfl rfl (wrap_i64 (natbd h5 h_f.bd))) (zm rfl (zn ?_)))
  exact hX1 _ H _ _ ⟨⟨rfl, rfl, rfl, rfl, trivial⟩, hO, h_f, hB⟩
 replace H := ifn h5 H
 refine zo (fun w => opB (op_lss rfl rfl w) (decide_eq_false h5)) (zn (zq (zf rfl rfl ?_)))
 refine Go1.exit rfl ?_
 refine zq (zr (za rfl (zn ?_)))
 refine Go1.ret1 Try.func60 rfl ?_
 exact ⟨true, rfl, hB.same, H⟩
theorem body64 : Body Try.prog 64 := ⟨Try.f64, Try.func64, rfl, by kernel_rfl⟩
theorem walk_slices_Clone_int {A : List Nat} {w0 : World} {p_s : Option Addr} {c_s : Nat} {s : List Int} (hA : ∀ b ∈ A, b < w0.heap.size) (h_s : ISl (Rp.int .i64) A w0 p_s c_s s) {K : List Int → Prop} (H : slices_Clone_int s K) :
    CallsV Try.prog 64 #[.slice p_s s.length c_s] w0 (fun v w' => ∃ (r0 : List Int), ∃ (Jk : Nat), ∃ (wU : Option Addr), ∃ (wV : Nat), ∃ (K9 : List Value), v = .slice wU Jk wV ∧ Same w0 w' ∧ Owns w0.heap.size w' [.row 3 1 wU Jk wV K9] A ∧ Els (Rp.int .i64) (bl [.row 3 1 wU Jk wV K9] ++ A) w' K9 r0 ∧ K r0) := by
 refine CallsV.of (l := [.slice p_s s.length c_s]) Try.func64 rfl Try.ntmps64 rfl ?_
 have hO := Owns.start hA
 have hB := Fr.refl (bl []) w0
 unfold slices_Clone_int at H
 refine zq (zr (za rfl (zn (zq (zq ?_)))))
 refine zr (zm rfl ?_)
 replace h_s := h_s.ch (Ch.start A w0)
 replace H := H p_s.isNone (fun h => h_s.nilD h)
 by_cases hz2 : p_s.isNone = true
 ·replace H := ifp hz2 H
  refine zo (fun w => opB (op_nilSlice Try.underlying26 rfl rfl w) (hz2)) (zn (zt rfl rfl (zq (zr (za rfl ?_)))))
  refine zn ?_
  have ou := Stp.nil (e := 3) (r := 1) hO
  replace hO := ou.own
  have hE5 := Els.nil (Rp.int .i64) (bl (.row 3 1 none 0 0 [] :: []) ++ A) w0
  refine Go1.ret1 Try.func64 rfl ?_
  replace hB := hB.trans ou.fr
  exact ⟨(([] : List Int)), 0, none, 0, ([]), rfl, hB.same, hO, hE5, H⟩
 ·replace H := ifn hz2 H
  refine zo (fun w => opB (op_nilSlice Try.underlying26 rfl rfl w) (Bool.eq_false_iff.2 hz2)) (zn (zf rfl rfl (zk (zq (zr ?_)))))
  have hobt := obuild (r := Rp.int .i64) (n := 0) (parts := []) (vs := []) (xs := ([] : List Int)) rfl Try.underlying26 ti3 hO (by decide) (by kernel_rfl) (Els.nil _ _ _) rfl
  obtain ⟨w6, p7, Ng, hE9, Hn, BI⟩ := hobt
  refine zg (BI rfl) ?_
  replace hO := Ng.own
  refine zm rfl ?_
  obtain ⟨h13, H⟩ := H
  replace h_s := h_s.ch Ng.ch
  have hobt := oapp Try.underlying26 ti3 rfl 0 hO rfl hE9 h_s rfl h13 (by decide)
  obtain ⟨w14, p15, c16, rf, mO, YM, La⟩ := hobt
  refine zg (La (by exact rfl) (by exact rfl)) ?_
  replace hO := mO.own
  refine za rfl (zn ?_)
  refine Go1.ret1 Try.func64 rfl ?_
  replace hB := (hB.trans Ng.fr).trans mO.fr
  exact ⟨((([] : List Int)) ++ s), (0 + s.length), p15, c16, rf, rfl, hB.same, hO, YM, H⟩
theorem body62 : Body Try.prog 62 := ⟨Try.f62, Try.func62, rfl, by kernel_rfl⟩
theorem walk_trans_Identity {A : List Nat} {w0 : World} {n : Int} (hA : ∀ b ∈ A, b < w0.heap.size) {K : List Int → Prop} (H : trans_Identity n K) :
    CallsV Try.prog 62 #[.int .i64 n] w0 (fun v w' => ∃ (r0 : List Int), ∃ (wU : Option Addr), ∃ (wV : Nat), v = .slice wU r0.length wV ∧ Same w0 w' ∧ ISl (Rp.int .i64) A w' wU wV r0 ∧ K r0) := by
 refine CallsV.of (l := [.int .i64 n]) Try.func62 rfl Try.ntmps62 rfl ?_
 have hO := Owns.start hA
 have hB := Fr.refl (bl []) w0
 unfold trans_Identity at H
 refine zq (zr (za rfl (zn (zq (zq ?_)))))
 refine zr (zm rfl ?_)
 by_cases h1 : n < (1 : Int)
 ·replace H := ifp h1 H
  refine zo (fun w => opB (op_lss rfl rfl w) (decide_eq_true h1)) (zm rfl (zp (zp (zo (op_pickT rfl rfl rfl) (zn ?_)))))
  refine zt rfl rfl (zq (zr (za rfl (zn ?_))))
  refine Go1.ret1 Try.func62 rfl ?_
  exact ⟨([] : List Int), none, 0, rfl, hB.same, (ISl.null _ _ _), H⟩
 replace H := ifn h1 H
 refine zo (fun w => opB (op_lss rfl rfl w) (decide_eq_false h1)) (zm rfl (zm rfl ?_))
 by_cases h2 : (32 : Int) < n
 ·replace H := ifp h2 H
  refine zo (fun w => opB (op_gtr rfl rfl w) (decide_eq_true h2)) (zo (op_pickF rfl rfl rfl) (zn (zt rfl rfl (zq (zr ?_)))))
  refine za rfl (zn ?_)
  refine Go1.ret1 Try.func62 rfl ?_
  exact ⟨([] : List Int), none, 0, rfl, hB.same, (ISl.null _ _ _), H⟩
 replace H := ifn h2 H
 refine zo (fun w => opB (op_gtr rfl rfl w) (decide_eq_false h2)) (zo (op_pickF rfl rfl rfl) (zn (zf rfl rfl (zk (zq ?_)))))
 refine zr (zm rfl ?_)
 obtain ⟨h10, H⟩ := H
 obtain ⟨h11, H⟩ := H
 have hobt := omake (n := n) (r := Rp.int .i64) (d := (0 : Int)) Try.underlying26 ti3 (fun _ _ => rfl) rfl hO h10 h11 (by decide)
 obtain ⟨w3, p4, vs5, Cm, hE7, hs8, YN⟩ := hobt
 refine zg (YN rfl rfl) ?_
 replace hO := Cm.own
 refine za rfl (zn (zq (zq (zr (zm rfl ?_)))))
 refine zo (op_lenN Try.underlying26 rfl (hE7.neq hO 0 rfl)) (zm rfl (zn (zb ?_)))
 replace hB := hB.trans Cm.fr
 refine Go1.loopW (S := Nat × List Int) (fun s σ w => match s with | (k1_14, f1_15) => ∃ (Ij : List Value), agrees σ [(3, .slice p4 n.toNat n.toNat), (14, .int .i64 ((List.replicate n.toNat ((0 : Int))).length : Int)), (15, .int .i64 (k1_14 : Int))] ∧ (fun Z0 => Owns w0.heap.size w Z0 A ∧ Els (Rp.int .i64) (bl Z0 ++ A) w Ij f1_15 ∧ Fr (bl []) w0 (bl Z0) w) [.row 3 1 p4 n.toNat n.toNat Ij]) H ⟨vs5, ⟨rfl, rfl, rfl, trivial⟩, hO, hE7, hB⟩ ?_
 intro X1
 refine prE fun k1_14 => fun f1_15 => ?_
 intro H hX1 σ w13
 refine exE fun Ij => andE fun hag => andE fun hO => andE fun Lb => fun hB => ?_
 dsimp only at H
 refine Go1.keep [(3, .slice p4 n.toNat n.toNat), (14, .int .i64 ((List.replicate n.toNat ((0 : Int))).length : Int)), (15, .int .i64 (k1_14 : Int))] hag ?_
 refine zq (zr ?_)
 by_cases h18 : (k1_14 : Int) < ((List.replicate n.toNat ((0 : Int))).length : Int)
 ·replace H := ifp h18 H
  refine zo (fun w => opB (op_lss rfl rfl w) (decide_eq_true h18)) (zn (zq (zt rfl rfl (zk (zq ?_)))))
  refine zb (zq (zr (zm rfl (za rfl (zn ?_)))))
  refine zr (zm rfl (zm rfl (zm rfl ?_)))
  obtain ⟨h19, H⟩ := H
  obtain ⟨h20, H⟩ := H
  refine zo (op_index Try.underlying26 ti3 rfl rfl h19 (ltn (Lb.neq hO 0 rfl) h20) (Lb.psome hO 0 rfl h19 h20)) ?_
  have hobt := ost (r := Rp.int .i64) rfl 0 hO rfl Lb h19 h20 (v := .int .i64 (k1_14 : Int)) (u := (k1_14 : Int)) rfl rfl
  obtain ⟨w21, Nh, iD, cH, Gd⟩ := hobt
  refine zg (Gd Try.underlying3 rfl ti3 (by exact rfl) (by exact rfl)) ?_
  replace hO := iD.own
  refine zn ?_
  refine Go1.inBlock ?_
  refine zr ?_
  obtain ⟨h26, H⟩ := H
  refine zo (op_add rfl rfl (wrap_i64 h26)) (zm rfl (zn ?_))
  replace hB := hB.trans iD.fr
  exact hX1 _ H _ _ ⟨Nh, ⟨rfl, rfl, rfl, trivial⟩, hO, cH, hB⟩
 replace H := ifn h18 H
 refine zo (fun w => opB (op_lss rfl rfl w) (decide_eq_false h18)) (zn (zq (zf rfl rfl ?_)))
 refine Go1.exit rfl ?_
 refine zq (zr (zm rfl (za rfl (zn ?_))))
 have hobt := freeze 0 hO rfl Lb
 obtain ⟨hO1, Ho, YO, YP⟩ := hobt
 replace hO := hO1; clear hO1
 refine Go1.ret1 Try.func62 rfl ?_
 replace hB := hB.trans (Owns.dropFr _ _ 0)
 exact ⟨f1_15, p4, n.toNat, (congrArg (fun nn => Value.slice p4 nn n.toNat) YP), hB.same, (YO.ch (Ch.weak _ _ _)), H⟩
theorem body61 : Body Try.prog 61 := ⟨Try.f61, Try.func61, rfl, by kernel_rfl⟩
theorem walk_enumerate_text {A : List Nat} {w0 : World} {p_f : Option Addr} {c_f : Nat} {f : List Int} (hA : ∀ b ∈ A, b < w0.heap.size) (h_f : ISl (Rp.int .i64) A w0 p_f c_f f) {K : Str → Prop} (H : enumerate_text f K) :
    CallsV Try.prog 61 #[.slice p_f f.length c_f] w0 (fun v w' => ∃ (r0 : Str), v = .string (gstr r0) ∧ Same w0 w' ∧ r0.length ≤ mx ∧ K r0) := by
 refine CallsV.of (l := [.slice p_f f.length c_f]) Try.func61 rfl Try.ntmps61 rfl ?_
 have hO := Owns.start hA
 have hB := Fr.refl (bl []) w0
 unfold enumerate_text at H
 refine zq (zr (za rfl (zn (zq (zr ?_)))))
 refine zm rfl (zo (op_len Try.underlying26 rfl) ?_)
 replace h_f := h_f.ch (Ch.start A w0)
 replace H := H h_f.bd
 obtain ⟨h8, H⟩ := H
 obtain ⟨h9, H⟩ := H
 have hobt := omake (n := (f.length : Int)) (r := Rp.int .u8) (d := (0 : Int)) Try.underlying84 ti5 (fun _ _ => rfl) rfl hO h8 h9 (by decide)
 obtain ⟨w1, p2, vs3, ou, hE5, hs6, Cn⟩ := hobt
 refine zg (Cn rfl rfl) ?_
 replace hO := ou.own
 refine za rfl (zn (zq (zq (zr (zm rfl ?_)))))
 refine zo (op_len Try.underlying26 rfl) (zm rfl (zn (zb ?_)))
 replace h_f := h_f.ch ou.ch
 replace hB := hB.trans ou.fr
 refine Go1.loopW (S := Nat × List Int) (fun s σ w => match s with | (k1_12, b1_13) => ∃ (lO : List Value), agrees σ [(3, .slice p2 f.length f.length), (9, .slice p_f f.length c_f), (10, .int .i64 (f.length : Int)), (11, .int .i64 (k1_12 : Int))] ∧ (fun Z0 => Owns w0.heap.size w Z0 A ∧ Els (Rp.int .u8) (bl Z0 ++ A) w lO b1_13 ∧ ISl (Rp.int .i64) (bl Z0 ++ A) w p_f c_f f ∧ Fr (bl []) w0 (bl Z0) w) [.row 5 1 p2 f.length f.length lO]) H ⟨vs3, ⟨rfl, rfl, rfl, rfl, trivial⟩, hO, hE5, h_f, hB⟩ ?_
 intro X1
 refine prE fun k1_12 => fun b1_13 => ?_
 intro H hX1 σ w11
 refine exE fun lO => andE fun hag => andE fun hO => andE fun bt => andE fun h_f => fun hB => ?_
 dsimp only at H
 refine Go1.keep [(3, .slice p2 f.length f.length), (9, .slice p_f f.length c_f), (10, .int .i64 (f.length : Int)), (11, .int .i64 (k1_12 : Int))] hag ?_
 refine zq (zr ?_)
 by_cases h16 : (k1_12 : Int) < (f.length : Int)
 ·replace H := ifp h16 H
  refine zo (fun w => opB (op_lss rfl rfl w) (decide_eq_true h16)) (zn (zq (zt rfl rfl (zk (zq ?_)))))
  refine zb (zq (zr (zm rfl ?_)))
  obtain ⟨h17, H⟩ := H
  obtain ⟨h18, H⟩ := H
  refine zo (op_index Try.underlying26 ti3 rfl rfl h17 h18 (h_f.some_ h17 h18)) (zs (ldInt h_f h17 h18 Try.underlying3 rfl rfl) (za rfl (za rfl (zn (zr ?_)))))
  refine zm rfl (zm rfl (zm rfl (zo (op_conv Try.underlying3 Try.underlying5 rfl rfl) ?_)))
  obtain ⟨h19, H⟩ := H
  obtain ⟨h20, H⟩ := H
  refine zo (op_index Try.underlying84 ti5 rfl rfl h19 (ltn (bt.neq hO 0 rfl) h20) (bt.psome hO 0 rfl h19 h20)) ?_
  have hobt := ost (r := Rp.int .u8) rfl 0 hO rfl bt h19 h20 (v := .int .u8 (IntKind.u8.wrap (ix f (k1_12 : Int)))) (u := (IntKind.u8.wrap (ix f (k1_12 : Int)))) rfl rfl
  obtain ⟨w21, Nh, iD, cH, Gd⟩ := hobt
  refine zg (Gd Try.underlying5 rfl ti5 (by exact rfl) (by exact rfl)) ?_
  replace hO := iD.own
  refine zn ?_
  refine Go1.inBlock ?_
  refine zr ?_
  replace h_f := h_f.ch iD.ch
  refine zo (op_add rfl rfl (wrap_i64 (natbd h16 h_f.bd))) (zm rfl (zn ?_))
  replace hB := hB.trans iD.fr
  exact hX1 _ H _ _ ⟨Nh, ⟨rfl, rfl, rfl, rfl, trivial⟩, hO, cH, h_f, hB⟩
 replace H := ifn h16 H
 refine zo (fun w => opB (op_lss rfl rfl w) (decide_eq_false h16)) (zn (zq (zf rfl rfl ?_)))
 refine Go1.exit rfl ?_
 refine zq (zr (zm rfl ?_))
 have hle26 := byt_le bt.bd
 refine zs (oldBytes 0 hO rfl bt Try.underlying84 Try.underlying5 Try.underlying9 rfl) (za rfl (zn ?_))
 refine Go1.ret1 Try.func61 rfl ?_
 exact ⟨byt b1_13, rfl, hB.same, hle26, H⟩
theorem body65 : Body Try.prog 65 := ⟨Try.f65, Try.func65, rfl, by kernel_rfl⟩
theorem body49 : Body Try.prog 49 := ⟨Try.f49, Try.func49, rfl, by kernel_rfl⟩
theorem walk_enumerate_begin {A : List Nat} {w0 : World} {nI : Option Addr} {nJ : Nat} {a0 : List (List Int)} {a1 : Bool} (hA : ∀ b ∈ A, b < w0.heap.size) (ai : ISl (Rp.sl (Rp.int .i64)) A w0 nI nJ a0) {K : Option run → Int → Prop} (H : enumerate_begin a0 a1 K) :
    CallsV Try.prog 49 #[.slice nI a0.length nJ, .bool a1] w0 (fun v w' => (∃ (r1 : Int), v = .tuple #[.pointer none, .int .i64 r1] ∧ Same w0 w' ∧ K none r1) ∨ (∃ (q : run), ∃ (r1 : Int), ∃ (b_q : Nat), ∃ (ba : Nat), ∃ (bc : Option Addr), ∃ (bf : Nat), ∃ (ck : List Value), ∃ (aP : Nat), ∃ (aQ : Option Addr), ∃ (aR : Nat), ∃ (bW : List Value), ∃ (aI : Nat), ∃ (aJ : Option Addr), ∃ (aK : Nat), ∃ (bM : List Value), ∃ (bg : Nat), ∃ (bh : Option Addr), ∃ (bi : Nat), ∃ (co : List Value), ∃ (aS : Nat), ∃ (aT : Option Addr), ∃ (aU : Nat), ∃ (bX : List Value), ∃ (aV : Nat), ∃ (aW : Option Addr), ∃ (aX : Nat), ∃ (bY : List Value), ∃ (cU : Nat), ∃ (bP : Nat), ∃ (bQ : Option Addr), ∃ (bS : Nat), ∃ (dE : List Value), ∃ (bu : Nat), ∃ (bv : Option Addr), ∃ (bw : Nat), ∃ (di : List Value), ∃ (bx : Nat), ∃ (bz : Option Addr), ∃ (bA : Nat), ∃ (dj : List Value), v = .tuple #[.pointer (some ⟨b_q, 0, none⟩), .int .i64 r1] ∧ Same w0 w' ∧ (fun Z0 => Owns w0.heap.size w' Z0 A ∧ Els (Rp.sl (Rp.int .i64)) (bl Z0 ++ A) w' ck q.Enum.Gens ∧ Els (Rp.sl (Rp.int .i64)) (bl Z0 ++ A) w' bW q.Enum.Elems ∧ Els (Rp.int .i64) (bl Z0 ++ A) w' bM q.Enum.Prefix ∧ Els (Rp.int .i64) (bl Z0 ++ A) w' co q.Enum.Last ∧ Els (Rp.sl (Rp.int .i64)) (bl Z0 ++ A) w' bX q.Enum.Right ∧ Els (rpRule) (bl Z0 ++ A) w' bY q.Enum.Rules ∧ Els (Rp.str) (bl Z0 ++ A) w' dE q.words ∧ Els (Rp.int .i64) (bl Z0 ++ A) w' di q.behind ∧ Els (Rp.int .i64) (bl Z0 ++ A) w' dj q.single ∧ K (some q) r1) [.blk b_q (.cells #[.int .i64 q.Enum.Points, .bool q.Enum.Monoid, .slice bc ba bf, .slice aQ aP aR, .slice aJ aI aK, .slice bh bg bi, .slice aT aS aU, .slice aW aV aX, .int .i64 q.Enum.Done, .map (some cU), .slice bQ bP bS, .slice bv bu bw, .slice bz bx bA] 72 (0, 0)), .row 26 1 bc ba bf ck, .row 26 1 aQ aP aR bW, .row 3 1 aJ aI aK bM, .row 3 1 bh bg bi co, .row 26 1 aT aS aU bX, .row 39 2 aW aV aX bY, .row 9 1 bQ bP bS dE, .row 3 1 bv bu bw di, .row 3 1 bz bx bA dj, .any (mapE (fun a : List UInt8 => Value.string (gstr a)) (fun a : Int => Value.int .i64 a) cU q.number)])) := by
 refine CallsV.of (l := [.slice nI a0.length nJ, .bool a1]) Try.func49 rfl Try.ntmps49 rfl ?_
 have hO := Owns.start hA
 have hB := Fr.refl (bl []) w0
 unfold enumerate_begin at H
 refine zq (zr (za rfl (za rfl (zn (zq ?_)))))
 refine zq (zr (zm rfl (zo (op_len Try.underlying22 rfl) ?_)))
 replace ai := ai.ch (Ch.start A w0)
 replace H := H ai.bd
 by_cases h1 : (a0.length : Int) = (0 : Int)
 ·replace H := ifp h1 H
  refine zo (fun w => opB (op_eql rfl rfl w) (decide_eq_true h1)) (zm rfl (zp (zp (zp (zo (op_pickT rfl rfl rfl) ?_)))))
  refine zn (zt rfl rfl (zq (zr (za rfl (za rfl ?_)))))
  refine zn ?_
  refine Go1.ret2 Try.func49 rfl ?_
  exact Or.inl ⟨((1 : Int)), rfl, hB.same, H⟩
 replace H := ifn h1 H
 refine zo (fun w => opB (op_eql rfl rfl w) (decide_eq_false h1)) (zm rfl (zm rfl (zo (op_len Try.underlying22 rfl) ?_)))
 by_cases h2 : (6 : Int) < (a0.length : Int)
 ·replace H := ifp h2 H
  refine zo (fun w => opB (op_gtr rfl rfl w) (decide_eq_true h2)) (zo (op_pickF rfl rfl rfl) (zn (zt rfl rfl (zq (zr ?_)))))
  refine za rfl (za rfl (zn ?_))
  refine Go1.ret2 Try.func49 rfl ?_
  exact Or.inl ⟨((1 : Int)), rfl, hB.same, H⟩
 replace H := ifn h2 H
 refine zo (fun w => opB (op_gtr rfl rfl w) (decide_eq_false h2)) (zo (op_pickF rfl rfl rfl) (zn (zf rfl rfl (zk (zq ?_)))))
 refine Go1.cut [(0, .slice nI a0.length nJ), (1, .bool a1)] ⟨rfl, rfl, trivial⟩ ?_
 intro σ _
 refine zr ?_
 have hobt := omakeMap (fun a : List UInt8 => Value.string (gstr a)) (fun a : Int => Value.int .i64 a) hO
 obtain ⟨w3, B4, Ni, hs6, Cn⟩ := hobt
 refine GoR.op Cn rfl rfl ?_
 replace hO := Ni.own
 refine zo (op_build Try.underlying72 ti72 (pl := [(0, 9), (9, 1), (10, 1), (11, 1), (12, 1)]) (vs := [(1, .map (some B4))]) (cs := #[.int .i64 (0 : Int), .bool false, .slice none 0 0, .slice none 0 0, .slice none 0 0, .slice none 0 0, .slice none 0 0, .slice none 0 0, .int .i64 (0 : Int), .map (some B4), .slice none 0 0, .slice none 0 0, .slice none 0 0]) (by kernel_rfl) rfl (by kernel_rfl)) ?_
 have hobt := obox (t := 72) (v := .agg #[.int .i64 (0 : Int), .bool false, .slice none 0 0, .slice none 0 0, .slice none 0 0, .slice none 0 0, .slice none 0 0, .slice none 0 0, .int .i64 (0 : Int), .map (some B4), .slice none 0 0, .slice none 0 0, .slice none 0 0]) (cs := #[.int .i64 (0 : Int), .bool false, .slice none 0 0, .slice none 0 0, .slice none 0 0, .slice none 0 0, .slice none 0 0, .slice none 0 0, .int .i64 (0 : Int), .map (some B4), .slice none 0 0, .slice none 0 0, .slice none 0 0]) hO rfl
 obtain ⟨w9, B10, Lc, Nj, Ld⟩ := hobt
 refine zg (Ld rfl) ?_
 replace hO := Lc.own
 refine za rfl (zn (zq (zr (zm rfl (zm rfl ?_)))))
 refine zm rfl ?_
 obtain ⟨h15, H⟩ := H
 obtain ⟨h16, H⟩ := H
 replace ai := (ai.ch Ni.ch).ch Lc.ch
 refine zo (op_index Try.underlying22 ti26 rfl rfl h15 h16 (ai.some_ h15 h16)) ?_
 have hobt := ldSl ai h15 h16
 obtain ⟨p17, c18, Ik, YQ⟩ := hobt
 refine zs (YQ Try.underlying26 rfl rfl) (zo (op_len Try.underlying26 rfl) ?_)
 replace H := H Ik.bd
 refine zm rfl (zo (op_nilCheck rfl) (zo (op_fieldAddr Try.underlying72 rfl ti29 rfl (by decide)) (zo (op_fieldAddr Try.underlying29 rfl ti3 rfl (by decide)) ?_)))
 have hobt := oblkSt2 (v := .int .i64 ((ix a0 (0 : Int)).length : Int)) (i := 0) (cs' := #[.int .i64 ((ix a0 (0 : Int)).length : Int), .bool false, .slice none 0 0, .slice none 0 0, .slice none 0 0, .slice none 0 0, .slice none 0 0, .slice none 0 0, .int .i64 (0 : Int), .map (some B4), .slice none 0 0, .slice none 0 0, .slice none 0 0]) 0 hO rfl rfl rfl rfl
 obtain ⟨w21, d9, Ge⟩ := hobt
 refine zg (Ge Try.underlying3 rfl ti3 (by exact rfl) (by exact rfl)) ?_
 replace hO := d9.own
 refine zo (op_nilCheck rfl) (zo (op_fieldAddr Try.underlying72 rfl ti29 rfl (by decide)) (zo (op_fieldAddr Try.underlying29 rfl ti4 rfl (by decide)) ?_))
 have hobt := oblkSt2 (v := .bool a1) (i := 1) (cs' := #[.int .i64 ((ix a0 (0 : Int)).length : Int), .bool a1, .slice none 0 0, .slice none 0 0, .slice none 0 0, .slice none 0 0, .slice none 0 0, .slice none 0 0, .int .i64 (0 : Int), .map (some B4), .slice none 0 0, .slice none 0 0, .slice none 0 0]) 0 hO rfl rfl rfl rfl
 obtain ⟨w24, uE, Le⟩ := hobt
 refine zg (Le Try.underlying4 rfl ti4 (by exact rfl) (by exact rfl)) ?_
 replace hO := uE.own
 refine zn (zq (zq ?_))
 refine Go1.cut [(0, .slice nI a0.length nJ), (1, .bool a1), (6, .pointer (some ⟨B10, 0, none⟩))] ⟨rfl, rfl, rfl, trivial⟩ ?_
 intro σ _
 refine zr (zm rfl (zo (op_len Try.underlying22 rfl) (zm rfl (zn (zb ?_)))))
 have fM := Stp.nil (e := 26) (r := 1) hO
 replace hO := fM.own
 have YR := Els.nil (Rp.sl (Rp.int .i64)) (bl (.row 26 1 none 0 0 [] :: [.blk B10 (.cells #[.int .i64 ((ix a0 (0 : Int)).length : Int), .bool a1, .slice none 0 0, .slice none 0 0, .slice none 0 0, .slice none 0 0, .slice none 0 0, .slice none 0 0, .int .i64 (0 : Int), .map (some B4), .slice none 0 0, .slice none 0 0, .slice none 0 0] 72 (0, 0)), .any (mapE (fun a : List UInt8 => Value.string (gstr a)) (fun a : Int => Value.int .i64 a) B4 (([] : List (Str × Int))))]) ++ A) w24
 have Z1 := (d9.ch.trans uE.ch).trans fM.ch
 replace ai := ai.ch Z1
 replace hB := ((((hB.trans Ni.fr).trans Lc.fr).trans d9.fr).trans uE.fr).trans fM.fr
 refine Go1.loopW (S := Nat × List (List Int)) (fun s σ w => match s with | (k1_31, d_32) => ∃ (n37 : Nat), ∃ (p35 : Option Addr), ∃ (c36 : Nat), ∃ (gX : List Value), agrees σ [(1, .bool a1), (6, .pointer (some ⟨B10, 0, none⟩)), (39, .slice nI a0.length nJ), (40, .int .i64 (a0.length : Int)), (41, .int .i64 (k1_31 : Int))] ∧ (fun Z0 => Owns w0.heap.size w Z0 A ∧ Els (Rp.sl (Rp.int .i64)) (bl Z0 ++ A) w gX d_32 ∧ ISl (Rp.sl (Rp.int .i64)) (bl Z0 ++ A) w nI nJ a0 ∧ Fr (bl []) w0 (bl Z0) w) [.row 26 1 p35 n37 c36 gX, .blk B10 (.cells #[.int .i64 ((ix a0 (0 : Int)).length : Int), .bool a1, .slice p35 n37 c36, .slice none 0 0, .slice none 0 0, .slice none 0 0, .slice none 0 0, .slice none 0 0, .int .i64 (0 : Int), .map (some B4), .slice none 0 0, .slice none 0 0, .slice none 0 0] 72 (0, 0)), .any (mapE (fun a : List UInt8 => Value.string (gstr a)) (fun a : Int => Value.int .i64 a) B4 (([] : List (Str × Int))))]) H ⟨0, none, 0, [], ⟨rfl, rfl, rfl, rfl, rfl, trivial⟩, hO, YR, ai, hB⟩ ?_
 intro X1
 refine prE fun k1_31 => fun d_32 => ?_
 intro H hX1 σ w30
 refine exE fun n37 => exE fun p35 => exE fun c36 => exE fun gX => andE fun hag => andE fun hO => andE fun al => andE fun ai => fun hB => ?_
 dsimp only at H
 refine Go1.keep [(1, .bool a1), (6, .pointer (some ⟨B10, 0, none⟩)), (39, .slice nI a0.length nJ), (40, .int .i64 (a0.length : Int)), (41, .int .i64 (k1_31 : Int))] hag ?_
 refine zq (zr ?_)
 by_cases h38 : (k1_31 : Int) < (a0.length : Int)
 ·replace H := ifp h38 H
  refine zo (fun w => opB (op_lss rfl rfl w) (decide_eq_true h38)) (zn (zq (zt rfl rfl (zk (zq ?_)))))
  refine zb (zq (zr ?_))
  obtain ⟨h39, H⟩ := H
  obtain ⟨h40, H⟩ := H
  refine zo (op_index Try.underlying22 ti26 rfl rfl h39 h40 (ai.some_ h39 h40)) ?_
  have hobt := ldSl ai h39 h40
  obtain ⟨p41, c42, pq, YS⟩ := hobt
  refine zs (YS Try.underlying26 rfl rfl) (za rfl (zn (zq (zq (zr ?_)))))
  refine zm rfl (zo (op_len Try.underlying26 rfl) ?_)
  replace H := H pq.bd
  refine zm rfl (zo (op_nilCheck rfl) (zo (op_fieldAddr Try.underlying72 rfl ti29 rfl (by decide)) (zo (op_fieldAddr Try.underlying29 rfl ti3 rfl (by decide)) (zs (oblk (i := 0) 1 hO rfl rfl Try.underlying3 rfl rfl) ?_))))
  by_cases h45 : ((ix a0 (k1_31 : Int)).length : Int) = ((ix a0 (0 : Int)).length : Int)
  ·replace H := ifp h45 H
   refine zo (fun w => opB (op_neq rfl rfl w) (ndT h45)) (zm rfl (zm rfl ?_))
   refine GoR.call (op_call body60 rfl (walk_trans_Valid hO.lt pq H)) rfl rfl ?_
   rintro v50 w47 ⟨r46, rfl, YT, H⟩
   have IX := Stp.same hO YT
   replace hO := IX.own
   cases r46
   ·replace H := ifn Bool.false_ne_true H
    refine zo (op_not rfl) (zo (op_pickF rfl rfl rfl) (zn (zt rfl rfl (zq (zr ?_)))))
    refine za rfl (za rfl (zn ?_))
    refine Go1.ret2 Try.func49 rfl ?_
    replace hB := hB.trans IX.fr
    exact Or.inl ⟨((4 : Int)), rfl, hB.same, H⟩
   replace H := ifp rfl H
   refine zo (op_not rfl) (zo (op_pickF rfl rfl rfl) (zn (zf rfl rfl (zk ?_))))
   refine Go1.cut [(1, .bool a1), (6, .pointer (some ⟨B10, 0, none⟩)), (8, .slice p41 ((ix a0 (k1_31 : Int)).length) c42), (39, .slice nI a0.length nJ), (40, .int .i64 (a0.length : Int)), (41, .int .i64 (k1_31 : Int))] ⟨rfl, rfl, rfl, rfl, rfl, rfl, trivial⟩ ?_
   intro σ _
   refine Go1.drawS 1 [(0, .pure), (1, .pure), (2, .pure), (3, .pure), (4, .pure), (5, .stable), (6, .pure), (7, .loud), (8, .loud), (9, .last), (10, .pure), (11, .pure), (12, .pure), (13, .last)] mixed (by kernel_rfl) ?_
   intro w52 YU
   have oo := Stp.same hO YU
   replace hO := oo.own
   refine GoQ.pure rfl (op_move rfl) rfl rfl ?_
   refine GoQ.pure rfl (op_move rfl) rfl rfl ?_
   refine GoQ.pure rfl (op_nilCheck rfl) rfl rfl ?_
   refine GoQ.pure rfl (op_fieldAddr Try.underlying72 rfl ti29 rfl (by decide)) rfl rfl ?_
   refine GoQ.pure rfl (op_fieldAddr Try.underlying29 rfl ti22 rfl (by decide)) rfl rfl ?_
   refine GoQ.stable rfl (oblk (i := 2) 1 hO rfl rfl Try.underlying22 rfl rfl) rfl rfl ?_
   refine GoQ.pure rfl (op_move rfl) rfl rfl ?_
   replace pq := (pq.ch IX.ch).ch oo.ch
   refine GoQ.call rfl (op_call body64 rfl (walk_slices_Clone_int hO.lt pq H)) (fun v w hr => by obtain ⟨_, _, _, _, _, _, hs, _, _, _⟩ := hr; assumption) rfl rfl ?_
   rintro v60 w57 ⟨r55, OR, JO, JP, acT, rfl, YV, hN59, Nk, H⟩
   have zH := Stp.more hO YV hN59
   replace hO := zH.own
   replace Nk := Nk.ch (Ch.assoc _ _ _ _)
   have hobt := freeze 0 hO rfl Nk
   obtain ⟨hO1, Nl, f7, YW⟩ := hobt
   replace hO := hO1; clear hO1
   have hobt := obuild (r := Rp.sl (Rp.int .i64)) (n := 1) (parts := [(0, .slice JO OR JP)]) (vs := [.slice JO OR JP]) (xs := [r55]) rfl Try.underlying22 ti26 hO (by decide) (by kernel_rfl) (Els.cons rfl ⟨JO, JP, congrArg some (congrArg (fun nn => Value.slice JO nn JP) YW), f7⟩ (Els.nil _ _ _) (by simp [mx])) rfl
   obtain ⟨w66, p67, mP, ko, YX, Tq⟩ := hobt
   refine GoQ.loud rfl (Tq rfl) YX rfl rfl ?_
   replace hO := mP.own
   have hobt := freeze 0 hO rfl ko
   obtain ⟨hO1, Lf, Kh, YY⟩ := hobt
   replace hO := hO1; clear hO1
   obtain ⟨h76, H⟩ := H
   have Z2 := ((((IX.ch.trans oo.ch).trans zH.ch).trans Nl).trans mP.ch).trans Lf
   replace al := al.ch Z2
   have hobt := oapp Try.underlying22 ti26 rfl 0 hO rfl al Kh YY h76 (by decide)
   obtain ⟨w77, p78, c79, kq, HG, Nm, Tr⟩ := hobt
   refine GoQ.last rfl (Tr (by exact rfl) (by exact rfl)) rfl rfl ?_
   replace hO := HG.own
   refine GoQ.pure rfl (op_nilCheck rfl) rfl rfl ?_
   refine GoQ.pure rfl (op_fieldAddr Try.underlying72 rfl ti29 rfl (by decide)) rfl rfl ?_
   refine GoQ.pure rfl (op_fieldAddr Try.underlying29 rfl ti22 rfl (by decide)) rfl rfl ?_
   have hobt := oblkSt2 (v := .slice p78 (n37 + 1) c79) (i := 2) (cs' := #[.int .i64 ((ix a0 (0 : Int)).length : Int), .bool a1, .slice p78 (n37 + 1) c79, .slice none 0 0, .slice none 0 0, .slice none 0 0, .slice none 0 0, .slice none 0 0, .int .i64 (0 : Int), .map (some B4), .slice none 0 0, .slice none 0 0, .slice none 0 0]) 1 hO rfl rfl rfl rfl
   obtain ⟨w85, fN, Ts⟩ := hobt
   refine GoQ.last rfl (Ts Try.underlying22 rfl ti22 (by exact rfl) (by exact rfl)) rfl rfl ?_
   replace hO := fN.own
   refine GoQ.nil ?_
   refine Go1.inBlock ?_
   refine zr ?_
   replace ai := ((ai.ch Z2).ch HG.ch).ch fN.ch
   refine zo (op_add rfl rfl (wrap_i64 (natbd h38 ai.bd))) (zm rfl (zn ?_))
   replace Nm := Nm.ch fN.ch
   replace hB := (((((((hB.trans IX.fr).trans oo.fr).trans zH.fr).trans (Owns.dropFr _ _ 0)).trans mP.fr).trans (Owns.dropFr _ _ 0)).trans HG.fr).trans fN.fr
   exact hX1 _ H _ _ ⟨n37 + 1, p78, c79, kq, ⟨rfl, rfl, rfl, rfl, rfl, trivial⟩, hO, Nm, ai, hB⟩
  replace H := ifn h45 H
  refine zo (fun w => opB (op_neq rfl rfl w) (ndF h45)) (zm rfl (zp (zp (zp (zo (op_pickT rfl rfl rfl) ?_)))))
  refine zn (zt rfl rfl (zq ?_))
  refine Go1.cut [] trivial ?_
  intro σ _
  refine zr (za rfl (za rfl (zn ?_)))
  refine Go1.ret2 Try.func49 rfl ?_
  exact Or.inl ⟨((4 : Int)), rfl, hB.same, H⟩
 replace H := ifn h38 H
 refine zo (fun w => opB (op_lss rfl rfl w) (decide_eq_false h38)) (zn (zq (zf rfl rfl ?_)))
 refine Go1.exit rfl ?_
 refine zq (zr (za rfl (zn (zq (zq ?_)))))
 refine zr (zm rfl (zn ?_))
 cases a1
 ·replace H := ifn Bool.false_ne_true H
  refine zf rfl rfl (zk (zq (zq (zr (zm rfl ?_)))))
  refine zo (op_nilCheck rfl) (zo (op_fieldAddr Try.underlying72 rfl ti29 rfl (by decide)) (zo (op_fieldAddr Try.underlying29 rfl ti22 rfl (by decide)) (zs (oblk (i := 2) 1 hO rfl rfl Try.underlying22 rfl rfl) (zo (op_lenN Try.underlying22 rfl (al.neq hO 0 rfl)) (zm rfl ?_)))))
  refine zn (zb ?_)
  have JQ := Stp.nil (e := 26) (r := 1) hO
  replace hO := JQ.own
  have Ai := Els.nil (Rp.sl (Rp.int .i64)) (bl (.row 26 1 none 0 0 [] :: [.row 26 1 p35 n37 c36 gX, .blk B10 (.cells #[.int .i64 ((ix a0 (0 : Int)).length : Int), .bool false, .slice p35 n37 c36, .slice none 0 0, .slice none 0 0, .slice none 0 0, .slice none 0 0, .slice none 0 0, .int .i64 (0 : Int), .map (some B4), .slice none 0 0, .slice none 0 0, .slice none 0 0] 72 (0, 0)), .any (mapE (fun a : List UInt8 => Value.string (gstr a)) (fun a : Int => Value.int .i64 a) B4 (([] : List (Str × Int))))]) ++ A) w30
  have qU := Stp.nil (e := 3) (r := 1) hO
  replace hO := qU.own
  have fy := Els.nil (Rp.int .i64) (bl (.row 3 1 none 0 0 [] :: [.row 26 1 none 0 0 [], .row 26 1 p35 n37 c36 gX, .blk B10 (.cells #[.int .i64 ((ix a0 (0 : Int)).length : Int), .bool false, .slice p35 n37 c36, .slice none 0 0, .slice none 0 0, .slice none 0 0, .slice none 0 0, .slice none 0 0, .int .i64 (0 : Int), .map (some B4), .slice none 0 0, .slice none 0 0, .slice none 0 0] 72 (0, 0)), .any (mapE (fun a : List UInt8 => Value.string (gstr a)) (fun a : Int => Value.int .i64 a) B4 (([] : List (Str × Int))))]) ++ A) w30
  have HH := Stp.nil (e := 3) (r := 1) hO
  replace hO := HH.own
  have Gf := Els.nil (Rp.int .i64) (bl (.row 3 1 none 0 0 [] :: [.row 3 1 none 0 0 [], .row 26 1 none 0 0 [], .row 26 1 p35 n37 c36 gX, .blk B10 (.cells #[.int .i64 ((ix a0 (0 : Int)).length : Int), .bool false, .slice p35 n37 c36, .slice none 0 0, .slice none 0 0, .slice none 0 0, .slice none 0 0, .slice none 0 0, .int .i64 (0 : Int), .map (some B4), .slice none 0 0, .slice none 0 0, .slice none 0 0] 72 (0, 0)), .any (mapE (fun a : List UInt8 => Value.string (gstr a)) (fun a : Int => Value.int .i64 a) B4 (([] : List (Str × Int))))]) ++ A) w30
  have Gg := Stp.nil (e := 39) (r := 2) hO
  replace hO := Gg.own
  have kr := Els.nil (rpRule) (bl (.row 39 2 none 0 0 [] :: [.row 3 1 none 0 0 [], .row 3 1 none 0 0 [], .row 26 1 none 0 0 [], .row 26 1 p35 n37 c36 gX, .blk B10 (.cells #[.int .i64 ((ix a0 (0 : Int)).length : Int), .bool false, .slice p35 n37 c36, .slice none 0 0, .slice none 0 0, .slice none 0 0, .slice none 0 0, .slice none 0 0, .int .i64 (0 : Int), .map (some B4), .slice none 0 0, .slice none 0 0, .slice none 0 0] 72 (0, 0)), .any (mapE (fun a : List UInt8 => Value.string (gstr a)) (fun a : Int => Value.int .i64 a) B4 (([] : List (Str × Int))))]) ++ A) w30
  have fF := Stp.nil (e := 9) (r := 1) hO
  replace hO := fF.own
  have IY := Els.nil (Rp.str) (bl (.row 9 1 none 0 0 [] :: [.row 39 2 none 0 0 [], .row 3 1 none 0 0 [], .row 3 1 none 0 0 [], .row 26 1 none 0 0 [], .row 26 1 p35 n37 c36 gX, .blk B10 (.cells #[.int .i64 ((ix a0 (0 : Int)).length : Int), .bool false, .slice p35 n37 c36, .slice none 0 0, .slice none 0 0, .slice none 0 0, .slice none 0 0, .slice none 0 0, .int .i64 (0 : Int), .map (some B4), .slice none 0 0, .slice none 0 0, .slice none 0 0] 72 (0, 0)), .any (mapE (fun a : List UInt8 => Value.string (gstr a)) (fun a : Int => Value.int .i64 a) B4 (([] : List (Str × Int))))]) ++ A) w30
  have mw := Stp.nil (e := 3) (r := 1) hO
  replace hO := mw.own
  have iE := Els.nil (Rp.int .i64) (bl (.row 3 1 none 0 0 [] :: [.row 9 1 none 0 0 [], .row 39 2 none 0 0 [], .row 3 1 none 0 0 [], .row 3 1 none 0 0 [], .row 26 1 none 0 0 [], .row 26 1 p35 n37 c36 gX, .blk B10 (.cells #[.int .i64 ((ix a0 (0 : Int)).length : Int), .bool false, .slice p35 n37 c36, .slice none 0 0, .slice none 0 0, .slice none 0 0, .slice none 0 0, .slice none 0 0, .int .i64 (0 : Int), .map (some B4), .slice none 0 0, .slice none 0 0, .slice none 0 0] 72 (0, 0)), .any (mapE (fun a : List UInt8 => Value.string (gstr a)) (fun a : Int => Value.int .i64 a) B4 (([] : List (Str × Int))))]) ++ A) w30
  have yw := Stp.nil (e := 3) (r := 1) hO
  replace hO := yw.own
  have Tt := Els.nil (Rp.int .i64) (bl (.row 3 1 none 0 0 [] :: [.row 3 1 none 0 0 [], .row 9 1 none 0 0 [], .row 39 2 none 0 0 [], .row 3 1 none 0 0 [], .row 3 1 none 0 0 [], .row 26 1 none 0 0 [], .row 26 1 p35 n37 c36 gX, .blk B10 (.cells #[.int .i64 ((ix a0 (0 : Int)).length : Int), .bool false, .slice p35 n37 c36, .slice none 0 0, .slice none 0 0, .slice none 0 0, .slice none 0 0, .slice none 0 0, .int .i64 (0 : Int), .map (some B4), .slice none 0 0, .slice none 0 0, .slice none 0 0] 72 (0, 0)), .any (mapE (fun a : List UInt8 => Value.string (gstr a)) (fun a : Int => Value.int .i64 a) B4 (([] : List (Str × Int))))]) ++ A) w30
  replace iE := iE.ch yw.ch
  replace IY := (IY.ch mw.ch).ch yw.ch
  have Z3 := (fF.ch.trans mw.ch).trans yw.ch
  replace kr := kr.ch Z3
  have Z4 := ((Gg.ch.trans fF.ch).trans mw.ch).trans yw.ch
  replace Gf := Gf.ch Z4
  have Z5 := (((HH.ch.trans Gg.ch).trans fF.ch).trans mw.ch).trans yw.ch
  replace fy := fy.ch Z5
  have Z6 := ((((qU.ch.trans HH.ch).trans Gg.ch).trans fF.ch).trans mw.ch).trans yw.ch
  replace Ai := Ai.ch Z6
  have Z7 := (((((JQ.ch.trans qU.ch).trans HH.ch).trans Gg.ch).trans fF.ch).trans mw.ch).trans yw.ch
  replace al := al.ch Z7
  replace hB := ((((((hB.trans JQ.fr).trans qU.fr).trans HH.fr).trans Gg.fr).trans fF.fr).trans mw.fr).trans yw.fr
  refine Go1.loopW (S := Nat × List Int × List Int × List Str × List Rule × List Int × List Int × List (List Int) × (List (Str × Int))) (fun s σ w => match s with | (k2_110, d_111, d_117, d_123, d_129, d_135, d_141, d_147, m2_153) => ∃ (lD : Nat), ∃ (ov : Option Addr), ∃ (ow : Nat), ∃ (xb : List Value), ∃ (lP : Nat), ∃ (mU : Option Addr), ∃ (nK : Nat), ∃ (vr : List Value), ∃ (lQ : Nat), ∃ (oA : Option Addr), ∃ (oB : Nat), ∃ (vt : List Value), ∃ (lR : Nat), ∃ (nM : Option Addr), ∃ (nN : Nat), ∃ (vu : List Value), ∃ (lT : Nat), ∃ (oK : Option Addr), ∃ (oL : Nat), ∃ (vw : List Value), ∃ (lU : Nat), ∃ (pr : Option Addr), ∃ (pt : Nat), ∃ (vy : List Value), ∃ (lV : Nat), ∃ (qe : Option Addr), ∃ (qf : Nat), ∃ (vz : List Value), agrees σ [(6, .pointer (some ⟨B10, 0, none⟩)), (9, .int .i64 (-1 : Int)), (85, .slice p35 n37 c36), (86, .int .i64 (d_32.length : Int)), (87, .int .i64 (k2_110 : Int))] ∧ (fun Z0 => Owns w0.heap.size w Z0 A ∧ Els (Rp.int .i64) (bl Z0 ++ A) w xb d_111 ∧ Els (Rp.int .i64) (bl Z0 ++ A) w vr d_117 ∧ Els (Rp.str) (bl Z0 ++ A) w vt d_123 ∧ Els (rpRule) (bl Z0 ++ A) w vu d_129 ∧ Els (Rp.int .i64) (bl Z0 ++ A) w vw d_135 ∧ Els (Rp.int .i64) (bl Z0 ++ A) w vy d_141 ∧ Els (Rp.sl (Rp.int .i64)) (bl Z0 ++ A) w vz d_147 ∧ Els (Rp.sl (Rp.int .i64)) (bl Z0 ++ A) w gX d_32 ∧ Fr (bl []) w0 (bl Z0) w) [.row 3 1 ov lD ow xb, .row 3 1 mU lP nK vr, .row 9 1 oA lQ oB vt, .row 39 2 nM lR nN vu, .row 3 1 oK lT oL vw, .row 3 1 pr lU pt vy, .row 26 1 qe lV qf vz, .row 26 1 p35 n37 c36 gX, .blk B10 (.cells #[.int .i64 ((ix a0 (0 : Int)).length : Int), .bool false, .slice p35 n37 c36, .slice qe lV qf, .slice pr lU pt, .slice oK lT oL, .slice none 0 0, .slice nM lR nN, .int .i64 (0 : Int), .map (some B4), .slice oA lQ oB, .slice mU lP nK, .slice ov lD ow] 72 (0, 0)), .any (mapE (fun a : List UInt8 => Value.string (gstr a)) (fun a : Int => Value.int .i64 a) B4 m2_153)]) H ⟨0, none, 0, [], 0, none, 0, [], 0, none, 0, [], 0, none, 0, [], 0, none, 0, [], 0, none, 0, [], 0, none, 0, [], ⟨rfl, rfl, rfl, rfl, rfl, trivial⟩, hO, Tt, iE, IY, kr, Gf, fy, Ai, al, hB⟩ ?_
  intro X2
  refine prE fun k2_110 => prE fun d_111 => prE fun d_117 => prE fun d_123 => prE fun d_129 => prE fun d_135 => prE fun d_141 => prE fun d_147 => fun m2_153 => ?_
  intro H hX2 σ PH
  refine exE fun lD => exE fun ov => exE fun ow => exE fun xb => exE fun lP => exE fun mU => exE fun nK => exE fun vr => exE fun lQ => exE fun oA => exE fun oB => exE fun vt => exE fun lR => exE fun nM => exE fun nN => exE fun vu => exE fun lT => exE fun oK => exE fun oL => exE fun vw => exE fun lU => exE fun pr => exE fun pt => exE fun vy => exE fun lV => exE fun qe => exE fun qf => exE fun vz => andE fun hag => andE fun hO => andE fun ct => andE fun cA => andE fun cI => andE fun cB => andE fun dk => andE fun dF => andE fun dV => andE fun al => fun hB => ?_
  dsimp only at H
  refine Go1.keep [(6, .pointer (some ⟨B10, 0, none⟩)), (9, .int .i64 (-1 : Int)), (85, .slice p35 n37 c36), (86, .int .i64 (d_32.length : Int)), (87, .int .i64 (k2_110 : Int))] hag ?_
  refine zq (zr ?_)
  by_cases Jl : (k2_110 : Int) < (d_32.length : Int)
  ·replace H := ifp Jl H
   refine zo (fun w => opB (op_lss rfl rfl w) (decide_eq_true Jl)) (zn (zq (zt rfl rfl (zk (zq ?_)))))
   refine zb (zq (zr (zm rfl ?_)))
   obtain ⟨Bf, H⟩ := H
   obtain ⟨Gh, H⟩ := H
   refine zo (op_index Try.underlying22 ti26 rfl rfl Bf (ltn (al.neq hO 7 rfl) Gh) (al.psome hO 7 rfl Bf Gh)) ?_
   have hobt := oldSl 7 hO rfl al Bf Gh
   obtain ⟨PI, PJ, cK, Tu⟩ := hobt
   refine zs (Tu Try.underlying26 rfl rfl) (za rfl (za rfl (zn (zq (zr ?_)))))
   refine zm rfl ?_
   obtain ⟨Y0, H⟩ := H
   refine zo (op_add rfl rfl (wrap_i64 Y0)) (zo (op_conv Try.underlying3 Try.underlying21 rfl rfl) ?_)
   obtain ⟨Il, H⟩ := H
   obtain ⟨Ki, H⟩ := H
   refine zo (op_convRS Try.underlying21 Try.underlying9 rfl Il Ki) (za rfl (zn (zq ?_)))
   refine Go1.drawS 0 [(0, .pure), (1, .pure), (2, .pure), (3, .stable), (4, .pure), (5, .loud), (6, .stable), (7, .pure), (8, .pure), (9, .pure), (10, .pure), (11, .pure)] mixed (by kernel_rfl) ?_
   intro adG Tv
   have kS := Stp.same hO Tv
   replace hO := kS.own
   refine GoQ.pure rfl (op_move rfl) rfl rfl ?_
   refine GoQ.pure rfl (op_nilCheck rfl) rfl rfl ?_
   refine GoQ.pure rfl (op_fieldAddr Try.underlying72 rfl ti69 rfl (by decide)) rfl rfl ?_
   refine GoQ.stable rfl (oblk (i := 9) 8 hO rfl rfl Try.underlying69 rfl rfl) rfl rfl ?_
   refine GoQ.pure rfl (op_move rfl) rfl rfl ?_
   replace cK := cK.ch kS.ch
   refine GoQ.call rfl (op_call body61 rfl (walk_enumerate_text hO.lt cK H)) (fun v w hr => by obtain ⟨_, _, hs, _, _⟩ := hr; assumption) rfl rfl ?_
   rintro Y1 PK ⟨r167, rfl, Lg, acJ, H⟩
   have ft := Stp.same hO Lg
   replace hO := ft.own
   by_cases Hp : mhas m2_153 r167 = true
   ·replace H := ifp Hp H
    refine GoQ.stable rfl (olookT (a := r167) (MK.str Try.underlying9) 9 hO rfl Try.underlying69 rfl rfl Hp) rfl rfl ?_
    refine GoQ.pure rfl (op_move rfl) rfl rfl ?_
    refine GoQ.pure rfl (op_extract rfl rfl) rfl rfl ?_
    refine GoQ.pure rfl (op_extract rfl rfl) rfl rfl ?_
    refine GoQ.pure rfl (op_assign rfl) rfl rfl ?_
    refine GoQ.pure rfl (op_assign rfl) rfl rfl ?_
    refine GoQ.nil ?_
    refine zq (zq ?_)
    refine Go1.cut [(6, .pointer (some ⟨B10, 0, none⟩)), (9, .int .i64 (-1 : Int)), (10, .int .i64 (k2_110 : Int)), (11, .slice PI ((ix d_32 (k2_110 : Int)).length) PJ), (12, .string (gstr (chr (IntKind.i32.wrap ((97 : Int) + (k2_110 : Int)))))), (13, .int .i64 (mgt m2_153 r167)), (14, .bool true), (85, .slice p35 n37 c36), (86, .int .i64 (d_32.length : Int)), (87, .int .i64 (k2_110 : Int))] ⟨rfl, rfl, rfl, rfl, rfl, rfl, rfl, rfl, rfl, rfl, trivial⟩ ?_
    intro σ _
    refine zr (zm rfl (zn (zt rfl rfl ?_)))
    refine Go1.drawS 5 [(0, .pure), (1, .pure), (2, .pure), (3, .pure), (4, .pure), (5, .stable), (6, .pure), (7, .pure), (8, .pure), (9, .pure), (10, .stable), (11, .pure), (12, .pure), (13, .stable), (14, .pure), (15, .loud), (16, .last), (17, .pure), (18, .pure), (19, .pure), (20, .last)] mixed (by kernel_rfl) ?_
    intro Y2 Lh
    have xC := Stp.same hO Lh
    replace hO := xC.own
    refine GoQ.pure rfl (op_move rfl) rfl rfl ?_
    refine GoQ.pure rfl (op_move rfl) rfl rfl ?_
    refine GoQ.pure rfl (op_nilCheck rfl) rfl rfl ?_
    refine GoQ.pure rfl (op_fieldAddr Try.underlying72 rfl ti29 rfl (by decide)) rfl rfl ?_
    refine GoQ.pure rfl (op_fieldAddr Try.underlying29 rfl ti27 rfl (by decide)) rfl rfl ?_
    refine GoQ.stable rfl (oblk (i := 7) 8 hO rfl rfl Try.underlying27 rfl rfl) rfl rfl ?_
    refine GoQ.pure rfl (op_move rfl) rfl rfl ?_
    refine GoQ.pure rfl (op_move rfl) rfl rfl ?_
    refine GoQ.pure rfl (op_nilCheck rfl) rfl rfl ?_
    refine GoQ.pure rfl (op_fieldAddr Try.underlying72 rfl ti70 rfl (by decide)) rfl rfl ?_
    refine GoQ.stable rfl (oblk (i := 10) 8 hO rfl rfl Try.underlying70 rfl rfl) rfl rfl ?_
    refine GoQ.pure rfl (op_move rfl) rfl rfl ?_
    obtain ⟨Ew, H⟩ := H
    obtain ⟨Li, H⟩ := H
    have Z8 := (kS.ch.trans ft.ch).trans xC.ch
    replace cI := cI.ch Z8
    refine GoQ.pure rfl (op_index Try.underlying70 ti9 rfl rfl Ew (ltn (cI.neq hO 2 rfl) Li) (cI.psome hO 2 rfl Ew Li)) rfl rfl ?_
    refine GoQ.stable rfl (oldStr 2 hO rfl cI Ew Li Try.underlying9 rfl rfl) rfl rfl ?_
    have hle179 := Els.str_le cI Ew Li
    refine GoQ.pure rfl (op_build Try.underlying39 ti39 (pl := [(0, 1), (1, 1)]) (vs := [(0, .string (gstr (chr (IntKind.i32.wrap ((97 : Int) + (k2_110 : Int)))))), (1, .string (gstr (ix d_123 (mgt m2_153 r167))))]) (cs := #[.string (gstr (chr (IntKind.i32.wrap ((97 : Int) + (k2_110 : Int))))), .string (gstr (ix d_123 (mgt m2_153 r167)))]) (by kernel_rfl) rfl (by kernel_rfl)) rfl rfl ?_
    have hobt := obuildN (r := rpRule) (n := 1) (parts := [(0, .agg #[.string (gstr (chr (IntKind.i32.wrap ((97 : Int) + (k2_110 : Int))))), .string (gstr (ix d_123 (mgt m2_153 r167)))])]) (vs := [.string (gstr (chr (IntKind.i32.wrap ((97 : Int) + (k2_110 : Int))))), .string (gstr (ix d_123 (mgt m2_153 r167)))]) (xs := [(⟨chr (IntKind.i32.wrap ((97 : Int) + (k2_110 : Int))), ix d_123 (mgt m2_153 r167)⟩ : Rule)]) Try.underlying27 ti39 hO (by decide) (by decide) (by kernel_rfl) (Els.flat1 (⟨chr (IntKind.i32.wrap ((97 : Int) + (k2_110 : Int))), ix d_123 (mgt m2_153 r167)⟩ : Rule) ⟨(chr_le _), hle179⟩) rfl
    obtain ⟨Nn, adH, xD, Tw, Tx, PM⟩ := hobt
    refine GoQ.loud rfl (PM rfl) Tx rfl rfl ?_
    replace hO := xD.own
    have hobt := freeze 0 hO rfl Tw
    obtain ⟨hO1, Aq, xc, Lj⟩ := hobt
    dsimp only [eS, eZ] at hO1 Aq xc
    replace hB := ((((hB.trans kS.fr).trans ft.fr).trans xC.fr).trans xD.fr).trans (Owns.dropFr _ _ 0)
    dsimp only [eS, eZ] at hB
    replace hO := hO1; clear hO1
    obtain ⟨Y3, H⟩ := H
    replace cB := ((cB.ch Z8).ch xD.ch).ch Aq
    have hobt := oapp Try.underlying27 ti39 rfl 3 hO rfl cB xc Lj Y3 (by decide)
    obtain ⟨Y4, Lk, Ll, Ty, v3, yO, PN⟩ := hobt
    dsimp only [sS, sZ] at v3 yO
    refine GoQ.last rfl (PN (by exact rfl) (by exact rfl)) rfl rfl ?_
    replace hO := v3.own
    refine GoQ.pure rfl (op_nilCheck rfl) rfl rfl ?_
    refine GoQ.pure rfl (op_fieldAddr Try.underlying72 rfl ti29 rfl (by decide)) rfl rfl ?_
    refine GoQ.pure rfl (op_fieldAddr Try.underlying29 rfl ti27 rfl (by decide)) rfl rfl ?_
    have hobt := oblkSt2 (v := .slice Lk (lR + 1) Ll) (i := 7) (cs' := #[.int .i64 ((ix a0 (0 : Int)).length : Int), .bool false, .slice p35 n37 c36, .slice qe lV qf, .slice pr lU pt, .slice oK lT oL, .slice none 0 0, .slice Lk (lR + 1) Ll, .int .i64 (0 : Int), .map (some B4), .slice oA lQ oB, .slice mU lP nK, .slice ov lD ow]) 8 hO rfl rfl rfl rfl
    obtain ⟨Y5, uP, Kj⟩ := hobt
    dsimp only [sS, sZ] at uP
    refine GoQ.last rfl (Kj Try.underlying27 rfl ti27 (by exact rfl) (by exact rfl)) rfl rfl ?_
    replace hO := uP.own
    refine GoQ.nil ?_
    refine Go1.cut [(6, .pointer (some ⟨B10, 0, none⟩)), (9, .int .i64 (-1 : Int)), (13, .int .i64 (mgt m2_153 r167)), (85, .slice p35 n37 c36), (86, .int .i64 (d_32.length : Int)), (87, .int .i64 (k2_110 : Int))] ⟨rfl, rfl, rfl, rfl, rfl, rfl, trivial⟩ ?_
    intro σ _
    refine zr (zm rfl (zm rfl (zo (op_nilCheck rfl) (zo (op_fieldAddr Try.underlying72 rfl ti26 rfl (by decide)) (zs (oblk (i := 12) 8 hO rfl rfl Try.underlying26 rfl rfl) ?_)))))
    refine zm rfl ?_
    have hobt := obuild (r := Rp.int .i64) (n := 1) (parts := [(0, .int .i64 (mgt m2_153 r167))]) (vs := [.int .i64 (mgt m2_153 r167)]) (xs := [(mgt m2_153 r167)]) rfl Try.underlying26 ti3 hO (by decide) (by kernel_rfl) (Els.cons rfl rfl (Els.nil _ _ _) (by simp [mx])) rfl
    obtain ⟨adI, adJ, jp, Tz, acX, PO⟩ := hobt
    refine zg (PO rfl) ?_
    replace hO := jp.own
    have hobt := freeze 0 hO rfl Tz
    obtain ⟨hO1, zI, HI, TA⟩ := hobt
    dsimp only [eS, eZ] at hO1 zI HI
    replace hB := (((hB.trans v3.fr).trans uP.fr).trans jp.fr).trans (Owns.dropFr _ _ 0)
    dsimp only [eS, eZ] at hB
    replace hO := hO1; clear hO1
    obtain ⟨Kk, H⟩ := H
    have Z9 := (((((Z8.trans xD.ch).trans Aq).trans v3.ch).trans uP.ch).trans jp.ch).trans zI
    replace ct := ct.ch Z9
    have hobt := oapp Try.underlying26 ti3 rfl 0 hO rfl ct HI TA Kk (by decide)
    obtain ⟨Y6, Np, Nq, TB, uQ, JR, PP⟩ := hobt
    dsimp only [sS, sZ] at uQ JR
    refine zg (PP (by exact rfl) (by exact rfl)) ?_
    replace hO := uQ.own
    refine zo (op_nilCheck rfl) (zo (op_fieldAddr Try.underlying72 rfl ti26 rfl (by decide)) ?_)
    have hobt := oblkSt2 (v := .slice Np (lD + 1) Nq) (i := 12) (cs' := #[.int .i64 ((ix a0 (0 : Int)).length : Int), .bool false, .slice p35 n37 c36, .slice qe lV qf, .slice pr lU pt, .slice oK lT oL, .slice none 0 0, .slice Lk (lR + 1) Ll, .int .i64 (0 : Int), .map (some B4), .slice oA lQ oB, .slice mU lP nK, .slice Np (lD + 1) Nq]) 8 hO rfl rfl rfl rfl
    obtain ⟨Y7, eg, Kl⟩ := hobt
    dsimp only [sS, sZ] at eg
    refine zg (Kl Try.underlying26 rfl ti26 (by exact rfl) (by exact rfl)) ?_
    replace hO := eg.own
    refine zn ?_
    refine Go1.inBlock ?_
    refine zr ?_
    replace al := ((al.ch Z9).ch uQ.ch).ch eg.ch
    refine zo (op_add rfl rfl (wrap_i64 (natbd Jl al.bd))) (zm rfl (zn ?_))
    replace JR := JR.ch eg.ch
    replace hB := (hB.trans uQ.fr).trans eg.fr
    have Z10 := (((uP.ch.trans jp.ch).trans zI).trans uQ.ch).trans eg.ch
    replace yO := yO.ch Z10
    have Z11 := ((((((xD.ch.trans Aq).trans v3.ch).trans uP.ch).trans jp.ch).trans zI).trans uQ.ch).trans eg.ch
    replace cI := cI.ch Z11
    have Z12 := (Z9.trans uQ.ch).trans eg.ch
    replace cA := cA.ch Z12
    replace dk := dk.ch Z12
    replace dF := dF.ch Z12
    replace dV := dV.ch Z12
    exact hX2 _ H _ _ ⟨lD + 1, Np, Nq, TB, lP, mU, nK, vr, lQ, oA, oB, vt, lR + 1, Lk, Ll, Ty, lT, oK, oL, vw, lU, pr, pt, vy, lV, qe, qf, vz, ⟨rfl, rfl, rfl, rfl, rfl, trivial⟩, hO, JR, cA, cI, yO, dk, dF, dV, al, hB⟩
   replace H := ifn Hp H
   refine GoQ.stable rfl (olookF (a := r167) (MK.str Try.underlying9) 9 hO rfl Try.underlying69 ti3 rfl rfl Hp) rfl rfl ?_
   refine GoQ.pure rfl (op_move rfl) rfl rfl ?_
   refine GoQ.pure rfl (op_extract rfl rfl) rfl rfl ?_
   refine GoQ.pure rfl (op_extract rfl rfl) rfl rfl ?_
   refine GoQ.pure rfl (op_assign rfl) rfl rfl ?_
   refine GoQ.pure rfl (op_assign rfl) rfl rfl ?_
   refine GoQ.nil ?_
   refine zq (zq (zr (zm rfl (zn (zf rfl rfl ?_)))))
   refine Go1.cut [(6, .pointer (some ⟨B10, 0, none⟩)), (9, .int .i64 (-1 : Int)), (10, .int .i64 (k2_110 : Int)), (11, .slice PI ((ix d_32 (k2_110 : Int)).length) PJ), (12, .string (gstr (chr (IntKind.i32.wrap ((97 : Int) + (k2_110 : Int)))))), (85, .slice p35 n37 c36), (86, .int .i64 (d_32.length : Int)), (87, .int .i64 (k2_110 : Int))] ⟨rfl, rfl, rfl, rfl, rfl, rfl, rfl, rfl, trivial⟩ ?_
   intro σ _
   refine zr (zm rfl (zm rfl ?_))
   replace cK := cK.ch ft.ch
   refine GoR.call (op_call body64 rfl (walk_slices_Clone_int hO.lt cK H)) rfl rfl ?_
   rintro adK adL ⟨r224, Hq, AW, AX, acK, rfl, TC, hN228, Ar, H⟩
   have v4 := Stp.more hO TC hN228
   dsimp only [List.cons_append, List.nil_append] at v4
   replace hO := v4.own
   refine zm rfl (zm rfl (zm rfl (zm rfl ?_)))
   refine GoR.inl (vs := [.pointer (some ⟨B10, 0, none⟩), .slice AW Hq AX, .int .i64 (-1 : Int), .int .i64 (k2_110 : Int), .string (gstr (chr (IntKind.i32.wrap ((97 : Int) + (k2_110 : Int))))), .int .i64 (-1 : Int)]) (caps := []) rfl rfl body65 Try.func65 rfl Try.ntmps65 rfl rfl rfl ?_
   intro RhR232 hR232
   refine zq (zr (za rfl (zn (zq (zr ?_)))))
   refine zm rfl (zo (op_nilCheck rfl) (zo (op_fieldAddr Try.underlying72 rfl ti29 rfl (by decide)) (zo (op_fieldAddr Try.underlying29 rfl ti22 rfl (by decide)) (zs (oblk (i := 3) 9 hO rfl rfl Try.underlying22 rfl rfl) ?_))))
   have Z13 := (kS.ch.trans ft.ch).trans v4.ch
   replace dV := dV.ch Z13
   refine zo (op_lenN Try.underlying22 rfl (dV.neq hO 7 rfl)) (za rfl (zn (zq ?_)))
   refine Go1.drawS 1 [(0, .pure), (1, .pure), (2, .pure), (3, .stable), (4, .pure), (6, .pure), (5, .loud), (7, .last)] mixed (by kernel_rfl) ?_
   intro adM TD
   have qo := Stp.same hO TD
   replace hO := qo.own
   refine GoQ.pure rfl (op_move rfl) rfl rfl ?_
   refine GoQ.pure rfl (op_nilCheck rfl) rfl rfl ?_
   refine GoQ.pure rfl (op_fieldAddr Try.underlying72 rfl ti69 rfl (by decide)) rfl rfl ?_
   refine GoQ.stable rfl (oblk (i := 9) 9 hO rfl rfl Try.underlying69 rfl rfl) rfl rfl ?_
   refine GoQ.pure rfl (op_move rfl) rfl rfl ?_
   refine GoQ.pure rfl (op_move rfl) rfl rfl ?_
   replace Ar := (Ar.ch (Ch.assoc _ _ _ _)).ch qo.ch
   have hobt := rowlend 0 hO rfl Ar
   obtain ⟨TE, TF⟩ := hobt
   have hOc238 := hO.drop 0
   refine GoQ.call rfl (op_call body61 (show ([.slice AW Hq AX] : List Value) = [.slice AW r224.length AX] from by rw [← TF]) (walk_enumerate_text hOc238.lt TE H)) (fun v w hr => by obtain ⟨_, _, hs, _, _⟩ := hr; assumption) rfl rfl ?_
   rintro adN Y8 ⟨r239, rfl, Lm, acL, H⟩
   have v7 := Stp.same hO Lm
   replace hO := v7.own
   have hobt := omapUpd (MK.str Try.underlying9) 10 hO rfl Try.underlying69 r239 (d_147.length : Int)
   obtain ⟨Y9, uR, Km⟩ := hobt
   dsimp only [sS, sZ] at uR
   refine GoQ.last rfl (Km (by exact rfl) (by exact rfl) (by exact rfl)) rfl rfl ?_
   replace hO := uR.own
   refine GoQ.nil ?_
   refine zq ?_
   refine Go1.cut [(0, .pointer (some ⟨B10, 0, none⟩)), (1, .slice AW Hq AX), (2, .int .i64 (-1 : Int)), (3, .int .i64 (k2_110 : Int)), (4, .string (gstr (chr (IntKind.i32.wrap ((97 : Int) + (k2_110 : Int)))))), (5, .int .i64 (-1 : Int)), (13, .int .i64 (d_147.length : Int))] ⟨rfl, rfl, rfl, rfl, rfl, rfl, rfl, trivial⟩ ?_
   intro σ _
   refine zr (zm rfl (zm rfl (zo (op_nilCheck rfl) (zo (op_fieldAddr Try.underlying72 rfl ti29 rfl (by decide)) (zo (op_fieldAddr Try.underlying29 rfl ti22 rfl (by decide)) ?_)))))
   refine zs (oblk (i := 3) 9 hO rfl rfl Try.underlying22 rfl rfl) (zm rfl ?_)
   replace Ar := (Ar.ch v7.ch).ch uR.ch
   have hobt := freeze 0 hO rfl Ar
   obtain ⟨hO1, qV, dh, Ln⟩ := hobt
   dsimp only [eS, eZ] at hO1 qV dh
   replace hB := ((((((hB.trans kS.fr).trans ft.fr).trans v4.fr).trans qo.fr).trans v7.fr).trans uR.fr).trans (Owns.dropFr _ _ 0)
   dsimp only [eS, eZ] at hB
   replace hO := hO1; clear hO1
   have hobt := obuild (r := Rp.sl (Rp.int .i64)) (n := 1) (parts := [(0, .slice AW Hq AX)]) (vs := [.slice AW Hq AX]) (xs := [r224]) rfl Try.underlying22 ti26 hO (by decide) (by kernel_rfl) (Els.cons rfl ⟨AW, AX, congrArg some (congrArg (fun nn => Value.slice AW nn AX) Ln), dh⟩ (Els.nil _ _ _) (by simp [mx])) rfl
   obtain ⟨adO, adP, v8, vA, OS, PQ⟩ := hobt
   refine zg (PQ rfl) ?_
   replace hO := v8.own
   have hobt := freeze 0 hO rfl vA
   obtain ⟨hO1, zJ, fD, TG⟩ := hobt
   dsimp only [eS, eZ] at hO1 zJ fD
   replace hB := (hB.trans v8.fr).trans (Owns.dropFr _ _ 0)
   dsimp only [eS, eZ] at hB
   replace hO := hO1; clear hO1
   obtain ⟨aaa, H⟩ := H
   have Z14 := ((((qo.ch.trans v7.ch).trans uR.ch).trans qV).trans v8.ch).trans zJ
   replace dV := dV.ch Z14
   have hobt := oapp Try.underlying22 ti26 rfl 6 hO rfl dV fD TG aaa (by decide)
   obtain ⟨adQ, Hr, Hs, TH, g7, fO, PR⟩ := hobt
   dsimp only [sS, sZ] at g7 fO
   refine zg (PR (by exact rfl) (by exact rfl)) ?_
   replace hO := g7.own
   refine zo (op_nilCheck rfl) (zo (op_fieldAddr Try.underlying72 rfl ti29 rfl (by decide)) (zo (op_fieldAddr Try.underlying29 rfl ti22 rfl (by decide)) ?_))
   have hobt := oblkSt2 (v := .slice Hr (lV + 1) Hs) (i := 3) (cs' := #[.int .i64 ((ix a0 (0 : Int)).length : Int), .bool false, .slice p35 n37 c36, .slice Hr (lV + 1) Hs, .slice pr lU pt, .slice oK lT oL, .slice none 0 0, .slice nM lR nN, .int .i64 (0 : Int), .map (some B4), .slice oA lQ oB, .slice mU lP nK, .slice ov lD ow]) 8 hO rfl rfl rfl rfl
   obtain ⟨adR, tX, PS⟩ := hobt
   dsimp only [sS, sZ] at tX
   refine zg (PS Try.underlying22 rfl ti22 (by exact rfl) (by exact rfl)) ?_
   replace hO := tX.own
   refine zn (zq (zr (zm rfl (zm rfl (zo (op_nilCheck rfl) ?_)))))
   refine zo (op_fieldAddr Try.underlying72 rfl ti29 rfl (by decide)) (zo (op_fieldAddr Try.underlying29 rfl ti26 rfl (by decide)) (zs (oblk (i := 4) 8 hO rfl rfl Try.underlying26 rfl rfl) (zm rfl ?_)))
   have hobt := obuild (r := Rp.int .i64) (n := 1) (parts := [(0, .int .i64 (-1 : Int))]) (vs := [.int .i64 (-1 : Int)]) (xs := [(-1 : Int)]) rfl Try.underlying26 ti3 hO (by decide) (by kernel_rfl) (Els.cons rfl rfl (Els.nil _ _ _) (by simp [mx])) rfl
   obtain ⟨adS, adT, uS, ce, acY, PT⟩ := hobt
   refine zg (PT rfl) ?_
   replace hO := uS.own
   have hobt := freeze 0 hO rfl ce
   obtain ⟨hO1, yP, gC, TI⟩ := hobt
   dsimp only [eS, eZ] at hO1 yP gC
   replace hB := (((hB.trans g7.fr).trans tX.fr).trans uS.fr).trans (Owns.dropFr _ _ 0)
   dsimp only [eS, eZ] at hB
   replace hO := hO1; clear hO1
   obtain ⟨aab, H⟩ := H
   have Z15 := (((((((((Z13.trans qo.ch).trans v7.ch).trans uR.ch).trans qV).trans v8.ch).trans zJ).trans g7.ch).trans tX.ch).trans uS.ch).trans yP
   replace dF := dF.ch Z15
   have hobt := oapp Try.underlying26 ti3 rfl 5 hO rfl dF gC TI aab (by decide)
   obtain ⟨adU, Im, Io, TJ, tY, bj, PU⟩ := hobt
   dsimp only [sS, sZ] at tY bj
   refine zg (PU (by exact rfl) (by exact rfl)) ?_
   replace hO := tY.own
   refine zo (op_nilCheck rfl) (zo (op_fieldAddr Try.underlying72 rfl ti29 rfl (by decide)) (zo (op_fieldAddr Try.underlying29 rfl ti26 rfl (by decide)) ?_))
   have hobt := oblkSt2 (v := .slice Im (lU + 1) Io) (i := 4) (cs' := #[.int .i64 ((ix a0 (0 : Int)).length : Int), .bool false, .slice p35 n37 c36, .slice Hr (lV + 1) Hs, .slice Im (lU + 1) Io, .slice oK lT oL, .slice none 0 0, .slice nM lR nN, .int .i64 (0 : Int), .map (some B4), .slice oA lQ oB, .slice mU lP nK, .slice ov lD ow]) 8 hO rfl rfl rfl rfl
   obtain ⟨adV, sf, PV⟩ := hobt
   dsimp only [sS, sZ] at sf
   refine zg (PV Try.underlying26 rfl ti26 (by exact rfl) (by exact rfl)) ?_
   replace hO := sf.own
   refine zn (zq ?_)
   refine Go1.cut [(0, .pointer (some ⟨B10, 0, none⟩)), (3, .int .i64 (k2_110 : Int)), (4, .string (gstr (chr (IntKind.i32.wrap ((97 : Int) + (k2_110 : Int)))))), (5, .int .i64 (-1 : Int)), (13, .int .i64 (d_147.length : Int))] ⟨rfl, rfl, rfl, rfl, rfl, trivial⟩ ?_
   intro σ _
   refine zr (zm rfl (zm rfl (zo (op_nilCheck rfl) (zo (op_fieldAddr Try.underlying72 rfl ti29 rfl (by decide)) (zo (op_fieldAddr Try.underlying29 rfl ti26 rfl (by decide)) ?_)))))
   refine zs (oblk (i := 5) 8 hO rfl rfl Try.underlying26 rfl rfl) (zm rfl ?_)
   have hobt := obuild (r := Rp.int .i64) (n := 1) (parts := [(0, .int .i64 (k2_110 : Int))]) (vs := [.int .i64 (k2_110 : Int)]) (xs := [(k2_110 : Int)]) rfl Try.underlying26 ti3 hO (by decide) (by kernel_rfl) (Els.cons rfl rfl (Els.nil _ _ _) (by simp [mx])) rfl
   obtain ⟨adW, iF, iG, TK, ac0, PW⟩ := hobt
   refine zg (PW rfl) ?_
   replace hO := iG.own
   have hobt := freeze 0 hO rfl TK
   obtain ⟨hO1, xV, k9, TL⟩ := hobt
   dsimp only [eS, eZ] at hO1 xV k9
   replace hB := (((hB.trans tY.fr).trans sf.fr).trans iG.fr).trans (Owns.dropFr _ _ 0)
   dsimp only [eS, eZ] at hB
   replace hO := hO1; clear hO1
   obtain ⟨aac, H⟩ := H
   have Z16 := (((Z15.trans tY.ch).trans sf.ch).trans iG.ch).trans xV
   replace dk := dk.ch Z16
   have hobt := oapp Try.underlying26 ti3 rfl 4 hO rfl dk k9 TL aac (by decide)
   obtain ⟨adX, Jm, Jo, TM, lr, lH, PX⟩ := hobt
   dsimp only [sS, sZ] at lr lH
   refine zg (PX (by exact rfl) (by exact rfl)) ?_
   replace hO := lr.own
   refine zo (op_nilCheck rfl) (zo (op_fieldAddr Try.underlying72 rfl ti29 rfl (by decide)) (zo (op_fieldAddr Try.underlying29 rfl ti26 rfl (by decide)) ?_))
   have hobt := oblkSt2 (v := .slice Jm (lT + 1) Jo) (i := 5) (cs' := #[.int .i64 ((ix a0 (0 : Int)).length : Int), .bool false, .slice p35 n37 c36, .slice Hr (lV + 1) Hs, .slice Im (lU + 1) Io, .slice Jm (lT + 1) Jo, .slice none 0 0, .slice nM lR nN, .int .i64 (0 : Int), .map (some B4), .slice oA lQ oB, .slice mU lP nK, .slice ov lD ow]) 8 hO rfl rfl rfl rfl
   obtain ⟨adY, rp, PY⟩ := hobt
   dsimp only [sS, sZ] at rp
   refine zg (PY Try.underlying26 rfl ti26 (by exact rfl) (by exact rfl)) ?_
   replace hO := rp.own
   refine zn (zq (zr (zm rfl (zm rfl (zo (op_nilCheck rfl) ?_)))))
   refine zo (op_fieldAddr Try.underlying72 rfl ti70 rfl (by decide)) (zs (oblk (i := 10) 8 hO rfl rfl Try.underlying70 rfl rfl) (zm rfl ?_))
   have hobt := obuild (r := Rp.str) (n := 1) (parts := [(0, .string (gstr (chr (IntKind.i32.wrap ((97 : Int) + (k2_110 : Int))))))]) (vs := [.string (gstr (chr (IntKind.i32.wrap ((97 : Int) + (k2_110 : Int)))))]) (xs := [chr (IntKind.i32.wrap ((97 : Int) + (k2_110 : Int)))]) rfl Try.underlying70 ti9 hO (by decide) (by kernel_rfl) (Els.cons rfl ⟨rfl, (chr_le _)⟩ (Els.nil _ _ _) (by simp [mx])) rfl
   obtain ⟨ad0, rT, sg, TN, ac1, P0⟩ := hobt
   refine zg (P0 rfl) ?_
   replace hO := sg.own
   have hobt := freeze 0 hO rfl TN
   obtain ⟨hO1, ql, dP, Lo⟩ := hobt
   dsimp only [eS, eZ] at hO1 ql dP
   replace hB := (((hB.trans lr.fr).trans rp.fr).trans sg.fr).trans (Owns.dropFr _ _ 0)
   dsimp only [eS, eZ] at hB
   replace hO := hO1; clear hO1
   obtain ⟨Kn, H⟩ := H
   have Z17 := (((Z16.trans lr.ch).trans rp.ch).trans sg.ch).trans ql
   replace cI := cI.ch Z17
   have hobt := oapp Try.underlying70 ti9 rfl 2 hO rfl cI dP Lo Kn (by decide)
   obtain ⟨P1, Ko, Kq, TO, gk, qW, P2⟩ := hobt
   dsimp only [sS, sZ] at gk qW
   refine zg (P2 (by exact rfl) (by exact rfl)) ?_
   replace hO := gk.own
   refine zo (op_nilCheck rfl) (zo (op_fieldAddr Try.underlying72 rfl ti70 rfl (by decide)) ?_)
   have hobt := oblkSt2 (v := .slice Ko (lQ + 1) Kq) (i := 10) (cs' := #[.int .i64 ((ix a0 (0 : Int)).length : Int), .bool false, .slice p35 n37 c36, .slice Hr (lV + 1) Hs, .slice Im (lU + 1) Io, .slice Jm (lT + 1) Jo, .slice none 0 0, .slice nM lR nN, .int .i64 (0 : Int), .map (some B4), .slice Ko (lQ + 1) Kq, .slice mU lP nK, .slice ov lD ow]) 8 hO rfl rfl rfl rfl
   obtain ⟨ad1, qp, Kr⟩ := hobt
   dsimp only [sS, sZ] at qp
   refine zg (Kr Try.underlying70 rfl ti70 (by exact rfl) (by exact rfl)) ?_
   replace hO := qp.own
   refine zn (zq ?_)
   refine Go1.cut [(0, .pointer (some ⟨B10, 0, none⟩)), (5, .int .i64 (-1 : Int)), (13, .int .i64 (d_147.length : Int))] ⟨rfl, rfl, rfl, trivial⟩ ?_
   intro σ _
   refine zr (zm rfl (zm rfl (zo (op_nilCheck rfl) (zo (op_fieldAddr Try.underlying72 rfl ti26 rfl (by decide)) (zs (oblk (i := 11) 8 hO rfl rfl Try.underlying26 rfl rfl) ?_)))))
   refine zm rfl ?_
   have hobt := obuild (r := Rp.int .i64) (n := 1) (parts := [(0, .int .i64 (-1 : Int))]) (vs := [.int .i64 (-1 : Int)]) (xs := [(-1 : Int)]) rfl Try.underlying26 ti3 hO (by decide) (by kernel_rfl) (Els.cons rfl rfl (Els.nil _ _ _) (by simp [mx])) rfl
   obtain ⟨ad2, ad3, g8, TP, ac2, P3⟩ := hobt
   refine zg (P3 rfl) ?_
   replace hO := g8.own
   have hobt := freeze 0 hO rfl TP
   obtain ⟨hO1, vB, xd, TQ⟩ := hobt
   dsimp only [eS, eZ] at hO1 vB xd
   replace hB := (((hB.trans gk.fr).trans qp.fr).trans g8.fr).trans (Owns.dropFr _ _ 0)
   dsimp only [eS, eZ] at hB
   replace hO := hO1; clear hO1
   obtain ⟨Jp, H⟩ := H
   have Z18 := (((Z17.trans gk.ch).trans qp.ch).trans g8.ch).trans vB
   replace cA := cA.ch Z18
   have hobt := oapp Try.underlying26 ti3 rfl 1 hO rfl cA xd TQ Jp (by decide)
   obtain ⟨aad, Lp, Lr, TS, fA, yQ, Ks⟩ := hobt
   dsimp only [sS, sZ] at fA yQ
   refine zg (Ks (by exact rfl) (by exact rfl)) ?_
   replace hO := fA.own
   refine zo (op_nilCheck rfl) (zo (op_fieldAddr Try.underlying72 rfl ti26 rfl (by decide)) ?_)
   have hobt := oblkSt2 (v := .slice Lp (lP + 1) Lr) (i := 11) (cs' := #[.int .i64 ((ix a0 (0 : Int)).length : Int), .bool false, .slice p35 n37 c36, .slice Hr (lV + 1) Hs, .slice Im (lU + 1) Io, .slice Jm (lT + 1) Jo, .slice none 0 0, .slice nM lR nN, .int .i64 (0 : Int), .map (some B4), .slice Ko (lQ + 1) Kq, .slice Lp (lP + 1) Lr, .slice ov lD ow]) 8 hO rfl rfl rfl rfl
   obtain ⟨ad4, pK, P4⟩ := hobt
   dsimp only [sS, sZ] at pK
   refine zg (P4 Try.underlying26 rfl ti26 (by exact rfl) (by exact rfl)) ?_
   replace hO := pK.own
   refine zn (zq (zr (zm rfl (za rfl (zn ?_)))))
   refine Go1.ret1V Try.func65 rfl (show _ = .int .i64 (d_147.length : Int) from rfl) ?_
   refine hR232 _ _ ?_
   refine za rfl (zn (zr (zm rfl (zm rfl (zo (op_nilCheck rfl) ?_)))))
   refine zo (op_fieldAddr Try.underlying72 rfl ti26 rfl (by decide)) (zs (oblk (i := 12) 8 hO rfl rfl Try.underlying26 rfl rfl) (zm rfl ?_))
   have hobt := obuild (r := Rp.int .i64) (n := 1) (parts := [(0, .int .i64 (d_147.length : Int))]) (vs := [.int .i64 (d_147.length : Int)]) (xs := [(d_147.length : Int)]) rfl Try.underlying26 ti3 hO (by decide) (by kernel_rfl) (Els.cons rfl rfl (Els.nil _ _ _) (by simp [mx])) rfl
   obtain ⟨ad5, ad6, qq, TT, ac3, P5⟩ := hobt
   refine zg (P5 rfl) ?_
   replace hO := qq.own
   have hobt := freeze 0 hO rfl TT
   obtain ⟨hO1, lv, HJ, TU⟩ := hobt
   dsimp only [eS, eZ] at hO1 lv HJ
   replace hB := (((hB.trans fA.fr).trans pK.fr).trans qq.fr).trans (Owns.dropFr _ _ 0)
   dsimp only [eS, eZ] at hB
   replace hO := hO1; clear hO1
   obtain ⟨aae, H⟩ := H
   have Z19 := (((Z18.trans fA.ch).trans pK.ch).trans qq.ch).trans lv
   replace ct := ct.ch Z19
   have hobt := oapp Try.underlying26 ti3 rfl 0 hO rfl ct HJ TU aae (by decide)
   obtain ⟨ad7, Nr, Ns, qX, er, JS, P6⟩ := hobt
   dsimp only [sS, sZ] at er JS
   refine zg (P6 (by exact rfl) (by exact rfl)) ?_
   replace hO := er.own
   refine zo (op_nilCheck rfl) (zo (op_fieldAddr Try.underlying72 rfl ti26 rfl (by decide)) ?_)
   have hobt := oblkSt2 (v := .slice Nr (lD + 1) Ns) (i := 12) (cs' := #[.int .i64 ((ix a0 (0 : Int)).length : Int), .bool false, .slice p35 n37 c36, .slice Hr (lV + 1) Hs, .slice Im (lU + 1) Io, .slice Jm (lT + 1) Jo, .slice none 0 0, .slice nM lR nN, .int .i64 (0 : Int), .map (some B4), .slice Ko (lQ + 1) Kq, .slice Lp (lP + 1) Lr, .slice Nr (lD + 1) Ns]) 8 hO rfl rfl rfl rfl
   obtain ⟨ad8, oM, P7⟩ := hobt
   dsimp only [sS, sZ] at oM
   refine zg (P7 Try.underlying26 rfl ti26 (by exact rfl) (by exact rfl)) ?_
   replace hO := oM.own
   refine zn ?_
   refine Go1.inBlock ?_
   refine Go1.cut [(6, .pointer (some ⟨B10, 0, none⟩)), (9, .int .i64 (-1 : Int)), (85, .slice p35 n37 c36), (86, .int .i64 (d_32.length : Int)), (87, .int .i64 (k2_110 : Int))] ⟨rfl, rfl, rfl, rfl, rfl, trivial⟩ ?_
   intro σ _
   refine zr ?_
   replace al := ((al.ch Z19).ch er.ch).ch oM.ch
   refine zo (op_add rfl rfl (wrap_i64 (natbd Jl al.bd))) (zm rfl (zn ?_))
   replace JS := JS.ch oM.ch
   replace hB := (hB.trans er.fr).trans oM.fr
   have Z20 := (((pK.ch.trans qq.ch).trans lv).trans er.ch).trans oM.ch
   replace yQ := yQ.ch Z20
   have Z21 := (((((((qp.ch.trans g8.ch).trans vB).trans fA.ch).trans pK.ch).trans qq.ch).trans lv).trans er.ch).trans oM.ch
   replace qW := qW.ch Z21
   have Z22 := (((((((((((rp.ch.trans sg.ch).trans ql).trans gk.ch).trans qp.ch).trans g8.ch).trans vB).trans fA.ch).trans pK.ch).trans qq.ch).trans lv).trans er.ch).trans oM.ch
   replace lH := lH.ch Z22
   have Z23 := (((((((((((((((sf.ch.trans iG.ch).trans xV).trans lr.ch).trans rp.ch).trans sg.ch).trans ql).trans gk.ch).trans qp.ch).trans g8.ch).trans vB).trans fA.ch).trans pK.ch).trans qq.ch).trans lv).trans er.ch).trans oM.ch
   replace bj := bj.ch Z23
   have Z24 := (((((((((((((((((((tX.ch.trans uS.ch).trans yP).trans tY.ch).trans sf.ch).trans iG.ch).trans xV).trans lr.ch).trans rp.ch).trans sg.ch).trans ql).trans gk.ch).trans qp.ch).trans g8.ch).trans vB).trans fA.ch).trans pK.ch).trans qq.ch).trans lv).trans er.ch).trans oM.ch
   replace fO := fO.ch Z24
   replace cB := ((cB.ch Z19).ch er.ch).ch oM.ch
   exact hX2 _ H _ _ ⟨lD + 1, Nr, Ns, qX, lP + 1, Lp, Lr, TS, lQ + 1, Ko, Kq, TO, lR, nM, nN, vu, lT + 1, Jm, Jo, TM, lU + 1, Im, Io, TJ, lV + 1, Hr, Hs, TH, ⟨rfl, rfl, rfl, rfl, rfl, trivial⟩, hO, JS, yQ, qW, cB, lH, bj, fO, al, hB⟩
  replace H := ifn Jl H
  refine zo (fun w => opB (op_lss rfl rfl w) (decide_eq_false Jl)) (zn (zq (zf rfl rfl ?_)))
  refine Go1.exit rfl ?_
  refine zq (zr (zm rfl (za rfl (za rfl (zn ?_)))))
  have yy := Stp.nil (e := 26) (r := 1) hO
  replace hO := yy.own
  have oN := Els.nil (Rp.sl (Rp.int .i64)) (bl (.row 26 1 none 0 0 [] :: [.row 3 1 ov lD ow xb, .row 3 1 mU lP nK vr, .row 9 1 oA lQ oB vt, .row 39 2 nM lR nN vu, .row 3 1 oK lT oL vw, .row 3 1 pr lU pt vy, .row 26 1 qe lV qf vz, .row 26 1 p35 n37 c36 gX, .blk B10 (.cells #[.int .i64 ((ix a0 (0 : Int)).length : Int), .bool false, .slice p35 n37 c36, .slice qe lV qf, .slice pr lU pt, .slice oK lT oL, .slice none 0 0, .slice nM lR nN, .int .i64 (0 : Int), .map (some B4), .slice oA lQ oB, .slice mU lP nK, .slice ov lD ow] 72 (0, 0)), .any (mapE (fun a : List UInt8 => Value.string (gstr a)) (fun a : Int => Value.int .i64 a) B4 m2_153)]) ++ A) PH
  have eO := Stp.front 10 hO rfl
  dsimp only [eS, eZ] at eO
  replace hO := eO.own
  have wa := Stp.front 2 hO rfl
  dsimp only [eS, eZ] at wa
  replace hO := wa.own
  have g9 := Stp.front 3 hO rfl
  dsimp only [eS, eZ] at g9
  replace hO := g9.own
  have wb := Stp.front 4 hO rfl
  dsimp only [eS, eZ] at wb
  replace hO := wb.own
  have wc := Stp.front 5 hO rfl
  dsimp only [eS, eZ] at wc
  replace hO := wc.own
  have we := Stp.front 5 hO rfl
  dsimp only [eS, eZ] at we
  replace hO := we.own
  have iH := Stp.front 6 hO rfl
  dsimp only [eS, eZ] at iH
  replace hO := iH.own
  have jq := Stp.front 7 hO rfl
  dsimp only [eS, eZ] at jq
  replace hO := jq.own
  have wg := Stp.front 8 hO rfl
  dsimp only [eS, eZ] at wg
  replace hO := wg.own
  have wh := Stp.front 9 hO rfl
  dsimp only [eS, eZ] at wh
  replace hO := wh.own
  have wi := Stp.front 10 hO rfl
  dsimp only [eS, eZ] at wi
  replace hO := wi.own
  refine Go1.ret2 Try.func49 rfl ?_
  have Z25 := (((((((((eO.ch.trans wa.ch).trans g9.ch).trans wb.ch).trans wc.ch).trans we.ch).trans iH.ch).trans jq.ch).trans wg.ch).trans wh.ch).trans wi.ch
  replace oN := oN.ch Z25
  have Z26 := ((((((((((yy.ch.trans eO.ch).trans wa.ch).trans g9.ch).trans wb.ch).trans wc.ch).trans we.ch).trans iH.ch).trans jq.ch).trans wg.ch).trans wh.ch).trans wi.ch
  replace ct := ct.ch Z26
  replace cA := cA.ch Z26
  replace cI := cI.ch Z26
  replace cB := cB.ch Z26
  replace dk := dk.ch Z26
  replace dF := dF.ch Z26
  replace dV := dV.ch Z26
  replace al := al.ch Z26
  replace hB := (((((((((((hB.trans yy.fr).trans eO.fr).trans wa.fr).trans g9.fr).trans wb.fr).trans wc.fr).trans we.fr).trans iH.fr).trans jq.fr).trans wg.fr).trans wh.fr).trans wi.fr
  exact Or.inr ⟨(⟨(⟨((ix a0 (0 : Int)).length : Int), false, d_32, d_147, d_141, d_135, ([] : List (List Int)), d_129, (0 : Int)⟩ : Enum), m2_153, d_123, d_117, d_111⟩ : run), ((0 : Int)), B10, n37, p35, c36, gX, lV, qe, qf, vz, lU, pr, pt, vy, lT, oK, oL, vw, 0, none, 0, ([]), lR, nM, nN, vu, B4, lQ, oA, oB, vt, lP, mU, nK, vr, lD, ov, ow, xb, rfl, hB.same, hO, al, dV, dF, dk, oN, cB, cI, cA, ct, H⟩
 replace H := ifp rfl H
 refine zt rfl rfl (zr (zm rfl (zm rfl (zo (op_nilCheck rfl) (zo (op_fieldAddr Try.underlying72 rfl ti29 rfl (by decide)) ?_)))))
 refine zo (op_fieldAddr Try.underlying29 rfl ti3 rfl (by decide)) (zs (oblk (i := 0) 1 hO rfl rfl Try.underlying3 rfl rfl) ?_)
 refine GoR.call (op_call body62 rfl (walk_trans_Identity hO.lt H)) rfl rfl ?_
 rintro ad9 aaf ⟨r397, Ht, Hu, rfl, TV, dD, H⟩
 have I0 := Stp.same hO TV
 replace hO := I0.own
 refine GoR.inl (vs := [.pointer (some ⟨B10, 0, none⟩), .slice Ht r397.length Hu, .int .i64 (-1 : Int), .int .i64 (-1 : Int), .string (gstr (([] : Str))), .int .i64 (-1 : Int)]) (caps := []) rfl rfl body65 Try.func65 rfl Try.ntmps65 rfl rfl rfl ?_
 intro RhR403 hR403
 refine zq (zr (za rfl (zn (zq (zr ?_)))))
 refine zm rfl (zo (op_nilCheck rfl) (zo (op_fieldAddr Try.underlying72 rfl ti29 rfl (by decide)) (zo (op_fieldAddr Try.underlying29 rfl ti22 rfl (by decide)) (zs (oblk (i := 3) 1 hO rfl rfl Try.underlying22 rfl rfl) (zo (op_len Try.underlying22 rfl) ?_)))))
 refine za rfl (zn (zq ?_))
 refine Go1.cut [(0, .pointer (some ⟨B10, 0, none⟩)), (1, .slice Ht r397.length Hu), (2, .int .i64 (-1 : Int)), (3, .int .i64 (-1 : Int)), (4, .string (gstr (([] : Str)))), (5, .int .i64 (-1 : Int)), (13, .int .i64 (0 : Int))] ⟨rfl, rfl, rfl, rfl, rfl, rfl, rfl, trivial⟩ ?_
 intro σ _
 refine Go1.drawS 1 [(0, .pure), (1, .pure), (2, .pure), (3, .stable), (4, .pure), (6, .pure), (5, .loud), (7, .last)] mixed (by kernel_rfl) ?_
 intro aea TW
 have Hv := Stp.same hO TW
 replace hO := Hv.own
 refine GoQ.pure rfl (op_move rfl) rfl rfl ?_
 refine GoQ.pure rfl (op_nilCheck rfl) rfl rfl ?_
 refine GoQ.pure rfl (op_fieldAddr Try.underlying72 rfl ti69 rfl (by decide)) rfl rfl ?_
 refine GoQ.stable rfl (oblk (i := 9) 1 hO rfl rfl Try.underlying69 rfl rfl) rfl rfl ?_
 refine GoQ.pure rfl (op_move rfl) rfl rfl ?_
 refine GoQ.pure rfl (op_move rfl) rfl rfl ?_
 replace dD := dD.ch Hv.ch
 refine GoQ.call rfl (op_call body61 rfl (walk_enumerate_text hO.lt dD H)) (fun v w hr => by obtain ⟨_, _, hs, _, _⟩ := hr; assumption) rfl rfl ?_
 rintro aag aah ⟨r407, rfl, Ls, acM, H⟩
 have mV := Stp.same hO Ls
 replace hO := mV.own
 have hobt := omapUpd (MK.str Try.underlying9) 2 hO rfl Try.underlying69 r407 (0 : Int)
 obtain ⟨aai, lW, P8⟩ := hobt
 refine GoQ.last rfl (P8 (by exact rfl) (by exact rfl) (by exact rfl)) rfl rfl ?_
 replace hO := lW.own
 refine GoQ.nil ?_
 refine zq (zr (zm rfl (zm rfl (zo (op_nilCheck rfl) (zo (op_fieldAddr Try.underlying72 rfl ti29 rfl (by decide)) ?_)))))
 refine zo (op_fieldAddr Try.underlying29 rfl ti22 rfl (by decide)) (zs (oblk (i := 3) 1 hO rfl rfl Try.underlying22 rfl rfl) (zm rfl ?_))
 replace dD := (dD.ch mV.ch).ch lW.ch
 have hobt := obuild (r := Rp.sl (Rp.int .i64)) (n := 1) (parts := [(0, .slice Ht r397.length Hu)]) (vs := [.slice Ht r397.length Hu]) (xs := [r397]) rfl Try.underlying22 ti26 hO (by decide) (by kernel_rfl) (Els.cons rfl ⟨Ht, Hu, rfl, dD⟩ (Els.nil _ _ _) (by simp [mx])) rfl
 obtain ⟨aaj, aeb, mW, TX, ac4, P9⟩ := hobt
 refine zg (P9 rfl) ?_
 replace hO := mW.own
 have hobt := freeze 0 hO rfl TX
 obtain ⟨hO1, Lt, e8, TY⟩ := hobt
 replace hO := hO1; clear hO1
 have kT := Stp.nil (e := 26) (r := 1) hO
 replace hO := kT.own
 have j5 := Els.nil (Rp.sl (Rp.int .i64)) (bl (.row 26 1 none 0 0 [] :: [.row 26 1 p35 n37 c36 gX, .blk B10 (.cells #[.int .i64 ((ix a0 (0 : Int)).length : Int), .bool true, .slice p35 n37 c36, .slice none 0 0, .slice none 0 0, .slice none 0 0, .slice none 0 0, .slice none 0 0, .int .i64 (0 : Int), .map (some B4), .slice none 0 0, .slice none 0 0, .slice none 0 0] 72 (0, 0)), .any (mapE (fun a : List UInt8 => Value.string (gstr a)) (fun a : Int => Value.int .i64 a) B4 (mput (([] : List (Str × Int))) r407 ((0 : Int))))]) ++ A) aaj
 obtain ⟨aak, H⟩ := H
 replace e8 := e8.ch kT.ch
 have hobt := oapp Try.underlying22 ti26 rfl 0 hO rfl j5 e8 TY aak (by decide)
 obtain ⟨aec, vC, vD, Gi, Gc, fB, Qa⟩ := hobt
 refine zg (Qa (by exact rfl) (by exact rfl)) ?_
 replace hO := Gc.own
 refine zo (op_nilCheck rfl) (zo (op_fieldAddr Try.underlying72 rfl ti29 rfl (by decide)) (zo (op_fieldAddr Try.underlying29 rfl ti22 rfl (by decide)) ?_))
 have hobt := oblkSt2 (v := .slice vC (0 + 1) vD) (i := 3) (cs' := #[.int .i64 ((ix a0 (0 : Int)).length : Int), .bool true, .slice p35 n37 c36, .slice vC (0 + 1) vD, .slice none 0 0, .slice none 0 0, .slice none 0 0, .slice none 0 0, .int .i64 (0 : Int), .map (some B4), .slice none 0 0, .slice none 0 0, .slice none 0 0]) 2 hO rfl rfl rfl rfl
 obtain ⟨aed, Co, Qb⟩ := hobt
 refine zg (Qb Try.underlying22 rfl ti22 (by exact rfl) (by exact rfl)) ?_
 replace hO := Co.own
 refine zn (zq ?_)
 refine Go1.cut [(0, .pointer (some ⟨B10, 0, none⟩)), (2, .int .i64 (-1 : Int)), (3, .int .i64 (-1 : Int)), (4, .string (gstr (([] : Str)))), (5, .int .i64 (-1 : Int)), (13, .int .i64 (0 : Int))] ⟨rfl, rfl, rfl, rfl, rfl, rfl, trivial⟩ ?_
 intro σ _
 refine zr (zm rfl (zm rfl (zo (op_nilCheck rfl) (zo (op_fieldAddr Try.underlying72 rfl ti29 rfl (by decide)) (zo (op_fieldAddr Try.underlying29 rfl ti26 rfl (by decide)) ?_)))))
 refine zs (oblk (i := 4) 2 hO rfl rfl Try.underlying26 rfl rfl) (zm rfl ?_)
 have hobt := obuild (r := Rp.int .i64) (n := 1) (parts := [(0, .int .i64 (-1 : Int))]) (vs := [.int .i64 (-1 : Int)]) (xs := [(-1 : Int)]) rfl Try.underlying26 ti3 hO (by decide) (by kernel_rfl) (Els.cons rfl rfl (Els.nil _ _ _) (by simp [mx])) rfl
 obtain ⟨aal, aee, Cp, T0, ac5, Qc⟩ := hobt
 refine zg (Qc rfl) ?_
 replace hO := Cp.own
 have hobt := freeze 0 hO rfl T0
 obtain ⟨hO1, HK, gh, T1⟩ := hobt
 dsimp only [eS, eZ] at hO1 HK gh
 replace hB := ((((((((((hB.trans I0.fr).trans Hv.fr).trans mV.fr).trans lW.fr).trans mW.fr).trans (Owns.dropFr _ _ 0)).trans kT.fr).trans Gc.fr).trans Co.fr).trans Cp.fr).trans (Owns.dropFr _ _ 0)
 dsimp only [eS, eZ] at hB
 replace hO := hO1; clear hO1
 have AY := Stp.nil (e := 3) (r := 1) hO
 replace hO := AY.own
 have T3 := Els.nil (Rp.int .i64) (bl (.row 3 1 none 0 0 [] :: [.row 26 1 vC (0 + 1) vD Gi, .row 26 1 p35 n37 c36 gX, .blk B10 (.cells #[.int .i64 ((ix a0 (0 : Int)).length : Int), .bool true, .slice p35 n37 c36, .slice vC (0 + 1) vD, .slice none 0 0, .slice none 0 0, .slice none 0 0, .slice none 0 0, .int .i64 (0 : Int), .map (some B4), .slice none 0 0, .slice none 0 0, .slice none 0 0] 72 (0, 0)), .any (mapE (fun a : List UInt8 => Value.string (gstr a)) (fun a : Int => Value.int .i64 a) B4 (mput (([] : List (Str × Int))) r407 ((0 : Int))))]) ++ A) aal
 obtain ⟨aam, H⟩ := H
 replace gh := gh.ch AY.ch
 have hobt := oapp Try.underlying26 ti3 rfl 0 hO rfl T3 gh T1 aam (by decide)
 obtain ⟨aan, ym, yn, HL, oc, gD, Kt⟩ := hobt
 dsimp only [sS, sZ] at oc gD
 refine zg (Kt (by exact rfl) (by exact rfl)) ?_
 replace hO := oc.own
 refine zo (op_nilCheck rfl) (zo (op_fieldAddr Try.underlying72 rfl ti29 rfl (by decide)) (zo (op_fieldAddr Try.underlying29 rfl ti26 rfl (by decide)) ?_))
 have hobt := oblkSt2 (v := .slice ym (0 + 1) yn) (i := 4) (cs' := #[.int .i64 ((ix a0 (0 : Int)).length : Int), .bool true, .slice p35 n37 c36, .slice vC (0 + 1) vD, .slice ym (0 + 1) yn, .slice none 0 0, .slice none 0 0, .slice none 0 0, .int .i64 (0 : Int), .map (some B4), .slice none 0 0, .slice none 0 0, .slice none 0 0]) 3 hO rfl rfl rfl rfl
 obtain ⟨aef, jV, Qd⟩ := hobt
 dsimp only [sS, sZ] at jV
 refine zg (Qd Try.underlying26 rfl ti26 (by exact rfl) (by exact rfl)) ?_
 replace hO := jV.own
 refine zn (zq (zr (zm rfl (zm rfl (zo (op_nilCheck rfl) ?_)))))
 refine zo (op_fieldAddr Try.underlying72 rfl ti29 rfl (by decide)) (zo (op_fieldAddr Try.underlying29 rfl ti26 rfl (by decide)) (zs (oblk (i := 5) 3 hO rfl rfl Try.underlying26 rfl rfl) (zm rfl ?_)))
 have hobt := obuild (r := Rp.int .i64) (n := 1) (parts := [(0, .int .i64 (-1 : Int))]) (vs := [.int .i64 (-1 : Int)]) (xs := [(-1 : Int)]) rfl Try.underlying26 ti3 hO (by decide) (by kernel_rfl) (Els.cons rfl rfl (Els.nil _ _ _) (by simp [mx])) rfl
 obtain ⟨aao, aeg, zK, T4, ac6, Qe⟩ := hobt
 refine zg (Qe rfl) ?_
 replace hO := zK.own
 have hobt := freeze 0 hO rfl T4
 obtain ⟨hO1, D1, j6, T5⟩ := hobt
 dsimp only [eS, eZ] at hO1 D1 j6
 replace hB := ((((hB.trans AY.fr).trans oc.fr).trans jV.fr).trans zK.fr).trans (Owns.dropFr _ _ 0)
 dsimp only [eS, eZ] at hB
 replace hO := hO1; clear hO1
 have jr := Stp.nil (e := 3) (r := 1) hO
 replace hO := jr.own
 have yR := Els.nil (Rp.int .i64) (bl (.row 3 1 none 0 0 [] :: [.row 3 1 ym (0 + 1) yn HL, .row 26 1 vC (0 + 1) vD Gi, .row 26 1 p35 n37 c36 gX, .blk B10 (.cells #[.int .i64 ((ix a0 (0 : Int)).length : Int), .bool true, .slice p35 n37 c36, .slice vC (0 + 1) vD, .slice ym (0 + 1) yn, .slice none 0 0, .slice none 0 0, .slice none 0 0, .int .i64 (0 : Int), .map (some B4), .slice none 0 0, .slice none 0 0, .slice none 0 0] 72 (0, 0)), .any (mapE (fun a : List UInt8 => Value.string (gstr a)) (fun a : Int => Value.int .i64 a) B4 (mput (([] : List (Str × Int))) r407 ((0 : Int))))]) ++ A) aao
 obtain ⟨aap, H⟩ := H
 replace j6 := j6.ch jr.ch
 have hobt := oapp Try.underlying26 ti3 rfl 0 hO rfl yR j6 T5 aap (by decide)
 obtain ⟨aeh, Aj, Ak, I1, xE, lI, Qf⟩ := hobt
 dsimp only [sS, sZ] at xE lI
 refine zg (Qf (by exact rfl) (by exact rfl)) ?_
 replace hO := xE.own
 refine zo (op_nilCheck rfl) (zo (op_fieldAddr Try.underlying72 rfl ti29 rfl (by decide)) (zo (op_fieldAddr Try.underlying29 rfl ti26 rfl (by decide)) ?_))
 have hobt := oblkSt2 (v := .slice Aj (0 + 1) Ak) (i := 5) (cs' := #[.int .i64 ((ix a0 (0 : Int)).length : Int), .bool true, .slice p35 n37 c36, .slice vC (0 + 1) vD, .slice ym (0 + 1) yn, .slice Aj (0 + 1) Ak, .slice none 0 0, .slice none 0 0, .int .i64 (0 : Int), .map (some B4), .slice none 0 0, .slice none 0 0, .slice none 0 0]) 4 hO rfl rfl rfl rfl
 obtain ⟨aei, wj, Qg⟩ := hobt
 dsimp only [sS, sZ] at wj
 refine zg (Qg Try.underlying26 rfl ti26 (by exact rfl) (by exact rfl)) ?_
 replace hO := wj.own
 refine zn (zq ?_)
 refine Go1.cut [(0, .pointer (some ⟨B10, 0, none⟩)), (4, .string (gstr (([] : Str)))), (5, .int .i64 (-1 : Int)), (13, .int .i64 (0 : Int))] ⟨rfl, rfl, rfl, rfl, trivial⟩ ?_
 intro σ _
 refine zr (zm rfl (zm rfl (zo (op_nilCheck rfl) (zo (op_fieldAddr Try.underlying72 rfl ti70 rfl (by decide)) (zs (oblk (i := 10) 4 hO rfl rfl Try.underlying70 rfl rfl) ?_)))))
 refine zm rfl ?_
 have hobt := obuild (r := Rp.str) (n := 1) (parts := [(0, .string (gstr (([] : Str))))]) (vs := [.string (gstr (([] : Str)))]) (xs := [([] : Str)]) rfl Try.underlying70 ti9 hO (by decide) (by kernel_rfl) (Els.cons rfl ⟨rfl, (by decide)⟩ (Els.nil _ _ _) (by simp [mx])) rfl
 obtain ⟨Lu, aej, gt, D2, ac7, Qh⟩ := hobt
 refine zg (Qh rfl) ?_
 replace hO := gt.own
 have hobt := freeze 0 hO rfl D2
 obtain ⟨hO1, At, pD, T6⟩ := hobt
 dsimp only [eS, eZ] at hO1 At pD
 replace hB := ((((hB.trans jr.fr).trans xE.fr).trans wj.fr).trans gt.fr).trans (Owns.dropFr _ _ 0)
 dsimp only [eS, eZ] at hB
 replace hO := hO1; clear hO1
 have wk := Stp.nil (e := 9) (r := 1) hO
 replace hO := wk.own
 have Gj := Els.nil (Rp.str) (bl (.row 9 1 none 0 0 [] :: [.row 3 1 Aj (0 + 1) Ak I1, .row 3 1 ym (0 + 1) yn HL, .row 26 1 vC (0 + 1) vD Gi, .row 26 1 p35 n37 c36 gX, .blk B10 (.cells #[.int .i64 ((ix a0 (0 : Int)).length : Int), .bool true, .slice p35 n37 c36, .slice vC (0 + 1) vD, .slice ym (0 + 1) yn, .slice Aj (0 + 1) Ak, .slice none 0 0, .slice none 0 0, .int .i64 (0 : Int), .map (some B4), .slice none 0 0, .slice none 0 0, .slice none 0 0] 72 (0, 0)), .any (mapE (fun a : List UInt8 => Value.string (gstr a)) (fun a : Int => Value.int .i64 a) B4 (mput (([] : List (Str × Int))) r407 ((0 : Int))))]) ++ A) Lu
 obtain ⟨aaq, H⟩ := H
 replace pD := pD.ch wk.ch
 have hobt := oapp Try.underlying70 ti9 rfl 0 hO rfl Gj pD T6 aaq (by decide)
 obtain ⟨aar, Ex, Ey, JT, uT, tO, Qi⟩ := hobt
 dsimp only [sS, sZ] at uT tO
 refine zg (Qi (by exact rfl) (by exact rfl)) ?_
 replace hO := uT.own
 refine zo (op_nilCheck rfl) (zo (op_fieldAddr Try.underlying72 rfl ti70 rfl (by decide)) ?_)
 have hobt := oblkSt2 (v := .slice Ex (0 + 1) Ey) (i := 10) (cs' := #[.int .i64 ((ix a0 (0 : Int)).length : Int), .bool true, .slice p35 n37 c36, .slice vC (0 + 1) vD, .slice ym (0 + 1) yn, .slice Aj (0 + 1) Ak, .slice none 0 0, .slice none 0 0, .int .i64 (0 : Int), .map (some B4), .slice Ex (0 + 1) Ey, .slice none 0 0, .slice none 0 0]) 5 hO rfl rfl rfl rfl
 obtain ⟨aek, t0, Ku⟩ := hobt
 dsimp only [sS, sZ] at t0
 refine zg (Ku Try.underlying70 rfl ti70 (by exact rfl) (by exact rfl)) ?_
 replace hO := t0.own
 refine zn (zq (zr (zm rfl (zm rfl (zo (op_nilCheck rfl) ?_)))))
 refine zo (op_fieldAddr Try.underlying72 rfl ti26 rfl (by decide)) (zs (oblk (i := 11) 5 hO rfl rfl Try.underlying26 rfl rfl) (zm rfl ?_))
 have hobt := obuild (r := Rp.int .i64) (n := 1) (parts := [(0, .int .i64 (-1 : Int))]) (vs := [.int .i64 (-1 : Int)]) (xs := [(-1 : Int)]) rfl Try.underlying26 ti3 hO (by decide) (by kernel_rfl) (Els.cons rfl rfl (Els.nil _ _ _) (by simp [mx])) rfl
 obtain ⟨aas, ael, uU, T7, ac8, Kv⟩ := hobt
 refine zg (Kv rfl) ?_
 replace hO := uU.own
 have hobt := freeze 0 hO rfl T7
 obtain ⟨hO1, yS, yT, T8⟩ := hobt
 dsimp only [eS, eZ] at hO1 yS yT
 replace hB := ((((hB.trans wk.fr).trans uT.fr).trans t0.fr).trans uU.fr).trans (Owns.dropFr _ _ 0)
 dsimp only [eS, eZ] at hB
 replace hO := hO1; clear hO1
 have t3 := Stp.nil (e := 3) (r := 1) hO
 replace hO := t3.own
 have T9 := Els.nil (Rp.int .i64) (bl (.row 3 1 none 0 0 [] :: [.row 9 1 Ex (0 + 1) Ey JT, .row 3 1 Aj (0 + 1) Ak I1, .row 3 1 ym (0 + 1) yn HL, .row 26 1 vC (0 + 1) vD Gi, .row 26 1 p35 n37 c36 gX, .blk B10 (.cells #[.int .i64 ((ix a0 (0 : Int)).length : Int), .bool true, .slice p35 n37 c36, .slice vC (0 + 1) vD, .slice ym (0 + 1) yn, .slice Aj (0 + 1) Ak, .slice none 0 0, .slice none 0 0, .int .i64 (0 : Int), .map (some B4), .slice Ex (0 + 1) Ey, .slice none 0 0, .slice none 0 0] 72 (0, 0)), .any (mapE (fun a : List UInt8 => Value.string (gstr a)) (fun a : Int => Value.int .i64 a) B4 (mput (([] : List (Str × Int))) r407 ((0 : Int))))]) ++ A) aas
 obtain ⟨aat, H⟩ := H
 replace yT := yT.ch t3.ch
 have hobt := oapp Try.underlying26 ti3 rfl 0 hO rfl T9 yT T8 aat (by decide)
 obtain ⟨aem, Ip, Iq, Lv, hV, D3, Qj⟩ := hobt
 dsimp only [sS, sZ] at hV D3
 refine zg (Qj (by exact rfl) (by exact rfl)) ?_
 replace hO := hV.own
 refine zo (op_nilCheck rfl) (zo (op_fieldAddr Try.underlying72 rfl ti26 rfl (by decide)) ?_)
 have hobt := oblkSt2 (v := .slice Ip (0 + 1) Iq) (i := 11) (cs' := #[.int .i64 ((ix a0 (0 : Int)).length : Int), .bool true, .slice p35 n37 c36, .slice vC (0 + 1) vD, .slice ym (0 + 1) yn, .slice Aj (0 + 1) Ak, .slice none 0 0, .slice none 0 0, .int .i64 (0 : Int), .map (some B4), .slice Ex (0 + 1) Ey, .slice Ip (0 + 1) Iq, .slice none 0 0]) 6 hO rfl rfl rfl rfl
 obtain ⟨Nt, rq, Qk⟩ := hobt
 dsimp only [sS, sZ] at rq
 refine zg (Qk Try.underlying26 rfl ti26 (by exact rfl) (by exact rfl)) ?_
 replace hO := rq.own
 refine zn (zq ?_)
 refine Go1.cut [(13, .int .i64 (0 : Int))] ⟨rfl, trivial⟩ ?_
 intro σ _
 refine zr (zm rfl (za rfl (zn ?_)))
 refine Go1.ret1V Try.func65 rfl (show _ = .int .i64 (0 : Int) from rfl) ?_
 refine hR403 _ _ ?_
 refine za rfl (zn (zq (zq (zr (zm rfl ?_)))))
 refine zo (op_nilCheck rfl) (zo (op_fieldAddr Try.underlying72 rfl ti29 rfl (by decide)) (zo (op_fieldAddr Try.underlying29 rfl ti22 rfl (by decide)) (zs (oblk (i := 2) 6 hO rfl rfl Try.underlying22 rfl rfl) ?_)))
 have Z27 := (((((((((((((((((((((((((((I0.ch.trans Hv.ch).trans mV.ch).trans lW.ch).trans mW.ch).trans Lt).trans kT.ch).trans Gc.ch).trans Co.ch).trans Cp.ch).trans HK).trans AY.ch).trans oc.ch).trans jV.ch).trans zK.ch).trans D1).trans jr.ch).trans xE.ch).trans wj.ch).trans gt.ch).trans At).trans wk.ch).trans uT.ch).trans t0.ch).trans uU.ch).trans yS).trans t3.ch).trans hV.ch).trans rq.ch
 replace al := al.ch Z27
 refine zo (op_lenN Try.underlying22 rfl (al.neq hO 5 rfl)) (zm rfl (zn (zb ?_)))
 have ia := Stp.nil (e := 39) (r := 2) hO
 replace hO := ia.own
 have HM := Els.nil (rpRule) (bl (.row 39 2 none 0 0 [] :: [.row 3 1 Ip (0 + 1) Iq Lv, .row 9 1 Ex (0 + 1) Ey JT, .row 3 1 Aj (0 + 1) Ak I1, .row 3 1 ym (0 + 1) yn HL, .row 26 1 vC (0 + 1) vD Gi, .row 26 1 p35 n37 c36 gX, .blk B10 (.cells #[.int .i64 ((ix a0 (0 : Int)).length : Int), .bool true, .slice p35 n37 c36, .slice vC (0 + 1) vD, .slice ym (0 + 1) yn, .slice Aj (0 + 1) Ak, .slice none 0 0, .slice none 0 0, .int .i64 (0 : Int), .map (some B4), .slice Ex (0 + 1) Ey, .slice Ip (0 + 1) Iq, .slice none 0 0] 72 (0, 0)), .any (mapE (fun a : List UInt8 => Value.string (gstr a)) (fun a : Int => Value.int .i64 a) B4 (mput (([] : List (Str × Int))) r407 ((0 : Int))))]) ++ A) Nt
 have rs := Stp.nil (e := 3) (r := 1) hO
 replace hO := rs.own
 have Ua := Els.nil (Rp.int .i64) (bl (.row 3 1 none 0 0 [] :: [.row 39 2 none 0 0 [], .row 3 1 Ip (0 + 1) Iq Lv, .row 9 1 Ex (0 + 1) Ey JT, .row 3 1 Aj (0 + 1) Ak I1, .row 3 1 ym (0 + 1) yn HL, .row 26 1 vC (0 + 1) vD Gi, .row 26 1 p35 n37 c36 gX, .blk B10 (.cells #[.int .i64 ((ix a0 (0 : Int)).length : Int), .bool true, .slice p35 n37 c36, .slice vC (0 + 1) vD, .slice ym (0 + 1) yn, .slice Aj (0 + 1) Ak, .slice none 0 0, .slice none 0 0, .int .i64 (0 : Int), .map (some B4), .slice Ex (0 + 1) Ey, .slice Ip (0 + 1) Iq, .slice none 0 0] 72 (0, 0)), .any (mapE (fun a : List UInt8 => Value.string (gstr a)) (fun a : Int => Value.int .i64 a) B4 (mput (([] : List (Str × Int))) r407 ((0 : Int))))]) ++ A) Nt
 replace HM := HM.ch rs.ch
 replace al := (al.ch ia.ch).ch rs.ch
 have Z28 := (rq.ch.trans ia.ch).trans rs.ch
 replace D3 := D3.ch Z28
 replace hB := ((((hB.trans t3.fr).trans hV.fr).trans rq.fr).trans ia.fr).trans rs.fr
 have Z29 := ((((((t0.ch.trans uU.ch).trans yS).trans t3.ch).trans hV.ch).trans rq.ch).trans ia.ch).trans rs.ch
 replace tO := tO.ch Z29
 have Z30 := (((((((((((wj.ch.trans gt.ch).trans At).trans wk.ch).trans uT.ch).trans t0.ch).trans uU.ch).trans yS).trans t3.ch).trans hV.ch).trans rq.ch).trans ia.ch).trans rs.ch
 replace lI := lI.ch Z30
 have Z31 := ((((((((((((((((jV.ch.trans zK.ch).trans D1).trans jr.ch).trans xE.ch).trans wj.ch).trans gt.ch).trans At).trans wk.ch).trans uT.ch).trans t0.ch).trans uU.ch).trans yS).trans t3.ch).trans hV.ch).trans rq.ch).trans ia.ch).trans rs.ch
 replace gD := gD.ch Z31
 have Z32 := (((((((((((((((((((((Co.ch.trans Cp.ch).trans HK).trans AY.ch).trans oc.ch).trans jV.ch).trans zK.ch).trans D1).trans jr.ch).trans xE.ch).trans wj.ch).trans gt.ch).trans At).trans wk.ch).trans uT.ch).trans t0.ch).trans uU.ch).trans yS).trans t3.ch).trans hV.ch).trans rq.ch).trans ia.ch).trans rs.ch
 replace fB := fB.ch Z32
 refine Go1.loopW (S := Nat × List Int × List Rule × List Int × List Str × List Int × List Int × List (List Int) × (List (Str × Int))) (fun s σ w => match s with | (k3_548, d_549, d_555, d_561, d_567, d_573, d_579, d_585, m3_591) => ∃ (lE : Nat), ∃ (oC : Option Addr), ∃ (oD : Nat), ∃ (xe : List Value), ∃ (lX : Nat), ∃ (nO : Option Addr), ∃ (nP : Nat), ∃ (vE : List Value), ∃ (lY : Nat), ∃ (nQ : Option Addr), ∃ (nS : Nat), ∃ (vF : List Value), ∃ (l5 : Nat), ∃ (oE : Option Addr), ∃ (oF : Nat), ∃ (vG : List Value), ∃ (l7 : Nat), ∃ (oO : Option Addr), ∃ (oP : Nat), ∃ (vH : List Value), ∃ (l8 : Nat), ∃ (pv : Option Addr), ∃ (px : Nat), ∃ (vI : List Value), ∃ (l9 : Nat), ∃ (qg : Option Addr), ∃ (qh : Nat), ∃ (vJ : List Value), agrees σ [(6, .pointer (some ⟨B10, 0, none⟩)), (9, .int .i64 (0 : Int)), (85, .slice p35 n37 c36), (86, .int .i64 (d_32.length : Int)), (87, .int .i64 (k3_548 : Int))] ∧ (fun Z0 => Owns w0.heap.size w Z0 A ∧ Els (Rp.int .i64) (bl Z0 ++ A) w xe d_549 ∧ Els (rpRule) (bl Z0 ++ A) w vE d_555 ∧ Els (Rp.int .i64) (bl Z0 ++ A) w vF d_561 ∧ Els (Rp.str) (bl Z0 ++ A) w vG d_567 ∧ Els (Rp.int .i64) (bl Z0 ++ A) w vH d_573 ∧ Els (Rp.int .i64) (bl Z0 ++ A) w vI d_579 ∧ Els (Rp.sl (Rp.int .i64)) (bl Z0 ++ A) w vJ d_585 ∧ Els (Rp.sl (Rp.int .i64)) (bl Z0 ++ A) w gX d_32 ∧ Fr (bl []) w0 (bl Z0) w) [.row 3 1 oC lE oD xe, .row 39 2 nO lX nP vE, .row 3 1 nQ lY nS vF, .row 9 1 oE l5 oF vG, .row 3 1 oO l7 oP vH, .row 3 1 pv l8 px vI, .row 26 1 qg l9 qh vJ, .row 26 1 p35 n37 c36 gX, .blk B10 (.cells #[.int .i64 ((ix a0 (0 : Int)).length : Int), .bool true, .slice p35 n37 c36, .slice qg l9 qh, .slice pv l8 px, .slice oO l7 oP, .slice none 0 0, .slice nO lX nP, .int .i64 (0 : Int), .map (some B4), .slice oE l5 oF, .slice nQ lY nS, .slice oC lE oD] 72 (0, 0)), .any (mapE (fun a : List UInt8 => Value.string (gstr a)) (fun a : Int => Value.int .i64 a) B4 m3_591)]) H ⟨0, none, 0, [], 0, none, 0, [], 0 + 1, Ip, Iq, Lv, 0 + 1, Ex, Ey, JT, 0 + 1, Aj, Ak, I1, 0 + 1, ym, yn, HL, 0 + 1, vC, vD, Gi, ⟨rfl, rfl, rfl, rfl, rfl, trivial⟩, hO, Ua, HM, D3, tO, lI, gD, fB, al, hB⟩ ?_
 intro X3
 refine prE fun k3_548 => prE fun d_549 => prE fun d_555 => prE fun d_561 => prE fun d_567 => prE fun d_573 => prE fun d_579 => prE fun d_585 => fun m3_591 => ?_
 intro H hX3 σ aau
 refine exE fun lE => exE fun oC => exE fun oD => exE fun xe => exE fun lX => exE fun nO => exE fun nP => exE fun vE => exE fun lY => exE fun nQ => exE fun nS => exE fun vF => exE fun l5 => exE fun oE => exE fun oF => exE fun vG => exE fun l7 => exE fun oO => exE fun oP => exE fun vH => exE fun l8 => exE fun pv => exE fun px => exE fun vI => exE fun l9 => exE fun qg => exE fun qh => exE fun vJ => andE fun hag => andE fun hO => andE fun cu => andE fun cq => andE fun cC => andE fun cJ => andE fun dl => andE fun dG => andE fun dW => andE fun al => fun hB => ?_
 dsimp only at H
 refine Go1.keep [(6, .pointer (some ⟨B10, 0, none⟩)), (9, .int .i64 (0 : Int)), (85, .slice p35 n37 c36), (86, .int .i64 (d_32.length : Int)), (87, .int .i64 (k3_548 : Int))] hag ?_
 refine zq (zr ?_)
 by_cases Jq : (k3_548 : Int) < (d_32.length : Int)
 ·replace H := ifp Jq H
  refine zo (fun w => opB (op_lss rfl rfl w) (decide_eq_true Jq)) (zn (zq (zt rfl rfl (zk (zq ?_)))))
  refine zb (zq (zr (zm rfl ?_)))
  obtain ⟨Nu, H⟩ := H
  obtain ⟨Nv, H⟩ := H
  refine zo (op_index Try.underlying22 ti26 rfl rfl Nu (ltn (al.neq hO 7 rfl) Nv) (al.psome hO 7 rfl Nu Nv)) ?_
  have hobt := oldSl 7 hO rfl al Nu Nv
  obtain ⟨Ql, Qm, db, Ub⟩ := hobt
  refine zs (Ub Try.underlying26 rfl rfl) (za rfl (za rfl (zn (zq (zr ?_)))))
  refine zm rfl ?_
  obtain ⟨aav, H⟩ := H
  refine zo (op_add rfl rfl (wrap_i64 aav)) (zo (op_conv Try.underlying3 Try.underlying21 rfl rfl) ?_)
  obtain ⟨aaw, H⟩ := H
  obtain ⟨aax, H⟩ := H
  refine zo (op_convRS Try.underlying21 Try.underlying9 rfl aaw aax) (za rfl (zn (zq ?_)))
  refine Go1.drawS 0 [(0, .pure), (1, .pure), (2, .pure), (3, .stable), (4, .pure), (5, .loud), (6, .stable), (7, .pure), (8, .pure), (9, .pure), (10, .pure), (11, .pure)] mixed (by kernel_rfl) ?_
  intro aen Uc
  have xF := Stp.same hO Uc
  replace hO := xF.own
  refine GoQ.pure rfl (op_move rfl) rfl rfl ?_
  refine GoQ.pure rfl (op_nilCheck rfl) rfl rfl ?_
  refine GoQ.pure rfl (op_fieldAddr Try.underlying72 rfl ti69 rfl (by decide)) rfl rfl ?_
  refine GoQ.stable rfl (oblk (i := 9) 8 hO rfl rfl Try.underlying69 rfl rfl) rfl rfl ?_
  refine GoQ.pure rfl (op_move rfl) rfl rfl ?_
  replace db := db.ch xF.ch
  refine GoQ.call rfl (op_call body61 rfl (walk_enumerate_text hO.lt db H)) (fun v w hr => by obtain ⟨_, _, hs, _, _⟩ := hr; assumption) rfl rfl ?_
  rintro aeo aep ⟨r605, rfl, Ud, acN, H⟩
  have xG := Stp.same hO Ud
  replace hO := xG.own
  by_cases Lw : mhas m3_591 r605 = true
  ·replace H := ifp Lw H
   refine GoQ.stable rfl (olookT (a := r605) (MK.str Try.underlying9) 9 hO rfl Try.underlying69 rfl rfl Lw) rfl rfl ?_
   refine GoQ.pure rfl (op_move rfl) rfl rfl ?_
   refine GoQ.pure rfl (op_extract rfl rfl) rfl rfl ?_
   refine GoQ.pure rfl (op_extract rfl rfl) rfl rfl ?_
   refine GoQ.pure rfl (op_assign rfl) rfl rfl ?_
   refine GoQ.pure rfl (op_assign rfl) rfl rfl ?_
   refine GoQ.nil ?_
   refine zq (zq ?_)
   refine Go1.cut [(6, .pointer (some ⟨B10, 0, none⟩)), (9, .int .i64 (0 : Int)), (10, .int .i64 (k3_548 : Int)), (11, .slice Ql ((ix d_32 (k3_548 : Int)).length) Qm), (12, .string (gstr (chr (IntKind.i32.wrap ((97 : Int) + (k3_548 : Int)))))), (13, .int .i64 (mgt m3_591 r605)), (14, .bool true), (85, .slice p35 n37 c36), (86, .int .i64 (d_32.length : Int)), (87, .int .i64 (k3_548 : Int))] ⟨rfl, rfl, rfl, rfl, rfl, rfl, rfl, rfl, rfl, rfl, trivial⟩ ?_
   intro σ _
   refine zr (zm rfl (zn (zt rfl rfl ?_)))
   refine Go1.drawS 5 [(0, .pure), (1, .pure), (2, .pure), (3, .pure), (4, .pure), (5, .stable), (6, .pure), (7, .pure), (8, .pure), (9, .pure), (10, .stable), (11, .pure), (12, .pure), (13, .stable), (14, .pure), (15, .loud), (16, .last), (17, .pure), (18, .pure), (19, .pure), (20, .last)] mixed (by kernel_rfl) ?_
   intro aeq Ue
   have xH := Stp.same hO Ue
   replace hO := xH.own
   refine GoQ.pure rfl (op_move rfl) rfl rfl ?_
   refine GoQ.pure rfl (op_move rfl) rfl rfl ?_
   refine GoQ.pure rfl (op_nilCheck rfl) rfl rfl ?_
   refine GoQ.pure rfl (op_fieldAddr Try.underlying72 rfl ti29 rfl (by decide)) rfl rfl ?_
   refine GoQ.pure rfl (op_fieldAddr Try.underlying29 rfl ti27 rfl (by decide)) rfl rfl ?_
   refine GoQ.stable rfl (oblk (i := 7) 8 hO rfl rfl Try.underlying27 rfl rfl) rfl rfl ?_
   refine GoQ.pure rfl (op_move rfl) rfl rfl ?_
   refine GoQ.pure rfl (op_move rfl) rfl rfl ?_
   refine GoQ.pure rfl (op_nilCheck rfl) rfl rfl ?_
   refine GoQ.pure rfl (op_fieldAddr Try.underlying72 rfl ti70 rfl (by decide)) rfl rfl ?_
   refine GoQ.stable rfl (oblk (i := 10) 8 hO rfl rfl Try.underlying70 rfl rfl) rfl rfl ?_
   refine GoQ.pure rfl (op_move rfl) rfl rfl ?_
   obtain ⟨Lx, H⟩ := H
   obtain ⟨Ly, H⟩ := H
   have Z33 := (xF.ch.trans xG.ch).trans xH.ch
   replace cJ := cJ.ch Z33
   refine GoQ.pure rfl (op_index Try.underlying70 ti9 rfl rfl Lx (ltn (cJ.neq hO 3 rfl) Ly) (cJ.psome hO 3 rfl Lx Ly)) rfl rfl ?_
   refine GoQ.stable rfl (oldStr 3 hO rfl cJ Lx Ly Try.underlying9 rfl rfl) rfl rfl ?_
   have hle617 := Els.str_le cJ Lx Ly
   refine GoQ.pure rfl (op_build Try.underlying39 ti39 (pl := [(0, 1), (1, 1)]) (vs := [(0, .string (gstr (chr (IntKind.i32.wrap ((97 : Int) + (k3_548 : Int)))))), (1, .string (gstr (ix d_567 (mgt m3_591 r605))))]) (cs := #[.string (gstr (chr (IntKind.i32.wrap ((97 : Int) + (k3_548 : Int))))), .string (gstr (ix d_567 (mgt m3_591 r605)))]) (by kernel_rfl) rfl (by kernel_rfl)) rfl rfl ?_
   have hobt := obuildN (r := rpRule) (n := 1) (parts := [(0, .agg #[.string (gstr (chr (IntKind.i32.wrap ((97 : Int) + (k3_548 : Int))))), .string (gstr (ix d_567 (mgt m3_591 r605)))])]) (vs := [.string (gstr (chr (IntKind.i32.wrap ((97 : Int) + (k3_548 : Int))))), .string (gstr (ix d_567 (mgt m3_591 r605)))]) (xs := [(⟨chr (IntKind.i32.wrap ((97 : Int) + (k3_548 : Int))), ix d_567 (mgt m3_591 r605)⟩ : Rule)]) Try.underlying27 ti39 hO (by decide) (by decide) (by kernel_rfl) (Els.flat1 (⟨chr (IntKind.i32.wrap ((97 : Int) + (k3_548 : Int))), ix d_567 (mgt m3_591 r605)⟩ : Rule) ⟨(chr_le _), hle617⟩) rfl
   obtain ⟨aay, aaz, my, Lz, OT, Kw⟩ := hobt
   refine GoQ.loud rfl (Kw rfl) OT rfl rfl ?_
   replace hO := my.own
   have hobt := freeze 0 hO rfl Lz
   obtain ⟨hO1, qY, oQ, LA⟩ := hobt
   dsimp only [eS, eZ] at hO1 qY oQ
   replace hB := ((((hB.trans xF.fr).trans xG.fr).trans xH.fr).trans my.fr).trans (Owns.dropFr _ _ 0)
   dsimp only [eS, eZ] at hB
   replace hO := hO1; clear hO1
   obtain ⟨Nw, H⟩ := H
   replace cq := ((cq.ch Z33).ch my.ch).ch qY
   have hobt := oapp Try.underlying27 ti39 rfl 1 hO rfl cq oQ LA Nw (by decide)
   obtain ⟨aaA, Gk, Gl, LB, lx, rU, Kx⟩ := hobt
   dsimp only [sS, sZ] at lx rU
   refine GoQ.last rfl (Kx (by exact rfl) (by exact rfl)) rfl rfl ?_
   replace hO := lx.own
   refine GoQ.pure rfl (op_nilCheck rfl) rfl rfl ?_
   refine GoQ.pure rfl (op_fieldAddr Try.underlying72 rfl ti29 rfl (by decide)) rfl rfl ?_
   refine GoQ.pure rfl (op_fieldAddr Try.underlying29 rfl ti27 rfl (by decide)) rfl rfl ?_
   have hobt := oblkSt2 (v := .slice Gk (lX + 1) Gl) (i := 7) (cs' := #[.int .i64 ((ix a0 (0 : Int)).length : Int), .bool true, .slice p35 n37 c36, .slice qg l9 qh, .slice pv l8 px, .slice oO l7 oP, .slice none 0 0, .slice Gk (lX + 1) Gl, .int .i64 (0 : Int), .map (some B4), .slice oE l5 oF, .slice nQ lY nS, .slice oC lE oD]) 8 hO rfl rfl rfl rfl
   obtain ⟨aaB, kh, Ky⟩ := hobt
   dsimp only [sS, sZ] at kh
   refine GoQ.last rfl (Ky Try.underlying27 rfl ti27 (by exact rfl) (by exact rfl)) rfl rfl ?_
   replace hO := kh.own
   refine GoQ.nil ?_
   refine Go1.cut [(6, .pointer (some ⟨B10, 0, none⟩)), (9, .int .i64 (0 : Int)), (13, .int .i64 (mgt m3_591 r605)), (85, .slice p35 n37 c36), (86, .int .i64 (d_32.length : Int)), (87, .int .i64 (k3_548 : Int))] ⟨rfl, rfl, rfl, rfl, rfl, rfl, trivial⟩ ?_
   intro σ _
   refine zr (zm rfl (zm rfl (zo (op_nilCheck rfl) (zo (op_fieldAddr Try.underlying72 rfl ti26 rfl (by decide)) (zs (oblk (i := 12) 8 hO rfl rfl Try.underlying26 rfl rfl) ?_)))))
   refine zm rfl ?_
   have hobt := obuild (r := Rp.int .i64) (n := 1) (parts := [(0, .int .i64 (mgt m3_591 r605))]) (vs := [.int .i64 (mgt m3_591 r605)]) (xs := [(mgt m3_591 r605)]) rfl Try.underlying26 ti3 hO (by decide) (by kernel_rfl) (Els.cons rfl rfl (Els.nil _ _ _) (by simp [mx])) rfl
   obtain ⟨aer, aes, kU, Uf, ac9, Qn⟩ := hobt
   refine zg (Qn rfl) ?_
   replace hO := kU.own
   have hobt := freeze 0 hO rfl Uf
   obtain ⟨hO1, zL, HN, Ug⟩ := hobt
   dsimp only [eS, eZ] at hO1 zL HN
   replace hB := (((hB.trans lx.fr).trans kh.fr).trans kU.fr).trans (Owns.dropFr _ _ 0)
   dsimp only [eS, eZ] at hB
   replace hO := hO1; clear hO1
   obtain ⟨aaC, H⟩ := H
   have Z34 := (((((Z33.trans my.ch).trans qY).trans lx.ch).trans kh.ch).trans kU.ch).trans zL
   replace cu := cu.ch Z34
   have hobt := oapp Try.underlying26 ti3 rfl 0 hO rfl cu HN Ug aaC (by decide)
   obtain ⟨aet, Nx, Ny, Uh, uV, JU, Qo⟩ := hobt
   dsimp only [sS, sZ] at uV JU
   refine zg (Qo (by exact rfl) (by exact rfl)) ?_
   replace hO := uV.own
   refine zo (op_nilCheck rfl) (zo (op_fieldAddr Try.underlying72 rfl ti26 rfl (by decide)) ?_)
   have hobt := oblkSt2 (v := .slice Nx (lE + 1) Ny) (i := 12) (cs' := #[.int .i64 ((ix a0 (0 : Int)).length : Int), .bool true, .slice p35 n37 c36, .slice qg l9 qh, .slice pv l8 px, .slice oO l7 oP, .slice none 0 0, .slice Gk (lX + 1) Gl, .int .i64 (0 : Int), .map (some B4), .slice oE l5 oF, .slice nQ lY nS, .slice Nx (lE + 1) Ny]) 8 hO rfl rfl rfl rfl
   obtain ⟨aeu, t4, Qp⟩ := hobt
   dsimp only [sS, sZ] at t4
   refine zg (Qp Try.underlying26 rfl ti26 (by exact rfl) (by exact rfl)) ?_
   replace hO := t4.own
   refine zn ?_
   refine Go1.inBlock ?_
   refine zr ?_
   replace al := ((al.ch Z34).ch uV.ch).ch t4.ch
   refine zo (op_add rfl rfl (wrap_i64 (natbd Jq al.bd))) (zm rfl (zn ?_))
   replace JU := JU.ch t4.ch
   replace hB := (hB.trans uV.fr).trans t4.fr
   have Z35 := (((kh.ch.trans kU.ch).trans zL).trans uV.ch).trans t4.ch
   replace rU := rU.ch Z35
   have Z36 := ((((((my.ch.trans qY).trans lx.ch).trans kh.ch).trans kU.ch).trans zL).trans uV.ch).trans t4.ch
   replace cJ := cJ.ch Z36
   have Z37 := (Z34.trans uV.ch).trans t4.ch
   replace cC := cC.ch Z37
   replace dl := dl.ch Z37
   replace dG := dG.ch Z37
   replace dW := dW.ch Z37
   exact hX3 _ H _ _ ⟨lE + 1, Nx, Ny, Uh, lX + 1, Gk, Gl, LB, lY, nQ, nS, vF, l5, oE, oF, vG, l7, oO, oP, vH, l8, pv, px, vI, l9, qg, qh, vJ, ⟨rfl, rfl, rfl, rfl, rfl, trivial⟩, hO, JU, rU, cC, cJ, dl, dG, dW, al, hB⟩
  replace H := ifn Lw H
  refine GoQ.stable rfl (olookF (a := r605) (MK.str Try.underlying9) 9 hO rfl Try.underlying69 ti3 rfl rfl Lw) rfl rfl ?_
  refine GoQ.pure rfl (op_move rfl) rfl rfl ?_
  refine GoQ.pure rfl (op_extract rfl rfl) rfl rfl ?_
  refine GoQ.pure rfl (op_extract rfl rfl) rfl rfl ?_
  refine GoQ.pure rfl (op_assign rfl) rfl rfl ?_
  refine GoQ.pure rfl (op_assign rfl) rfl rfl ?_
  refine GoQ.nil ?_
  refine zq (zq (zr (zm rfl (zn (zf rfl rfl ?_)))))
  refine Go1.cut [(6, .pointer (some ⟨B10, 0, none⟩)), (9, .int .i64 (0 : Int)), (10, .int .i64 (k3_548 : Int)), (11, .slice Ql ((ix d_32 (k3_548 : Int)).length) Qm), (12, .string (gstr (chr (IntKind.i32.wrap ((97 : Int) + (k3_548 : Int)))))), (85, .slice p35 n37 c36), (86, .int .i64 (d_32.length : Int)), (87, .int .i64 (k3_548 : Int))] ⟨rfl, rfl, rfl, rfl, rfl, rfl, rfl, rfl, trivial⟩ ?_
  intro σ _
  refine zr (zm rfl (zm rfl ?_))
  replace db := db.ch xG.ch
  refine GoR.call (op_call body64 rfl (walk_slices_Clone_int hO.lt db H)) rfl rfl ?_
  rintro aev aew ⟨r662, Hw, A4, A5, acO, rfl, Ui, hN666, Au, H⟩
  have wl := Stp.more hO Ui hN666
  dsimp only [List.cons_append, List.nil_append] at wl
  replace hO := wl.own
  refine zm rfl (zm rfl (zm rfl (zm rfl ?_)))
  refine GoR.inl (vs := [.pointer (some ⟨B10, 0, none⟩), .slice A4 Hw A5, .int .i64 (0 : Int), .int .i64 (k3_548 : Int), .string (gstr (chr (IntKind.i32.wrap ((97 : Int) + (k3_548 : Int))))), .int .i64 (0 : Int)]) (caps := []) rfl rfl body65 Try.func65 rfl Try.ntmps65 rfl rfl rfl ?_
  intro RhR670 hR670
  refine zq (zr (za rfl (zn (zq (zr ?_)))))
  refine zm rfl (zo (op_nilCheck rfl) (zo (op_fieldAddr Try.underlying72 rfl ti29 rfl (by decide)) (zo (op_fieldAddr Try.underlying29 rfl ti22 rfl (by decide)) (zs (oblk (i := 3) 9 hO rfl rfl Try.underlying22 rfl rfl) ?_))))
  have Z38 := (xF.ch.trans xG.ch).trans wl.ch
  replace dW := dW.ch Z38
  refine zo (op_lenN Try.underlying22 rfl (dW.neq hO 7 rfl)) (za rfl (zn (zq ?_)))
  refine Go1.drawS 1 [(0, .pure), (1, .pure), (2, .pure), (3, .stable), (4, .pure), (6, .pure), (5, .loud), (7, .last)] mixed (by kernel_rfl) ?_
  intro aex Uj
  have wm := Stp.same hO Uj
  replace hO := wm.own
  refine GoQ.pure rfl (op_move rfl) rfl rfl ?_
  refine GoQ.pure rfl (op_nilCheck rfl) rfl rfl ?_
  refine GoQ.pure rfl (op_fieldAddr Try.underlying72 rfl ti69 rfl (by decide)) rfl rfl ?_
  refine GoQ.stable rfl (oblk (i := 9) 9 hO rfl rfl Try.underlying69 rfl rfl) rfl rfl ?_
  refine GoQ.pure rfl (op_move rfl) rfl rfl ?_
  refine GoQ.pure rfl (op_move rfl) rfl rfl ?_
  replace Au := (Au.ch (Ch.assoc _ _ _ _)).ch wm.ch
  have hobt := rowlend 0 hO rfl Au
  obtain ⟨Uk, Ul⟩ := hobt
  have hOc676 := hO.drop 0
  refine GoQ.call rfl (op_call body61 (show ([.slice A4 Hw A5] : List Value) = [.slice A4 r662.length A5] from by rw [← Ul]) (walk_enumerate_text hOc676.lt Uk H)) (fun v w hr => by obtain ⟨_, _, hs, _, _⟩ := hr; assumption) rfl rfl ?_
  rintro aey aez ⟨r677, rfl, Um, acP, H⟩
  have wn := Stp.same hO Um
  replace hO := wn.own
  have hobt := omapUpd (MK.str Try.underlying9) 10 hO rfl Try.underlying69 r677 (d_585.length : Int)
  obtain ⟨aeA, uW, Qq⟩ := hobt
  dsimp only [sS, sZ] at uW
  refine GoQ.last rfl (Qq (by exact rfl) (by exact rfl) (by exact rfl)) rfl rfl ?_
  replace hO := uW.own
  refine GoQ.nil ?_
  refine zq ?_
  refine Go1.cut [(0, .pointer (some ⟨B10, 0, none⟩)), (1, .slice A4 Hw A5), (2, .int .i64 (0 : Int)), (3, .int .i64 (k3_548 : Int)), (4, .string (gstr (chr (IntKind.i32.wrap ((97 : Int) + (k3_548 : Int)))))), (5, .int .i64 (0 : Int)), (13, .int .i64 (d_585.length : Int))] ⟨rfl, rfl, rfl, rfl, rfl, rfl, rfl, trivial⟩ ?_
  intro σ _
  refine zr (zm rfl (zm rfl (zo (op_nilCheck rfl) (zo (op_fieldAddr Try.underlying72 rfl ti29 rfl (by decide)) (zo (op_fieldAddr Try.underlying29 rfl ti22 rfl (by decide)) ?_)))))
  refine zs (oblk (i := 3) 9 hO rfl rfl Try.underlying22 rfl rfl) (zm rfl ?_)
  replace Au := (Au.ch wn.ch).ch uW.ch
  have hobt := freeze 0 hO rfl Au
  obtain ⟨hO1, Aw, fo, Un⟩ := hobt
  dsimp only [eS, eZ] at hO1 Aw fo
  replace hB := ((((((hB.trans xF.fr).trans xG.fr).trans wl.fr).trans wm.fr).trans wn.fr).trans uW.fr).trans (Owns.dropFr _ _ 0)
  dsimp only [eS, eZ] at hB
  replace hO := hO1; clear hO1
  have hobt := obuild (r := Rp.sl (Rp.int .i64)) (n := 1) (parts := [(0, .slice A4 Hw A5)]) (vs := [.slice A4 Hw A5]) (xs := [r662]) rfl Try.underlying22 ti26 hO (by decide) (by kernel_rfl) (Els.cons rfl ⟨A4, A5, congrArg some (congrArg (fun nn => Value.slice A4 nn A5) Un), fo⟩ (Els.nil _ _ _) (by simp [mx])) rfl
  obtain ⟨aeB, aeC, wo, Uo, ada, Qr⟩ := hobt
  refine zg (Qr rfl) ?_
  replace hO := wo.own
  have hobt := freeze 0 hO rfl Uo
  obtain ⟨hO1, zM, fE, Up⟩ := hobt
  dsimp only [eS, eZ] at hO1 zM fE
  replace hB := (hB.trans wo.fr).trans (Owns.dropFr _ _ 0)
  dsimp only [eS, eZ] at hB
  replace hO := hO1; clear hO1
  obtain ⟨aaD, H⟩ := H
  have Z39 := ((((wm.ch.trans wn.ch).trans uW.ch).trans Aw).trans wo.ch).trans zM
  replace dW := dW.ch Z39
  have hobt := oapp Try.underlying22 ti26 rfl 6 hO rfl dW fE Up aaD (by decide)
  obtain ⟨aeD, Hx, Hy, Uq, uX, fP, Qs⟩ := hobt
  dsimp only [sS, sZ] at uX fP
  refine zg (Qs (by exact rfl) (by exact rfl)) ?_
  replace hO := uX.own
  refine zo (op_nilCheck rfl) (zo (op_fieldAddr Try.underlying72 rfl ti29 rfl (by decide)) (zo (op_fieldAddr Try.underlying29 rfl ti22 rfl (by decide)) ?_))
  have hobt := oblkSt2 (v := .slice Hx (l9 + 1) Hy) (i := 3) (cs' := #[.int .i64 ((ix a0 (0 : Int)).length : Int), .bool true, .slice p35 n37 c36, .slice Hx (l9 + 1) Hy, .slice pv l8 px, .slice oO l7 oP, .slice none 0 0, .slice nO lX nP, .int .i64 (0 : Int), .map (some B4), .slice oE l5 oF, .slice nQ lY nS, .slice oC lE oD]) 8 hO rfl rfl rfl rfl
  obtain ⟨aeE, t5, Qt⟩ := hobt
  dsimp only [sS, sZ] at t5
  refine zg (Qt Try.underlying22 rfl ti22 (by exact rfl) (by exact rfl)) ?_
  replace hO := t5.own
  refine zn (zq (zr (zm rfl (zm rfl (zo (op_nilCheck rfl) ?_)))))
  refine zo (op_fieldAddr Try.underlying72 rfl ti29 rfl (by decide)) (zo (op_fieldAddr Try.underlying29 rfl ti26 rfl (by decide)) (zs (oblk (i := 4) 8 hO rfl rfl Try.underlying26 rfl rfl) (zm rfl ?_)))
  have hobt := obuild (r := Rp.int .i64) (n := 1) (parts := [(0, .int .i64 (0 : Int))]) (vs := [.int .i64 (0 : Int)]) (xs := [(0 : Int)]) rfl Try.underlying26 ti3 hO (by decide) (by kernel_rfl) (Els.cons rfl rfl (Els.nil _ _ _) (by simp [mx])) rfl
  obtain ⟨aeF, aeG, uY, Ur, adb, Qu⟩ := hobt
  refine zg (Qu rfl) ?_
  replace hO := uY.own
  have hobt := freeze 0 hO rfl Ur
  obtain ⟨hO1, yU, gE, Us⟩ := hobt
  dsimp only [eS, eZ] at hO1 yU gE
  replace hB := (((hB.trans uX.fr).trans t5.fr).trans uY.fr).trans (Owns.dropFr _ _ 0)
  dsimp only [eS, eZ] at hB
  replace hO := hO1; clear hO1
  obtain ⟨aaE, H⟩ := H
  have Z40 := (((((((((Z38.trans wm.ch).trans wn.ch).trans uW.ch).trans Aw).trans wo.ch).trans zM).trans uX.ch).trans t5.ch).trans uY.ch).trans yU
  replace dG := dG.ch Z40
  have hobt := oapp Try.underlying26 ti3 rfl 5 hO rfl dG gE Us aaE (by decide)
  obtain ⟨aeH, Ir, Iu, Ut, t6, ig, Qv⟩ := hobt
  dsimp only [sS, sZ] at t6 ig
  refine zg (Qv (by exact rfl) (by exact rfl)) ?_
  replace hO := t6.own
  refine zo (op_nilCheck rfl) (zo (op_fieldAddr Try.underlying72 rfl ti29 rfl (by decide)) (zo (op_fieldAddr Try.underlying29 rfl ti26 rfl (by decide)) ?_))
  have hobt := oblkSt2 (v := .slice Ir (l8 + 1) Iu) (i := 4) (cs' := #[.int .i64 ((ix a0 (0 : Int)).length : Int), .bool true, .slice p35 n37 c36, .slice Hx (l9 + 1) Hy, .slice Ir (l8 + 1) Iu, .slice oO l7 oP, .slice none 0 0, .slice nO lX nP, .int .i64 (0 : Int), .map (some B4), .slice oE l5 oF, .slice nQ lY nS, .slice oC lE oD]) 8 hO rfl rfl rfl rfl
  obtain ⟨aeI, si, Qw⟩ := hobt
  dsimp only [sS, sZ] at si
  refine zg (Qw Try.underlying26 rfl ti26 (by exact rfl) (by exact rfl)) ?_
  replace hO := si.own
  refine zn (zq ?_)
  refine Go1.cut [(0, .pointer (some ⟨B10, 0, none⟩)), (3, .int .i64 (k3_548 : Int)), (4, .string (gstr (chr (IntKind.i32.wrap ((97 : Int) + (k3_548 : Int)))))), (5, .int .i64 (0 : Int)), (13, .int .i64 (d_585.length : Int))] ⟨rfl, rfl, rfl, rfl, rfl, trivial⟩ ?_
  intro σ _
  refine zr (zm rfl (zm rfl (zo (op_nilCheck rfl) (zo (op_fieldAddr Try.underlying72 rfl ti29 rfl (by decide)) (zo (op_fieldAddr Try.underlying29 rfl ti26 rfl (by decide)) ?_)))))
  refine zs (oblk (i := 5) 8 hO rfl rfl Try.underlying26 rfl rfl) (zm rfl ?_)
  have hobt := obuild (r := Rp.int .i64) (n := 1) (parts := [(0, .int .i64 (k3_548 : Int))]) (vs := [.int .i64 (k3_548 : Int)]) (xs := [(k3_548 : Int)]) rfl Try.underlying26 ti3 hO (by decide) (by kernel_rfl) (Els.cons rfl rfl (Els.nil _ _ _) (by simp [mx])) rfl
  obtain ⟨aeJ, aeK, t7, Uu, adc, Qx⟩ := hobt
  refine zg (Qx rfl) ?_
  replace hO := t7.own
  have hobt := freeze 0 hO rfl Uu
  obtain ⟨hO1, xW, la, Uv⟩ := hobt
  dsimp only [eS, eZ] at hO1 xW la
  replace hB := (((hB.trans t6.fr).trans si.fr).trans t7.fr).trans (Owns.dropFr _ _ 0)
  dsimp only [eS, eZ] at hB
  replace hO := hO1; clear hO1
  obtain ⟨aaF, H⟩ := H
  have Z41 := (((Z40.trans t6.ch).trans si.ch).trans t7.ch).trans xW
  replace dl := dl.ch Z41
  have hobt := oapp Try.underlying26 ti3 rfl 4 hO rfl dl la Uv aaF (by decide)
  obtain ⟨aeL, Jr, Js, Uw, sj, lJ, Qy⟩ := hobt
  dsimp only [sS, sZ] at sj lJ
  refine zg (Qy (by exact rfl) (by exact rfl)) ?_
  replace hO := sj.own
  refine zo (op_nilCheck rfl) (zo (op_fieldAddr Try.underlying72 rfl ti29 rfl (by decide)) (zo (op_fieldAddr Try.underlying29 rfl ti26 rfl (by decide)) ?_))
  have hobt := oblkSt2 (v := .slice Jr (l7 + 1) Js) (i := 5) (cs' := #[.int .i64 ((ix a0 (0 : Int)).length : Int), .bool true, .slice p35 n37 c36, .slice Hx (l9 + 1) Hy, .slice Ir (l8 + 1) Iu, .slice Jr (l7 + 1) Js, .slice none 0 0, .slice nO lX nP, .int .i64 (0 : Int), .map (some B4), .slice oE l5 oF, .slice nQ lY nS, .slice oC lE oD]) 8 hO rfl rfl rfl rfl
  obtain ⟨aeM, ru, Qz⟩ := hobt
  dsimp only [sS, sZ] at ru
  refine zg (Qz Try.underlying26 rfl ti26 (by exact rfl) (by exact rfl)) ?_
  replace hO := ru.own
  refine zn (zq (zr (zm rfl (zm rfl (zo (op_nilCheck rfl) ?_)))))
  refine zo (op_fieldAddr Try.underlying72 rfl ti70 rfl (by decide)) (zs (oblk (i := 10) 8 hO rfl rfl Try.underlying70 rfl rfl) (zm rfl ?_))
  have hobt := obuild (r := Rp.str) (n := 1) (parts := [(0, .string (gstr (chr (IntKind.i32.wrap ((97 : Int) + (k3_548 : Int))))))]) (vs := [.string (gstr (chr (IntKind.i32.wrap ((97 : Int) + (k3_548 : Int)))))]) (xs := [chr (IntKind.i32.wrap ((97 : Int) + (k3_548 : Int)))]) rfl Try.underlying70 ti9 hO (by decide) (by kernel_rfl) (Els.cons rfl ⟨rfl, (chr_le _)⟩ (Els.nil _ _ _) (by simp [mx])) rfl
  obtain ⟨aeN, aeO, sk, Ux, ade, QA⟩ := hobt
  refine zg (QA rfl) ?_
  replace hO := sk.own
  have hobt := freeze 0 hO rfl Ux
  obtain ⟨hO1, xg, pE, Uy⟩ := hobt
  dsimp only [eS, eZ] at hO1 xg pE
  replace hB := (((hB.trans sj.fr).trans ru.fr).trans sk.fr).trans (Owns.dropFr _ _ 0)
  dsimp only [eS, eZ] at hB
  replace hO := hO1; clear hO1
  obtain ⟨aaG, H⟩ := H
  have Z42 := (((Z41.trans sj.ch).trans ru.ch).trans sk.ch).trans xg
  replace cJ := cJ.ch Z42
  have hobt := oapp Try.underlying70 ti9 rfl 3 hO rfl cJ pE Uy aaG (by decide)
  obtain ⟨aeP, Kz, KA, Uz, rv, q8, QB⟩ := hobt
  dsimp only [sS, sZ] at rv q8
  refine zg (QB (by exact rfl) (by exact rfl)) ?_
  replace hO := rv.own
  refine zo (op_nilCheck rfl) (zo (op_fieldAddr Try.underlying72 rfl ti70 rfl (by decide)) ?_)
  have hobt := oblkSt2 (v := .slice Kz (l5 + 1) KA) (i := 10) (cs' := #[.int .i64 ((ix a0 (0 : Int)).length : Int), .bool true, .slice p35 n37 c36, .slice Hx (l9 + 1) Hy, .slice Ir (l8 + 1) Iu, .slice Jr (l7 + 1) Js, .slice none 0 0, .slice nO lX nP, .int .i64 (0 : Int), .map (some B4), .slice Kz (l5 + 1) KA, .slice nQ lY nS, .slice oC lE oD]) 8 hO rfl rfl rfl rfl
  obtain ⟨aeQ, qr, QC⟩ := hobt
  dsimp only [sS, sZ] at qr
  refine zg (QC Try.underlying70 rfl ti70 (by exact rfl) (by exact rfl)) ?_
  replace hO := qr.own
  refine zn (zq ?_)
  refine Go1.cut [(0, .pointer (some ⟨B10, 0, none⟩)), (5, .int .i64 (0 : Int)), (13, .int .i64 (d_585.length : Int))] ⟨rfl, rfl, rfl, trivial⟩ ?_
  intro σ _
  refine zr (zm rfl (zm rfl (zo (op_nilCheck rfl) (zo (op_fieldAddr Try.underlying72 rfl ti26 rfl (by decide)) (zs (oblk (i := 11) 8 hO rfl rfl Try.underlying26 rfl rfl) ?_)))))
  refine zm rfl ?_
  have hobt := obuild (r := Rp.int .i64) (n := 1) (parts := [(0, .int .i64 (0 : Int))]) (vs := [.int .i64 (0 : Int)]) (xs := [(0 : Int)]) rfl Try.underlying26 ti3 hO (by decide) (by kernel_rfl) (Els.cons rfl rfl (Els.nil _ _ _) (by simp [mx])) rfl
  obtain ⟨aeR, aeS, ry, UA, adf, QD⟩ := hobt
  refine zg (QD rfl) ?_
  replace hO := ry.own
  have hobt := freeze 0 hO rfl UA
  obtain ⟨hO1, vK, xh, UB⟩ := hobt
  dsimp only [eS, eZ] at hO1 vK xh
  replace hB := (((hB.trans rv.fr).trans qr.fr).trans ry.fr).trans (Owns.dropFr _ _ 0)
  dsimp only [eS, eZ] at hB
  replace hO := hO1; clear hO1
  obtain ⟨aaH, H⟩ := H
  have Z43 := (((Z42.trans rv.ch).trans qr.ch).trans ry.ch).trans vK
  replace cC := cC.ch Z43
  have hobt := oapp Try.underlying26 ti3 rfl 2 hO rfl cC xh UB aaH (by decide)
  obtain ⟨aeT, LD, LE, UC, qs, yV, QE⟩ := hobt
  dsimp only [sS, sZ] at qs yV
  refine zg (QE (by exact rfl) (by exact rfl)) ?_
  replace hO := qs.own
  refine zo (op_nilCheck rfl) (zo (op_fieldAddr Try.underlying72 rfl ti26 rfl (by decide)) ?_)
  have hobt := oblkSt2 (v := .slice LD (lY + 1) LE) (i := 11) (cs' := #[.int .i64 ((ix a0 (0 : Int)).length : Int), .bool true, .slice p35 n37 c36, .slice Hx (l9 + 1) Hy, .slice Ir (l8 + 1) Iu, .slice Jr (l7 + 1) Js, .slice none 0 0, .slice nO lX nP, .int .i64 (0 : Int), .map (some B4), .slice Kz (l5 + 1) KA, .slice LD (lY + 1) LE, .slice oC lE oD]) 8 hO rfl rfl rfl rfl
  obtain ⟨aeU, pM, QF⟩ := hobt
  dsimp only [sS, sZ] at pM
  refine zg (QF Try.underlying26 rfl ti26 (by exact rfl) (by exact rfl)) ?_
  replace hO := pM.own
  refine zn (zq (zr (zm rfl (za rfl (zn ?_)))))
  refine Go1.ret1V Try.func65 rfl (show _ = .int .i64 (d_585.length : Int) from rfl) ?_
  refine hR670 _ _ ?_
  refine za rfl (zn (zr (zm rfl (zm rfl (zo (op_nilCheck rfl) ?_)))))
  refine zo (op_fieldAddr Try.underlying72 rfl ti26 rfl (by decide)) (zs (oblk (i := 12) 8 hO rfl rfl Try.underlying26 rfl rfl) (zm rfl ?_))
  have hobt := obuild (r := Rp.int .i64) (n := 1) (parts := [(0, .int .i64 (d_585.length : Int))]) (vs := [.int .i64 (d_585.length : Int)]) (xs := [(d_585.length : Int)]) rfl Try.underlying26 ti3 hO (by decide) (by kernel_rfl) (Els.cons rfl rfl (Els.nil _ _ _) (by simp [mx])) rfl
  obtain ⟨aeV, aeW, qt, UD, adg, QG⟩ := hobt
  refine zg (QG rfl) ?_
  replace hO := qt.own
  have hobt := freeze 0 hO rfl UD
  obtain ⟨hO1, uF, HO, UE⟩ := hobt
  dsimp only [eS, eZ] at hO1 uF HO
  replace hB := (((hB.trans qs.fr).trans pM.fr).trans qt.fr).trans (Owns.dropFr _ _ 0)
  dsimp only [eS, eZ] at hB
  replace hO := hO1; clear hO1
  obtain ⟨aaI, H⟩ := H
  have Z44 := (((Z43.trans qs.ch).trans pM.ch).trans qt.ch).trans uF
  replace cu := cu.ch Z44
  have hobt := oapp Try.underlying26 ti3 rfl 0 hO rfl cu HO UE aaI (by decide)
  obtain ⟨aeX, Nz, NA, UF, pN, JV, QH⟩ := hobt
  dsimp only [sS, sZ] at pN JV
  refine zg (QH (by exact rfl) (by exact rfl)) ?_
  replace hO := pN.own
  refine zo (op_nilCheck rfl) (zo (op_fieldAddr Try.underlying72 rfl ti26 rfl (by decide)) ?_)
  have hobt := oblkSt2 (v := .slice Nz (lE + 1) NA) (i := 12) (cs' := #[.int .i64 ((ix a0 (0 : Int)).length : Int), .bool true, .slice p35 n37 c36, .slice Hx (l9 + 1) Hy, .slice Ir (l8 + 1) Iu, .slice Jr (l7 + 1) Js, .slice none 0 0, .slice nO lX nP, .int .i64 (0 : Int), .map (some B4), .slice Kz (l5 + 1) KA, .slice LD (lY + 1) LE, .slice Nz (lE + 1) NA]) 8 hO rfl rfl rfl rfl
  obtain ⟨aeY, oR, QI⟩ := hobt
  dsimp only [sS, sZ] at oR
  refine zg (QI Try.underlying26 rfl ti26 (by exact rfl) (by exact rfl)) ?_
  replace hO := oR.own
  refine zn ?_
  refine Go1.inBlock ?_
  refine Go1.cut [(6, .pointer (some ⟨B10, 0, none⟩)), (9, .int .i64 (0 : Int)), (85, .slice p35 n37 c36), (86, .int .i64 (d_32.length : Int)), (87, .int .i64 (k3_548 : Int))] ⟨rfl, rfl, rfl, rfl, rfl, trivial⟩ ?_
  intro σ _
  refine zr ?_
  replace al := ((al.ch Z44).ch pN.ch).ch oR.ch
  refine zo (op_add rfl rfl (wrap_i64 (natbd Jq al.bd))) (zm rfl (zn ?_))
  replace JV := JV.ch oR.ch
  replace hB := (hB.trans pN.fr).trans oR.fr
  have Z45 := (((pM.ch.trans qt.ch).trans uF).trans pN.ch).trans oR.ch
  replace yV := yV.ch Z45
  have Z46 := (((((((qr.ch.trans ry.ch).trans vK).trans qs.ch).trans pM.ch).trans qt.ch).trans uF).trans pN.ch).trans oR.ch
  replace q8 := q8.ch Z46
  have Z47 := (((((((((((ru.ch.trans sk.ch).trans xg).trans rv.ch).trans qr.ch).trans ry.ch).trans vK).trans qs.ch).trans pM.ch).trans qt.ch).trans uF).trans pN.ch).trans oR.ch
  replace lJ := lJ.ch Z47
  have Z48 := (((((((((((((((si.ch.trans t7.ch).trans xW).trans sj.ch).trans ru.ch).trans sk.ch).trans xg).trans rv.ch).trans qr.ch).trans ry.ch).trans vK).trans qs.ch).trans pM.ch).trans qt.ch).trans uF).trans pN.ch).trans oR.ch
  replace ig := ig.ch Z48
  have Z49 := (((((((((((((((((((t5.ch.trans uY.ch).trans yU).trans t6.ch).trans si.ch).trans t7.ch).trans xW).trans sj.ch).trans ru.ch).trans sk.ch).trans xg).trans rv.ch).trans qr.ch).trans ry.ch).trans vK).trans qs.ch).trans pM.ch).trans qt.ch).trans uF).trans pN.ch).trans oR.ch
  replace fP := fP.ch Z49
  replace cq := ((cq.ch Z44).ch pN.ch).ch oR.ch
  exact hX3 _ H _ _ ⟨lE + 1, Nz, NA, UF, lX, nO, nP, vE, lY + 1, LD, LE, UC, l5 + 1, Kz, KA, Uz, l7 + 1, Jr, Js, Uw, l8 + 1, Ir, Iu, Ut, l9 + 1, Hx, Hy, Uq, ⟨rfl, rfl, rfl, rfl, rfl, trivial⟩, hO, JV, cq, yV, q8, lJ, ig, fP, al, hB⟩
 replace H := ifn Jq H
 refine zo (fun w => opB (op_lss rfl rfl w) (decide_eq_false Jq)) (zn (zq (zf rfl rfl ?_)))
 refine Go1.exit rfl ?_
 refine zq (zr (zm rfl (za rfl (za rfl (zn ?_)))))
 have yz := Stp.nil (e := 26) (r := 1) hO
 replace hO := yz.own
 have oS := Els.nil (Rp.sl (Rp.int .i64)) (bl (.row 26 1 none 0 0 [] :: [.row 3 1 oC lE oD xe, .row 39 2 nO lX nP vE, .row 3 1 nQ lY nS vF, .row 9 1 oE l5 oF vG, .row 3 1 oO l7 oP vH, .row 3 1 pv l8 px vI, .row 26 1 qg l9 qh vJ, .row 26 1 p35 n37 c36 gX, .blk B10 (.cells #[.int .i64 ((ix a0 (0 : Int)).length : Int), .bool true, .slice p35 n37 c36, .slice qg l9 qh, .slice pv l8 px, .slice oO l7 oP, .slice none 0 0, .slice nO lX nP, .int .i64 (0 : Int), .map (some B4), .slice oE l5 oF, .slice nQ lY nS, .slice oC lE oD] 72 (0, 0)), .any (mapE (fun a : List UInt8 => Value.string (gstr a)) (fun a : Int => Value.int .i64 a) B4 m3_591)]) ++ A) aau
 have wq := Stp.front 10 hO rfl
 dsimp only [eS, eZ] at wq
 replace hO := wq.own
 have wr := Stp.front 2 hO rfl
 dsimp only [eS, eZ] at wr
 replace hO := wr.own
 have ws := Stp.front 4 hO rfl
 dsimp only [eS, eZ] at ws
 replace hO := ws.own
 have wt := Stp.front 5 hO rfl
 dsimp only [eS, eZ] at wt
 replace hO := wt.own
 have wu := Stp.front 5 hO rfl
 dsimp only [eS, eZ] at wu
 replace hO := wu.own
 have wv := Stp.front 5 hO rfl
 dsimp only [eS, eZ] at wv
 replace hO := wv.own
 have ww := Stp.front 6 hO rfl
 dsimp only [eS, eZ] at ww
 replace hO := ww.own
 have wx := Stp.front 7 hO rfl
 dsimp only [eS, eZ] at wx
 replace hO := wx.own
 have wy := Stp.front 8 hO rfl
 dsimp only [eS, eZ] at wy
 replace hO := wy.own
 have wz := Stp.front 9 hO rfl
 dsimp only [eS, eZ] at wz
 replace hO := wz.own
 have wA := Stp.front 10 hO rfl
 dsimp only [eS, eZ] at wA
 replace hO := wA.own
 refine Go1.ret2 Try.func49 rfl ?_
 have Z50 := (((((((((wq.ch.trans wr.ch).trans ws.ch).trans wt.ch).trans wu.ch).trans wv.ch).trans ww.ch).trans wx.ch).trans wy.ch).trans wz.ch).trans wA.ch
 replace oS := oS.ch Z50
 have Z51 := ((((((((((yz.ch.trans wq.ch).trans wr.ch).trans ws.ch).trans wt.ch).trans wu.ch).trans wv.ch).trans ww.ch).trans wx.ch).trans wy.ch).trans wz.ch).trans wA.ch
 replace cu := cu.ch Z51
 replace cq := cq.ch Z51
 replace cC := cC.ch Z51
 replace cJ := cJ.ch Z51
 replace dl := dl.ch Z51
 replace dG := dG.ch Z51
 replace dW := dW.ch Z51
 replace al := al.ch Z51
 replace hB := (((((((((((hB.trans yz.fr).trans wq.fr).trans wr.fr).trans ws.fr).trans wt.fr).trans wu.fr).trans wv.fr).trans ww.fr).trans wx.fr).trans wy.fr).trans wz.fr).trans wA.fr
 exact Or.inr ⟨(⟨(⟨((ix a0 (0 : Int)).length : Int), true, d_32, d_585, d_579, d_573, ([] : List (List Int)), d_555, (0 : Int)⟩ : Enum), m3_591, d_567, d_561, d_549⟩ : run), ((0 : Int)), B10, n37, p35, c36, gX, l9, qg, qh, vJ, l8, pv, px, vI, l7, oO, oP, vH, 0, none, 0, ([]), lX, nO, nP, vE, B4, l5, oE, oF, vG, lY, nQ, nS, vF, lE, oC, oD, xe, rfl, hB.same, hO, al, dW, dG, dl, oS, cq, cJ, cC, cu, H⟩
theorem body37 : Body Try.prog 37 := ⟨Try.f37, Try.func37, rfl, by kernel_rfl⟩
theorem walk_trans_Compose {A : List Nat} {w0 : World} {p_f : Option Addr} {c_f : Nat} {p_g : Option Addr} {c_g : Nat} {f : List Int} {g : List Int} (hA : ∀ b ∈ A, b < w0.heap.size) (h_f : ISl (Rp.int .i64) A w0 p_f c_f f) (h_g : ISl (Rp.int .i64) A w0 p_g c_g g) {K : List Int → Prop} (H : trans_Compose f g K) :
    CallsV Try.prog 37 #[.slice p_f f.length c_f, .slice p_g g.length c_g] w0 (fun v w' => ∃ (r0 : List Int), ∃ (wU : Option Addr), ∃ (wV : Nat), v = .slice wU r0.length wV ∧ Same w0 w' ∧ ISl (Rp.int .i64) A w' wU wV r0 ∧ K r0) := by
 refine CallsV.of (l := [.slice p_f f.length c_f, .slice p_g g.length c_g]) Try.func37 rfl Try.ntmps37 rfl ?_
 have hO := Owns.start hA
 have hB := Fr.refl (bl []) w0
 unfold trans_Compose at H
 refine zq (zr (za rfl (zn (zq (zq ?_)))))
 refine zr (zm rfl (zo (op_len Try.underlying26 rfl) ?_))
 replace h_f := h_f.ch (Ch.start A w0)
 replace H := H h_f.bd
 refine zm rfl (zo (op_len Try.underlying26 rfl) ?_)
 replace h_g := h_g.ch (Ch.start A w0)
 replace H := H h_g.bd
 by_cases h1 : (f.length : Int) = (g.length : Int)
 ·replace H := ifp h1 H
  refine zo (fun w => opB (op_neq rfl rfl w) (ndT h1)) (zm rfl (zm rfl ?_))
  refine GoR.call (op_call body60 rfl (walk_trans_Valid hO.lt h_f H)) rfl rfl ?_
  rintro v6 w3 ⟨r2, rfl, hs4, H⟩
  have rV := Stp.same hO hs4
  replace hO := rV.own
  cases r2
  ·replace H := ifn Bool.false_ne_true H
   refine zo (op_not rfl) (zo (op_pickF rfl rfl rfl) (zm rfl (zp (zp (zp ?_)))))
   refine zo (op_pickT rfl rfl rfl) (zn (zt rfl rfl (zq (zr (za rfl ?_)))))
   refine zn ?_
   refine Go1.ret1 Try.func37 rfl ?_
   replace hB := hB.trans rV.fr
   exact ⟨([] : List Int), none, 0, rfl, hB.same, (ISl.null _ _ _), H⟩
  replace H := ifp rfl H
  refine zo (op_not rfl) (zo (op_pickF rfl rfl rfl) (zm rfl (zm rfl ?_)))
  replace h_g := h_g.ch rV.ch
  refine GoR.call (op_call body60 rfl (walk_trans_Valid hO.lt h_g H)) rfl rfl ?_
  rintro v12 w9 ⟨r8, rfl, Hn, H⟩
  have xX := Stp.same hO Hn
  replace hO := xX.own
  cases r8
  ·replace H := ifn Bool.false_ne_true H
   refine zo (op_not rfl) (zo (op_pickF rfl rfl rfl) (zn (zt rfl rfl (zq ?_))))
   refine Go1.cut [] trivial ?_
   intro σ _
   refine zr (za rfl (zn ?_))
   refine Go1.ret1 Try.func37 rfl ?_
   replace hB := (hB.trans rV.fr).trans xX.fr
   exact ⟨([] : List Int), none, 0, rfl, hB.same, (ISl.null _ _ _), H⟩
  replace H := ifp rfl H
  refine zo (op_not rfl) (zo (op_pickF rfl rfl rfl) (zn (zf rfl rfl (zk (zq ?_)))))
  refine zr (zm rfl (zo (op_len Try.underlying26 rfl) ?_))
  obtain ⟨h21, H⟩ := H
  obtain ⟨h22, H⟩ := H
  have hobt := omake (n := (f.length : Int)) (r := Rp.int .i64) (d := (0 : Int)) Try.underlying26 ti3 (fun _ _ => rfl) rfl hO h21 h22 (by decide)
  obtain ⟨w14, p15, Ij, lG, dB, Jt, La⟩ := hobt
  refine zg (La rfl rfl) ?_
  replace hO := lG.own
  refine za rfl (zn (zq (zq (zr (zm rfl ?_)))))
  refine zo (op_len Try.underlying26 rfl) (zm rfl (zn (zb ?_)))
  replace h_g := (h_g.ch xX.ch).ch lG.ch
  have Z1 := (rV.ch.trans xX.ch).trans lG.ch
  replace h_f := h_f.ch Z1
  replace hB := ((hB.trans rV.fr).trans xX.fr).trans lG.fr
  refine Go1.loopW (S := Nat × List Int) (fun s σ w => match s with | (k1_25, h1_26) => ∃ (Iv : List Value), agrees σ [(1, .slice p_g g.length c_g), (5, .slice p15 f.length f.length), (26, .slice p_f f.length c_f), (27, .int .i64 (f.length : Int)), (28, .int .i64 (k1_25 : Int))] ∧ (fun Z0 => Owns w0.heap.size w Z0 A ∧ Els (Rp.int .i64) (bl Z0 ++ A) w Iv h1_26 ∧ ISl (Rp.int .i64) (bl Z0 ++ A) w p_f c_f f ∧ ISl (Rp.int .i64) (bl Z0 ++ A) w p_g c_g g ∧ Fr (bl []) w0 (bl Z0) w) [.row 3 1 p15 f.length f.length Iv]) H ⟨Ij, ⟨rfl, rfl, rfl, rfl, rfl, trivial⟩, hO, dB, h_f, h_g, hB⟩ ?_
  intro X1
  refine prE fun k1_25 => fun h1_26 => ?_
  intro H hX1 σ w24
  refine exE fun Iv => andE fun hag => andE fun hO => andE fun Ez => andE fun h_f => andE fun h_g => fun hB => ?_
  dsimp only at H
  refine Go1.keep [(1, .slice p_g g.length c_g), (5, .slice p15 f.length f.length), (26, .slice p_f f.length c_f), (27, .int .i64 (f.length : Int)), (28, .int .i64 (k1_25 : Int))] hag ?_
  refine zq (zr ?_)
  by_cases h29 : (k1_25 : Int) < (f.length : Int)
  ·replace H := ifp h29 H
   refine zo (fun w => opB (op_lss rfl rfl w) (decide_eq_true h29)) (zn (zq (zt rfl rfl (zk (zq ?_)))))
   refine zb (zq (zr (zm rfl ?_)))
   obtain ⟨h30, H⟩ := H
   obtain ⟨h31, H⟩ := H
   refine zo (op_index Try.underlying26 ti3 rfl rfl h30 h31 (h_f.some_ h30 h31)) (zs (ldInt h_f h30 h31 Try.underlying3 rfl rfl) (za rfl (za rfl (zn (zr ?_)))))
   refine zm rfl (zm rfl (zm rfl (zm rfl ?_)))
   obtain ⟨h32, H⟩ := H
   obtain ⟨h33, H⟩ := H
   refine zo (op_index Try.underlying26 ti3 rfl rfl h32 h33 (h_g.some_ h32 h33)) (zs (ldInt h_g h32 h33 Try.underlying3 rfl rfl) ?_)
   obtain ⟨h34, H⟩ := H
   obtain ⟨h35, H⟩ := H
   refine zo (op_index Try.underlying26 ti3 rfl rfl h34 (ltn (Ez.neq hO 0 rfl) h35) (Ez.psome hO 0 rfl h34 h35)) ?_
   have hobt := ost (r := Rp.int .i64) rfl 0 hO rfl Ez h34 h35 (v := .int .i64 (ix g (ix f (k1_25 : Int)))) (u := (ix g (ix f (k1_25 : Int)))) rfl rfl
   obtain ⟨w36, sm, lK, en, LF⟩ := hobt
   refine zg (LF Try.underlying3 rfl ti3 (by exact rfl) (by exact rfl)) ?_
   replace hO := lK.own
   refine zn ?_
   refine Go1.inBlock ?_
   refine zr ?_
   replace h_f := h_f.ch lK.ch
   refine zo (op_add rfl rfl (wrap_i64 (natbd h29 h_f.bd))) (zm rfl (zn ?_))
   replace h_g := h_g.ch lK.ch
   replace hB := hB.trans lK.fr
   exact hX1 _ H _ _ ⟨sm, ⟨rfl, rfl, rfl, rfl, rfl, trivial⟩, hO, en, h_f, h_g, hB⟩
  replace H := ifn h29 H
  refine zo (fun w => opB (op_lss rfl rfl w) (decide_eq_false h29)) (zn (zq (zf rfl rfl ?_)))
  refine Go1.exit rfl ?_
  refine zq (zr (zm rfl (za rfl (zn ?_))))
  have hobt := freeze 0 hO rfl Ez
  obtain ⟨hO1, QJ, aaJ, aaK⟩ := hobt
  replace hO := hO1; clear hO1
  refine Go1.ret1 Try.func37 rfl ?_
  replace hB := hB.trans (Owns.dropFr _ _ 0)
  exact ⟨h1_26, p15, f.length, (congrArg (fun nn => Value.slice p15 nn f.length) aaK), hB.same, (aaJ.ch (Ch.weak _ _ _)), H⟩
 replace H := ifn h1 H
 refine zo (fun w => opB (op_neq rfl rfl w) (ndF h1)) (zm rfl (zp (zp (zp (zo (op_pickT rfl rfl rfl) ?_)))))
 refine zm rfl (zp (zp (zp (zo (op_pickT rfl rfl rfl) (zn ?_)))))
 refine zt rfl rfl (zq ?_)
 refine Go1.cut [] trivial ?_
 intro σ _
 refine zr (za rfl (zn ?_))
 refine Go1.ret1 Try.func37 rfl ?_
 exact ⟨([] : List Int), none, 0, rfl, hB.same, (ISl.null _ _ _), H⟩
end Sg
