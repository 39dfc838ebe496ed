/- The walks: each call keeps to its plain transformer. Printed by walkgen.py. -/
import Derived.Test.YtjegjjdfgefkoaaTi
import Derived.Test.YtjegjjdfgefkoaaAl
namespace Sg
open Go Go.RowKit Go.Proofs
set_option linter.unusedVariables false
set_option linter.unusedSimpArgs false
set_option maxRecDepth 100000
set_option maxHeartbeats 4000000
theorem body48 : Body Try.prog 48 := ⟨Try.f48, Try.func48, rfl, by kernel_rfl⟩
theorem walk_ref11_Valid {A : List Nat} {w0 : World} {p_f : Option Addr} {c_f : Nat} {f : List Int} (hA : ∀ b ∈ A, b < w0.heap.size) (h_f : ISl (Rp.int .i64) A w0 p_f c_f f) {K : Bool → Prop} (H : ref11_Valid f K) :
    CallsV Try.prog 48 #[.slice p_f f.length c_f] w0 (fun v w' => ∃ (r0 : Bool), v = .bool r0 ∧ Same w0 w' ∧ K r0) := by
 refine CallsV.of (l := [.slice p_f f.length c_f]) Try.func48 rfl Try.ntmps48 rfl ?_
 have hO := Owns.start hA
 have hB := Fr.refl (bl []) w0
 unfold ref11_Valid at H
 refine zq (zr (za rfl (zn (zq (zq ?_)))))
 refine zr (zm rfl (zo (op_len Try.underlying26 rfl) ?_))
 replace h_f := h_f.ch (Ch.start A w0)
 replace H := H h_f.bd
 by_cases h1 : (f.length : Int) < (1 : Int)
 ·replace H := ifp h1 H
  refine zo (fun w => opB (op_lss rfl rfl w) (decide_eq_true h1)) (zm rfl (zp (zp (zp (zo (op_pickT rfl rfl rfl) ?_)))))
  refine zn (zt rfl rfl (zq (zr (za rfl (zn ?_)))))
  refine Go1.ret1 Try.func48 rfl ?_
  exact ⟨false, rfl, hB.same, H⟩
 replace H := ifn h1 H
 refine zo (fun w => opB (op_lss rfl rfl w) (decide_eq_false h1)) (zm rfl (zm rfl (zo (op_len Try.underlying26 rfl) ?_)))
 by_cases h2 : (32 : Int) < (f.length : Int)
 ·replace H := ifp h2 H
  refine zo (fun w => opB (op_gtr rfl rfl w) (decide_eq_true h2)) (zo (op_pickF rfl rfl rfl) (zn (zt rfl rfl (zq (zr ?_)))))
  refine za rfl (zn ?_)
  refine Go1.ret1 Try.func48 rfl ?_
  exact ⟨false, rfl, hB.same, H⟩
 replace H := ifn h2 H
 refine zo (fun w => opB (op_gtr rfl rfl w) (decide_eq_false h2)) (zo (op_pickF rfl rfl rfl) (zn (zf rfl rfl (zk (zq ?_)))))
 refine zq (zr (zm rfl (zo (op_len Try.underlying26 rfl) (zm rfl (zn ?_)))))
 refine zb ?_
 refine Go1.loopW (S := Nat) (fun s σ w => agrees σ [(0, .slice p_f f.length c_f), (13, .slice p_f f.length c_f), (14, .int .i64 (f.length : Int)), (15, .int .i64 (s : Int))] ∧ Owns w0.heap.size w [] A ∧ ISl (Rp.int .i64) (bl [] ++ A) w p_f c_f f ∧ Fr (bl []) w0 (bl []) w) H ⟨⟨rfl, rfl, rfl, rfl, trivial⟩, hO, h_f, hB⟩ ?_
 intro X1 k1_4
 intro H hX1 σ w3
 refine andE fun hag => andE fun hO => andE fun h_f => fun hB => ?_
 refine Go1.keep [(0, .slice p_f f.length c_f), (13, .slice p_f f.length c_f), (14, .int .i64 (f.length : Int)), (15, .int .i64 (k1_4 : Int))] hag ?_
 refine zq (zr ?_)
 by_cases h5 : (k1_4 : Int) < (f.length : Int)
 ·replace H := ifp h5 H
  refine zo (fun w => opB (op_lss rfl rfl w) (decide_eq_true h5)) (zn (zq (zt rfl rfl (zk (zq ?_)))))
  refine zb (zq (zr ?_))
  obtain ⟨h6, H⟩ := H
  obtain ⟨h7, H⟩ := H
  refine zo (op_index Try.underlying26 ti3 rfl rfl h6 h7 (h_f.some_ h6 h7)) (zs (ldInt h_f h6 h7 Try.underlying3 rfl rfl) (za rfl (zn (zq (zr ?_)))))
  refine zm rfl ?_
  by_cases h8 : (ix f (k1_4 : Int)) < (0 : Int)
  ·replace H := ifp h8 H
   refine zo (fun w => opB (op_lss rfl rfl w) (decide_eq_true h8)) (zm rfl (zp (zp (zp (zp ?_)))))
   refine zo (op_pickT rfl rfl rfl) (zn (zt rfl rfl (zq (zr (za rfl ?_)))))
   refine zn ?_
   refine Go1.ret1 Try.func48 rfl ?_
   exact ⟨false, rfl, hB.same, H⟩
  replace H := ifn h8 H
  refine zo (fun w => opB (op_lss rfl rfl w) (decide_eq_false h8)) (zm rfl (zm rfl (zm rfl (zo (op_len Try.underlying26 rfl) ?_))))
  by_cases h9 : (f.length : Int) ≤ (ix f (k1_4 : Int))
  ·replace H := ifp h9 H
   refine zo (fun w => opB (op_geq rfl rfl w) (decide_eq_true h9)) (zo (op_pickF rfl rfl rfl) (zn (zt rfl rfl (zq ?_))))
   refine Go1.cut [] trivial ?_
   intro σ _
   refine zr (za rfl (zn ?_))
   refine Go1.ret1 Try.func48 rfl ?_
   exact ⟨false, rfl, hB.same, H⟩
  replace H := ifn h9 H
  refine zo (fun w => opB (op_geq rfl rfl w) (decide_eq_false h9)) (zo (op_pickF rfl rfl rfl) (zn (zf rfl rfl (zk ?_))))
  refine Go1.inBlock ?_
  refine zr (zo (op_add rfl rfl (wrap_i64 (natbd h5 h_f.bd))) (zm rfl (zn ?_)))
  exact hX1 _ H _ _ ⟨⟨rfl, rfl, rfl, rfl, trivial⟩, hO, h_f, hB⟩
 replace H := ifn h5 H
 refine zo (fun w => opB (op_lss rfl rfl w) (decide_eq_false h5)) (zn (zq (zf rfl rfl ?_)))
 refine Go1.exit rfl ?_
 refine zq (zr (za rfl (zn ?_)))
 refine Go1.ret1 Try.func48 rfl ?_
 exact ⟨true, rfl, hB.same, H⟩
theorem body14 : Body Try.prog 14 := ⟨Try.f14, Try.func14, rfl, by kernel_rfl⟩
theorem walk_ref11_MayGens {A : List Nat} {w0 : World} {iQ : Option Addr} {iR : Nat} {gens : List (List Int)} (hA : ∀ b ∈ A, b < w0.heap.size) (b5 : ISl (Rp.sl (Rp.int .i64)) A w0 iQ iR gens) {K : Bool → Prop} (H : ref11_MayGens gens K) :
    CallsV Try.prog 14 #[.slice iQ gens.length iR] w0 (fun v w' => ∃ (r0 : Bool), v = .bool r0 ∧ Same w0 w' ∧ K r0) := by
 refine CallsV.of (l := [.slice iQ gens.length iR]) Try.func14 rfl Try.ntmps14 rfl ?_
 have hO := Owns.start hA
 have hB := Fr.refl (bl []) w0
 unfold ref11_MayGens at H
 refine zq (zr (za rfl (zn (zq (zq ?_)))))
 refine zr (zm rfl (zo (op_len Try.underlying22 rfl) ?_))
 replace b5 := b5.ch (Ch.start A w0)
 replace H := H b5.bd
 by_cases h1 : (gens.length : Int) < (1 : Int)
 ·replace H := ifp h1 H
  refine zo (fun w => opB (op_lss rfl rfl w) (decide_eq_true h1)) (zm rfl (zp (zp (zp (zo (op_pickT rfl rfl rfl) ?_)))))
  refine zn (zt rfl rfl (zq (zr (za rfl (zn ?_)))))
  refine Go1.ret1 Try.func14 rfl ?_
  exact ⟨false, rfl, hB.same, H⟩
 replace H := ifn h1 H
 refine zo (fun w => opB (op_lss rfl rfl w) (decide_eq_false h1)) (zm rfl (zm rfl (zo (op_len Try.underlying22 rfl) ?_)))
 by_cases h2 : (6 : Int) < (gens.length : Int)
 ·replace H := ifp h2 H
  refine zo (fun w => opB (op_gtr rfl rfl w) (decide_eq_true h2)) (zo (op_pickF rfl rfl rfl) (zn (zt rfl rfl (zq (zr ?_)))))
  refine za rfl (zn ?_)
  refine Go1.ret1 Try.func14 rfl ?_
  exact ⟨false, rfl, hB.same, H⟩
 replace H := ifn h2 H
 refine zo (fun w => opB (op_gtr rfl rfl w) (decide_eq_false h2)) (zo (op_pickF rfl rfl rfl) (zn (zf rfl rfl (zk (zq ?_)))))
 refine zq (zr (zm rfl (zo (op_len Try.underlying22 rfl) (zm rfl (zn ?_)))))
 refine zb ?_
 refine Go1.loopW (S := Nat) (fun s σ w => agrees σ [(0, .slice iQ gens.length iR), (13, .slice iQ gens.length iR), (14, .int .i64 (gens.length : Int)), (15, .int .i64 (s : Int))] ∧ Owns w0.heap.size w [] A ∧ ISl (Rp.sl (Rp.int .i64)) (bl [] ++ A) w iQ iR gens ∧ Fr (bl []) w0 (bl []) w) H ⟨⟨rfl, rfl, rfl, rfl, trivial⟩, hO, b5, hB⟩ ?_
 intro X1 k1_4
 intro H hX1 σ w3
 refine andE fun hag => andE fun hO => andE fun b5 => fun hB => ?_
 refine Go1.keep [(0, .slice iQ gens.length iR), (13, .slice iQ gens.length iR), (14, .int .i64 (gens.length : Int)), (15, .int .i64 (k1_4 : Int))] hag ?_
 refine zq (zr ?_)
 by_cases h5 : (k1_4 : Int) < (gens.length : Int)
 ·replace H := ifp h5 H
  refine zo (fun w => opB (op_lss rfl rfl w) (decide_eq_true h5)) (zn (zq (zt rfl rfl (zk (zq ?_)))))
  refine zb (zq (zr ?_))
  obtain ⟨h6, H⟩ := H
  obtain ⟨h7, H⟩ := H
  refine zo (op_index Try.underlying22 ti26 rfl rfl h6 h7 (b5.some_ h6 h7)) ?_
  have hobt := ldSl b5 h6 h7
  obtain ⟨p8, c9, yu, I8⟩ := hobt
  refine zs (I8 Try.underlying26 rfl rfl) (za rfl (zn (zq (zr (zm rfl ?_)))))
  refine GoR.call (op_call body48 rfl (walk_ref11_Valid hO.lt yu H)) rfl rfl ?_
  rintro v16 w13 ⟨r12, rfl, I9, H⟩
  have tR := Stp.same hO I9
  replace hO := tR.own
  cases r12
  ·replace H := ifn Bool.false_ne_true H
   refine zo (op_not rfl) (zm rfl (zp (zp (zp (zp ?_)))))
   refine zp (zp (zp (zo (op_pickT rfl rfl rfl) (zn (zt rfl rfl ?_)))))
   refine zq (zr (za rfl (zn ?_)))
   refine Go1.ret1 Try.func14 rfl ?_
   replace hB := hB.trans tR.fr
   exact ⟨false, rfl, hB.same, H⟩
  replace H := ifp rfl H
  refine zo (op_not rfl) (zm rfl (zm rfl (zo (op_len Try.underlying26 rfl) ?_)))
  replace yu := yu.ch tR.ch
  replace H := H yu.bd
  refine zm rfl ?_
  obtain ⟨h18, H⟩ := H
  obtain ⟨h19, H⟩ := H
  replace b5 := b5.ch tR.ch
  refine zo (op_index Try.underlying22 ti26 rfl rfl h18 h19 (b5.some_ h18 h19)) ?_
  have hobt := ldSl b5 h18 h19
  obtain ⟨p20, c21, Ja, Jb⟩ := hobt
  refine zs (Jb Try.underlying26 rfl rfl) (zo (op_len Try.underlying26 rfl) ?_)
  replace H := H Ja.bd
  by_cases h24 : ((ix gens (k1_4 : Int)).length : Int) = ((ix gens (0 : Int)).length : Int)
  ·replace H := ifp h24 H
   refine zo (fun w => opB (op_neq rfl rfl w) (ndT h24)) (zo (op_pickF rfl rfl rfl) (zn (zf rfl rfl (zk ?_))))
   refine Go1.inBlock ?_
   refine Go1.cut [(0, .slice iQ gens.length iR), (13, .slice iQ gens.length iR), (14, .int .i64 (gens.length : Int)), (15, .int .i64 (k1_4 : Int))] ⟨rfl, rfl, rfl, rfl, trivial⟩ ?_
   intro σ _
   refine zr (zo (op_add rfl rfl (wrap_i64 (natbd h5 b5.bd))) (zm rfl (zn ?_)))
   replace hB := hB.trans tR.fr
   exact hX1 _ H _ _ ⟨⟨rfl, rfl, rfl, rfl, trivial⟩, hO, b5, hB⟩
  replace H := ifn h24 H
  refine zo (fun w => opB (op_neq rfl rfl w) (ndF h24)) (zo (op_pickF rfl rfl rfl) (zn (zt rfl rfl (zq (zr ?_)))))
  refine za rfl (zn ?_)
  refine Go1.ret1 Try.func14 rfl ?_
  replace hB := hB.trans tR.fr
  exact ⟨false, rfl, hB.same, H⟩
 replace H := ifn h5 H
 refine zo (fun w => opB (op_lss rfl rfl w) (decide_eq_false h5)) (zn (zq (zf rfl rfl ?_)))
 refine Go1.exit rfl ?_
 refine zq (zr (za rfl (zn ?_)))
 refine Go1.ret1 Try.func14 rfl ?_
 exact ⟨true, rfl, hB.same, H⟩
theorem body60 : Body Try.prog 60 := ⟨Try.f60, Try.func60, rfl, by kernel_rfl⟩
theorem walk_trans_Valid {A : List Nat} {w0 : World} {p_f : Option Addr} {c_f : Nat} {f : List Int} (hA : ∀ b ∈ A, b < w0.heap.size) (h_f : ISl (Rp.int .i64) A w0 p_f c_f f) {K : Bool → Prop} (H : trans_Valid f K) :
    CallsV Try.prog 60 #[.slice p_f f.length c_f] w0 (fun v w' => ∃ (r0 : Bool), v = .bool r0 ∧ Same w0 w' ∧ K r0) := by
 refine CallsV.of (l := [.slice p_f f.length c_f]) Try.func60 rfl Try.ntmps60 rfl ?_
 have hO := Owns.start hA
 have hB := Fr.refl (bl []) w0
 unfold trans_Valid at H
 refine zq (zr (za rfl (zn (zq (zq ?_)))))
 refine zr (zm rfl (zo (op_len Try.underlying26 rfl) ?_))
 replace h_f := h_f.ch (Ch.start A w0)
 replace H := H h_f.bd
 by_cases h1 : (f.length : Int) < (1 : Int)
 ·replace H := ifp h1 H
  refine zo (fun w => opB (op_lss rfl rfl w) (decide_eq_true h1)) (zm rfl (zp (zp (zp (zo (op_pickT rfl rfl rfl) ?_)))))
  refine zn (zt rfl rfl (zq (zr (za rfl (zn ?_)))))
  refine Go1.ret1 Try.func60 rfl ?_
  exact ⟨false, rfl, hB.same, H⟩
 replace H := ifn h1 H
 refine zo (fun w => opB (op_lss rfl rfl w) (decide_eq_false h1)) (zm rfl (zm rfl (zo (op_len Try.underlying26 rfl) ?_)))
 by_cases h2 : (32 : Int) < (f.length : Int)
 ·replace H := ifp h2 H
  refine zo (fun w => opB (op_gtr rfl rfl w) (decide_eq_true h2)) (zo (op_pickF rfl rfl rfl) (zn (zt rfl rfl (zq (zr ?_)))))
  refine za rfl (zn ?_)
  refine Go1.ret1 Try.func60 rfl ?_
  exact ⟨false, rfl, hB.same, H⟩
 replace H := ifn h2 H
 refine zo (fun w => opB (op_gtr rfl rfl w) (decide_eq_false h2)) (zo (op_pickF rfl rfl rfl) (zn (zf rfl rfl (zk (zq ?_)))))
 refine zq (zr (zm rfl (zo (op_len Try.underlying26 rfl) (zm rfl (zn ?_)))))
 refine zb ?_
 refine Go1.loopW (S := Nat) (fun s σ w => agrees σ [(0, .slice p_f f.length c_f), (13, .slice p_f f.length c_f), (14, .int .i64 (f.length : Int)), (15, .int .i64 (s : Int))] ∧ Owns w0.heap.size w [] A ∧ ISl (Rp.int .i64) (bl [] ++ A) w p_f c_f f ∧ Fr (bl []) w0 (bl []) w) H ⟨⟨rfl, rfl, rfl, rfl, trivial⟩, hO, h_f, hB⟩ ?_
 intro X1 k1_4
 intro H hX1 σ w3
 refine andE fun hag => andE fun hO => andE fun h_f => fun hB => ?_
 refine Go1.keep [(0, .slice p_f f.length c_f), (13, .slice p_f f.length c_f), (14, .int .i64 (f.length : Int)), (15, .int .i64 (k1_4 : Int))] hag ?_
 refine zq (zr ?_)
 by_cases h5 : (k1_4 : Int) < (f.length : Int)
 ·replace H := ifp h5 H
  refine zo (fun w => opB (op_lss rfl rfl w) (decide_eq_true h5)) (zn (zq (zt rfl rfl (zk (zq ?_)))))
  refine zb (zq (zr ?_))
  obtain ⟨h6, H⟩ := H
  obtain ⟨h7, H⟩ := H
  refine zo (op_index Try.underlying26 ti3 rfl rfl h6 h7 (h_f.some_ h6 h7)) (zs (ldInt h_f h6 h7 Try.underlying3 rfl rfl) (za rfl (zn (zq (zr ?_)))))
  refine zm rfl ?_
  by_cases h8 : (ix f (k1_4 : Int)) < (0 : Int)
  ·replace H := ifp h8 H
   refine zo (fun w => opB (op_lss rfl rfl w) (decide_eq_true h8)) (zm rfl (zp (zp (zp (zp ?_)))))
   refine zo (op_pickT rfl rfl rfl) (zn (zt rfl rfl (zq (zr (za rfl ?_)))))
   refine zn ?_
   refine Go1.ret1 Try.func60 rfl ?_
   exact ⟨false, rfl, hB.same, H⟩
  replace H := ifn h8 H
  refine zo (fun w => opB (op_lss rfl rfl w) (decide_eq_false h8)) (zm rfl (zm rfl (zm rfl (zo (op_len Try.underlying26 rfl) ?_))))
  by_cases h9 : (f.length : Int) ≤ (ix f (k1_4 : Int))
  ·replace H := ifp h9 H
   refine zo (fun w => opB (op_geq rfl rfl w) (decide_eq_true h9)) (zo (op_pickF rfl rfl rfl) (zn (zt rfl rfl (zq ?_))))
   refine Go1.cut [] trivial ?_
   intro σ _
   refine zr (za rfl (zn ?_))
   refine Go1.ret1 Try.func60 rfl ?_
   exact ⟨false, rfl, hB.same, H⟩
  replace H := ifn h9 H
  refine zo (fun w => opB (op_geq rfl rfl w) (decide_eq_false h9)) (zo (op_pickF rfl rfl rfl) (zn (zf rfl rfl (zk ?_))))
  refine Go1.inBlock ?_
  refine zr (zo (op_add rfl rfl (wrap_i64 (natbd h5 h_f.bd))) (zm rfl (zn ?_)))
  exact hX1 _ H _ _ ⟨⟨rfl, rfl, rfl, rfl, trivial⟩, hO, h_f, hB⟩
 replace H := ifn h5 H
 refine zo (fun w => opB (op_lss rfl rfl w) (decide_eq_false h5)) (zn (zq (zf rfl rfl ?_)))
 refine Go1.exit rfl ?_
 refine zq (zr (za rfl (zn ?_)))
 refine Go1.ret1 Try.func60 rfl ?_
 exact ⟨true, rfl, hB.same, H⟩
theorem body64 : Body Try.prog 64 := ⟨Try.f64, Try.func64, rfl, by kernel_rfl⟩
theorem walk_slices_Clone_int {A : List Nat} {w0 : World} {p_s : Option Addr} {c_s : Nat} {s : List Int} (hA : ∀ b ∈ A, b < w0.heap.size) (h_s : ISl (Rp.int .i64) A w0 p_s c_s s) {K : List Int → Prop} (H : slices_Clone_int s K) :
    CallsV Try.prog 64 #[.slice p_s s.length c_s] w0 (fun v w' => ∃ (r0 : List Int), ∃ (xx : Nat), ∃ (si : Option Addr), ∃ (sj : Nat), ∃ (yv : List Value), v = .slice si xx sj ∧ Same w0 w' ∧ Owns w0.heap.size w' [.row 3 1 si xx sj yv] A ∧ Els (Rp.int .i64) (bl [.row 3 1 si xx sj yv] ++ A) w' yv r0 ∧ K r0) := by
 refine CallsV.of (l := [.slice p_s s.length c_s]) Try.func64 rfl Try.ntmps64 rfl ?_
 have hO := Owns.start hA
 have hB := Fr.refl (bl []) w0
 unfold slices_Clone_int at H
 refine zq (zr (za rfl (zn (zq (zq ?_)))))
 refine zr (zm rfl ?_)
 replace h_s := h_s.ch (Ch.start A w0)
 replace H := H p_s.isNone (fun h => h_s.nilD h)
 by_cases hz2 : p_s.isNone = true
 ·replace H := ifp hz2 H
  refine zo (fun w => opB (op_nilSlice Try.underlying26 rfl rfl w) (hz2)) (zn (zt rfl rfl (zq (zr (za rfl ?_)))))
  refine zn ?_
  have lT := Stp.nil (e := 3) (r := 1) hO
  replace hO := lT.own
  have hE5 := Els.nil (Rp.int .i64) (bl (.row 3 1 none 0 0 [] :: []) ++ A) w0
  refine Go1.ret1 Try.func64 rfl ?_
  replace hB := hB.trans lT.fr
  exact ⟨(([] : List Int)), 0, none, 0, ([]), rfl, hB.same, hO, hE5, H⟩
 ·replace H := ifn hz2 H
  refine zo (fun w => opB (op_nilSlice Try.underlying26 rfl rfl w) (Bool.eq_false_iff.2 hz2)) (zn (zf rfl rfl (zk (zq (zr ?_)))))
  have hobt := obuild (r := Rp.int .i64) (n := 0) (parts := []) (vs := []) (xs := ([] : List Int)) rfl Try.underlying26 ti3 hO (by decide) (by kernel_rfl) (Els.nil _ _ _) rfl
  obtain ⟨w6, p7, z9, hE9, Aa, yw⟩ := hobt
  refine zg (yw rfl) ?_
  replace hO := z9.own
  refine zm rfl ?_
  obtain ⟨h13, H⟩ := H
  replace h_s := h_s.ch z9.ch
  have hobt := oapp Try.underlying26 ti3 rfl 0 hO rfl hE9 h_s rfl h13 (by decide)
  obtain ⟨w14, p15, c16, lU, nl, Jc, yy⟩ := hobt
  refine zg (yy (by exact rfl) (by exact rfl)) ?_
  replace hO := nl.own
  refine za rfl (zn ?_)
  refine Go1.ret1 Try.func64 rfl ?_
  replace hB := (hB.trans z9.fr).trans nl.fr
  exact ⟨((([] : List Int)) ++ s), (0 + s.length), p15, c16, lU, rfl, hB.same, hO, Jc, H⟩
theorem body62 : Body Try.prog 62 := ⟨Try.f62, Try.func62, rfl, by kernel_rfl⟩
theorem walk_trans_Identity {A : List Nat} {w0 : World} {n : Int} (hA : ∀ b ∈ A, b < w0.heap.size) {K : List Int → Prop} (H : trans_Identity n K) :
    CallsV Try.prog 62 #[.int .i64 n] w0 (fun v w' => ∃ (r0 : List Int), ∃ (si : Option Addr), ∃ (sj : Nat), v = .slice si r0.length sj ∧ Same w0 w' ∧ ISl (Rp.int .i64) A w' si sj r0 ∧ K r0) := by
 refine CallsV.of (l := [.int .i64 n]) Try.func62 rfl Try.ntmps62 rfl ?_
 have hO := Owns.start hA
 have hB := Fr.refl (bl []) w0
 unfold trans_Identity at H
 refine zq (zr (za rfl (zn (zq (zq ?_)))))
 refine zr (zm rfl ?_)
 by_cases h1 : n < (1 : Int)
 ·replace H := ifp h1 H
  refine zo (fun w => opB (op_lss rfl rfl w) (decide_eq_true h1)) (zm rfl (zp (zp (zo (op_pickT rfl rfl rfl) (zn ?_)))))
  refine zt rfl rfl (zq (zr (za rfl (zn ?_))))
  refine Go1.ret1 Try.func62 rfl ?_
  exact ⟨([] : List Int), none, 0, rfl, hB.same, (ISl.null _ _ _), H⟩
 replace H := ifn h1 H
 refine zo (fun w => opB (op_lss rfl rfl w) (decide_eq_false h1)) (zm rfl (zm rfl ?_))
 by_cases h2 : (32 : Int) < n
 ·replace H := ifp h2 H
  refine zo (fun w => opB (op_gtr rfl rfl w) (decide_eq_true h2)) (zo (op_pickF rfl rfl rfl) (zn (zt rfl rfl (zq (zr ?_)))))
  refine za rfl (zn ?_)
  refine Go1.ret1 Try.func62 rfl ?_
  exact ⟨([] : List Int), none, 0, rfl, hB.same, (ISl.null _ _ _), H⟩
 replace H := ifn h2 H
 refine zo (fun w => opB (op_gtr rfl rfl w) (decide_eq_false h2)) (zo (op_pickF rfl rfl rfl) (zn (zf rfl rfl (zk (zq ?_)))))
 refine zr (zm rfl ?_)
 obtain ⟨h10, H⟩ := H
 obtain ⟨h11, H⟩ := H
 have hobt := omake (n := n) (r := Rp.int .i64) (d := (0 : Int)) Try.underlying26 ti3 (fun _ _ => rfl) rfl hO h10 h11 (by decide)
 obtain ⟨w3, p4, vs5, BY, hE7, hs8, Jd⟩ := hobt
 refine zg (Jd rfl rfl) ?_
 replace hO := BY.own
 refine za rfl (zn (zq (zq (zr (zm rfl ?_)))))
 refine zo (op_lenN Try.underlying26 rfl (hE7.neq hO 0 rfl)) (zm rfl (zn (zb ?_)))
 replace hB := hB.trans BY.fr
 refine Go1.loopW (S := Nat × List Int) (fun s σ w => match s with | (k1_14, f1_15) => ∃ (wH : List Value), agrees σ [(3, .slice p4 n.toNat n.toNat), (14, .int .i64 ((List.replicate n.toNat ((0 : Int))).length : Int)), (15, .int .i64 (k1_14 : Int))] ∧ (fun Z0 => Owns w0.heap.size w Z0 A ∧ Els (Rp.int .i64) (bl Z0 ++ A) w wH f1_15 ∧ Fr (bl []) w0 (bl Z0) w) [.row 3 1 p4 n.toNat n.toNat wH]) H ⟨vs5, ⟨rfl, rfl, rfl, trivial⟩, hO, hE7, hB⟩ ?_
 intro X1
 refine prE fun k1_14 => fun f1_15 => ?_
 intro H hX1 σ w13
 refine exE fun wH => andE fun hag => andE fun hO => andE fun yz => fun hB => ?_
 dsimp only at H
 refine Go1.keep [(3, .slice p4 n.toNat n.toNat), (14, .int .i64 ((List.replicate n.toNat ((0 : Int))).length : Int)), (15, .int .i64 (k1_14 : Int))] hag ?_
 refine zq (zr ?_)
 by_cases h18 : (k1_14 : Int) < ((List.replicate n.toNat ((0 : Int))).length : Int)
 ·replace H := ifp h18 H
  refine zo (fun w => opB (op_lss rfl rfl w) (decide_eq_true h18)) (zn (zq (zt rfl rfl (zk (zq ?_)))))
  refine zb (zq (zr (zm rfl (za rfl (zn ?_)))))
  refine zr (zm rfl (zm rfl (zm rfl ?_)))
  obtain ⟨h19, H⟩ := H
  obtain ⟨h20, H⟩ := H
  refine zo (op_index Try.underlying26 ti3 rfl rfl h19 (ltn (yz.neq hO 0 rfl) h20) (yz.psome hO 0 rfl h19 h20)) ?_
  have hobt := ost (r := Rp.int .i64) rfl 0 hO rfl yz h19 h20 (v := .int .i64 (k1_14 : Int)) (u := (k1_14 : Int)) rfl rfl
  obtain ⟨w21, Ab, i9, b6, yA⟩ := hobt
  refine zg (yA Try.underlying3 rfl ti3 (by exact rfl) (by exact rfl)) ?_
  replace hO := i9.own
  refine zn ?_
  refine Go1.inBlock ?_
  refine zr ?_
  obtain ⟨h26, H⟩ := H
  refine zo (op_add rfl rfl (wrap_i64 h26)) (zm rfl (zn ?_))
  replace hB := hB.trans i9.fr
  exact hX1 _ H _ _ ⟨Ab, ⟨rfl, rfl, rfl, trivial⟩, hO, b6, hB⟩
 replace H := ifn h18 H
 refine zo (fun w => opB (op_lss rfl rfl w) (decide_eq_false h18)) (zn (zq (zf rfl rfl ?_)))
 refine Go1.exit rfl ?_
 refine zq (zr (zm rfl (za rfl (zn ?_))))
 have hobt := freeze 0 hO rfl yz
 obtain ⟨hO1, Mm, Je, Jf⟩ := hobt
 replace hO := hO1; clear hO1
 refine Go1.ret1 Try.func62 rfl ?_
 replace hB := hB.trans (Owns.dropFr _ _ 0)
 exact ⟨f1_15, p4, n.toNat, (congrArg (fun nn => Value.slice p4 nn n.toNat) Jf), hB.same, (Je.ch (Ch.weak _ _ _)), H⟩
theorem body61 : Body Try.prog 61 := ⟨Try.f61, Try.func61, rfl, by kernel_rfl⟩
theorem walk_enumerate_text {A : List Nat} {w0 : World} {p_f : Option Addr} {c_f : Nat} {f : List Int} (hA : ∀ b ∈ A, b < w0.heap.size) (h_f : ISl (Rp.int .i64) A w0 p_f c_f f) {K : Str → Prop} (H : enumerate_text f K) :
    CallsV Try.prog 61 #[.slice p_f f.length c_f] w0 (fun v w' => ∃ (r0 : Str), v = .string (gstr r0) ∧ Same w0 w' ∧ r0.length ≤ mx ∧ K r0) := by
 refine CallsV.of (l := [.slice p_f f.length c_f]) Try.func61 rfl Try.ntmps61 rfl ?_
 have hO := Owns.start hA
 have hB := Fr.refl (bl []) w0
 unfold enumerate_text at H
 refine zq (zr (za rfl (zn (zq (zr ?_)))))
 refine zm rfl (zo (op_len Try.underlying26 rfl) ?_)
 replace h_f := h_f.ch (Ch.start A w0)
 replace H := H h_f.bd
 obtain ⟨h8, H⟩ := H
 obtain ⟨h9, H⟩ := H
 have hobt := omake (n := (f.length : Int)) (r := Rp.int .u8) (d := (0 : Int)) Try.underlying84 ti5 (fun _ _ => rfl) rfl hO h8 h9 (by decide)
 obtain ⟨w1, p2, vs3, lT, hE5, hs6, vb⟩ := hobt
 refine zg (vb rfl rfl) ?_
 replace hO := lT.own
 refine za rfl (zn (zq (zq (zr (zm rfl ?_)))))
 refine zo (op_len Try.underlying26 rfl) (zm rfl (zn (zb ?_)))
 replace h_f := h_f.ch lT.ch
 replace hB := hB.trans lT.fr
 refine Go1.loopW (S := Nat × List Int) (fun s σ w => match s with | (k1_12, b1_13) => ∃ (kP : List Value), agrees σ [(3, .slice p2 f.length f.length), (9, .slice p_f f.length c_f), (10, .int .i64 (f.length : Int)), (11, .int .i64 (k1_12 : Int))] ∧ (fun Z0 => Owns w0.heap.size w Z0 A ∧ Els (Rp.int .u8) (bl Z0 ++ A) w kP b1_13 ∧ ISl (Rp.int .i64) (bl Z0 ++ A) w p_f c_f f ∧ Fr (bl []) w0 (bl Z0) w) [.row 5 1 p2 f.length f.length kP]) H ⟨vs3, ⟨rfl, rfl, rfl, rfl, trivial⟩, hO, hE5, h_f, hB⟩ ?_
 intro X1
 refine prE fun k1_12 => fun b1_13 => ?_
 intro H hX1 σ w11
 refine exE fun kP => andE fun hag => andE fun hO => andE fun a8 => andE fun h_f => fun hB => ?_
 dsimp only at H
 refine Go1.keep [(3, .slice p2 f.length f.length), (9, .slice p_f f.length c_f), (10, .int .i64 (f.length : Int)), (11, .int .i64 (k1_12 : Int))] hag ?_
 refine zq (zr ?_)
 by_cases h16 : (k1_12 : Int) < (f.length : Int)
 ·replace H := ifp h16 H
  refine zo (fun w => opB (op_lss rfl rfl w) (decide_eq_true h16)) (zn (zq (zt rfl rfl (zk (zq ?_)))))
  refine zb (zq (zr (zm rfl ?_)))
  obtain ⟨h17, H⟩ := H
  obtain ⟨h18, H⟩ := H
  refine zo (op_index Try.underlying26 ti3 rfl rfl h17 h18 (h_f.some_ h17 h18)) (zs (ldInt h_f h17 h18 Try.underlying3 rfl rfl) (za rfl (za rfl (zn (zr ?_)))))
  refine zm rfl (zm rfl (zm rfl (zo (op_conv Try.underlying3 Try.underlying5 rfl rfl) ?_)))
  obtain ⟨h19, H⟩ := H
  obtain ⟨h20, H⟩ := H
  refine zo (op_index Try.underlying84 ti5 rfl rfl h19 (ltn (a8.neq hO 0 rfl) h20) (a8.psome hO 0 rfl h19 h20)) ?_
  have hobt := ost (r := Rp.int .u8) rfl 0 hO rfl a8 h19 h20 (v := .int .u8 (IntKind.u8.wrap (ix f (k1_12 : Int)))) (u := (IntKind.u8.wrap (ix f (k1_12 : Int)))) rfl rfl
  obtain ⟨w21, Ab, i9, b6, yA⟩ := hobt
  refine zg (yA Try.underlying5 rfl ti5 (by exact rfl) (by exact rfl)) ?_
  replace hO := i9.own
  refine zn ?_
  refine Go1.inBlock ?_
  refine zr ?_
  replace h_f := h_f.ch i9.ch
  refine zo (op_add rfl rfl (wrap_i64 (natbd h16 h_f.bd))) (zm rfl (zn ?_))
  replace hB := hB.trans i9.fr
  exact hX1 _ H _ _ ⟨Ab, ⟨rfl, rfl, rfl, rfl, trivial⟩, hO, b6, h_f, hB⟩
 replace H := ifn h16 H
 refine zo (fun w => opB (op_lss rfl rfl w) (decide_eq_false h16)) (zn (zq (zf rfl rfl ?_)))
 refine Go1.exit rfl ?_
 refine zq (zr (zm rfl ?_))
 have hle26 := byt_le a8.bd
 refine zs (oldBytes 0 hO rfl a8 Try.underlying84 Try.underlying5 Try.underlying9 rfl) (za rfl (zn ?_))
 refine Go1.ret1 Try.func61 rfl ?_
 exact ⟨byt b1_13, rfl, hB.same, hle26, H⟩
theorem body65 : Body Try.prog 65 := ⟨Try.f65, Try.func65, rfl, by kernel_rfl⟩
theorem body49 : Body Try.prog 49 := ⟨Try.f49, Try.func49, rfl, by kernel_rfl⟩
theorem walk_enumerate_begin {A : List Nat} {w0 : World} {lV : Option Addr} {lW : Nat} {a0 : List (List Int)} {a1 : Bool} (hA : ∀ b ∈ A, b < w0.heap.size) (ad : ISl (Rp.sl (Rp.int .i64)) A w0 lV lW a0) {K : Option run → Int → Prop} (H : enumerate_begin a0 a1 K) :
    CallsV Try.prog 49 #[.slice lV a0.length lW, .bool a1] w0 (fun v w' => (∃ (r1 : Int), v = .tuple #[.pointer none, .int .i64 r1] ∧ Same w0 w' ∧ K none r1) ∨ (∃ (q : run), ∃ (r1 : Int), ∃ (b_q : Nat), ∃ (aG : Nat), ∃ (aH : Option Addr), ∃ (aI : Nat), ∃ (bK : List Value), ∃ (au : Nat), ∃ (av : Option Addr), ∃ (aw : Nat), ∃ (bA : List Value), ∃ (al : Nat), ∃ (am : Option Addr), ∃ (ao : Nat), ∃ (bn : List Value), ∃ (aJ : Nat), ∃ (aK : Option Addr), ∃ (aL : Nat), ∃ (bM : List Value), ∃ (ax : Nat), ∃ (ay : Option Addr), ∃ (az : Nat), ∃ (bB : List Value), ∃ (aA : Nat), ∃ (aB : Option Addr), ∃ (aC : Nat), ∃ (bC : List Value), ∃ (cq : Nat), ∃ (bp : Nat), ∃ (bq : Option Addr), ∃ (bt : Nat), ∃ (cT : List Value), ∃ (aU : Nat), ∃ (aV : Option Addr), ∃ (aW : Nat), ∃ (cA : List Value), ∃ (aX : Nat), ∃ (aY : Option Addr), ∃ (a7 : Nat), ∃ (cB : List Value), v = .tuple #[.pointer (some ⟨b_q, 0, none⟩), .int .i64 r1] ∧ Same w0 w' ∧ (fun Z0 => Owns w0.heap.size w' Z0 A ∧ Els (Rp.sl (Rp.int .i64)) (bl Z0 ++ A) w' bK q.Enum.Gens ∧ Els (Rp.sl (Rp.int .i64)) (bl Z0 ++ A) w' bA q.Enum.Elems ∧ Els (Rp.int .i64) (bl Z0 ++ A) w' bn q.Enum.Prefix ∧ Els (Rp.int .i64) (bl Z0 ++ A) w' bM q.Enum.Last ∧ Els (Rp.sl (Rp.int .i64)) (bl Z0 ++ A) w' bB q.Enum.Right ∧ Els (rpRule) (bl Z0 ++ A) w' bC q.Enum.Rules ∧ Els (Rp.str) (bl Z0 ++ A) w' cT q.words ∧ Els (Rp.int .i64) (bl Z0 ++ A) w' cA q.behind ∧ Els (Rp.int .i64) (bl Z0 ++ A) w' cB q.single ∧ K (some q) r1) [.blk b_q (.cells #[.int .i64 q.Enum.Points, .bool q.Enum.Monoid, .slice aH aG aI, .slice av au aw, .slice am al ao, .slice aK aJ aL, .slice ay ax az, .slice aB aA aC, .int .i64 q.Enum.Done, .map (some cq), .slice bq bp bt, .slice aV aU aW, .slice aY aX a7] 72 (0, 0)), .row 26 1 aH aG aI bK, .row 26 1 av au aw bA, .row 3 1 am al ao bn, .row 3 1 aK aJ aL bM, .row 26 1 ay ax az bB, .row 39 2 aB aA aC bC, .row 9 1 bq bp bt cT, .row 3 1 aV aU aW cA, .row 3 1 aY aX a7 cB, .any (mapE (fun a : List UInt8 => Value.string (gstr a)) (fun a : Int => Value.int .i64 a) cq q.number)])) := by
 refine CallsV.of (l := [.slice lV a0.length lW, .bool a1]) Try.func49 rfl Try.ntmps49 rfl ?_
 have hO := Owns.start hA
 have hB := Fr.refl (bl []) w0
 unfold enumerate_begin at H
 refine zq (zr (za rfl (za rfl (zn (zq ?_)))))
 refine zq (zr (zm rfl (zo (op_len Try.underlying22 rfl) ?_)))
 replace ad := ad.ch (Ch.start A w0)
 replace H := H ad.bd
 by_cases h1 : (a0.length : Int) = (0 : Int)
 ·replace H := ifp h1 H
  refine zo (fun w => opB (op_eql rfl rfl w) (decide_eq_true h1)) (zm rfl (zp (zp (zp (zo (op_pickT rfl rfl rfl) ?_)))))
  refine zn (zt rfl rfl (zq (zr (za rfl (za rfl ?_)))))
  refine zn ?_
  refine Go1.ret2 Try.func49 rfl ?_
  exact Or.inl ⟨((1 : Int)), rfl, hB.same, H⟩
 replace H := ifn h1 H
 refine zo (fun w => opB (op_eql rfl rfl w) (decide_eq_false h1)) (zm rfl (zm rfl (zo (op_len Try.underlying22 rfl) ?_)))
 by_cases h2 : (6 : Int) < (a0.length : Int)
 ·replace H := ifp h2 H
  refine zo (fun w => opB (op_gtr rfl rfl w) (decide_eq_true h2)) (zo (op_pickF rfl rfl rfl) (zn (zt rfl rfl (zq (zr ?_)))))
  refine za rfl (za rfl (zn ?_))
  refine Go1.ret2 Try.func49 rfl ?_
  exact Or.inl ⟨((1 : Int)), rfl, hB.same, H⟩
 replace H := ifn h2 H
 refine zo (fun w => opB (op_gtr rfl rfl w) (decide_eq_false h2)) (zo (op_pickF rfl rfl rfl) (zn (zf rfl rfl (zk (zq ?_)))))
 refine Go1.cut [(0, .slice lV a0.length lW), (1, .bool a1)] ⟨rfl, rfl, trivial⟩ ?_
 intro σ _
 refine zr ?_
 have hobt := omakeMap (fun a : List UInt8 => Value.string (gstr a)) (fun a : Int => Value.int .i64 a) hO
 obtain ⟨w3, B4, Ac, hs6, vb⟩ := hobt
 refine GoR.op vb rfl rfl ?_
 replace hO := Ac.own
 refine zo (op_build Try.underlying72 ti72 (pl := [(0, 9), (9, 1), (10, 1), (11, 1), (12, 1)]) (vs := [(1, .map (some B4))]) (cs := #[.int .i64 (0 : Int), .bool false, .slice none 0 0, .slice none 0 0, .slice none 0 0, .slice none 0 0, .slice none 0 0, .slice none 0 0, .int .i64 (0 : Int), .map (some B4), .slice none 0 0, .slice none 0 0, .slice none 0 0]) (by kernel_rfl) rfl (by kernel_rfl)) ?_
 have hobt := obox (t := 72) (v := .agg #[.int .i64 (0 : Int), .bool false, .slice none 0 0, .slice none 0 0, .slice none 0 0, .slice none 0 0, .slice none 0 0, .slice none 0 0, .int .i64 (0 : Int), .map (some B4), .slice none 0 0, .slice none 0 0, .slice none 0 0]) (cs := #[.int .i64 (0 : Int), .bool false, .slice none 0 0, .slice none 0 0, .slice none 0 0, .slice none 0 0, .slice none 0 0, .slice none 0 0, .int .i64 (0 : Int), .map (some B4), .slice none 0 0, .slice none 0 0, .slice none 0 0]) hO rfl
 obtain ⟨w9, B10, yB, Ad, yC⟩ := hobt
 refine zg (yC rfl) ?_
 replace hO := yB.own
 refine za rfl (zn (zq (zr (zm rfl (zm rfl ?_)))))
 refine zm rfl ?_
 obtain ⟨h15, H⟩ := H
 obtain ⟨h16, H⟩ := H
 replace ad := (ad.ch Ac.ch).ch yB.ch
 refine zo (op_index Try.underlying22 ti26 rfl rfl h15 h16 (ad.some_ h15 h16)) ?_
 have hobt := ldSl ad h15 h16
 obtain ⟨p17, c18, wI, Jg⟩ := hobt
 refine zs (Jg Try.underlying26 rfl rfl) (zo (op_len Try.underlying26 rfl) ?_)
 replace H := H wI.bd
 refine zm rfl (zo (op_nilCheck rfl) (zo (op_fieldAddr Try.underlying72 rfl ti29 rfl (by decide)) (zo (op_fieldAddr Try.underlying29 rfl ti3 rfl (by decide)) ?_)))
 have hobt := oblkSt2 (v := .int .i64 ((ix a0 (0 : Int)).length : Int)) (i := 0) (cs' := #[.int .i64 ((ix a0 (0 : Int)).length : Int), .bool false, .slice none 0 0, .slice none 0 0, .slice none 0 0, .slice none 0 0, .slice none 0 0, .slice none 0 0, .int .i64 (0 : Int), .map (some B4), .slice none 0 0, .slice none 0 0, .slice none 0 0]) 0 hO rfl rfl rfl rfl
 obtain ⟨w21, eK, xh⟩ := hobt
 refine zg (xh Try.underlying3 rfl ti3 (by exact rfl) (by exact rfl)) ?_
 replace hO := eK.own
 refine zo (op_nilCheck rfl) (zo (op_fieldAddr Try.underlying72 rfl ti29 rfl (by decide)) (zo (op_fieldAddr Try.underlying29 rfl ti4 rfl (by decide)) ?_))
 have hobt := oblkSt2 (v := .bool a1) (i := 1) (cs' := #[.int .i64 ((ix a0 (0 : Int)).length : Int), .bool a1, .slice none 0 0, .slice none 0 0, .slice none 0 0, .slice none 0 0, .slice none 0 0, .slice none 0 0, .int .i64 (0 : Int), .map (some B4), .slice none 0 0, .slice none 0 0, .slice none 0 0]) 0 hO rfl rfl rfl rfl
 obtain ⟨w24, sn, yD⟩ := hobt
 refine zg (yD Try.underlying4 rfl ti4 (by exact rfl) (by exact rfl)) ?_
 replace hO := sn.own
 refine zn (zq (zq ?_))
 refine Go1.cut [(0, .slice lV a0.length lW), (1, .bool a1), (6, .pointer (some ⟨B10, 0, none⟩))] ⟨rfl, rfl, rfl, trivial⟩ ?_
 intro σ _
 refine zr (zm rfl (zo (op_len Try.underlying22 rfl) (zm rfl (zn (zb ?_)))))
 have jS := Stp.nil (e := 26) (r := 1) hO
 replace hO := jS.own
 have Jh := Els.nil (Rp.sl (Rp.int .i64)) (bl (.row 26 1 none 0 0 [] :: [.blk B10 (.cells #[.int .i64 ((ix a0 (0 : Int)).length : Int), .bool a1, .slice none 0 0, .slice none 0 0, .slice none 0 0, .slice none 0 0, .slice none 0 0, .slice none 0 0, .int .i64 (0 : Int), .map (some B4), .slice none 0 0, .slice none 0 0, .slice none 0 0] 72 (0, 0)), .any (mapE (fun a : List UInt8 => Value.string (gstr a)) (fun a : Int => Value.int .i64 a) B4 (([] : List (Str × Int))))]) ++ A) w24
 have Z1 := (eK.ch.trans sn.ch).trans jS.ch
 replace ad := ad.ch Z1
 replace hB := ((((hB.trans Ac.fr).trans yB.fr).trans eK.fr).trans sn.fr).trans jS.fr
 refine Go1.loopW (S := Nat × List (List Int)) (fun s σ w => match s with | (k1_31, d_32) => ∃ (n37 : Nat), ∃ (p35 : Option Addr), ∃ (c36 : Nat), ∃ (fo : List Value), agrees σ [(1, .bool a1), (6, .pointer (some ⟨B10, 0, none⟩)), (39, .slice lV a0.length lW), (40, .int .i64 (a0.length : Int)), (41, .int .i64 (k1_31 : Int))] ∧ (fun Z0 => Owns w0.heap.size w Z0 A ∧ Els (Rp.sl (Rp.int .i64)) (bl Z0 ++ A) w fo d_32 ∧ ISl (Rp.sl (Rp.int .i64)) (bl Z0 ++ A) w lV lW a0 ∧ Fr (bl []) w0 (bl Z0) w) [.row 26 1 p35 n37 c36 fo, .blk B10 (.cells #[.int .i64 ((ix a0 (0 : Int)).length : Int), .bool a1, .slice p35 n37 c36, .slice none 0 0, .slice none 0 0, .slice none 0 0, .slice none 0 0, .slice none 0 0, .int .i64 (0 : Int), .map (some B4), .slice none 0 0, .slice none 0 0, .slice none 0 0] 72 (0, 0)), .any (mapE (fun a : List UInt8 => Value.string (gstr a)) (fun a : Int => Value.int .i64 a) B4 (([] : List (Str × Int))))]) H ⟨0, none, 0, [], ⟨rfl, rfl, rfl, rfl, rfl, trivial⟩, hO, Jh, ad, hB⟩ ?_
 intro X1
 refine prE fun k1_31 => fun d_32 => ?_
 intro H hX1 σ w30
 refine exE fun n37 => exE fun p35 => exE fun c36 => exE fun fo => andE fun hag => andE fun hO => andE fun ae => andE fun ad => fun hB => ?_
 dsimp only at H
 refine Go1.keep [(1, .bool a1), (6, .pointer (some ⟨B10, 0, none⟩)), (39, .slice lV a0.length lW), (40, .int .i64 (a0.length : Int)), (41, .int .i64 (k1_31 : Int))] hag ?_
 refine zq (zr ?_)
 by_cases h38 : (k1_31 : Int) < (a0.length : Int)
 ·replace H := ifp h38 H
  refine zo (fun w => opB (op_lss rfl rfl w) (decide_eq_true h38)) (zn (zq (zt rfl rfl (zk (zq ?_)))))
  refine zb (zq (zr ?_))
  obtain ⟨h39, H⟩ := H
  obtain ⟨h40, H⟩ := H
  refine zo (op_index Try.underlying22 ti26 rfl rfl h39 h40 (ad.some_ h39 h40)) ?_
  have hobt := ldSl ad h39 h40
  obtain ⟨p41, c42, kl, Ji⟩ := hobt
  refine zs (Ji Try.underlying26 rfl rfl) (za rfl (zn (zq (zq (zr ?_)))))
  refine zm rfl (zo (op_len Try.underlying26 rfl) ?_)
  replace H := H kl.bd
  refine zm rfl (zo (op_nilCheck rfl) (zo (op_fieldAddr Try.underlying72 rfl ti29 rfl (by decide)) (zo (op_fieldAddr Try.underlying29 rfl ti3 rfl (by decide)) (zs (oblk (i := 0) 1 hO rfl rfl Try.underlying3 rfl rfl) ?_))))
  by_cases h45 : ((ix a0 (k1_31 : Int)).length : Int) = ((ix a0 (0 : Int)).length : Int)
  ·replace H := ifp h45 H
   refine zo (fun w => opB (op_neq rfl rfl w) (ndT h45)) (zm rfl (zm rfl ?_))
   refine GoR.call (op_call body60 rfl (walk_trans_Valid hO.lt kl H)) rfl rfl ?_
   rintro v50 w47 ⟨r46, rfl, Jj, H⟩
   have xi := Stp.same hO Jj
   replace hO := xi.own
   cases r46
   ·replace H := ifn Bool.false_ne_true H
    refine zo (op_not rfl) (zo (op_pickF rfl rfl rfl) (zn (zt rfl rfl (zq (zr ?_)))))
    refine za rfl (za rfl (zn ?_))
    refine Go1.ret2 Try.func49 rfl ?_
    replace hB := hB.trans xi.fr
    exact Or.inl ⟨((4 : Int)), rfl, hB.same, H⟩
   replace H := ifp rfl H
   refine zo (op_not rfl) (zo (op_pickF rfl rfl rfl) (zn (zf rfl rfl (zk ?_))))
   refine Go1.cut [(1, .bool a1), (6, .pointer (some ⟨B10, 0, none⟩)), (8, .slice p41 ((ix a0 (k1_31 : Int)).length) c42), (39, .slice lV a0.length lW), (40, .int .i64 (a0.length : Int)), (41, .int .i64 (k1_31 : Int))] ⟨rfl, rfl, rfl, rfl, rfl, rfl, trivial⟩ ?_
   intro σ _
   refine Go1.drawS 1 [(0, .pure), (1, .pure), (2, .pure), (3, .pure), (4, .pure), (5, .stable), (6, .pure), (7, .loud), (8, .loud), (9, .last), (10, .pure), (11, .pure), (12, .pure), (13, .last)] mixed (by kernel_rfl) ?_
   intro w52 Jk
   have xj := Stp.same hO Jk
   replace hO := xj.own
   refine GoQ.pure rfl (op_move rfl) rfl rfl ?_
   refine GoQ.pure rfl (op_move rfl) rfl rfl ?_
   refine GoQ.pure rfl (op_nilCheck rfl) rfl rfl ?_
   refine GoQ.pure rfl (op_fieldAddr Try.underlying72 rfl ti29 rfl (by decide)) rfl rfl ?_
   refine GoQ.pure rfl (op_fieldAddr Try.underlying29 rfl ti22 rfl (by decide)) rfl rfl ?_
   refine GoQ.stable rfl (oblk (i := 2) 1 hO rfl rfl Try.underlying22 rfl rfl) rfl rfl ?_
   refine GoQ.pure rfl (op_move rfl) rfl rfl ?_
   replace kl := (kl.ch xi.ch).ch xj.ch
   refine GoQ.call rfl (op_call body64 rfl (walk_slices_Clone_int hO.lt kl H)) (fun v w hr => by obtain ⟨_, _, _, _, _, _, hs, _, _, _⟩ := hr; assumption) rfl rfl ?_
   rintro v60 w57 ⟨r55, Bx, xQ, xR, LA, rfl, Jl, hN59, Ae, H⟩
   have sq := Stp.more hO Jl hN59
   replace hO := sq.own
   replace Ae := Ae.ch (Ch.assoc _ _ _ _)
   have hobt := freeze 0 hO rfl Ae
   obtain ⟨hO1, Af, vc, Jm⟩ := hobt
   replace hO := hO1; clear hO1
   have hobt := obuild (r := Rp.sl (Rp.int .i64)) (n := 1) (parts := [(0, .slice xQ Bx xR)]) (vs := [.slice xQ Bx xR]) (xs := [r55]) rfl Try.underlying22 ti26 hO (by decide) (by kernel_rfl) (Els.cons rfl ⟨xQ, xR, congrArg some (congrArg (fun nn => Value.slice xQ nn xR) Jm), vc⟩ (Els.nil _ _ _) (by simp [mx])) rfl
   obtain ⟨w66, p67, iX, mw, Jo, EY⟩ := hobt
   refine GoQ.loud rfl (EY rfl) Jo rfl rfl ?_
   replace hO := iX.own
   have hobt := freeze 0 hO rfl mw
   obtain ⟨hO1, yE, ya, Jp⟩ := hobt
   replace hO := hO1; clear hO1
   obtain ⟨h76, H⟩ := H
   have Z2 := ((((xi.ch.trans xj.ch).trans sq.ch).trans Af).trans iX.ch).trans yE
   replace ae := ae.ch Z2
   have hobt := oapp Try.underlying22 ti26 rfl 0 hO rfl ae ya Jp h76 (by decide)
   obtain ⟨w77, p78, c79, od, wh, Ag, E0⟩ := hobt
   refine GoQ.last rfl (E0 (by exact rfl) (by exact rfl)) rfl rfl ?_
   replace hO := wh.own
   refine GoQ.pure rfl (op_nilCheck rfl) rfl rfl ?_
   refine GoQ.pure rfl (op_fieldAddr Try.underlying72 rfl ti29 rfl (by decide)) rfl rfl ?_
   refine GoQ.pure rfl (op_fieldAddr Try.underlying29 rfl ti22 rfl (by decide)) rfl rfl ?_
   have hobt := oblkSt2 (v := .slice p78 (n37 + 1) c79) (i := 2) (cs' := #[.int .i64 ((ix a0 (0 : Int)).length : Int), .bool a1, .slice p78 (n37 + 1) c79, .slice none 0 0, .slice none 0 0, .slice none 0 0, .slice none 0 0, .slice none 0 0, .int .i64 (0 : Int), .map (some B4), .slice none 0 0, .slice none 0 0, .slice none 0 0]) 1 hO rfl rfl rfl rfl
   obtain ⟨w85, ks, E3⟩ := hobt
   refine GoQ.last rfl (E3 Try.underlying22 rfl ti22 (by exact rfl) (by exact rfl)) rfl rfl ?_
   replace hO := ks.own
   refine GoQ.nil ?_
   refine Go1.inBlock ?_
   refine zr ?_
   replace ad := ((ad.ch Z2).ch wh.ch).ch ks.ch
   refine zo (op_add rfl rfl (wrap_i64 (natbd h38 ad.bd))) (zm rfl (zn ?_))
   replace Ag := Ag.ch ks.ch
   replace hB := (((((((hB.trans xi.fr).trans xj.fr).trans sq.fr).trans (Owns.dropFr _ _ 0)).trans iX.fr).trans (Owns.dropFr _ _ 0)).trans wh.fr).trans ks.fr
   exact hX1 _ H _ _ ⟨n37 + 1, p78, c79, od, ⟨rfl, rfl, rfl, rfl, rfl, trivial⟩, hO, Ag, ad, hB⟩
  replace H := ifn h45 H
  refine zo (fun w => opB (op_neq rfl rfl w) (ndF h45)) (zm rfl (zp (zp (zp (zo (op_pickT rfl rfl rfl) ?_)))))
  refine zn (zt rfl rfl (zq ?_))
  refine Go1.cut [] trivial ?_
  intro σ _
  refine zr (za rfl (za rfl (zn ?_)))
  refine Go1.ret2 Try.func49 rfl ?_
  exact Or.inl ⟨((4 : Int)), rfl, hB.same, H⟩
 replace H := ifn h38 H
 refine zo (fun w => opB (op_lss rfl rfl w) (decide_eq_false h38)) (zn (zq (zf rfl rfl ?_)))
 refine Go1.exit rfl ?_
 refine zq (zr (za rfl (zn (zq (zq ?_)))))
 refine zr (zm rfl (zn ?_))
 cases a1
 ·replace H := ifn Bool.false_ne_true H
  refine zf rfl rfl (zk (zq (zq (zr (zm rfl ?_)))))
  refine zo (op_nilCheck rfl) (zo (op_fieldAddr Try.underlying72 rfl ti29 rfl (by decide)) (zo (op_fieldAddr Try.underlying29 rfl ti22 rfl (by decide)) (zs (oblk (i := 2) 1 hO rfl rfl Try.underlying22 rfl rfl) (zo (op_lenN Try.underlying22 rfl (ae.neq hO 0 rfl)) (zm rfl ?_)))))
  refine zn (zb ?_)
  have xS := Stp.nil (e := 26) (r := 1) hO
  replace hO := xS.own
  have sN := Els.nil (Rp.sl (Rp.int .i64)) (bl (.row 26 1 none 0 0 [] :: [.row 26 1 p35 n37 c36 fo, .blk B10 (.cells #[.int .i64 ((ix a0 (0 : Int)).length : Int), .bool false, .slice p35 n37 c36, .slice none 0 0, .slice none 0 0, .slice none 0 0, .slice none 0 0, .slice none 0 0, .int .i64 (0 : Int), .map (some B4), .slice none 0 0, .slice none 0 0, .slice none 0 0] 72 (0, 0)), .any (mapE (fun a : List UInt8 => Value.string (gstr a)) (fun a : Int => Value.int .i64 a) B4 (([] : List (Str × Int))))]) ++ A) w30
  have lI := Stp.nil (e := 3) (r := 1) hO
  replace hO := lI.own
  have jT := Els.nil (Rp.int .i64) (bl (.row 3 1 none 0 0 [] :: [.row 26 1 none 0 0 [], .row 26 1 p35 n37 c36 fo, .blk B10 (.cells #[.int .i64 ((ix a0 (0 : Int)).length : Int), .bool false, .slice p35 n37 c36, .slice none 0 0, .slice none 0 0, .slice none 0 0, .slice none 0 0, .slice none 0 0, .int .i64 (0 : Int), .map (some B4), .slice none 0 0, .slice none 0 0, .slice none 0 0] 72 (0, 0)), .any (mapE (fun a : List UInt8 => Value.string (gstr a)) (fun a : Int => Value.int .i64 a) B4 (([] : List (Str × Int))))]) ++ A) w30
  have wi := Stp.nil (e := 3) (r := 1) hO
  replace hO := wi.own
  have vd := Els.nil (Rp.int .i64) (bl (.row 3 1 none 0 0 [] :: [.row 3 1 none 0 0 [], .row 26 1 none 0 0 [], .row 26 1 p35 n37 c36 fo, .blk B10 (.cells #[.int .i64 ((ix a0 (0 : Int)).length : Int), .bool false, .slice p35 n37 c36, .slice none 0 0, .slice none 0 0, .slice none 0 0, .slice none 0 0, .slice none 0 0, .int .i64 (0 : Int), .map (some B4), .slice none 0 0, .slice none 0 0, .slice none 0 0] 72 (0, 0)), .any (mapE (fun a : List UInt8 => Value.string (gstr a)) (fun a : Int => Value.int .i64 a) B4 (([] : List (Str × Int))))]) ++ A) w30
  have ve := Stp.nil (e := 39) (r := 2) hO
  replace hO := ve.own
  have wJ := Els.nil (rpRule) (bl (.row 39 2 none 0 0 [] :: [.row 3 1 none 0 0 [], .row 3 1 none 0 0 [], .row 26 1 none 0 0 [], .row 26 1 p35 n37 c36 fo, .blk B10 (.cells #[.int .i64 ((ix a0 (0 : Int)).length : Int), .bool false, .slice p35 n37 c36, .slice none 0 0, .slice none 0 0, .slice none 0 0, .slice none 0 0, .slice none 0 0, .int .i64 (0 : Int), .map (some B4), .slice none 0 0, .slice none 0 0, .slice none 0 0] 72 (0, 0)), .any (mapE (fun a : List UInt8 => Value.string (gstr a)) (fun a : Int => Value.int .i64 a) B4 (([] : List (Str × Int))))]) ++ A) w30
  have en := Stp.nil (e := 9) (r := 1) hO
  replace hO := en.own
  have xk := Els.nil (Rp.str) (bl (.row 9 1 none 0 0 [] :: [.row 39 2 none 0 0 [], .row 3 1 none 0 0 [], .row 3 1 none 0 0 [], .row 26 1 none 0 0 [], .row 26 1 p35 n37 c36 fo, .blk B10 (.cells #[.int .i64 ((ix a0 (0 : Int)).length : Int), .bool false, .slice p35 n37 c36, .slice none 0 0, .slice none 0 0, .slice none 0 0, .slice none 0 0, .slice none 0 0, .int .i64 (0 : Int), .map (some B4), .slice none 0 0, .slice none 0 0, .slice none 0 0] 72 (0, 0)), .any (mapE (fun a : List UInt8 => Value.string (gstr a)) (fun a : Int => Value.int .i64 a) B4 (([] : List (Str × Int))))]) ++ A) w30
  have iT := Stp.nil (e := 3) (r := 1) hO
  replace hO := iT.own
  have yF := Els.nil (Rp.int .i64) (bl (.row 3 1 none 0 0 [] :: [.row 9 1 none 0 0 [], .row 39 2 none 0 0 [], .row 3 1 none 0 0 [], .row 3 1 none 0 0 [], .row 26 1 none 0 0 [], .row 26 1 p35 n37 c36 fo, .blk B10 (.cells #[.int .i64 ((ix a0 (0 : Int)).length : Int), .bool false, .slice p35 n37 c36, .slice none 0 0, .slice none 0 0, .slice none 0 0, .slice none 0 0, .slice none 0 0, .int .i64 (0 : Int), .map (some B4), .slice none 0 0, .slice none 0 0, .slice none 0 0] 72 (0, 0)), .any (mapE (fun a : List UInt8 => Value.string (gstr a)) (fun a : Int => Value.int .i64 a) B4 (([] : List (Str × Int))))]) ++ A) w30
  have ry := Stp.nil (e := 3) (r := 1) hO
  replace hO := ry.own
  have E4 := Els.nil (Rp.int .i64) (bl (.row 3 1 none 0 0 [] :: [.row 3 1 none 0 0 [], .row 9 1 none 0 0 [], .row 39 2 none 0 0 [], .row 3 1 none 0 0 [], .row 3 1 none 0 0 [], .row 26 1 none 0 0 [], .row 26 1 p35 n37 c36 fo, .blk B10 (.cells #[.int .i64 ((ix a0 (0 : Int)).length : Int), .bool false, .slice p35 n37 c36, .slice none 0 0, .slice none 0 0, .slice none 0 0, .slice none 0 0, .slice none 0 0, .int .i64 (0 : Int), .map (some B4), .slice none 0 0, .slice none 0 0, .slice none 0 0] 72 (0, 0)), .any (mapE (fun a : List UInt8 => Value.string (gstr a)) (fun a : Int => Value.int .i64 a) B4 (([] : List (Str × Int))))]) ++ A) w30
  replace yF := yF.ch ry.ch
  replace xk := (xk.ch iT.ch).ch ry.ch
  have Z3 := (en.ch.trans iT.ch).trans ry.ch
  replace wJ := wJ.ch Z3
  have Z4 := ((ve.ch.trans en.ch).trans iT.ch).trans ry.ch
  replace vd := vd.ch Z4
  have Z5 := (((wi.ch.trans ve.ch).trans en.ch).trans iT.ch).trans ry.ch
  replace jT := jT.ch Z5
  have Z6 := ((((lI.ch.trans wi.ch).trans ve.ch).trans en.ch).trans iT.ch).trans ry.ch
  replace sN := sN.ch Z6
  have Z7 := (((((xS.ch.trans lI.ch).trans wi.ch).trans ve.ch).trans en.ch).trans iT.ch).trans ry.ch
  replace ae := ae.ch Z7
  replace hB := ((((((hB.trans xS.fr).trans lI.fr).trans wi.fr).trans ve.fr).trans en.fr).trans iT.fr).trans ry.fr
  refine Go1.loopW (S := Nat × List Int × List Int × List Str × List Rule × List Int × List Int × List (List Int) × (List (Str × Int))) (fun s σ w => match s with | (k2_110, d_111, d_117, d_123, d_129, d_135, d_141, d_147, m2_153) => ∃ (ig : Nat), ∃ (jK : Option Addr), ∃ (jL : Nat), ∃ (qu : List Value), ∃ (iv : Nat), ∃ (i4 : Option Addr), ∃ (jo : Nat), ∃ (oR : List Value), ∃ (iw : Nat), ∃ (jM : Option Addr), ∃ (jN : Nat), ∃ (oS : List Value), ∃ (iA : Nat), ∃ (jp : Option Addr), ∃ (jq : Nat), ∃ (oT : List Value), ∃ (iB : Nat), ∃ (jU : Option Addr), ∃ (jV : Nat), ∃ (oU : List Value), ∃ (iC : Nat), ∃ (km : Option Addr), ∃ (kn : Nat), ∃ (oV : List Value), ∃ (iD : Nat), ∃ (kQ : Option Addr), ∃ (kS : Nat), ∃ (oW : List Value), agrees σ [(6, .pointer (some ⟨B10, 0, none⟩)), (9, .int .i64 (-1 : Int)), (85, .slice p35 n37 c36), (86, .int .i64 (d_32.length : Int)), (87, .int .i64 (k2_110 : Int))] ∧ (fun Z0 => Owns w0.heap.size w Z0 A ∧ Els (Rp.int .i64) (bl Z0 ++ A) w qu d_111 ∧ Els (Rp.int .i64) (bl Z0 ++ A) w oR d_117 ∧ Els (Rp.str) (bl Z0 ++ A) w oS d_123 ∧ Els (rpRule) (bl Z0 ++ A) w oT d_129 ∧ Els (Rp.int .i64) (bl Z0 ++ A) w oU d_135 ∧ Els (Rp.int .i64) (bl Z0 ++ A) w oV d_141 ∧ Els (Rp.sl (Rp.int .i64)) (bl Z0 ++ A) w oW d_147 ∧ Els (Rp.sl (Rp.int .i64)) (bl Z0 ++ A) w fo d_32 ∧ Fr (bl []) w0 (bl Z0) w) [.row 3 1 jK ig jL qu, .row 3 1 i4 iv jo oR, .row 9 1 jM iw jN oS, .row 39 2 jp iA jq oT, .row 3 1 jU iB jV oU, .row 3 1 km iC kn oV, .row 26 1 kQ iD kS oW, .row 26 1 p35 n37 c36 fo, .blk B10 (.cells #[.int .i64 ((ix a0 (0 : Int)).length : Int), .bool false, .slice p35 n37 c36, .slice kQ iD kS, .slice km iC kn, .slice jU iB jV, .slice none 0 0, .slice jp iA jq, .int .i64 (0 : Int), .map (some B4), .slice jM iw jN, .slice i4 iv jo, .slice jK ig jL] 72 (0, 0)), .any (mapE (fun a : List UInt8 => Value.string (gstr a)) (fun a : Int => Value.int .i64 a) B4 m2_153)]) H ⟨0, none, 0, [], 0, none, 0, [], 0, none, 0, [], 0, none, 0, [], 0, none, 0, [], 0, none, 0, [], 0, none, 0, [], ⟨rfl, rfl, rfl, rfl, rfl, trivial⟩, hO, E4, yF, xk, wJ, vd, jT, sN, ae, hB⟩ ?_
  intro X2
  refine prE fun k2_110 => prE fun d_111 => prE fun d_117 => prE fun d_123 => prE fun d_129 => prE fun d_135 => prE fun d_141 => prE fun d_147 => fun m2_153 => ?_
  intro H hX2 σ Jq
  refine exE fun ig => exE fun jK => exE fun jL => exE fun qu => exE fun iv => exE fun i4 => exE fun jo => exE fun oR => exE fun iw => exE fun jM => exE fun jN => exE fun oS => exE fun iA => exE fun jp => exE fun jq => exE fun oT => exE fun iB => exE fun jU => exE fun jV => exE fun oU => exE fun iC => exE fun km => exE fun kn => exE fun oV => exE fun iD => exE fun kQ => exE fun kS => exE fun oW => andE fun hag => andE fun hO => andE fun bP => andE fun bU => andE fun b7 => andE fun bV => andE fun cC => andE fun cU => andE fun dr => andE fun ae => fun hB => ?_
  dsimp only at H
  refine Go1.keep [(6, .pointer (some ⟨B10, 0, none⟩)), (9, .int .i64 (-1 : Int)), (85, .slice p35 n37 c36), (86, .int .i64 (d_32.length : Int)), (87, .int .i64 (k2_110 : Int))] hag ?_
  refine zq (zr ?_)
  by_cases xz : (k2_110 : Int) < (d_32.length : Int)
  ·replace H := ifp xz H
   refine zo (fun w => opB (op_lss rfl rfl w) (decide_eq_true xz)) (zn (zq (zt rfl rfl (zk (zq ?_)))))
   refine zb (zq (zr (zm rfl ?_)))
   obtain ⟨wK, H⟩ := H
   obtain ⟨wL, H⟩ := H
   refine zo (op_index Try.underlying22 ti26 rfl rfl wK (ltn (ae.neq hO 7 rfl) wL) (ae.psome hO 7 rfl wK wL)) ?_
   have hobt := oldSl 7 hO rfl ae wK wL
   obtain ⟨B1, B3, b9, E5⟩ := hobt
   refine zs (E5 Try.underlying26 rfl rfl) (za rfl (za rfl (zn (zq (zr ?_)))))
   refine zm rfl ?_
   obtain ⟨Jr, H⟩ := H
   refine zo (op_add rfl rfl (wrap_i64 Jr)) (zo (op_conv Try.underlying3 Try.underlying21 rfl rfl) ?_)
   obtain ⟨wM, H⟩ := H
   obtain ⟨yb, H⟩ := H
   refine zo (op_convRS Try.underlying21 Try.underlying9 rfl wM yb) (za rfl (zn (zq ?_)))
   refine Go1.drawS 0 [(0, .pure), (1, .pure), (2, .pure), (3, .stable), (4, .pure), (5, .loud), (6, .stable), (7, .pure), (8, .pure), (9, .pure), (10, .pure), (11, .pure)] mixed (by kernel_rfl) ?_
   intro Mn E6
   have qL := Stp.same hO E6
   replace hO := qL.own
   refine GoQ.pure rfl (op_move rfl) rfl rfl ?_
   refine GoQ.pure rfl (op_nilCheck rfl) rfl rfl ?_
   refine GoQ.pure rfl (op_fieldAddr Try.underlying72 rfl ti69 rfl (by decide)) rfl rfl ?_
   refine GoQ.stable rfl (oblk (i := 9) 8 hO rfl rfl Try.underlying69 rfl rfl) rfl rfl ?_
   refine GoQ.pure rfl (op_move rfl) rfl rfl ?_
   replace b9 := b9.ch qL.ch
   refine GoQ.call rfl (op_call body61 rfl (walk_enumerate_text hO.lt b9 H)) (fun v w hr => by obtain ⟨_, _, hs, _, _⟩ := hr; assumption) rfl rfl ?_
   rintro Js Jt ⟨r167, rfl, yG, Lr, H⟩
   have d5 := Stp.same hO yG
   replace hO := d5.own
   by_cases vO : mhas m2_153 r167 = true
   ·replace H := ifp vO H
    refine GoQ.stable rfl (olookT (a := r167) (MK.str Try.underlying9) 9 hO rfl Try.underlying69 rfl rfl vO) rfl rfl ?_
    refine GoQ.pure rfl (op_move rfl) rfl rfl ?_
    refine GoQ.pure rfl (op_extract rfl rfl) rfl rfl ?_
    refine GoQ.pure rfl (op_extract rfl rfl) rfl rfl ?_
    refine GoQ.pure rfl (op_assign rfl) rfl rfl ?_
    refine GoQ.pure rfl (op_assign rfl) rfl rfl ?_
    refine GoQ.nil ?_
    refine zq (zq ?_)
    refine Go1.cut [(6, .pointer (some ⟨B10, 0, none⟩)), (9, .int .i64 (-1 : Int)), (10, .int .i64 (k2_110 : Int)), (11, .slice B1 ((ix d_32 (k2_110 : Int)).length) B3), (12, .string (gstr (chr (IntKind.i32.wrap ((97 : Int) + (k2_110 : Int)))))), (13, .int .i64 (mgt m2_153 r167)), (14, .bool true), (85, .slice p35 n37 c36), (86, .int .i64 (d_32.length : Int)), (87, .int .i64 (k2_110 : Int))] ⟨rfl, rfl, rfl, rfl, rfl, rfl, rfl, rfl, rfl, rfl, trivial⟩ ?_
    intro σ _
    refine zr (zm rfl (zn (zt rfl rfl ?_)))
    refine Go1.drawS 5 [(0, .pure), (1, .pure), (2, .pure), (3, .pure), (4, .pure), (5, .stable), (6, .pure), (7, .pure), (8, .pure), (9, .pure), (10, .stable), (11, .pure), (12, .pure), (13, .stable), (14, .pure), (15, .loud), (16, .last), (17, .pure), (18, .pure), (19, .pure), (20, .last)] mixed (by kernel_rfl) ?_
    intro Ju yH
    have qM := Stp.same hO yH
    replace hO := qM.own
    refine GoQ.pure rfl (op_move rfl) rfl rfl ?_
    refine GoQ.pure rfl (op_move rfl) rfl rfl ?_
    refine GoQ.pure rfl (op_nilCheck rfl) rfl rfl ?_
    refine GoQ.pure rfl (op_fieldAddr Try.underlying72 rfl ti29 rfl (by decide)) rfl rfl ?_
    refine GoQ.pure rfl (op_fieldAddr Try.underlying29 rfl ti27 rfl (by decide)) rfl rfl ?_
    refine GoQ.stable rfl (oblk (i := 7) 8 hO rfl rfl Try.underlying27 rfl rfl) rfl rfl ?_
    refine GoQ.pure rfl (op_move rfl) rfl rfl ?_
    refine GoQ.pure rfl (op_move rfl) rfl rfl ?_
    refine GoQ.pure rfl (op_nilCheck rfl) rfl rfl ?_
    refine GoQ.pure rfl (op_fieldAddr Try.underlying72 rfl ti70 rfl (by decide)) rfl rfl ?_
    refine GoQ.stable rfl (oblk (i := 10) 8 hO rfl rfl Try.underlying70 rfl rfl) rfl rfl ?_
    refine GoQ.pure rfl (op_move rfl) rfl rfl ?_
    obtain ⟨yI, H⟩ := H
    obtain ⟨yJ, H⟩ := H
    have Z8 := (qL.ch.trans d5.ch).trans qM.ch
    replace b7 := b7.ch Z8
    refine GoQ.pure rfl (op_index Try.underlying70 ti9 rfl rfl yI (ltn (b7.neq hO 2 rfl) yJ) (b7.psome hO 2 rfl yI yJ)) rfl rfl ?_
    refine GoQ.stable rfl (oldStr 2 hO rfl b7 yI yJ Try.underlying9 rfl rfl) rfl rfl ?_
    have hle179 := Els.str_le b7 yI yJ
    refine GoQ.pure rfl (op_build Try.underlying39 ti39 (pl := [(0, 1), (1, 1)]) (vs := [(0, .string (gstr (chr (IntKind.i32.wrap ((97 : Int) + (k2_110 : Int)))))), (1, .string (gstr (ix d_123 (mgt m2_153 r167))))]) (cs := #[.string (gstr (chr (IntKind.i32.wrap ((97 : Int) + (k2_110 : Int))))), .string (gstr (ix d_123 (mgt m2_153 r167)))]) (by kernel_rfl) rfl (by kernel_rfl)) rfl rfl ?_
    have hobt := obuildN (r := rpRule) (n := 1) (parts := [(0, .agg #[.string (gstr (chr (IntKind.i32.wrap ((97 : Int) + (k2_110 : Int))))), .string (gstr (ix d_123 (mgt m2_153 r167)))])]) (vs := [.string (gstr (chr (IntKind.i32.wrap ((97 : Int) + (k2_110 : Int))))), .string (gstr (ix d_123 (mgt m2_153 r167)))]) (xs := [(⟨chr (IntKind.i32.wrap ((97 : Int) + (k2_110 : Int))), ix d_123 (mgt m2_153 r167)⟩ : Rule)]) Try.underlying27 ti39 hO (by decide) (by decide) (by kernel_rfl) (Els.flat1 (⟨chr (IntKind.i32.wrap ((97 : Int) + (k2_110 : Int))), ix d_123 (mgt m2_153 r167)⟩ : Rule) ⟨(chr_le _), hle179⟩) rfl
    obtain ⟨Ah, Mo, qN, E7, E8, B5⟩ := hobt
    refine GoQ.loud rfl (B5 rfl) E8 rfl rfl ?_
    replace hO := qN.own
    have hobt := freeze 0 hO rfl E7
    obtain ⟨hO1, sU, qv, E9⟩ := hobt
    dsimp only [eS, eZ] at hO1 sU qv
    replace hB := ((((hB.trans qL.fr).trans d5.fr).trans qM.fr).trans qN.fr).trans (Owns.dropFr _ _ 0)
    dsimp only [eS, eZ] at hB
    replace hO := hO1; clear hO1
    obtain ⟨Jv, H⟩ := H
    replace bV := ((bV.ch Z8).ch qN.ch).ch sU
    have hobt := oapp Try.underlying27 ti39 rfl 3 hO rfl bV qv E9 Jv (by decide)
    obtain ⟨Jw, yK, yL, Fa, po, rL, B6⟩ := hobt
    dsimp only [sS, sZ] at po rL
    refine GoQ.last rfl (B6 (by exact rfl) (by exact rfl)) rfl rfl ?_
    replace hO := po.own
    refine GoQ.pure rfl (op_nilCheck rfl) rfl rfl ?_
    refine GoQ.pure rfl (op_fieldAddr Try.underlying72 rfl ti29 rfl (by decide)) rfl rfl ?_
    refine GoQ.pure rfl (op_fieldAddr Try.underlying29 rfl ti27 rfl (by decide)) rfl rfl ?_
    have hobt := oblkSt2 (v := .slice yK (iA + 1) yL) (i := 7) (cs' := #[.int .i64 ((ix a0 (0 : Int)).length : Int), .bool false, .slice p35 n37 c36, .slice kQ iD kS, .slice km iC kn, .slice jU iB jV, .slice none 0 0, .slice yK (iA + 1) yL, .int .i64 (0 : Int), .map (some B4), .slice jM iw jN, .slice i4 iv jo, .slice jK ig jL]) 8 hO rfl rfl rfl rfl
    obtain ⟨Mp, oe, yc⟩ := hobt
    dsimp only [sS, sZ] at oe
    refine GoQ.last rfl (yc Try.underlying27 rfl ti27 (by exact rfl) (by exact rfl)) rfl rfl ?_
    replace hO := oe.own
    refine GoQ.nil ?_
    refine Go1.cut [(6, .pointer (some ⟨B10, 0, none⟩)), (9, .int .i64 (-1 : Int)), (13, .int .i64 (mgt m2_153 r167)), (85, .slice p35 n37 c36), (86, .int .i64 (d_32.length : Int)), (87, .int .i64 (k2_110 : Int))] ⟨rfl, rfl, rfl, rfl, rfl, rfl, trivial⟩ ?_
    intro σ _
    refine zr (zm rfl (zm rfl (zo (op_nilCheck rfl) (zo (op_fieldAddr Try.underlying72 rfl ti26 rfl (by decide)) (zs (oblk (i := 12) 8 hO rfl rfl Try.underlying26 rfl rfl) ?_)))))
    refine zm rfl ?_
    have hobt := obuild (r := Rp.int .i64) (n := 1) (parts := [(0, .int .i64 (mgt m2_153 r167))]) (vs := [.int .i64 (mgt m2_153 r167)]) (xs := [(mgt m2_153 r167)]) rfl Try.underlying26 ti3 hO (by decide) (by kernel_rfl) (Els.cons rfl rfl (Els.nil _ _ _) (by simp [mx])) rfl
    obtain ⟨Mq, Mr, pp, Fb, LF, B7⟩ := hobt
    refine zg (B7 rfl) ?_
    replace hO := pp.own
    have hobt := freeze 0 hO rfl Fb
    obtain ⟨hO1, sr, wj, Fc⟩ := hobt
    dsimp only [eS, eZ] at hO1 sr wj
    replace hB := (((hB.trans po.fr).trans oe.fr).trans pp.fr).trans (Owns.dropFr _ _ 0)
    dsimp only [eS, eZ] at hB
    replace hO := hO1; clear hO1
    obtain ⟨yd, H⟩ := H
    have Z9 := (((((Z8.trans qN.ch).trans sU).trans po.ch).trans oe.ch).trans pp.ch).trans sr
    replace bP := bP.ch Z9
    have hobt := oapp Try.underlying26 ti3 rfl 0 hO rfl bP wj Fc yd (by decide)
    obtain ⟨Jx, Ai, Aj, Fd, og, xT, Ca⟩ := hobt
    dsimp only [sS, sZ] at og xT
    refine zg (Ca (by exact rfl) (by exact rfl)) ?_
    replace hO := og.own
    refine zo (op_nilCheck rfl) (zo (op_fieldAddr Try.underlying72 rfl ti26 rfl (by decide)) ?_)
    have hobt := oblkSt2 (v := .slice Ai (ig + 1) Aj) (i := 12) (cs' := #[.int .i64 ((ix a0 (0 : Int)).length : Int), .bool false, .slice p35 n37 c36, .slice kQ iD kS, .slice km iC kn, .slice jU iB jV, .slice none 0 0, .slice yK (iA + 1) yL, .int .i64 (0 : Int), .map (some B4), .slice jM iw jN, .slice i4 iv jo, .slice Ai (ig + 1) Aj]) 8 hO rfl rfl rfl rfl
    obtain ⟨Ms, fe, Cb⟩ := hobt
    dsimp only [sS, sZ] at fe
    refine zg (Cb Try.underlying26 rfl ti26 (by exact rfl) (by exact rfl)) ?_
    replace hO := fe.own
    refine zn ?_
    refine Go1.inBlock ?_
    refine zr ?_
    replace ae := ((ae.ch Z9).ch og.ch).ch fe.ch
    refine zo (op_add rfl rfl (wrap_i64 (natbd xz ae.bd))) (zm rfl (zn ?_))
    replace xT := xT.ch fe.ch
    replace hB := (hB.trans og.fr).trans fe.fr
    have Z10 := (((oe.ch.trans pp.ch).trans sr).trans og.ch).trans fe.ch
    replace rL := rL.ch Z10
    have Z11 := ((((((qN.ch.trans sU).trans po.ch).trans oe.ch).trans pp.ch).trans sr).trans og.ch).trans fe.ch
    replace b7 := b7.ch Z11
    have Z12 := (Z9.trans og.ch).trans fe.ch
    replace bU := bU.ch Z12
    replace cC := cC.ch Z12
    replace cU := cU.ch Z12
    replace dr := dr.ch Z12
    exact hX2 _ H _ _ ⟨ig + 1, Ai, Aj, Fd, iv, i4, jo, oR, iw, jM, jN, oS, iA + 1, yK, yL, Fa, iB, jU, jV, oU, iC, km, kn, oV, iD, kQ, kS, oW, ⟨rfl, rfl, rfl, rfl, rfl, trivial⟩, hO, xT, bU, b7, rL, cC, cU, dr, ae, hB⟩
   replace H := ifn vO H
   refine GoQ.stable rfl (olookF (a := r167) (MK.str Try.underlying9) 9 hO rfl Try.underlying69 ti3 rfl rfl vO) rfl rfl ?_
   refine GoQ.pure rfl (op_move rfl) rfl rfl ?_
   refine GoQ.pure rfl (op_extract rfl rfl) rfl rfl ?_
   refine GoQ.pure rfl (op_extract rfl rfl) rfl rfl ?_
   refine GoQ.pure rfl (op_assign rfl) rfl rfl ?_
   refine GoQ.pure rfl (op_assign rfl) rfl rfl ?_
   refine GoQ.nil ?_
   refine zq (zq (zr (zm rfl (zn (zf rfl rfl ?_)))))
   refine Go1.cut [(6, .pointer (some ⟨B10, 0, none⟩)), (9, .int .i64 (-1 : Int)), (10, .int .i64 (k2_110 : Int)), (11, .slice B1 ((ix d_32 (k2_110 : Int)).length) B3), (12, .string (gstr (chr (IntKind.i32.wrap ((97 : Int) + (k2_110 : Int)))))), (85, .slice p35 n37 c36), (86, .int .i64 (d_32.length : Int)), (87, .int .i64 (k2_110 : Int))] ⟨rfl, rfl, rfl, rfl, rfl, rfl, rfl, rfl, trivial⟩ ?_
   intro σ _
   refine zr (zm rfl (zm rfl ?_))
   replace b9 := b9.ch d5.ch
   refine GoR.call (op_call body64 rfl (walk_slices_Clone_int hO.lt b9 H)) rfl rfl ?_
   rintro Mt Mu ⟨r224, vP, tu, tv, Ls, rfl, Fe, hN228, sV, H⟩
   have pq := Stp.more hO Fe hN228
   dsimp only [List.cons_append, List.nil_append] at pq
   replace hO := pq.own
   refine zm rfl (zm rfl (zm rfl (zm rfl ?_)))
   refine GoR.inl (vs := [.pointer (some ⟨B10, 0, none⟩), .slice tu vP tv, .int .i64 (-1 : Int), .int .i64 (k2_110 : Int), .string (gstr (chr (IntKind.i32.wrap ((97 : Int) + (k2_110 : Int))))), .int .i64 (-1 : Int)]) (caps := []) rfl rfl body65 Try.func65 rfl Try.ntmps65 rfl rfl rfl ?_
   intro RhR232 hR232
   refine zq (zr (za rfl (zn (zq (zr ?_)))))
   refine zm rfl (zo (op_nilCheck rfl) (zo (op_fieldAddr Try.underlying72 rfl ti29 rfl (by decide)) (zo (op_fieldAddr Try.underlying29 rfl ti22 rfl (by decide)) (zs (oblk (i := 3) 9 hO rfl rfl Try.underlying22 rfl rfl) ?_))))
   have Z13 := (qL.ch.trans d5.ch).trans pq.ch
   replace dr := dr.ch Z13
   refine zo (op_lenN Try.underlying22 rfl (dr.neq hO 7 rfl)) (za rfl (zn (zq ?_)))
   refine Go1.drawS 1 [(0, .pure), (1, .pure), (2, .pure), (3, .stable), (4, .pure), (6, .pure), (5, .loud), (7, .last)] mixed (by kernel_rfl) ?_
   intro Mv Ff
   have pr := Stp.same hO Ff
   replace hO := pr.own
   refine GoQ.pure rfl (op_move rfl) rfl rfl ?_
   refine GoQ.pure rfl (op_nilCheck rfl) rfl rfl ?_
   refine GoQ.pure rfl (op_fieldAddr Try.underlying72 rfl ti69 rfl (by decide)) rfl rfl ?_
   refine GoQ.stable rfl (oblk (i := 9) 9 hO rfl rfl Try.underlying69 rfl rfl) rfl rfl ?_
   refine GoQ.pure rfl (op_move rfl) rfl rfl ?_
   refine GoQ.pure rfl (op_move rfl) rfl rfl ?_
   replace sV := (sV.ch (Ch.assoc _ _ _ _)).ch pr.ch
   have hobt := rowlend 0 hO rfl sV
   obtain ⟨Fg, Fh⟩ := hobt
   have hOc238 := hO.drop 0
   refine GoQ.call rfl (op_call body61 (show ([.slice tu vP tv] : List Value) = [.slice tu r224.length tv] from by rw [← Fh]) (walk_enumerate_text hOc238.lt Fg H)) (fun v w hr => by obtain ⟨_, _, hs, _, _⟩ := hr; assumption) rfl rfl ?_
   rintro Mw Jy ⟨r239, rfl, yM, Lt, H⟩
   have pt := Stp.same hO yM
   replace hO := pt.own
   have hobt := omapUpd (MK.str Try.underlying9) 10 hO rfl Try.underlying69 r239 (d_147.length : Int)
   obtain ⟨Jz, oh, Cc⟩ := hobt
   dsimp only [sS, sZ] at oh
   refine GoQ.last rfl (Cc (by exact rfl) (by exact rfl) (by exact rfl)) rfl rfl ?_
   replace hO := oh.own
   refine GoQ.nil ?_
   refine zq ?_
   refine Go1.cut [(0, .pointer (some ⟨B10, 0, none⟩)), (1, .slice tu vP tv), (2, .int .i64 (-1 : Int)), (3, .int .i64 (k2_110 : Int)), (4, .string (gstr (chr (IntKind.i32.wrap ((97 : Int) + (k2_110 : Int)))))), (5, .int .i64 (-1 : Int)), (13, .int .i64 (d_147.length : Int))] ⟨rfl, rfl, rfl, rfl, rfl, rfl, rfl, trivial⟩ ?_
   intro σ _
   refine zr (zm rfl (zm rfl (zo (op_nilCheck rfl) (zo (op_fieldAddr Try.underlying72 rfl ti29 rfl (by decide)) (zo (op_fieldAddr Try.underlying29 rfl ti22 rfl (by decide)) ?_)))))
   refine zs (oblk (i := 3) 9 hO rfl rfl Try.underlying22 rfl rfl) (zm rfl ?_)
   replace sV := (sV.ch pt.ch).ch oh.ch
   have hobt := freeze 0 hO rfl sV
   obtain ⟨hO1, lJ, cz, yN⟩ := hobt
   dsimp only [eS, eZ] at hO1 lJ cz
   replace hB := ((((((hB.trans qL.fr).trans d5.fr).trans pq.fr).trans pr.fr).trans pt.fr).trans oh.fr).trans (Owns.dropFr _ _ 0)
   dsimp only [eS, eZ] at hB
   replace hO := hO1; clear hO1
   have hobt := obuild (r := Rp.sl (Rp.int .i64)) (n := 1) (parts := [(0, .slice tu vP tv)]) (vs := [.slice tu vP tv]) (xs := [r224]) rfl Try.underlying22 ti26 hO (by decide) (by kernel_rfl) (Els.cons rfl ⟨tu, tv, congrArg some (congrArg (fun nn => Value.slice tu nn tv) yN), cz⟩ (Els.nil _ _ _) (by simp [mx])) rfl
   obtain ⟨Mx, My, pv, Fi, LG, Cd⟩ := hobt
   refine zg (Cd rfl) ?_
   replace hO := pv.own
   have hobt := freeze 0 hO rfl Fi
   obtain ⟨hO1, ss, eg, Fj⟩ := hobt
   dsimp only [eS, eZ] at hO1 ss eg
   replace hB := (hB.trans pv.fr).trans (Owns.dropFr _ _ 0)
   dsimp only [eS, eZ] at hB
   replace hO := hO1; clear hO1
   obtain ⟨JA, H⟩ := H
   have Z14 := ((((pr.ch.trans pt.ch).trans oh.ch).trans lJ).trans pv.ch).trans ss
   replace dr := dr.ch Z14
   have hobt := oapp Try.underlying22 ti26 rfl 6 hO rfl dr eg Fj JA (by decide)
   obtain ⟨Mz, vQ, vR, Fk, ol, eB, Ce⟩ := hobt
   dsimp only [sS, sZ] at ol eB
   refine zg (Ce (by exact rfl) (by exact rfl)) ?_
   replace hO := ol.own
   refine zo (op_nilCheck rfl) (zo (op_fieldAddr Try.underlying72 rfl ti29 rfl (by decide)) (zo (op_fieldAddr Try.underlying29 rfl ti22 rfl (by decide)) ?_))
   have hobt := oblkSt2 (v := .slice vQ (iD + 1) vR) (i := 3) (cs' := #[.int .i64 ((ix a0 (0 : Int)).length : Int), .bool false, .slice p35 n37 c36, .slice vQ (iD + 1) vR, .slice km iC kn, .slice jU iB jV, .slice none 0 0, .slice jp iA jq, .int .i64 (0 : Int), .map (some B4), .slice jM iw jN, .slice i4 iv jo, .slice jK ig jL]) 8 hO rfl rfl rfl rfl
   obtain ⟨MA, nm, Cf⟩ := hobt
   dsimp only [sS, sZ] at nm
   refine zg (Cf Try.underlying22 rfl ti22 (by exact rfl) (by exact rfl)) ?_
   replace hO := nm.own
   refine zn (zq (zr (zm rfl (zm rfl (zo (op_nilCheck rfl) ?_)))))
   refine zo (op_fieldAddr Try.underlying72 rfl ti29 rfl (by decide)) (zo (op_fieldAddr Try.underlying29 rfl ti26 rfl (by decide)) (zs (oblk (i := 4) 8 hO rfl rfl Try.underlying26 rfl rfl) (zm rfl ?_)))
   have hobt := obuild (r := Rp.int .i64) (n := 1) (parts := [(0, .int .i64 (-1 : Int))]) (vs := [.int .i64 (-1 : Int)]) (xs := [(-1 : Int)]) rfl Try.underlying26 ti3 hO (by decide) (by kernel_rfl) (Els.cons rfl rfl (Els.nil _ _ _) (by simp [mx])) rfl
   obtain ⟨MB, MC, om, Fm, LH, Cg⟩ := hobt
   refine zg (Cg rfl) ?_
   replace hO := om.own
   have hobt := freeze 0 hO rfl Fm
   obtain ⟨hO1, rM, eV, Fn⟩ := hobt
   dsimp only [eS, eZ] at hO1 rM eV
   replace hB := (((hB.trans ol.fr).trans nm.fr).trans om.fr).trans (Owns.dropFr _ _ 0)
   dsimp only [eS, eZ] at hB
   replace hO := hO1; clear hO1
   obtain ⟨JB, H⟩ := H
   have Z15 := (((((((((Z13.trans pr.ch).trans pt.ch).trans oh.ch).trans lJ).trans pv.ch).trans ss).trans ol.ch).trans nm.ch).trans om.ch).trans rM
   replace cU := cU.ch Z15
   have hobt := oapp Try.underlying26 ti3 rfl 5 hO rfl cU eV Fn JB (by decide)
   obtain ⟨MD, wN, wO, Fo, np, fw, Ci⟩ := hobt
   dsimp only [sS, sZ] at np fw
   refine zg (Ci (by exact rfl) (by exact rfl)) ?_
   replace hO := np.own
   refine zo (op_nilCheck rfl) (zo (op_fieldAddr Try.underlying72 rfl ti29 rfl (by decide)) (zo (op_fieldAddr Try.underlying29 rfl ti26 rfl (by decide)) ?_))
   have hobt := oblkSt2 (v := .slice wN (iC + 1) wO) (i := 4) (cs' := #[.int .i64 ((ix a0 (0 : Int)).length : Int), .bool false, .slice p35 n37 c36, .slice vQ (iD + 1) vR, .slice wN (iC + 1) wO, .slice jU iB jV, .slice none 0 0, .slice jp iA jq, .int .i64 (0 : Int), .map (some B4), .slice jM iw jN, .slice i4 iv jo, .slice jK ig jL]) 8 hO rfl rfl rfl rfl
   obtain ⟨ME, mG, Cj⟩ := hobt
   dsimp only [sS, sZ] at mG
   refine zg (Cj Try.underlying26 rfl ti26 (by exact rfl) (by exact rfl)) ?_
   replace hO := mG.own
   refine zn (zq ?_)
   refine Go1.cut [(0, .pointer (some ⟨B10, 0, none⟩)), (3, .int .i64 (k2_110 : Int)), (4, .string (gstr (chr (IntKind.i32.wrap ((97 : Int) + (k2_110 : Int)))))), (5, .int .i64 (-1 : Int)), (13, .int .i64 (d_147.length : Int))] ⟨rfl, rfl, rfl, rfl, rfl, trivial⟩ ?_
   intro σ _
   refine zr (zm rfl (zm rfl (zo (op_nilCheck rfl) (zo (op_fieldAddr Try.underlying72 rfl ti29 rfl (by decide)) (zo (op_fieldAddr Try.underlying29 rfl ti26 rfl (by decide)) ?_)))))
   refine zs (oblk (i := 5) 8 hO rfl rfl Try.underlying26 rfl rfl) (zm rfl ?_)
   have hobt := obuild (r := Rp.int .i64) (n := 1) (parts := [(0, .int .i64 (k2_110 : Int))]) (vs := [.int .i64 (k2_110 : Int)]) (xs := [(k2_110 : Int)]) rfl Try.underlying26 ti3 hO (by decide) (by kernel_rfl) (Els.cons rfl rfl (Els.nil _ _ _) (by simp [mx])) rfl
   obtain ⟨MF, MG, fD, Fp, LI, Ck⟩ := hobt
   refine zg (Ck rfl) ?_
   replace hO := fD.own
   have hobt := freeze 0 hO rfl Fp
   obtain ⟨hO1, ra, g6, Fq⟩ := hobt
   dsimp only [eS, eZ] at hO1 ra g6
   replace hB := (((hB.trans np.fr).trans mG.fr).trans fD.fr).trans (Owns.dropFr _ _ 0)
   dsimp only [eS, eZ] at hB
   replace hO := hO1; clear hO1
   obtain ⟨JC, H⟩ := H
   have Z16 := (((Z15.trans np.ch).trans mG.ch).trans fD.ch).trans ra
   replace cC := cC.ch Z16
   have hobt := oapp Try.underlying26 ti3 rfl 4 hO rfl cC g6 Fq JC (by decide)
   obtain ⟨MH, xA, xB, Fs, ia, io, Cl⟩ := hobt
   dsimp only [sS, sZ] at ia io
   refine zg (Cl (by exact rfl) (by exact rfl)) ?_
   replace hO := ia.own
   refine zo (op_nilCheck rfl) (zo (op_fieldAddr Try.underlying72 rfl ti29 rfl (by decide)) (zo (op_fieldAddr Try.underlying29 rfl ti26 rfl (by decide)) ?_))
   have hobt := oblkSt2 (v := .slice xA (iB + 1) xB) (i := 5) (cs' := #[.int .i64 ((ix a0 (0 : Int)).length : Int), .bool false, .slice p35 n37 c36, .slice vQ (iD + 1) vR, .slice wN (iC + 1) wO, .slice xA (iB + 1) xB, .slice none 0 0, .slice jp iA jq, .int .i64 (0 : Int), .map (some B4), .slice jM iw jN, .slice i4 iv jo, .slice jK ig jL]) 8 hO rfl rfl rfl rfl
   obtain ⟨MJ, lX, Cm⟩ := hobt
   dsimp only [sS, sZ] at lX
   refine zg (Cm Try.underlying26 rfl ti26 (by exact rfl) (by exact rfl)) ?_
   replace hO := lX.own
   refine zn (zq (zr (zm rfl (zm rfl (zo (op_nilCheck rfl) ?_)))))
   refine zo (op_fieldAddr Try.underlying72 rfl ti70 rfl (by decide)) (zs (oblk (i := 10) 8 hO rfl rfl Try.underlying70 rfl rfl) (zm rfl ?_))
   have hobt := obuild (r := Rp.str) (n := 1) (parts := [(0, .string (gstr (chr (IntKind.i32.wrap ((97 : Int) + (k2_110 : Int))))))]) (vs := [.string (gstr (chr (IntKind.i32.wrap ((97 : Int) + (k2_110 : Int)))))]) (xs := [chr (IntKind.i32.wrap ((97 : Int) + (k2_110 : Int)))]) rfl Try.underlying70 ti9 hO (by decide) (by kernel_rfl) (Els.cons rfl ⟨rfl, (chr_le _)⟩ (Els.nil _ _ _) (by simp [mx])) rfl
   obtain ⟨ML, MM, mH, Ft, LJ, Cn⟩ := hobt
   refine zg (Cn rfl) ?_
   replace hO := mH.own
   have hobt := freeze 0 hO rfl Ft
   obtain ⟨hO1, kV, ja, yO⟩ := hobt
   dsimp only [eS, eZ] at hO1 kV ja
   replace hB := (((hB.trans ia.fr).trans lX.fr).trans mH.fr).trans (Owns.dropFr _ _ 0)
   dsimp only [eS, eZ] at hB
   replace hO := hO1; clear hO1
   obtain ⟨JD, H⟩ := H
   have Z17 := (((Z16.trans ia.ch).trans lX.ch).trans mH.ch).trans kV
   replace b7 := b7.ch Z17
   have hobt := oapp Try.underlying70 ti9 rfl 2 hO rfl b7 ja yO JD (by decide)
   obtain ⟨JE, ye, yf, Fu, i5, lK, Co⟩ := hobt
   dsimp only [sS, sZ] at i5 lK
   refine zg (Co (by exact rfl) (by exact rfl)) ?_
   replace hO := i5.own
   refine zo (op_nilCheck rfl) (zo (op_fieldAddr Try.underlying72 rfl ti70 rfl (by decide)) ?_)
   have hobt := oblkSt2 (v := .slice ye (iw + 1) yf) (i := 10) (cs' := #[.int .i64 ((ix a0 (0 : Int)).length : Int), .bool false, .slice p35 n37 c36, .slice vQ (iD + 1) vR, .slice wN (iC + 1) wO, .slice xA (iB + 1) xB, .slice none 0 0, .slice jp iA jq, .int .i64 (0 : Int), .map (some B4), .slice ye (iw + 1) yf, .slice i4 iv jo, .slice jK ig jL]) 8 hO rfl rfl rfl rfl
   obtain ⟨MN, k8, yg⟩ := hobt
   dsimp only [sS, sZ] at k8
   refine zg (yg Try.underlying70 rfl ti70 (by exact rfl) (by exact rfl)) ?_
   replace hO := k8.own
   refine zn (zq ?_)
   refine Go1.cut [(0, .pointer (some ⟨B10, 0, none⟩)), (5, .int .i64 (-1 : Int)), (13, .int .i64 (d_147.length : Int))] ⟨rfl, rfl, rfl, trivial⟩ ?_
   intro σ _
   refine zr (zm rfl (zm rfl (zo (op_nilCheck rfl) (zo (op_fieldAddr Try.underlying72 rfl ti26 rfl (by decide)) (zs (oblk (i := 11) 8 hO rfl rfl Try.underlying26 rfl rfl) ?_)))))
   refine zm rfl ?_
   have hobt := obuild (r := Rp.int .i64) (n := 1) (parts := [(0, .int .i64 (-1 : Int))]) (vs := [.int .i64 (-1 : Int)]) (xs := [(-1 : Int)]) rfl Try.underlying26 ti3 hO (by decide) (by kernel_rfl) (Els.cons rfl rfl (Els.nil _ _ _) (by simp [mx])) rfl
   obtain ⟨MO, MP, lY, Fv, LK, Cp⟩ := hobt
   refine zg (Cp rfl) ?_
   replace hO := lY.own
   have hobt := freeze 0 hO rfl Fv
   obtain ⟨hO1, oX, qw, Fw⟩ := hobt
   dsimp only [eS, eZ] at hO1 oX qw
   replace hB := (((hB.trans i5.fr).trans k8.fr).trans lY.fr).trans (Owns.dropFr _ _ 0)
   dsimp only [eS, eZ] at hB
   replace hO := hO1; clear hO1
   obtain ⟨JF, H⟩ := H
   have Z18 := (((Z17.trans i5.ch).trans k8.ch).trans lY.ch).trans oX
   replace bU := bU.ch Z18
   have hobt := oapp Try.underlying26 ti3 rfl 1 hO rfl bU qw Fw JF (by decide)
   obtain ⟨MQ, yP, yQ, Fx, k9, rN, yh⟩ := hobt
   dsimp only [sS, sZ] at k9 rN
   refine zg (yh (by exact rfl) (by exact rfl)) ?_
   replace hO := k9.own
   refine zo (op_nilCheck rfl) (zo (op_fieldAddr Try.underlying72 rfl ti26 rfl (by decide)) ?_)
   have hobt := oblkSt2 (v := .slice yP (iv + 1) yQ) (i := 11) (cs' := #[.int .i64 ((ix a0 (0 : Int)).length : Int), .bool false, .slice p35 n37 c36, .slice vQ (iD + 1) vR, .slice wN (iC + 1) wO, .slice xA (iB + 1) xB, .slice none 0 0, .slice jp iA jq, .int .i64 (0 : Int), .map (some B4), .slice ye (iw + 1) yf, .slice yP (iv + 1) yQ, .slice jK ig jL]) 8 hO rfl rfl rfl rfl
   obtain ⟨MR, kz, Cq⟩ := hobt
   dsimp only [sS, sZ] at kz
   refine zg (Cq Try.underlying26 rfl ti26 (by exact rfl) (by exact rfl)) ?_
   replace hO := kz.own
   refine zn (zq (zr (zm rfl (za rfl (zn ?_)))))
   refine Go1.ret1V Try.func65 rfl (show _ = .int .i64 (d_147.length : Int) from rfl) ?_
   refine hR232 _ _ ?_
   refine za rfl (zn (zr (zm rfl (zm rfl (zo (op_nilCheck rfl) ?_)))))
   refine zo (op_fieldAddr Try.underlying72 rfl ti26 rfl (by decide)) (zs (oblk (i := 12) 8 hO rfl rfl Try.underlying26 rfl rfl) (zm rfl ?_))
   have hobt := obuild (r := Rp.int .i64) (n := 1) (parts := [(0, .int .i64 (d_147.length : Int))]) (vs := [.int .i64 (d_147.length : Int)]) (xs := [(d_147.length : Int)]) rfl Try.underlying26 ti3 hO (by decide) (by kernel_rfl) (Els.cons rfl rfl (Els.nil _ _ _) (by simp [mx])) rfl
   obtain ⟨MS, MT, la, Fy, LM, Cr⟩ := hobt
   refine zg (Cr rfl) ?_
   replace hO := la.own
   have hobt := freeze 0 hO rfl Fy
   obtain ⟨hO1, nX, wk, Fz⟩ := hobt
   dsimp only [eS, eZ] at hO1 nX wk
   replace hB := (((hB.trans k9.fr).trans kz.fr).trans la.fr).trans (Owns.dropFr _ _ 0)
   dsimp only [eS, eZ] at hB
   replace hO := hO1; clear hO1
   obtain ⟨JG, H⟩ := H
   have Z19 := (((Z18.trans k9.ch).trans kz.ch).trans la.ch).trans nX
   replace bP := bP.ch Z19
   have hobt := oapp Try.underlying26 ti3 rfl 0 hO rfl bP wk Fz JG (by decide)
   obtain ⟨MU, Ak, Al, lL, kA, xU, Cs⟩ := hobt
   dsimp only [sS, sZ] at kA xU
   refine zg (Cs (by exact rfl) (by exact rfl)) ?_
   replace hO := kA.own
   refine zo (op_nilCheck rfl) (zo (op_fieldAddr Try.underlying72 rfl ti26 rfl (by decide)) ?_)
   have hobt := oblkSt2 (v := .slice Ak (ig + 1) Al) (i := 12) (cs' := #[.int .i64 ((ix a0 (0 : Int)).length : Int), .bool false, .slice p35 n37 c36, .slice vQ (iD + 1) vR, .slice wN (iC + 1) wO, .slice xA (iB + 1) xB, .slice none 0 0, .slice jp iA jq, .int .i64 (0 : Int), .map (some B4), .slice ye (iw + 1) yf, .slice yP (iv + 1) yQ, .slice Ak (ig + 1) Al]) 8 hO rfl rfl rfl rfl
   obtain ⟨MV, jW, Ct⟩ := hobt
   dsimp only [sS, sZ] at jW
   refine zg (Ct Try.underlying26 rfl ti26 (by exact rfl) (by exact rfl)) ?_
   replace hO := jW.own
   refine zn ?_
   refine Go1.inBlock ?_
   refine Go1.cut [(6, .pointer (some ⟨B10, 0, none⟩)), (9, .int .i64 (-1 : Int)), (85, .slice p35 n37 c36), (86, .int .i64 (d_32.length : Int)), (87, .int .i64 (k2_110 : Int))] ⟨rfl, rfl, rfl, rfl, rfl, trivial⟩ ?_
   intro σ _
   refine zr ?_
   replace ae := ((ae.ch Z19).ch kA.ch).ch jW.ch
   refine zo (op_add rfl rfl (wrap_i64 (natbd xz ae.bd))) (zm rfl (zn ?_))
   replace xU := xU.ch jW.ch
   replace hB := (hB.trans kA.fr).trans jW.fr
   have Z20 := (((kz.ch.trans la.ch).trans nX).trans kA.ch).trans jW.ch
   replace rN := rN.ch Z20
   have Z21 := (((((((k8.ch.trans lY.ch).trans oX).trans k9.ch).trans kz.ch).trans la.ch).trans nX).trans kA.ch).trans jW.ch
   replace lK := lK.ch Z21
   have Z22 := (((((((((((lX.ch.trans mH.ch).trans kV).trans i5.ch).trans k8.ch).trans lY.ch).trans oX).trans k9.ch).trans kz.ch).trans la.ch).trans nX).trans kA.ch).trans jW.ch
   replace io := io.ch Z22
   have Z23 := (((((((((((((((mG.ch.trans fD.ch).trans ra).trans ia.ch).trans lX.ch).trans mH.ch).trans kV).trans i5.ch).trans k8.ch).trans lY.ch).trans oX).trans k9.ch).trans kz.ch).trans la.ch).trans nX).trans kA.ch).trans jW.ch
   replace fw := fw.ch Z23
   have Z24 := (((((((((((((((((((nm.ch.trans om.ch).trans rM).trans np.ch).trans mG.ch).trans fD.ch).trans ra).trans ia.ch).trans lX.ch).trans mH.ch).trans kV).trans i5.ch).trans k8.ch).trans lY.ch).trans oX).trans k9.ch).trans kz.ch).trans la.ch).trans nX).trans kA.ch).trans jW.ch
   replace eB := eB.ch Z24
   replace bV := ((bV.ch Z19).ch kA.ch).ch jW.ch
   exact hX2 _ H _ _ ⟨ig + 1, Ak, Al, lL, iv + 1, yP, yQ, Fx, iw + 1, ye, yf, Fu, iA, jp, jq, oT, iB + 1, xA, xB, Fs, iC + 1, wN, wO, Fo, iD + 1, vQ, vR, Fk, ⟨rfl, rfl, rfl, rfl, rfl, trivial⟩, hO, xU, rN, lK, bV, io, fw, eB, ae, hB⟩
  replace H := ifn xz H
  refine zo (fun w => opB (op_lss rfl rfl w) (decide_eq_false xz)) (zn (zq (zf rfl rfl ?_)))
  refine Go1.exit rfl ?_
  refine zq (zr (zm rfl (za rfl (za rfl (zn ?_)))))
  have rz := Stp.nil (e := 26) (r := 1) hO
  replace hO := rz.own
  have jX := Els.nil (Rp.sl (Rp.int .i64)) (bl (.row 26 1 none 0 0 [] :: [.row 3 1 jK ig jL qu, .row 3 1 i4 iv jo oR, .row 9 1 jM iw jN oS, .row 39 2 jp iA jq oT, .row 3 1 jU iB jV oU, .row 3 1 km iC kn oV, .row 26 1 kQ iD kS oW, .row 26 1 p35 n37 c36 fo, .blk B10 (.cells #[.int .i64 ((ix a0 (0 : Int)).length : Int), .bool false, .slice p35 n37 c36, .slice kQ iD kS, .slice km iC kn, .slice jU iB jV, .slice none 0 0, .slice jp iA jq, .int .i64 (0 : Int), .map (some B4), .slice jM iw jN, .slice i4 iv jo, .slice jK ig jL] 72 (0, 0)), .any (mapE (fun a : List UInt8 => Value.string (gstr a)) (fun a : Int => Value.int .i64 a) B4 m2_153)]) ++ A) Jq
  have fE := Stp.front 10 hO rfl
  dsimp only [eS, eZ] at fE
  replace hO := fE.own
  have px := Stp.front 2 hO rfl
  dsimp only [eS, eZ] at px
  replace hO := px.own
  have fq := Stp.front 3 hO rfl
  dsimp only [eS, eZ] at fq
  replace hO := fq.own
  have pz := Stp.front 4 hO rfl
  dsimp only [eS, eZ] at pz
  replace hO := pz.own
  have pC := Stp.front 5 hO rfl
  dsimp only [eS, eZ] at pC
  replace hO := pC.own
  have pD := Stp.front 5 hO rfl
  dsimp only [eS, eZ] at pD
  replace hO := pD.own
  have fF := Stp.front 6 hO rfl
  dsimp only [eS, eZ] at fF
  replace hO := fF.own
  have pE := Stp.front 7 hO rfl
  dsimp only [eS, eZ] at pE
  replace hO := pE.own
  have pF := Stp.front 8 hO rfl
  dsimp only [eS, eZ] at pF
  replace hO := pF.own
  have pG := Stp.front 9 hO rfl
  dsimp only [eS, eZ] at pG
  replace hO := pG.own
  have pI := Stp.front 10 hO rfl
  dsimp only [eS, eZ] at pI
  replace hO := pI.own
  refine Go1.ret2 Try.func49 rfl ?_
  have Z25 := (((((((((fE.ch.trans px.ch).trans fq.ch).trans pz.ch).trans pC.ch).trans pD.ch).trans fF.ch).trans pE.ch).trans pF.ch).trans pG.ch).trans pI.ch
  replace jX := jX.ch Z25
  have Z26 := ((((((((((rz.ch.trans fE.ch).trans px.ch).trans fq.ch).trans pz.ch).trans pC.ch).trans pD.ch).trans fF.ch).trans pE.ch).trans pF.ch).trans pG.ch).trans pI.ch
  replace bP := bP.ch Z26
  replace bU := bU.ch Z26
  replace b7 := b7.ch Z26
  replace bV := bV.ch Z26
  replace cC := cC.ch Z26
  replace cU := cU.ch Z26
  replace dr := dr.ch Z26
  replace ae := ae.ch Z26
  replace hB := (((((((((((hB.trans rz.fr).trans fE.fr).trans px.fr).trans fq.fr).trans pz.fr).trans pC.fr).trans pD.fr).trans fF.fr).trans pE.fr).trans pF.fr).trans pG.fr).trans pI.fr
  exact Or.inr ⟨(⟨(⟨((ix a0 (0 : Int)).length : Int), false, d_32, d_147, d_141, d_135, ([] : List (List Int)), d_129, (0 : Int)⟩ : Enum), m2_153, d_123, d_117, d_111⟩ : run), ((0 : Int)), B10, n37, p35, c36, fo, iD, kQ, kS, oW, iC, km, kn, oV, iB, jU, jV, oU, 0, none, 0, ([]), iA, jp, jq, oT, B4, iw, jM, jN, oS, iv, i4, jo, oR, ig, jK, jL, qu, rfl, hB.same, hO, ae, dr, cU, cC, jX, bV, b7, bU, bP, H⟩
 replace H := ifp rfl H
 refine zt rfl rfl (zr (zm rfl (zm rfl (zo (op_nilCheck rfl) (zo (op_fieldAddr Try.underlying72 rfl ti29 rfl (by decide)) ?_)))))
 refine zo (op_fieldAddr Try.underlying29 rfl ti3 rfl (by decide)) (zs (oblk (i := 0) 1 hO rfl rfl Try.underlying3 rfl rfl) ?_)
 refine GoR.call (op_call body62 rfl (walk_trans_Identity hO.lt H)) rfl rfl ?_
 rintro MW MX ⟨r397, vS, vT, rfl, FA, cR, H⟩
 have xl := Stp.same hO FA
 replace hO := xl.own
 refine GoR.inl (vs := [.pointer (some ⟨B10, 0, none⟩), .slice vS r397.length vT, .int .i64 (-1 : Int), .int .i64 (-1 : Int), .string (gstr (([] : Str))), .int .i64 (-1 : Int)]) (caps := []) rfl rfl body65 Try.func65 rfl Try.ntmps65 rfl rfl rfl ?_
 intro RhR403 hR403
 refine zq (zr (za rfl (zn (zq (zr ?_)))))
 refine zm rfl (zo (op_nilCheck rfl) (zo (op_fieldAddr Try.underlying72 rfl ti29 rfl (by decide)) (zo (op_fieldAddr Try.underlying29 rfl ti22 rfl (by decide)) (zs (oblk (i := 3) 1 hO rfl rfl Try.underlying22 rfl rfl) (zo (op_len Try.underlying22 rfl) ?_)))))
 refine za rfl (zn (zq ?_))
 refine Go1.cut [(0, .pointer (some ⟨B10, 0, none⟩)), (1, .slice vS r397.length vT), (2, .int .i64 (-1 : Int)), (3, .int .i64 (-1 : Int)), (4, .string (gstr (([] : Str)))), (5, .int .i64 (-1 : Int)), (13, .int .i64 (0 : Int))] ⟨rfl, rfl, rfl, rfl, rfl, rfl, rfl, trivial⟩ ?_
 intro σ _
 refine Go1.drawS 1 [(0, .pure), (1, .pure), (2, .pure), (3, .stable), (4, .pure), (6, .pure), (5, .loud), (7, .last)] mixed (by kernel_rfl) ?_
 intro MY FB
 have vU := Stp.same hO FB
 replace hO := vU.own
 refine GoQ.pure rfl (op_move rfl) rfl rfl ?_
 refine GoQ.pure rfl (op_nilCheck rfl) rfl rfl ?_
 refine GoQ.pure rfl (op_fieldAddr Try.underlying72 rfl ti69 rfl (by decide)) rfl rfl ?_
 refine GoQ.stable rfl (oblk (i := 9) 1 hO rfl rfl Try.underlying69 rfl rfl) rfl rfl ?_
 refine GoQ.pure rfl (op_move rfl) rfl rfl ?_
 refine GoQ.pure rfl (op_move rfl) rfl rfl ?_
 replace cR := cR.ch vU.ch
 refine GoQ.call rfl (op_call body61 rfl (walk_enumerate_text hO.lt cR H)) (fun v w hr => by obtain ⟨_, _, hs, _, _⟩ := hr; assumption) rfl rfl ?_
 rintro M0 M1 ⟨r407, rfl, FC, Lu, H⟩
 have vV := Stp.same hO FC
 replace hO := vV.own
 have hobt := omapUpd (MK.str Try.underlying9) 2 hO rfl Try.underlying69 r407 (0 : Int)
 obtain ⟨JH, iE, Cu⟩ := hobt
 refine GoQ.last rfl (Cu (by exact rfl) (by exact rfl) (by exact rfl)) rfl rfl ?_
 replace hO := iE.own
 refine GoQ.nil ?_
 refine zq (zr (zm rfl (zm rfl (zo (op_nilCheck rfl) (zo (op_fieldAddr Try.underlying72 rfl ti29 rfl (by decide)) ?_)))))
 refine zo (op_fieldAddr Try.underlying29 rfl ti22 rfl (by decide)) (zs (oblk (i := 3) 1 hO rfl rfl Try.underlying22 rfl rfl) (zm rfl ?_))
 replace cR := (cR.ch vV.ch).ch iE.ch
 have hobt := obuild (r := Rp.sl (Rp.int .i64)) (n := 1) (parts := [(0, .slice vS r397.length vT)]) (vs := [.slice vS r397.length vT]) (xs := [r397]) rfl Try.underlying22 ti26 hO (by decide) (by kernel_rfl) (Els.cons rfl ⟨vS, vT, rfl, cR⟩ (Els.nil _ _ _) (by simp [mx])) rfl
 obtain ⟨JI, M2, vW, FD, LN, Cv⟩ := hobt
 refine zg (Cv rfl) ?_
 replace hO := vW.own
 have hobt := freeze 0 hO rfl FD
 obtain ⟨hO1, yR, dV, FE⟩ := hobt
 replace hO := hO1; clear hO1
 have g0 := Stp.nil (e := 26) (r := 1) hO
 replace hO := g0.own
 have gz := Els.nil (Rp.sl (Rp.int .i64)) (bl (.row 26 1 none 0 0 [] :: [.row 26 1 p35 n37 c36 fo, .blk B10 (.cells #[.int .i64 ((ix a0 (0 : Int)).length : Int), .bool true, .slice p35 n37 c36, .slice none 0 0, .slice none 0 0, .slice none 0 0, .slice none 0 0, .slice none 0 0, .int .i64 (0 : Int), .map (some B4), .slice none 0 0, .slice none 0 0, .slice none 0 0] 72 (0, 0)), .any (mapE (fun a : List UInt8 => Value.string (gstr a)) (fun a : Int => Value.int .i64 a) B4 (mput (([] : List (Str × Int))) r407 ((0 : Int))))]) ++ A) JI
 obtain ⟨JJ, H⟩ := H
 replace dV := dV.ch g0.ch
 have hobt := oapp Try.underlying22 ti26 rfl 0 hO rfl gz dV FE JJ (by decide)
 obtain ⟨M3, oY, o0, vg, va, d8, Cw⟩ := hobt
 refine zg (Cw (by exact rfl) (by exact rfl)) ?_
 replace hO := va.own
 refine zo (op_nilCheck rfl) (zo (op_fieldAddr Try.underlying72 rfl ti29 rfl (by decide)) (zo (op_fieldAddr Try.underlying29 rfl ti22 rfl (by decide)) ?_))
 have hobt := oblkSt2 (v := .slice oY (0 + 1) o0) (i := 3) (cs' := #[.int .i64 ((ix a0 (0 : Int)).length : Int), .bool true, .slice p35 n37 c36, .slice oY (0 + 1) o0, .slice none 0 0, .slice none 0 0, .slice none 0 0, .slice none 0 0, .int .i64 (0 : Int), .map (some B4), .slice none 0 0, .slice none 0 0, .slice none 0 0]) 2 hO rfl rfl rfl rfl
 obtain ⟨M4, ud, Cx⟩ := hobt
 refine zg (Cx Try.underlying22 rfl ti22 (by exact rfl) (by exact rfl)) ?_
 replace hO := ud.own
 refine zn (zq ?_)
 refine Go1.cut [(0, .pointer (some ⟨B10, 0, none⟩)), (2, .int .i64 (-1 : Int)), (3, .int .i64 (-1 : Int)), (4, .string (gstr (([] : Str)))), (5, .int .i64 (-1 : Int)), (13, .int .i64 (0 : Int))] ⟨rfl, rfl, rfl, rfl, rfl, rfl, trivial⟩ ?_
 intro σ _
 refine zr (zm rfl (zm rfl (zo (op_nilCheck rfl) (zo (op_fieldAddr Try.underlying72 rfl ti29 rfl (by decide)) (zo (op_fieldAddr Try.underlying29 rfl ti26 rfl (by decide)) ?_)))))
 refine zs (oblk (i := 4) 2 hO rfl rfl Try.underlying26 rfl rfl) (zm rfl ?_)
 have hobt := obuild (r := Rp.int .i64) (n := 1) (parts := [(0, .int .i64 (-1 : Int))]) (vs := [.int .i64 (-1 : Int)]) (xs := [(-1 : Int)]) rfl Try.underlying26 ti3 hO (by decide) (by kernel_rfl) (Els.cons rfl rfl (Els.nil _ _ _) (by simp [mx])) rfl
 obtain ⟨JK, M5, ue, FF, LO, Cy⟩ := hobt
 refine zg (Cy rfl) ?_
 replace hO := ue.own
 have hobt := freeze 0 hO rfl FF
 obtain ⟨hO1, wl, eG, FG⟩ := hobt
 dsimp only [eS, eZ] at hO1 wl eG
 replace hB := ((((((((((hB.trans xl.fr).trans vU.fr).trans vV.fr).trans iE.fr).trans vW.fr).trans (Owns.dropFr _ _ 0)).trans g0.fr).trans va.fr).trans ud.fr).trans ue.fr).trans (Owns.dropFr _ _ 0)
 dsimp only [eS, eZ] at hB
 replace hO := hO1; clear hO1
 have tw := Stp.nil (e := 3) (r := 1) hO
 replace hO := tw.own
 have FH := Els.nil (Rp.int .i64) (bl (.row 3 1 none 0 0 [] :: [.row 26 1 oY (0 + 1) o0 vg, .row 26 1 p35 n37 c36 fo, .blk B10 (.cells #[.int .i64 ((ix a0 (0 : Int)).length : Int), .bool true, .slice p35 n37 c36, .slice oY (0 + 1) o0, .slice none 0 0, .slice none 0 0, .slice none 0 0, .slice none 0 0, .int .i64 (0 : Int), .map (some B4), .slice none 0 0, .slice none 0 0, .slice none 0 0] 72 (0, 0)), .any (mapE (fun a : List UInt8 => Value.string (gstr a)) (fun a : Int => Value.int .i64 a) B4 (mput (([] : List (Str × Int))) r407 ((0 : Int))))]) ++ A) JK
 obtain ⟨JL, H⟩ := H
 replace eG := eG.ch tw.ch
 have hobt := oapp Try.underlying26 ti3 rfl 0 hO rfl FH eG FG JL (by decide)
 obtain ⟨M6, rm, ro, wm, jD, eW, yi⟩ := hobt
 dsimp only [sS, sZ] at jD eW
 refine zg (yi (by exact rfl) (by exact rfl)) ?_
 replace hO := jD.own
 refine zo (op_nilCheck rfl) (zo (op_fieldAddr Try.underlying72 rfl ti29 rfl (by decide)) (zo (op_fieldAddr Try.underlying29 rfl ti26 rfl (by decide)) ?_))
 have hobt := oblkSt2 (v := .slice rm (0 + 1) ro) (i := 4) (cs' := #[.int .i64 ((ix a0 (0 : Int)).length : Int), .bool true, .slice p35 n37 c36, .slice oY (0 + 1) o0, .slice rm (0 + 1) ro, .slice none 0 0, .slice none 0 0, .slice none 0 0, .int .i64 (0 : Int), .map (some B4), .slice none 0 0, .slice none 0 0, .slice none 0 0]) 3 hO rfl rfl rfl rfl
 obtain ⟨M7, rB, Cz⟩ := hobt
 dsimp only [sS, sZ] at rB
 refine zg (Cz Try.underlying26 rfl ti26 (by exact rfl) (by exact rfl)) ?_
 replace hO := rB.own
 refine zn (zq (zr (zm rfl (zm rfl (zo (op_nilCheck rfl) ?_)))))
 refine zo (op_fieldAddr Try.underlying72 rfl ti29 rfl (by decide)) (zo (op_fieldAddr Try.underlying29 rfl ti26 rfl (by decide)) (zs (oblk (i := 5) 3 hO rfl rfl Try.underlying26 rfl rfl) (zm rfl ?_)))
 have hobt := obuild (r := Rp.int .i64) (n := 1) (parts := [(0, .int .i64 (-1 : Int))]) (vs := [.int .i64 (-1 : Int)]) (xs := [(-1 : Int)]) rfl Try.underlying26 ti3 hO (by decide) (by kernel_rfl) (Els.cons rfl rfl (Els.nil _ _ _) (by simp [mx])) rfl
 obtain ⟨JM, M8, su, FI, LP, CA⟩ := hobt
 refine zg (CA rfl) ?_
 replace hO := su.own
 have hobt := freeze 0 hO rfl FI
 obtain ⟨hO1, ul, gA, FJ⟩ := hobt
 dsimp only [eS, eZ] at hO1 ul gA
 replace hB := ((((hB.trans tw.fr).trans jD.fr).trans rB.fr).trans su.fr).trans (Owns.dropFr _ _ 0)
 dsimp only [eS, eZ] at hB
 replace hO := hO1; clear hO1
 have rC := Stp.nil (e := 3) (r := 1) hO
 replace hO := rC.own
 have FK := Els.nil (Rp.int .i64) (bl (.row 3 1 none 0 0 [] :: [.row 3 1 rm (0 + 1) ro wm, .row 26 1 oY (0 + 1) o0 vg, .row 26 1 p35 n37 c36 fo, .blk B10 (.cells #[.int .i64 ((ix a0 (0 : Int)).length : Int), .bool true, .slice p35 n37 c36, .slice oY (0 + 1) o0, .slice rm (0 + 1) ro, .slice none 0 0, .slice none 0 0, .slice none 0 0, .int .i64 (0 : Int), .map (some B4), .slice none 0 0, .slice none 0 0, .slice none 0 0] 72 (0, 0)), .any (mapE (fun a : List UInt8 => Value.string (gstr a)) (fun a : Int => Value.int .i64 a) B4 (mput (([] : List (Str × Int))) r407 ((0 : Int))))]) ++ A) JM
 obtain ⟨JN, H⟩ := H
 replace gA := gA.ch rC.ch
 have hobt := oapp Try.underlying26 ti3 rfl 0 hO rfl FK gA FJ JN (by decide)
 obtain ⟨M9, sO, sP, xm, qO, ip, CB⟩ := hobt
 dsimp only [sS, sZ] at qO ip
 refine zg (CB (by exact rfl) (by exact rfl)) ?_
 replace hO := qO.own
 refine zo (op_nilCheck rfl) (zo (op_fieldAddr Try.underlying72 rfl ti29 rfl (by decide)) (zo (op_fieldAddr Try.underlying29 rfl ti26 rfl (by decide)) ?_))
 have hobt := oblkSt2 (v := .slice sO (0 + 1) sP) (i := 5) (cs' := #[.int .i64 ((ix a0 (0 : Int)).length : Int), .bool true, .slice p35 n37 c36, .slice oY (0 + 1) o0, .slice rm (0 + 1) ro, .slice sO (0 + 1) sP, .slice none 0 0, .slice none 0 0, .int .i64 (0 : Int), .map (some B4), .slice none 0 0, .slice none 0 0, .slice none 0 0]) 4 hO rfl rfl rfl rfl
 obtain ⟨Na, pK, CC⟩ := hobt
 dsimp only [sS, sZ] at pK
 refine zg (CC Try.underlying26 rfl ti26 (by exact rfl) (by exact rfl)) ?_
 replace hO := pK.own
 refine zn (zq ?_)
 refine Go1.cut [(0, .pointer (some ⟨B10, 0, none⟩)), (4, .string (gstr (([] : Str)))), (5, .int .i64 (-1 : Int)), (13, .int .i64 (0 : Int))] ⟨rfl, rfl, rfl, rfl, trivial⟩ ?_
 intro σ _
 refine zr (zm rfl (zm rfl (zo (op_nilCheck rfl) (zo (op_fieldAddr Try.underlying72 rfl ti70 rfl (by decide)) (zs (oblk (i := 10) 4 hO rfl rfl Try.underlying70 rfl rfl) ?_)))))
 refine zm rfl ?_
 have hobt := obuild (r := Rp.str) (n := 1) (parts := [(0, .string (gstr (([] : Str))))]) (vs := [.string (gstr (([] : Str)))]) (xs := [([] : Str)]) rfl Try.underlying70 ti9 hO (by decide) (by kernel_rfl) (Els.cons rfl ⟨rfl, (by decide)⟩ (Els.nil _ _ _) (by simp [mx])) rfl
 obtain ⟨yS, Nb, eP, um, LQ, CD⟩ := hobt
 refine zg (CD rfl) ?_
 replace hO := eP.own
 have hobt := freeze 0 hO rfl um
 obtain ⟨hO1, sW, kt, FL⟩ := hobt
 dsimp only [eS, eZ] at hO1 sW kt
 replace hB := ((((hB.trans rC.fr).trans qO.fr).trans pK.fr).trans eP.fr).trans (Owns.dropFr _ _ 0)
 dsimp only [eS, eZ] at hB
 replace hO := hO1; clear hO1
 have pM := Stp.nil (e := 9) (r := 1) hO
 replace hO := pM.own
 have vh := Els.nil (Rp.str) (bl (.row 9 1 none 0 0 [] :: [.row 3 1 sO (0 + 1) sP xm, .row 3 1 rm (0 + 1) ro wm, .row 26 1 oY (0 + 1) o0 vg, .row 26 1 p35 n37 c36 fo, .blk B10 (.cells #[.int .i64 ((ix a0 (0 : Int)).length : Int), .bool true, .slice p35 n37 c36, .slice oY (0 + 1) o0, .slice rm (0 + 1) ro, .slice sO (0 + 1) sP, .slice none 0 0, .slice none 0 0, .int .i64 (0 : Int), .map (some B4), .slice none 0 0, .slice none 0 0, .slice none 0 0] 72 (0, 0)), .any (mapE (fun a : List UInt8 => Value.string (gstr a)) (fun a : Int => Value.int .i64 a) B4 (mput (([] : List (Str × Int))) r407 ((0 : Int))))]) ++ A) yS
 obtain ⟨JO, H⟩ := H
 replace kt := kt.ch pM.ch
 have hobt := oapp Try.underlying70 ti9 rfl 0 hO rfl vh kt FL JO (by decide)
 obtain ⟨JP, uG, uH, xV, oo, nc, CE⟩ := hobt
 dsimp only [sS, sZ] at oo nc
 refine zg (CE (by exact rfl) (by exact rfl)) ?_
 replace hO := oo.own
 refine zo (op_nilCheck rfl) (zo (op_fieldAddr Try.underlying72 rfl ti70 rfl (by decide)) ?_)
 have hobt := oblkSt2 (v := .slice uG (0 + 1) uH) (i := 10) (cs' := #[.int .i64 ((ix a0 (0 : Int)).length : Int), .bool true, .slice p35 n37 c36, .slice oY (0 + 1) o0, .slice rm (0 + 1) ro, .slice sO (0 + 1) sP, .slice none 0 0, .slice none 0 0, .int .i64 (0 : Int), .map (some B4), .slice uG (0 + 1) uH, .slice none 0 0, .slice none 0 0]) 5 hO rfl rfl rfl rfl
 obtain ⟨Nc, nq, yj⟩ := hobt
 dsimp only [sS, sZ] at nq
 refine zg (yj Try.underlying70 rfl ti70 (by exact rfl) (by exact rfl)) ?_
 replace hO := nq.own
 refine zn (zq (zr (zm rfl (zm rfl (zo (op_nilCheck rfl) ?_)))))
 refine zo (op_fieldAddr Try.underlying72 rfl ti26 rfl (by decide)) (zs (oblk (i := 11) 5 hO rfl rfl Try.underlying26 rfl rfl) (zm rfl ?_))
 have hobt := obuild (r := Rp.int .i64) (n := 1) (parts := [(0, .int .i64 (-1 : Int))]) (vs := [.int .i64 (-1 : Int)]) (xs := [(-1 : Int)]) rfl Try.underlying26 ti3 hO (by decide) (by kernel_rfl) (Els.cons rfl rfl (Els.nil _ _ _) (by simp [mx])) rfl
 obtain ⟨JQ, Nd, oq, FM, LS, CF⟩ := hobt
 refine zg (CF rfl) ?_
 replace hO := oq.own
 have hobt := freeze 0 hO rfl FM
 obtain ⟨hO1, rO, rP, FN⟩ := hobt
 dsimp only [eS, eZ] at hO1 rO rP
 replace hB := ((((hB.trans pM.fr).trans oo.fr).trans nq.fr).trans oq.fr).trans (Owns.dropFr _ _ 0)
 dsimp only [eS, eZ] at hB
 replace hO := hO1; clear hO1
 have nr := Stp.nil (e := 3) (r := 1) hO
 replace hO := nr.own
 have FO := Els.nil (Rp.int .i64) (bl (.row 3 1 none 0 0 [] :: [.row 9 1 uG (0 + 1) uH xV, .row 3 1 sO (0 + 1) sP xm, .row 3 1 rm (0 + 1) ro wm, .row 26 1 oY (0 + 1) o0 vg, .row 26 1 p35 n37 c36 fo, .blk B10 (.cells #[.int .i64 ((ix a0 (0 : Int)).length : Int), .bool true, .slice p35 n37 c36, .slice oY (0 + 1) o0, .slice rm (0 + 1) ro, .slice sO (0 + 1) sP, .slice none 0 0, .slice none 0 0, .int .i64 (0 : Int), .map (some B4), .slice uG (0 + 1) uH, .slice none 0 0, .slice none 0 0] 72 (0, 0)), .any (mapE (fun a : List UInt8 => Value.string (gstr a)) (fun a : Int => Value.int .i64 a) B4 (mput (([] : List (Str × Int))) r407 ((0 : Int))))]) ++ A) JQ
 obtain ⟨JR, H⟩ := H
 replace rP := rP.ch nr.ch
 have hobt := oapp Try.underlying26 ti3 rfl 0 hO rfl FO rP FN JR (by decide)
 obtain ⟨Nf, wP, wQ, yT, ft, un, CG⟩ := hobt
 dsimp only [sS, sZ] at ft un
 refine zg (CG (by exact rfl) (by exact rfl)) ?_
 replace hO := ft.own
 refine zo (op_nilCheck rfl) (zo (op_fieldAddr Try.underlying72 rfl ti26 rfl (by decide)) ?_)
 have hobt := oblkSt2 (v := .slice wP (0 + 1) wQ) (i := 11) (cs' := #[.int .i64 ((ix a0 (0 : Int)).length : Int), .bool true, .slice p35 n37 c36, .slice oY (0 + 1) o0, .slice rm (0 + 1) ro, .slice sO (0 + 1) sP, .slice none 0 0, .slice none 0 0, .int .i64 (0 : Int), .map (some B4), .slice uG (0 + 1) uH, .slice wP (0 + 1) wQ, .slice none 0 0]) 6 hO rfl rfl rfl rfl
 obtain ⟨CH, l5, CJ⟩ := hobt
 dsimp only [sS, sZ] at l5
 refine zg (CJ Try.underlying26 rfl ti26 (by exact rfl) (by exact rfl)) ?_
 replace hO := l5.own
 refine zn (zq ?_)
 refine Go1.cut [(13, .int .i64 (0 : Int))] ⟨rfl, trivial⟩ ?_
 intro σ _
 refine zr (zm rfl (za rfl (zn ?_)))
 refine Go1.ret1V Try.func65 rfl (show _ = .int .i64 (0 : Int) from rfl) ?_
 refine hR403 _ _ ?_
 refine za rfl (zn (zq (zq (zr (zm rfl ?_)))))
 refine zo (op_nilCheck rfl) (zo (op_fieldAddr Try.underlying72 rfl ti29 rfl (by decide)) (zo (op_fieldAddr Try.underlying29 rfl ti22 rfl (by decide)) (zs (oblk (i := 2) 6 hO rfl rfl Try.underlying22 rfl rfl) ?_)))
 have Z27 := (((((((((((((((((((((((((((xl.ch.trans vU.ch).trans vV.ch).trans iE.ch).trans vW.ch).trans yR).trans g0.ch).trans va.ch).trans ud.ch).trans ue.ch).trans wl).trans tw.ch).trans jD.ch).trans rB.ch).trans su.ch).trans ul).trans rC.ch).trans qO.ch).trans pK.ch).trans eP.ch).trans sW).trans pM.ch).trans oo.ch).trans nq.ch).trans oq.ch).trans rO).trans nr.ch).trans ft.ch).trans l5.ch
 replace ae := ae.ch Z27
 refine zo (op_lenN Try.underlying22 rfl (ae.neq hO 5 rfl)) (zm rfl (zn (zb ?_)))
 have mI := Stp.nil (e := 39) (r := 2) hO
 replace hO := mI.own
 have yU := Els.nil (rpRule) (bl (.row 39 2 none 0 0 [] :: [.row 3 1 wP (0 + 1) wQ yT, .row 9 1 uG (0 + 1) uH xV, .row 3 1 sO (0 + 1) sP xm, .row 3 1 rm (0 + 1) ro wm, .row 26 1 oY (0 + 1) o0 vg, .row 26 1 p35 n37 c36 fo, .blk B10 (.cells #[.int .i64 ((ix a0 (0 : Int)).length : Int), .bool true, .slice p35 n37 c36, .slice oY (0 + 1) o0, .slice rm (0 + 1) ro, .slice sO (0 + 1) sP, .slice none 0 0, .slice none 0 0, .int .i64 (0 : Int), .map (some B4), .slice uG (0 + 1) uH, .slice wP (0 + 1) wQ, .slice none 0 0] 72 (0, 0)), .any (mapE (fun a : List UInt8 => Value.string (gstr a)) (fun a : Int => Value.int .i64 a) B4 (mput (([] : List (Str × Int))) r407 ((0 : Int))))]) ++ A) CH
 have l7 := Stp.nil (e := 3) (r := 1) hO
 replace hO := l7.own
 have FP := Els.nil (Rp.int .i64) (bl (.row 3 1 none 0 0 [] :: [.row 39 2 none 0 0 [], .row 3 1 wP (0 + 1) wQ yT, .row 9 1 uG (0 + 1) uH xV, .row 3 1 sO (0 + 1) sP xm, .row 3 1 rm (0 + 1) ro wm, .row 26 1 oY (0 + 1) o0 vg, .row 26 1 p35 n37 c36 fo, .blk B10 (.cells #[.int .i64 ((ix a0 (0 : Int)).length : Int), .bool true, .slice p35 n37 c36, .slice oY (0 + 1) o0, .slice rm (0 + 1) ro, .slice sO (0 + 1) sP, .slice none 0 0, .slice none 0 0, .int .i64 (0 : Int), .map (some B4), .slice uG (0 + 1) uH, .slice wP (0 + 1) wQ, .slice none 0 0] 72 (0, 0)), .any (mapE (fun a : List UInt8 => Value.string (gstr a)) (fun a : Int => Value.int .i64 a) B4 (mput (([] : List (Str × Int))) r407 ((0 : Int))))]) ++ A) CH
 replace yU := yU.ch l7.ch
 replace ae := (ae.ch mI.ch).ch l7.ch
 have Z28 := (l5.ch.trans mI.ch).trans l7.ch
 replace un := un.ch Z28
 replace hB := ((((hB.trans nr.fr).trans ft.fr).trans l5.fr).trans mI.fr).trans l7.fr
 have Z29 := ((((((nq.ch.trans oq.ch).trans rO).trans nr.ch).trans ft.ch).trans l5.ch).trans mI.ch).trans l7.ch
 replace nc := nc.ch Z29
 have Z30 := (((((((((((pK.ch.trans eP.ch).trans sW).trans pM.ch).trans oo.ch).trans nq.ch).trans oq.ch).trans rO).trans nr.ch).trans ft.ch).trans l5.ch).trans mI.ch).trans l7.ch
 replace ip := ip.ch Z30
 have Z31 := ((((((((((((((((rB.ch.trans su.ch).trans ul).trans rC.ch).trans qO.ch).trans pK.ch).trans eP.ch).trans sW).trans pM.ch).trans oo.ch).trans nq.ch).trans oq.ch).trans rO).trans nr.ch).trans ft.ch).trans l5.ch).trans mI.ch).trans l7.ch
 replace eW := eW.ch Z31
 have Z32 := (((((((((((((((((((((ud.ch.trans ue.ch).trans wl).trans tw.ch).trans jD.ch).trans rB.ch).trans su.ch).trans ul).trans rC.ch).trans qO.ch).trans pK.ch).trans eP.ch).trans sW).trans pM.ch).trans oo.ch).trans nq.ch).trans oq.ch).trans rO).trans nr.ch).trans ft.ch).trans l5.ch).trans mI.ch).trans l7.ch
 replace d8 := d8.ch Z32
 refine Go1.loopW (S := Nat × List Int × List Rule × List Int × List Str × List Int × List Int × List (List Int) × (List (Str × Int))) (fun s σ w => match s with | (k3_548, d_549, d_555, d_561, d_567, d_573, d_579, d_585, m3_591) => ∃ (ii : Nat), ∃ (jO : Option Addr), ∃ (jP : Nat), ∃ (qx : List Value), ∃ (iF : Nat), ∃ (jr : Option Addr), ∃ (jt : Nat), ∃ (o3 : List Value), ∃ (iG : Nat), ∃ (ju : Option Addr), ∃ (jv : Nat), ∃ (o4 : List Value), ∃ (iH : Nat), ∃ (jQ : Option Addr), ∃ (jR : Nat), ∃ (o5 : List Value), ∃ (iI : Nat), ∃ (jY : Option Addr), ∃ (j3 : Nat), ∃ (o6 : List Value), ∃ (iJ : Nat), ∃ (ko : Option Addr), ∃ (kq : Nat), ∃ (o7 : List Value), ∃ (iK : Nat), ∃ (kT : Option Addr), ∃ (kU : Nat), ∃ (o8 : List Value), agrees σ [(6, .pointer (some ⟨B10, 0, none⟩)), (9, .int .i64 (0 : Int)), (85, .slice p35 n37 c36), (86, .int .i64 (d_32.length : Int)), (87, .int .i64 (k3_548 : Int))] ∧ (fun Z0 => Owns w0.heap.size w Z0 A ∧ Els (Rp.int .i64) (bl Z0 ++ A) w qx d_549 ∧ Els (rpRule) (bl Z0 ++ A) w o3 d_555 ∧ Els (Rp.int .i64) (bl Z0 ++ A) w o4 d_561 ∧ Els (Rp.str) (bl Z0 ++ A) w o5 d_567 ∧ Els (Rp.int .i64) (bl Z0 ++ A) w o6 d_573 ∧ Els (Rp.int .i64) (bl Z0 ++ A) w o7 d_579 ∧ Els (Rp.sl (Rp.int .i64)) (bl Z0 ++ A) w o8 d_585 ∧ Els (Rp.sl (Rp.int .i64)) (bl Z0 ++ A) w fo d_32 ∧ Fr (bl []) w0 (bl Z0) w) [.row 3 1 jO ii jP qx, .row 39 2 jr iF jt o3, .row 3 1 ju iG jv o4, .row 9 1 jQ iH jR o5, .row 3 1 jY iI j3 o6, .row 3 1 ko iJ kq o7, .row 26 1 kT iK kU o8, .row 26 1 p35 n37 c36 fo, .blk B10 (.cells #[.int .i64 ((ix a0 (0 : Int)).length : Int), .bool true, .slice p35 n37 c36, .slice kT iK kU, .slice ko iJ kq, .slice jY iI j3, .slice none 0 0, .slice jr iF jt, .int .i64 (0 : Int), .map (some B4), .slice jQ iH jR, .slice ju iG jv, .slice jO ii jP] 72 (0, 0)), .any (mapE (fun a : List UInt8 => Value.string (gstr a)) (fun a : Int => Value.int .i64 a) B4 m3_591)]) H ⟨0, none, 0, [], 0, none, 0, [], 0 + 1, wP, wQ, yT, 0 + 1, uG, uH, xV, 0 + 1, sO, sP, xm, 0 + 1, rm, ro, wm, 0 + 1, oY, o0, vg, ⟨rfl, rfl, rfl, rfl, rfl, trivial⟩, hO, FP, yU, un, nc, ip, eW, d8, ae, hB⟩ ?_
 intro X3
 refine prE fun k3_548 => prE fun d_549 => prE fun d_555 => prE fun d_561 => prE fun d_567 => prE fun d_573 => prE fun d_579 => prE fun d_585 => fun m3_591 => ?_
 intro H hX3 σ JS
 refine exE fun ii => exE fun jO => exE fun jP => exE fun qx => exE fun iF => exE fun jr => exE fun jt => exE fun o3 => exE fun iG => exE fun ju => exE fun jv => exE fun o4 => exE fun iH => exE fun jQ => exE fun jR => exE fun o5 => exE fun iI => exE fun jY => exE fun j3 => exE fun o6 => exE fun iJ => exE fun ko => exE fun kq => exE fun o7 => exE fun iK => exE fun kT => exE fun kU => exE fun o8 => andE fun hag => andE fun hO => andE fun bQ => andE fun bN => andE fun bW => andE fun b8 => andE fun cD => andE fun cV => andE fun dt => andE fun ae => fun hB => ?_
 dsimp only at H
 refine Go1.keep [(6, .pointer (some ⟨B10, 0, none⟩)), (9, .int .i64 (0 : Int)), (85, .slice p35 n37 c36), (86, .int .i64 (d_32.length : Int)), (87, .int .i64 (k3_548 : Int))] hag ?_
 refine zq (zr ?_)
 by_cases xC : (k3_548 : Int) < (d_32.length : Int)
 ·replace H := ifp xC H
  refine zo (fun w => opB (op_lss rfl rfl w) (decide_eq_true xC)) (zn (zq (zt rfl rfl (zk (zq ?_)))))
  refine zb (zq (zr (zm rfl ?_)))
  obtain ⟨Am, H⟩ := H
  obtain ⟨Ao, H⟩ := H
  refine zo (op_index Try.underlying22 ti26 rfl rfl Am (ltn (ae.neq hO 7 rfl) Ao) (ae.psome hO 7 rfl Am Ao)) ?_
  have hobt := oldSl 7 hO rfl ae Am Ao
  obtain ⟨CK, CM, cy, FQ⟩ := hobt
  refine zs (FQ Try.underlying26 rfl rfl) (za rfl (za rfl (zn (zq (zr ?_)))))
  refine zm rfl ?_
  obtain ⟨JT, H⟩ := H
  refine zo (op_add rfl rfl (wrap_i64 JT)) (zo (op_conv Try.underlying3 Try.underlying21 rfl rfl) ?_)
  obtain ⟨JU, H⟩ := H
  obtain ⟨JV, H⟩ := H
  refine zo (op_convRS Try.underlying21 Try.underlying9 rfl JU JV) (za rfl (zn (zq ?_)))
  refine Go1.drawS 0 [(0, .pure), (1, .pure), (2, .pure), (3, .stable), (4, .pure), (5, .loud), (6, .stable), (7, .pure), (8, .pure), (9, .pure), (10, .pure), (11, .pure)] mixed (by kernel_rfl) ?_
  intro Ng FS
  have qP := Stp.same hO FS
  replace hO := qP.own
  refine GoQ.pure rfl (op_move rfl) rfl rfl ?_
  refine GoQ.pure rfl (op_nilCheck rfl) rfl rfl ?_
  refine GoQ.pure rfl (op_fieldAddr Try.underlying72 rfl ti69 rfl (by decide)) rfl rfl ?_
  refine GoQ.stable rfl (oblk (i := 9) 8 hO rfl rfl Try.underlying69 rfl rfl) rfl rfl ?_
  refine GoQ.pure rfl (op_move rfl) rfl rfl ?_
  replace cy := cy.ch qP.ch
  refine GoQ.call rfl (op_call body61 rfl (walk_enumerate_text hO.lt cy H)) (fun v w hr => by obtain ⟨_, _, hs, _, _⟩ := hr; assumption) rfl rfl ?_
  rintro Nh Ni ⟨r605, rfl, FT, Lv, H⟩
  have qQ := Stp.same hO FT
  replace hO := qQ.own
  by_cases yV : mhas m3_591 r605 = true
  ·replace H := ifp yV H
   refine GoQ.stable rfl (olookT (a := r605) (MK.str Try.underlying9) 9 hO rfl Try.underlying69 rfl rfl yV) rfl rfl ?_
   refine GoQ.pure rfl (op_move rfl) rfl rfl ?_
   refine GoQ.pure rfl (op_extract rfl rfl) rfl rfl ?_
   refine GoQ.pure rfl (op_extract rfl rfl) rfl rfl ?_
   refine GoQ.pure rfl (op_assign rfl) rfl rfl ?_
   refine GoQ.pure rfl (op_assign rfl) rfl rfl ?_
   refine GoQ.nil ?_
   refine zq (zq ?_)
   refine Go1.cut [(6, .pointer (some ⟨B10, 0, none⟩)), (9, .int .i64 (0 : Int)), (10, .int .i64 (k3_548 : Int)), (11, .slice CK ((ix d_32 (k3_548 : Int)).length) CM), (12, .string (gstr (chr (IntKind.i32.wrap ((97 : Int) + (k3_548 : Int)))))), (13, .int .i64 (mgt m3_591 r605)), (14, .bool true), (85, .slice p35 n37 c36), (86, .int .i64 (d_32.length : Int)), (87, .int .i64 (k3_548 : Int))] ⟨rfl, rfl, rfl, rfl, rfl, rfl, rfl, rfl, rfl, rfl, trivial⟩ ?_
   intro σ _
   refine zr (zm rfl (zn (zt rfl rfl ?_)))
   refine Go1.drawS 5 [(0, .pure), (1, .pure), (2, .pure), (3, .pure), (4, .pure), (5, .stable), (6, .pure), (7, .pure), (8, .pure), (9, .pure), (10, .stable), (11, .pure), (12, .pure), (13, .stable), (14, .pure), (15, .loud), (16, .last), (17, .pure), (18, .pure), (19, .pure), (20, .last)] mixed (by kernel_rfl) ?_
   intro Nj FU
   have qR := Stp.same hO FU
   replace hO := qR.own
   refine GoQ.pure rfl (op_move rfl) rfl rfl ?_
   refine GoQ.pure rfl (op_move rfl) rfl rfl ?_
   refine GoQ.pure rfl (op_nilCheck rfl) rfl rfl ?_
   refine GoQ.pure rfl (op_fieldAddr Try.underlying72 rfl ti29 rfl (by decide)) rfl rfl ?_
   refine GoQ.pure rfl (op_fieldAddr Try.underlying29 rfl ti27 rfl (by decide)) rfl rfl ?_
   refine GoQ.stable rfl (oblk (i := 7) 8 hO rfl rfl Try.underlying27 rfl rfl) rfl rfl ?_
   refine GoQ.pure rfl (op_move rfl) rfl rfl ?_
   refine GoQ.pure rfl (op_move rfl) rfl rfl ?_
   refine GoQ.pure rfl (op_nilCheck rfl) rfl rfl ?_
   refine GoQ.pure rfl (op_fieldAddr Try.underlying72 rfl ti70 rfl (by decide)) rfl rfl ?_
   refine GoQ.stable rfl (oblk (i := 10) 8 hO rfl rfl Try.underlying70 rfl rfl) rfl rfl ?_
   refine GoQ.pure rfl (op_move rfl) rfl rfl ?_
   obtain ⟨yW, H⟩ := H
   obtain ⟨yX, H⟩ := H
   have Z33 := (qP.ch.trans qQ.ch).trans qR.ch
   replace b8 := b8.ch Z33
   refine GoQ.pure rfl (op_index Try.underlying70 ti9 rfl rfl yW (ltn (b8.neq hO 3 rfl) yX) (b8.psome hO 3 rfl yW yX)) rfl rfl ?_
   refine GoQ.stable rfl (oldStr 3 hO rfl b8 yW yX Try.underlying9 rfl rfl) rfl rfl ?_
   have hle617 := Els.str_le b8 yW yX
   refine GoQ.pure rfl (op_build Try.underlying39 ti39 (pl := [(0, 1), (1, 1)]) (vs := [(0, .string (gstr (chr (IntKind.i32.wrap ((97 : Int) + (k3_548 : Int)))))), (1, .string (gstr (ix d_567 (mgt m3_591 r605))))]) (cs := #[.string (gstr (chr (IntKind.i32.wrap ((97 : Int) + (k3_548 : Int))))), .string (gstr (ix d_567 (mgt m3_591 r605)))]) (by kernel_rfl) rfl (by kernel_rfl)) rfl rfl ?_
   have hobt := obuildN (r := rpRule) (n := 1) (parts := [(0, .agg #[.string (gstr (chr (IntKind.i32.wrap ((97 : Int) + (k3_548 : Int))))), .string (gstr (ix d_567 (mgt m3_591 r605)))])]) (vs := [.string (gstr (chr (IntKind.i32.wrap ((97 : Int) + (k3_548 : Int))))), .string (gstr (ix d_567 (mgt m3_591 r605)))]) (xs := [(⟨chr (IntKind.i32.wrap ((97 : Int) + (k3_548 : Int))), ix d_567 (mgt m3_591 r605)⟩ : Rule)]) Try.underlying27 ti39 hO (by decide) (by decide) (by kernel_rfl) (Els.flat1 (⟨chr (IntKind.i32.wrap ((97 : Int) + (k3_548 : Int))), ix d_567 (mgt m3_591 r605)⟩ : Rule) ⟨(chr_le _), hle617⟩) rfl
   obtain ⟨Nk, Nl, qS, FV, FW, CO⟩ := hobt
   refine GoQ.loud rfl (CO rfl) FW rfl rfl ?_
   replace hO := qS.own
   have hobt := freeze 0 hO rfl FV
   obtain ⟨hO1, sX, qy, FX⟩ := hobt
   dsimp only [eS, eZ] at hO1 sX qy
   replace hB := ((((hB.trans qP.fr).trans qQ.fr).trans qR.fr).trans qS.fr).trans (Owns.dropFr _ _ 0)
   dsimp only [eS, eZ] at hB
   replace hO := hO1; clear hO1
   obtain ⟨JW, H⟩ := H
   replace bN := ((bN.ch Z33).ch qS.ch).ch sX
   have hobt := oapp Try.underlying27 ti39 rfl 1 hO rfl bN qy FX JW (by decide)
   obtain ⟨Nm, yY, y3, FY, pN, rQ, CP⟩ := hobt
   dsimp only [sS, sZ] at pN rQ
   refine GoQ.last rfl (CP (by exact rfl) (by exact rfl)) rfl rfl ?_
   replace hO := pN.own
   refine GoQ.pure rfl (op_nilCheck rfl) rfl rfl ?_
   refine GoQ.pure rfl (op_fieldAddr Try.underlying72 rfl ti29 rfl (by decide)) rfl rfl ?_
   refine GoQ.pure rfl (op_fieldAddr Try.underlying29 rfl ti27 rfl (by decide)) rfl rfl ?_
   have hobt := oblkSt2 (v := .slice yY (iF + 1) y3) (i := 7) (cs' := #[.int .i64 ((ix a0 (0 : Int)).length : Int), .bool true, .slice p35 n37 c36, .slice kT iK kU, .slice ko iJ kq, .slice jY iI j3, .slice none 0 0, .slice yY (iF + 1) y3, .int .i64 (0 : Int), .map (some B4), .slice jQ iH jR, .slice ju iG jv, .slice jO ii jP]) 8 hO rfl rfl rfl rfl
   obtain ⟨Nn, ot, CQ⟩ := hobt
   dsimp only [sS, sZ] at ot
   refine GoQ.last rfl (CQ Try.underlying27 rfl ti27 (by exact rfl) (by exact rfl)) rfl rfl ?_
   replace hO := ot.own
   refine GoQ.nil ?_
   refine Go1.cut [(6, .pointer (some ⟨B10, 0, none⟩)), (9, .int .i64 (0 : Int)), (13, .int .i64 (mgt m3_591 r605)), (85, .slice p35 n37 c36), (86, .int .i64 (d_32.length : Int)), (87, .int .i64 (k3_548 : Int))] ⟨rfl, rfl, rfl, rfl, rfl, rfl, trivial⟩ ?_
   intro σ _
   refine zr (zm rfl (zm rfl (zo (op_nilCheck rfl) (zo (op_fieldAddr Try.underlying72 rfl ti26 rfl (by decide)) (zs (oblk (i := 12) 8 hO rfl rfl Try.underlying26 rfl rfl) ?_)))))
   refine zm rfl ?_
   have hobt := obuild (r := Rp.int .i64) (n := 1) (parts := [(0, .int .i64 (mgt m3_591 r605))]) (vs := [.int .i64 (mgt m3_591 r605)]) (xs := [(mgt m3_591 r605)]) rfl Try.underlying26 ti3 hO (by decide) (by kernel_rfl) (Els.cons rfl rfl (Els.nil _ _ _) (by simp [mx])) rfl
   obtain ⟨Np, Nq, pO, F0, LT, CR⟩ := hobt
   refine zg (CR rfl) ?_
   replace hO := pO.own
   have hobt := freeze 0 hO rfl F0
   obtain ⟨hO1, sv, wn, F1⟩ := hobt
   dsimp only [eS, eZ] at hO1 sv wn
   replace hB := (((hB.trans pN.fr).trans ot.fr).trans pO.fr).trans (Owns.dropFr _ _ 0)
   dsimp only [eS, eZ] at hB
   replace hO := hO1; clear hO1
   obtain ⟨JX, H⟩ := H
   have Z34 := (((((Z33.trans qS.ch).trans sX).trans pN.ch).trans ot.ch).trans pO.ch).trans sv
   replace bQ := bQ.ch Z34
   have hobt := oapp Try.underlying26 ti3 rfl 0 hO rfl bQ wn F1 JX (by decide)
   obtain ⟨Nr, Ap, Aq, F2, ou, xW, CT⟩ := hobt
   dsimp only [sS, sZ] at ou xW
   refine zg (CT (by exact rfl) (by exact rfl)) ?_
   replace hO := ou.own
   refine zo (op_nilCheck rfl) (zo (op_fieldAddr Try.underlying72 rfl ti26 rfl (by decide)) ?_)
   have hobt := oblkSt2 (v := .slice Ap (ii + 1) Aq) (i := 12) (cs' := #[.int .i64 ((ix a0 (0 : Int)).length : Int), .bool true, .slice p35 n37 c36, .slice kT iK kU, .slice ko iJ kq, .slice jY iI j3, .slice none 0 0, .slice yY (iF + 1) y3, .int .i64 (0 : Int), .map (some B4), .slice jQ iH jR, .slice ju iG jv, .slice Ap (ii + 1) Aq]) 8 hO rfl rfl rfl rfl
   obtain ⟨Ns, ns, CU⟩ := hobt
   dsimp only [sS, sZ] at ns
   refine zg (CU Try.underlying26 rfl ti26 (by exact rfl) (by exact rfl)) ?_
   replace hO := ns.own
   refine zn ?_
   refine Go1.inBlock ?_
   refine zr ?_
   replace ae := ((ae.ch Z34).ch ou.ch).ch ns.ch
   refine zo (op_add rfl rfl (wrap_i64 (natbd xC ae.bd))) (zm rfl (zn ?_))
   replace xW := xW.ch ns.ch
   replace hB := (hB.trans ou.fr).trans ns.fr
   have Z35 := (((ot.ch.trans pO.ch).trans sv).trans ou.ch).trans ns.ch
   replace rQ := rQ.ch Z35
   have Z36 := ((((((qS.ch.trans sX).trans pN.ch).trans ot.ch).trans pO.ch).trans sv).trans ou.ch).trans ns.ch
   replace b8 := b8.ch Z36
   have Z37 := (Z34.trans ou.ch).trans ns.ch
   replace bW := bW.ch Z37
   replace cD := cD.ch Z37
   replace cV := cV.ch Z37
   replace dt := dt.ch Z37
   exact hX3 _ H _ _ ⟨ii + 1, Ap, Aq, F2, iF + 1, yY, y3, FY, iG, ju, jv, o4, iH, jQ, jR, o5, iI, jY, j3, o6, iJ, ko, kq, o7, iK, kT, kU, o8, ⟨rfl, rfl, rfl, rfl, rfl, trivial⟩, hO, xW, rQ, bW, b8, cD, cV, dt, ae, hB⟩
  replace H := ifn yV H
  refine GoQ.stable rfl (olookF (a := r605) (MK.str Try.underlying9) 9 hO rfl Try.underlying69 ti3 rfl rfl yV) rfl rfl ?_
  refine GoQ.pure rfl (op_move rfl) rfl rfl ?_
  refine GoQ.pure rfl (op_extract rfl rfl) rfl rfl ?_
  refine GoQ.pure rfl (op_extract rfl rfl) rfl rfl ?_
  refine GoQ.pure rfl (op_assign rfl) rfl rfl ?_
  refine GoQ.pure rfl (op_assign rfl) rfl rfl ?_
  refine GoQ.nil ?_
  refine zq (zq (zr (zm rfl (zn (zf rfl rfl ?_)))))
  refine Go1.cut [(6, .pointer (some ⟨B10, 0, none⟩)), (9, .int .i64 (0 : Int)), (10, .int .i64 (k3_548 : Int)), (11, .slice CK ((ix d_32 (k3_548 : Int)).length) CM), (12, .string (gstr (chr (IntKind.i32.wrap ((97 : Int) + (k3_548 : Int)))))), (85, .slice p35 n37 c36), (86, .int .i64 (d_32.length : Int)), (87, .int .i64 (k3_548 : Int))] ⟨rfl, rfl, rfl, rfl, rfl, rfl, rfl, rfl, trivial⟩ ?_
  intro σ _
  refine zr (zm rfl (zm rfl ?_))
  replace cy := cy.ch qQ.ch
  refine GoR.call (op_call body64 rfl (walk_slices_Clone_int hO.lt cy H)) rfl rfl ?_
  rintro Nt Nu ⟨r662, vX, tx, tz, Lw, rfl, F3, hN666, sY, H⟩
  have pP := Stp.more hO F3 hN666
  dsimp only [List.cons_append, List.nil_append] at pP
  replace hO := pP.own
  refine zm rfl (zm rfl (zm rfl (zm rfl ?_)))
  refine GoR.inl (vs := [.pointer (some ⟨B10, 0, none⟩), .slice tx vX tz, .int .i64 (0 : Int), .int .i64 (k3_548 : Int), .string (gstr (chr (IntKind.i32.wrap ((97 : Int) + (k3_548 : Int))))), .int .i64 (0 : Int)]) (caps := []) rfl rfl body65 Try.func65 rfl Try.ntmps65 rfl rfl rfl ?_
  intro RhR670 hR670
  refine zq (zr (za rfl (zn (zq (zr ?_)))))
  refine zm rfl (zo (op_nilCheck rfl) (zo (op_fieldAddr Try.underlying72 rfl ti29 rfl (by decide)) (zo (op_fieldAddr Try.underlying29 rfl ti22 rfl (by decide)) (zs (oblk (i := 3) 9 hO rfl rfl Try.underlying22 rfl rfl) ?_))))
  have Z38 := (qP.ch.trans qQ.ch).trans pP.ch
  replace dt := dt.ch Z38
  refine zo (op_lenN Try.underlying22 rfl (dt.neq hO 7 rfl)) (za rfl (zn (zq ?_)))
  refine Go1.drawS 1 [(0, .pure), (1, .pure), (2, .pure), (3, .stable), (4, .pure), (6, .pure), (5, .loud), (7, .last)] mixed (by kernel_rfl) ?_
  intro Nv F4
  have pQ := Stp.same hO F4
  replace hO := pQ.own
  refine GoQ.pure rfl (op_move rfl) rfl rfl ?_
  refine GoQ.pure rfl (op_nilCheck rfl) rfl rfl ?_
  refine GoQ.pure rfl (op_fieldAddr Try.underlying72 rfl ti69 rfl (by decide)) rfl rfl ?_
  refine GoQ.stable rfl (oblk (i := 9) 9 hO rfl rfl Try.underlying69 rfl rfl) rfl rfl ?_
  refine GoQ.pure rfl (op_move rfl) rfl rfl ?_
  refine GoQ.pure rfl (op_move rfl) rfl rfl ?_
  replace sY := (sY.ch (Ch.assoc _ _ _ _)).ch pQ.ch
  have hobt := rowlend 0 hO rfl sY
  obtain ⟨F5, F6⟩ := hobt
  have hOc676 := hO.drop 0
  refine GoQ.call rfl (op_call body61 (show ([.slice tx vX tz] : List Value) = [.slice tx r662.length tz] from by rw [← F6]) (walk_enumerate_text hOc676.lt F5 H)) (fun v w hr => by obtain ⟨_, _, hs, _, _⟩ := hr; assumption) rfl rfl ?_
  rintro Nw Nx ⟨r677, rfl, F7, Lx, H⟩
  have pS := Stp.same hO F7
  replace hO := pS.own
  have hobt := omapUpd (MK.str Try.underlying9) 10 hO rfl Try.underlying69 r677 (d_585.length : Int)
  obtain ⟨Ny, ov, CV⟩ := hobt
  dsimp only [sS, sZ] at ov
  refine GoQ.last rfl (CV (by exact rfl) (by exact rfl) (by exact rfl)) rfl rfl ?_
  replace hO := ov.own
  refine GoQ.nil ?_
  refine zq ?_
  refine Go1.cut [(0, .pointer (some ⟨B10, 0, none⟩)), (1, .slice tx vX tz), (2, .int .i64 (0 : Int)), (3, .int .i64 (k3_548 : Int)), (4, .string (gstr (chr (IntKind.i32.wrap ((97 : Int) + (k3_548 : Int)))))), (5, .int .i64 (0 : Int)), (13, .int .i64 (d_585.length : Int))] ⟨rfl, rfl, rfl, rfl, rfl, rfl, rfl, trivial⟩ ?_
  intro σ _
  refine zr (zm rfl (zm rfl (zo (op_nilCheck rfl) (zo (op_fieldAddr Try.underlying72 rfl ti29 rfl (by decide)) (zo (op_fieldAddr Try.underlying29 rfl ti22 rfl (by decide)) ?_)))))
  refine zs (oblk (i := 3) 9 hO rfl rfl Try.underlying22 rfl rfl) (zm rfl ?_)
  replace sY := (sY.ch pS.ch).ch ov.ch
  have hobt := freeze 0 hO rfl sY
  obtain ⟨hO1, ta, dY, F8⟩ := hobt
  dsimp only [eS, eZ] at hO1 ta dY
  replace hB := ((((((hB.trans qP.fr).trans qQ.fr).trans pP.fr).trans pQ.fr).trans pS.fr).trans ov.fr).trans (Owns.dropFr _ _ 0)
  dsimp only [eS, eZ] at hB
  replace hO := hO1; clear hO1
  have hobt := obuild (r := Rp.sl (Rp.int .i64)) (n := 1) (parts := [(0, .slice tx vX tz)]) (vs := [.slice tx vX tz]) (xs := [r662]) rfl Try.underlying22 ti26 hO (by decide) (by kernel_rfl) (Els.cons rfl ⟨tx, tz, congrArg some (congrArg (fun nn => Value.slice tx nn tz) F8), dY⟩ (Els.nil _ _ _) (by simp [mx])) rfl
  obtain ⟨Nz, NA, pT, F9, LU, CW⟩ := hobt
  refine zg (CW rfl) ?_
  replace hO := pT.own
  have hobt := freeze 0 hO rfl F9
  obtain ⟨hO1, sw, eh, Ga⟩ := hobt
  dsimp only [eS, eZ] at hO1 sw eh
  replace hB := (hB.trans pT.fr).trans (Owns.dropFr _ _ 0)
  dsimp only [eS, eZ] at hB
  replace hO := hO1; clear hO1
  obtain ⟨JY, H⟩ := H
  have Z39 := ((((pQ.ch.trans pS.ch).trans ov.ch).trans ta).trans pT.ch).trans sw
  replace dt := dt.ch Z39
  have hobt := oapp Try.underlying22 ti26 rfl 6 hO rfl dt eh Ga JY (by decide)
  obtain ⟨NB, vY, v3, Gb, ow, eC, CX⟩ := hobt
  dsimp only [sS, sZ] at ow eC
  refine zg (CX (by exact rfl) (by exact rfl)) ?_
  replace hO := ow.own
  refine zo (op_nilCheck rfl) (zo (op_fieldAddr Try.underlying72 rfl ti29 rfl (by decide)) (zo (op_fieldAddr Try.underlying29 rfl ti22 rfl (by decide)) ?_))
  have hobt := oblkSt2 (v := .slice vY (iK + 1) v3) (i := 3) (cs' := #[.int .i64 ((ix a0 (0 : Int)).length : Int), .bool true, .slice p35 n37 c36, .slice vY (iK + 1) v3, .slice ko iJ kq, .slice jY iI j3, .slice none 0 0, .slice jr iF jt, .int .i64 (0 : Int), .map (some B4), .slice jQ iH jR, .slice ju iG jv, .slice jO ii jP]) 8 hO rfl rfl rfl rfl
  obtain ⟨NC, nt, C0⟩ := hobt
  dsimp only [sS, sZ] at nt
  refine zg (C0 Try.underlying22 rfl ti22 (by exact rfl) (by exact rfl)) ?_
  replace hO := nt.own
  refine zn (zq (zr (zm rfl (zm rfl (zo (op_nilCheck rfl) ?_)))))
  refine zo (op_fieldAddr Try.underlying72 rfl ti29 rfl (by decide)) (zo (op_fieldAddr Try.underlying29 rfl ti26 rfl (by decide)) (zs (oblk (i := 4) 8 hO rfl rfl Try.underlying26 rfl rfl) (zm rfl ?_)))
  have hobt := obuild (r := Rp.int .i64) (n := 1) (parts := [(0, .int .i64 (0 : Int))]) (vs := [.int .i64 (0 : Int)]) (xs := [(0 : Int)]) rfl Try.underlying26 ti3 hO (by decide) (by kernel_rfl) (Els.cons rfl rfl (Els.nil _ _ _) (by simp [mx])) rfl
  obtain ⟨ND, NE, oA, Gc, LV, C1⟩ := hobt
  refine zg (C1 rfl) ?_
  replace hO := oA.own
  have hobt := freeze 0 hO rfl Gc
  obtain ⟨hO1, rR, eX, Gd⟩ := hobt
  dsimp only [eS, eZ] at hO1 rR eX
  replace hB := (((hB.trans ow.fr).trans nt.fr).trans oA.fr).trans (Owns.dropFr _ _ 0)
  dsimp only [eS, eZ] at hB
  replace hO := hO1; clear hO1
  obtain ⟨J0, H⟩ := H
  have Z40 := (((((((((Z38.trans pQ.ch).trans pS.ch).trans ov.ch).trans ta).trans pT.ch).trans sw).trans ow.ch).trans nt.ch).trans oA.ch).trans rR
  replace cV := cV.ch Z40
  have hobt := oapp Try.underlying26 ti3 rfl 5 hO rfl cV eX Gd J0 (by decide)
  obtain ⟨NF, wR, wS, Ge, nu, fx, C2⟩ := hobt
  dsimp only [sS, sZ] at nu fx
  refine zg (C2 (by exact rfl) (by exact rfl)) ?_
  replace hO := nu.own
  refine zo (op_nilCheck rfl) (zo (op_fieldAddr Try.underlying72 rfl ti29 rfl (by decide)) (zo (op_fieldAddr Try.underlying29 rfl ti26 rfl (by decide)) ?_))
  have hobt := oblkSt2 (v := .slice wR (iJ + 1) wS) (i := 4) (cs' := #[.int .i64 ((ix a0 (0 : Int)).length : Int), .bool true, .slice p35 n37 c36, .slice vY (iK + 1) v3, .slice wR (iJ + 1) wS, .slice jY iI j3, .slice none 0 0, .slice jr iF jt, .int .i64 (0 : Int), .map (some B4), .slice jQ iH jR, .slice ju iG jv, .slice jO ii jP]) 8 hO rfl rfl rfl rfl
  obtain ⟨NG, mJ, C3⟩ := hobt
  dsimp only [sS, sZ] at mJ
  refine zg (C3 Try.underlying26 rfl ti26 (by exact rfl) (by exact rfl)) ?_
  replace hO := mJ.own
  refine zn (zq ?_)
  refine Go1.cut [(0, .pointer (some ⟨B10, 0, none⟩)), (3, .int .i64 (k3_548 : Int)), (4, .string (gstr (chr (IntKind.i32.wrap ((97 : Int) + (k3_548 : Int)))))), (5, .int .i64 (0 : Int)), (13, .int .i64 (d_585.length : Int))] ⟨rfl, rfl, rfl, rfl, rfl, trivial⟩ ?_
  intro σ _
  refine zr (zm rfl (zm rfl (zo (op_nilCheck rfl) (zo (op_fieldAddr Try.underlying72 rfl ti29 rfl (by decide)) (zo (op_fieldAddr Try.underlying29 rfl ti26 rfl (by decide)) ?_)))))
  refine zs (oblk (i := 5) 8 hO rfl rfl Try.underlying26 rfl rfl) (zm rfl ?_)
  have hobt := obuild (r := Rp.int .i64) (n := 1) (parts := [(0, .int .i64 (k3_548 : Int))]) (vs := [.int .i64 (k3_548 : Int)]) (xs := [(k3_548 : Int)]) rfl Try.underlying26 ti3 hO (by decide) (by kernel_rfl) (Els.cons rfl rfl (Els.nil _ _ _) (by simp [mx])) rfl
  obtain ⟨NH, NI, nv, Gf, LX, C4⟩ := hobt
  refine zg (C4 rfl) ?_
  replace hO := nv.own
  have hobt := freeze 0 hO rfl Gf
  obtain ⟨hO1, rb, g7, Gg⟩ := hobt
  dsimp only [eS, eZ] at hO1 rb g7
  replace hB := (((hB.trans nu.fr).trans mJ.fr).trans nv.fr).trans (Owns.dropFr _ _ 0)
  dsimp only [eS, eZ] at hB
  replace hO := hO1; clear hO1
  obtain ⟨J1, H⟩ := H
  have Z41 := (((Z40.trans nu.ch).trans mJ.ch).trans nv.ch).trans rb
  replace cD := cD.ch Z41
  have hobt := oapp Try.underlying26 ti3 rfl 4 hO rfl cD g7 Gg J1 (by decide)
  obtain ⟨NJ, xD, xE, Gh, mK, iq, C5⟩ := hobt
  dsimp only [sS, sZ] at mK iq
  refine zg (C5 (by exact rfl) (by exact rfl)) ?_
  replace hO := mK.own
  refine zo (op_nilCheck rfl) (zo (op_fieldAddr Try.underlying72 rfl ti29 rfl (by decide)) (zo (op_fieldAddr Try.underlying29 rfl ti26 rfl (by decide)) ?_))
  have hobt := oblkSt2 (v := .slice xD (iI + 1) xE) (i := 5) (cs' := #[.int .i64 ((ix a0 (0 : Int)).length : Int), .bool true, .slice p35 n37 c36, .slice vY (iK + 1) v3, .slice wR (iJ + 1) wS, .slice xD (iI + 1) xE, .slice none 0 0, .slice jr iF jt, .int .i64 (0 : Int), .map (some B4), .slice jQ iH jR, .slice ju iG jv, .slice jO ii jP]) 8 hO rfl rfl rfl rfl
  obtain ⟨NK, l8, C6⟩ := hobt
  dsimp only [sS, sZ] at l8
  refine zg (C6 Try.underlying26 rfl ti26 (by exact rfl) (by exact rfl)) ?_
  replace hO := l8.own
  refine zn (zq (zr (zm rfl (zm rfl (zo (op_nilCheck rfl) ?_)))))
  refine zo (op_fieldAddr Try.underlying72 rfl ti70 rfl (by decide)) (zs (oblk (i := 10) 8 hO rfl rfl Try.underlying70 rfl rfl) (zm rfl ?_))
  have hobt := obuild (r := Rp.str) (n := 1) (parts := [(0, .string (gstr (chr (IntKind.i32.wrap ((97 : Int) + (k3_548 : Int))))))]) (vs := [.string (gstr (chr (IntKind.i32.wrap ((97 : Int) + (k3_548 : Int)))))]) (xs := [chr (IntKind.i32.wrap ((97 : Int) + (k3_548 : Int)))]) rfl Try.underlying70 ti9 hO (by decide) (by kernel_rfl) (Els.cons rfl ⟨rfl, (chr_le _)⟩ (Els.nil _ _ _) (by simp [mx])) rfl
  obtain ⟨NL, NM, mM, Gi, LY, C7⟩ := hobt
  refine zg (C7 rfl) ?_
  replace hO := mM.own
  have hobt := freeze 0 hO rfl Gi
  obtain ⟨hO1, qz, ku, Gj⟩ := hobt
  dsimp only [eS, eZ] at hO1 qz ku
  replace hB := (((hB.trans mK.fr).trans l8.fr).trans mM.fr).trans (Owns.dropFr _ _ 0)
  dsimp only [eS, eZ] at hB
  replace hO := hO1; clear hO1
  obtain ⟨J2, H⟩ := H
  have Z42 := (((Z41.trans mK.ch).trans l8.ch).trans mM.ch).trans qz
  replace b8 := b8.ch Z42
  have hobt := oapp Try.underlying70 ti9 rfl 3 hO rfl b8 ku Gj J2 (by decide)
  obtain ⟨NN, yk, yl, Gk, l9, lM, C8⟩ := hobt
  dsimp only [sS, sZ] at l9 lM
  refine zg (C8 (by exact rfl) (by exact rfl)) ?_
  replace hO := l9.own
  refine zo (op_nilCheck rfl) (zo (op_fieldAddr Try.underlying72 rfl ti70 rfl (by decide)) ?_)
  have hobt := oblkSt2 (v := .slice yk (iH + 1) yl) (i := 10) (cs' := #[.int .i64 ((ix a0 (0 : Int)).length : Int), .bool true, .slice p35 n37 c36, .slice vY (iK + 1) v3, .slice wR (iJ + 1) wS, .slice xD (iI + 1) xE, .slice none 0 0, .slice jr iF jt, .int .i64 (0 : Int), .map (some B4), .slice yk (iH + 1) yl, .slice ju iG jv, .slice jO ii jP]) 8 hO rfl rfl rfl rfl
  obtain ⟨NO, lb, C9⟩ := hobt
  dsimp only [sS, sZ] at lb
  refine zg (C9 Try.underlying70 rfl ti70 (by exact rfl) (by exact rfl)) ?_
  replace hO := lb.own
  refine zn (zq ?_)
  refine Go1.cut [(0, .pointer (some ⟨B10, 0, none⟩)), (5, .int .i64 (0 : Int)), (13, .int .i64 (d_585.length : Int))] ⟨rfl, rfl, rfl, trivial⟩ ?_
  intro σ _
  refine zr (zm rfl (zm rfl (zo (op_nilCheck rfl) (zo (op_fieldAddr Try.underlying72 rfl ti26 rfl (by decide)) (zs (oblk (i := 11) 8 hO rfl rfl Try.underlying26 rfl rfl) ?_)))))
  refine zm rfl ?_
  have hobt := obuild (r := Rp.int .i64) (n := 1) (parts := [(0, .int .i64 (0 : Int))]) (vs := [.int .i64 (0 : Int)]) (xs := [(0 : Int)]) rfl Try.underlying26 ti3 hO (by decide) (by kernel_rfl) (Els.cons rfl rfl (Els.nil _ _ _) (by simp [mx])) rfl
  obtain ⟨NP, NQ, ma, Gl, L1, Db⟩ := hobt
  refine zg (Db rfl) ?_
  replace hO := ma.own
  have hobt := freeze 0 hO rfl Gl
  obtain ⟨hO1, o9, qA, Gm⟩ := hobt
  dsimp only [eS, eZ] at hO1 o9 qA
  replace hB := (((hB.trans l9.fr).trans lb.fr).trans ma.fr).trans (Owns.dropFr _ _ 0)
  dsimp only [eS, eZ] at hB
  replace hO := hO1; clear hO1
  obtain ⟨J3, H⟩ := H
  have Z43 := (((Z42.trans l9.ch).trans lb.ch).trans ma.ch).trans o9
  replace bW := bW.ch Z43
  have hobt := oapp Try.underlying26 ti3 rfl 2 hO rfl bW qA Gm J3 (by decide)
  obtain ⟨NR, y4, y5, Gn, ld, rS, Dc⟩ := hobt
  dsimp only [sS, sZ] at ld rS
  refine zg (Dc (by exact rfl) (by exact rfl)) ?_
  replace hO := ld.own
  refine zo (op_nilCheck rfl) (zo (op_fieldAddr Try.underlying72 rfl ti26 rfl (by decide)) ?_)
  have hobt := oblkSt2 (v := .slice y4 (iG + 1) y5) (i := 11) (cs' := #[.int .i64 ((ix a0 (0 : Int)).length : Int), .bool true, .slice p35 n37 c36, .slice vY (iK + 1) v3, .slice wR (iJ + 1) wS, .slice xD (iI + 1) xE, .slice none 0 0, .slice jr iF jt, .int .i64 (0 : Int), .map (some B4), .slice yk (iH + 1) yl, .slice y4 (iG + 1) y5, .slice jO ii jP]) 8 hO rfl rfl rfl rfl
  obtain ⟨NS, kB, Dd⟩ := hobt
  dsimp only [sS, sZ] at kB
  refine zg (Dd Try.underlying26 rfl ti26 (by exact rfl) (by exact rfl)) ?_
  replace hO := kB.own
  refine zn (zq (zr (zm rfl (za rfl (zn ?_)))))
  refine Go1.ret1V Try.func65 rfl (show _ = .int .i64 (d_585.length : Int) from rfl) ?_
  refine hR670 _ _ ?_
  refine za rfl (zn (zr (zm rfl (zm rfl (zo (op_nilCheck rfl) ?_)))))
  refine zo (op_fieldAddr Try.underlying72 rfl ti26 rfl (by decide)) (zs (oblk (i := 12) 8 hO rfl rfl Try.underlying26 rfl rfl) (zm rfl ?_))
  have hobt := obuild (r := Rp.int .i64) (n := 1) (parts := [(0, .int .i64 (d_585.length : Int))]) (vs := [.int .i64 (d_585.length : Int)]) (xs := [(d_585.length : Int)]) rfl Try.underlying26 ti3 hO (by decide) (by kernel_rfl) (Els.cons rfl rfl (Els.nil _ _ _) (by simp [mx])) rfl
  obtain ⟨NT, NU, lg, Gp, L5, De⟩ := hobt
  refine zg (De rfl) ?_
  replace hO := lg.own
  have hobt := freeze 0 hO rfl Gp
  obtain ⟨hO1, nY, wo, Gq⟩ := hobt
  dsimp only [eS, eZ] at hO1 nY wo
  replace hB := (((hB.trans ld.fr).trans kB.fr).trans lg.fr).trans (Owns.dropFr _ _ 0)
  dsimp only [eS, eZ] at hB
  replace hO := hO1; clear hO1
  obtain ⟨J4, H⟩ := H
  have Z44 := (((Z43.trans ld.ch).trans kB.ch).trans lg.ch).trans nY
  replace bQ := bQ.ch Z44
  have hobt := oapp Try.underlying26 ti3 rfl 0 hO rfl bQ wo Gq J4 (by decide)
  obtain ⟨NV, Ar, At, Gr, kC, xX, Df⟩ := hobt
  dsimp only [sS, sZ] at kC xX
  refine zg (Df (by exact rfl) (by exact rfl)) ?_
  replace hO := kC.own
  refine zo (op_nilCheck rfl) (zo (op_fieldAddr Try.underlying72 rfl ti26 rfl (by decide)) ?_)
  have hobt := oblkSt2 (v := .slice Ar (ii + 1) At) (i := 12) (cs' := #[.int .i64 ((ix a0 (0 : Int)).length : Int), .bool true, .slice p35 n37 c36, .slice vY (iK + 1) v3, .slice wR (iJ + 1) wS, .slice xD (iI + 1) xE, .slice none 0 0, .slice jr iF jt, .int .i64 (0 : Int), .map (some B4), .slice yk (iH + 1) yl, .slice y4 (iG + 1) y5, .slice Ar (ii + 1) At]) 8 hO rfl rfl rfl rfl
  obtain ⟨NW, j4, Dg⟩ := hobt
  dsimp only [sS, sZ] at j4
  refine zg (Dg Try.underlying26 rfl ti26 (by exact rfl) (by exact rfl)) ?_
  replace hO := j4.own
  refine zn ?_
  refine Go1.inBlock ?_
  refine Go1.cut [(6, .pointer (some ⟨B10, 0, none⟩)), (9, .int .i64 (0 : Int)), (85, .slice p35 n37 c36), (86, .int .i64 (d_32.length : Int)), (87, .int .i64 (k3_548 : Int))] ⟨rfl, rfl, rfl, rfl, rfl, trivial⟩ ?_
  intro σ _
  refine zr ?_
  replace ae := ((ae.ch Z44).ch kC.ch).ch j4.ch
  refine zo (op_add rfl rfl (wrap_i64 (natbd xC ae.bd))) (zm rfl (zn ?_))
  replace xX := xX.ch j4.ch
  replace hB := (hB.trans kC.fr).trans j4.fr
  have Z45 := (((kB.ch.trans lg.ch).trans nY).trans kC.ch).trans j4.ch
  replace rS := rS.ch Z45
  have Z46 := (((((((lb.ch.trans ma.ch).trans o9).trans ld.ch).trans kB.ch).trans lg.ch).trans nY).trans kC.ch).trans j4.ch
  replace lM := lM.ch Z46
  have Z47 := (((((((((((l8.ch.trans mM.ch).trans qz).trans l9.ch).trans lb.ch).trans ma.ch).trans o9).trans ld.ch).trans kB.ch).trans lg.ch).trans nY).trans kC.ch).trans j4.ch
  replace iq := iq.ch Z47
  have Z48 := (((((((((((((((mJ.ch.trans nv.ch).trans rb).trans mK.ch).trans l8.ch).trans mM.ch).trans qz).trans l9.ch).trans lb.ch).trans ma.ch).trans o9).trans ld.ch).trans kB.ch).trans lg.ch).trans nY).trans kC.ch).trans j4.ch
  replace fx := fx.ch Z48
  have Z49 := (((((((((((((((((((nt.ch.trans oA.ch).trans rR).trans nu.ch).trans mJ.ch).trans nv.ch).trans rb).trans mK.ch).trans l8.ch).trans mM.ch).trans qz).trans l9.ch).trans lb.ch).trans ma.ch).trans o9).trans ld.ch).trans kB.ch).trans lg.ch).trans nY).trans kC.ch).trans j4.ch
  replace eC := eC.ch Z49
  replace bN := ((bN.ch Z44).ch kC.ch).ch j4.ch
  exact hX3 _ H _ _ ⟨ii + 1, Ar, At, Gr, iF, jr, jt, o3, iG + 1, y4, y5, Gn, iH + 1, yk, yl, Gk, iI + 1, xD, xE, Gh, iJ + 1, wR, wS, Ge, iK + 1, vY, v3, Gb, ⟨rfl, rfl, rfl, rfl, rfl, trivial⟩, hO, xX, bN, rS, lM, iq, fx, eC, ae, hB⟩
 replace H := ifn xC H
 refine zo (fun w => opB (op_lss rfl rfl w) (decide_eq_false xC)) (zn (zq (zf rfl rfl ?_)))
 refine Go1.exit rfl ?_
 refine zq (zr (zm rfl (za rfl (za rfl (zn ?_)))))
 have rD := Stp.nil (e := 26) (r := 1) hO
 replace hO := rD.own
 have j5 := Els.nil (Rp.sl (Rp.int .i64)) (bl (.row 26 1 none 0 0 [] :: [.row 3 1 jO ii jP qx, .row 39 2 jr iF jt o3, .row 3 1 ju iG jv o4, .row 9 1 jQ iH jR o5, .row 3 1 jY iI j3 o6, .row 3 1 ko iJ kq o7, .row 26 1 kT iK kU o8, .row 26 1 p35 n37 c36 fo, .blk B10 (.cells #[.int .i64 ((ix a0 (0 : Int)).length : Int), .bool true, .slice p35 n37 c36, .slice kT iK kU, .slice ko iJ kq, .slice jY iI j3, .slice none 0 0, .slice jr iF jt, .int .i64 (0 : Int), .map (some B4), .slice jQ iH jR, .slice ju iG jv, .slice jO ii jP] 72 (0, 0)), .any (mapE (fun a : List UInt8 => Value.string (gstr a)) (fun a : Int => Value.int .i64 a) B4 m3_591)]) ++ A) JS
 have pU := Stp.front 10 hO rfl
 dsimp only [eS, eZ] at pU
 replace hO := pU.own
 have pV := Stp.front 2 hO rfl
 dsimp only [eS, eZ] at pV
 replace hO := pV.own
 have pW := Stp.front 4 hO rfl
 dsimp only [eS, eZ] at pW
 replace hO := pW.own
 have pX := Stp.front 5 hO rfl
 dsimp only [eS, eZ] at pX
 replace hO := pX.own
 have pY := Stp.front 5 hO rfl
 dsimp only [eS, eZ] at pY
 replace hO := pY.own
 have p5 := Stp.front 5 hO rfl
 dsimp only [eS, eZ] at p5
 replace hO := p5.own
 have qa := Stp.front 6 hO rfl
 dsimp only [eS, eZ] at qa
 replace hO := qa.own
 have qb := Stp.front 7 hO rfl
 dsimp only [eS, eZ] at qb
 replace hO := qb.own
 have qc := Stp.front 8 hO rfl
 dsimp only [eS, eZ] at qc
 replace hO := qc.own
 have qd := Stp.front 9 hO rfl
 dsimp only [eS, eZ] at qd
 replace hO := qd.own
 have qe := Stp.front 10 hO rfl
 dsimp only [eS, eZ] at qe
 replace hO := qe.own
 refine Go1.ret2 Try.func49 rfl ?_
 have Z50 := (((((((((pU.ch.trans pV.ch).trans pW.ch).trans pX.ch).trans pY.ch).trans p5.ch).trans qa.ch).trans qb.ch).trans qc.ch).trans qd.ch).trans qe.ch
 replace j5 := j5.ch Z50
 have Z51 := ((((((((((rD.ch.trans pU.ch).trans pV.ch).trans pW.ch).trans pX.ch).trans pY.ch).trans p5.ch).trans qa.ch).trans qb.ch).trans qc.ch).trans qd.ch).trans qe.ch
 replace bQ := bQ.ch Z51
 replace bN := bN.ch Z51
 replace bW := bW.ch Z51
 replace b8 := b8.ch Z51
 replace cD := cD.ch Z51
 replace cV := cV.ch Z51
 replace dt := dt.ch Z51
 replace ae := ae.ch Z51
 replace hB := (((((((((((hB.trans rD.fr).trans pU.fr).trans pV.fr).trans pW.fr).trans pX.fr).trans pY.fr).trans p5.fr).trans qa.fr).trans qb.fr).trans qc.fr).trans qd.fr).trans qe.fr
 exact Or.inr ⟨(⟨(⟨((ix a0 (0 : Int)).length : Int), true, d_32, d_585, d_579, d_573, ([] : List (List Int)), d_555, (0 : Int)⟩ : Enum), m3_591, d_567, d_561, d_549⟩ : run), ((0 : Int)), B10, n37, p35, c36, fo, iK, kT, kU, o8, iJ, ko, kq, o7, iI, jY, j3, o6, 0, none, 0, ([]), iF, jr, jt, o3, B4, iH, jQ, jR, o5, iG, ju, jv, o4, ii, jO, jP, qx, rfl, hB.same, hO, ae, dt, cV, cD, j5, bN, b8, bW, bQ, H⟩
theorem body37 : Body Try.prog 37 := ⟨Try.f37, Try.func37, rfl, by kernel_rfl⟩
theorem walk_trans_Compose {A : List Nat} {w0 : World} {p_f : Option Addr} {c_f : Nat} {p_g : Option Addr} {c_g : Nat} {f : List Int} {g : List Int} (hA : ∀ b ∈ A, b < w0.heap.size) (h_f : ISl (Rp.int .i64) A w0 p_f c_f f) (h_g : ISl (Rp.int .i64) A w0 p_g c_g g) {K : List Int → Prop} (H : trans_Compose f g K) :
    CallsV Try.prog 37 #[.slice p_f f.length c_f, .slice p_g g.length c_g] w0 (fun v w' => ∃ (r0 : List Int), ∃ (si : Option Addr), ∃ (sj : Nat), v = .slice si r0.length sj ∧ Same w0 w' ∧ ISl (Rp.int .i64) A w' si sj r0 ∧ K r0) := by
 refine CallsV.of (l := [.slice p_f f.length c_f, .slice p_g g.length c_g]) Try.func37 rfl Try.ntmps37 rfl ?_
 have hO := Owns.start hA
 have hB := Fr.refl (bl []) w0
 unfold trans_Compose at H
 refine zq (zr (za rfl (zn (zq (zq ?_)))))
 refine zr (zm rfl (zo (op_len Try.underlying26 rfl) ?_))
 replace h_f := h_f.ch (Ch.start A w0)
 replace H := H h_f.bd
 refine zm rfl (zo (op_len Try.underlying26 rfl) ?_)
 replace h_g := h_g.ch (Ch.start A w0)
 replace H := H h_g.bd
 by_cases h1 : (f.length : Int) = (g.length : Int)
 ·replace H := ifp h1 H
  refine zo (fun w => opB (op_neq rfl rfl w) (ndT h1)) (zm rfl (zm rfl ?_))
  refine GoR.call (op_call body60 rfl (walk_trans_Valid hO.lt h_f H)) rfl rfl ?_
  rintro v6 w3 ⟨r2, rfl, hs4, H⟩
  have kr := Stp.same hO hs4
  replace hO := kr.own
  cases r2
  ·replace H := ifn Bool.false_ne_true H
   refine zo (op_not rfl) (zo (op_pickF rfl rfl rfl) (zm rfl (zp (zp (zp ?_)))))
   refine zo (op_pickT rfl rfl rfl) (zn (zt rfl rfl (zq (zr (za rfl ?_)))))
   refine zn ?_
   refine Go1.ret1 Try.func37 rfl ?_
   replace hB := hB.trans kr.fr
   exact ⟨([] : List Int), none, 0, rfl, hB.same, (ISl.null _ _ _), H⟩
  replace H := ifp rfl H
  refine zo (op_not rfl) (zo (op_pickF rfl rfl rfl) (zm rfl (zm rfl ?_)))
  replace h_g := h_g.ch kr.ch
  refine GoR.call (op_call body60 rfl (walk_trans_Valid hO.lt h_g H)) rfl rfl ?_
  rintro v12 w9 ⟨r8, rfl, Aa, H⟩
  have uo := Stp.same hO Aa
  replace hO := uo.own
  cases r8
  ·replace H := ifn Bool.false_ne_true H
   refine zo (op_not rfl) (zo (op_pickF rfl rfl rfl) (zn (zt rfl rfl (zq ?_))))
   refine Go1.cut [] trivial ?_
   intro σ _
   refine zr (za rfl (zn ?_))
   refine Go1.ret1 Try.func37 rfl ?_
   replace hB := (hB.trans kr.fr).trans uo.fr
   exact ⟨([] : List Int), none, 0, rfl, hB.same, (ISl.null _ _ _), H⟩
  replace H := ifp rfl H
  refine zo (op_not rfl) (zo (op_pickF rfl rfl rfl) (zn (zf rfl rfl (zk (zq ?_)))))
  refine zr (zm rfl (zo (op_len Try.underlying26 rfl) ?_))
  obtain ⟨h21, H⟩ := H
  obtain ⟨h22, H⟩ := H
  have hobt := omake (n := (f.length : Int)) (r := Rp.int .i64) (d := (0 : Int)) Try.underlying26 ti3 (fun _ _ => rfl) rfl hO h21 h22 (by decide)
  obtain ⟨w14, p15, wH, tR, cQ, xF, yy⟩ := hobt
  refine zg (yy rfl rfl) ?_
  replace hO := tR.own
  refine za rfl (zn (zq (zq (zr (zm rfl ?_)))))
  refine zo (op_len Try.underlying26 rfl) (zm rfl (zn (zb ?_)))
  replace h_g := (h_g.ch uo.ch).ch tR.ch
  have Z1 := (kr.ch.trans uo.ch).trans tR.ch
  replace h_f := h_f.ch Z1
  replace hB := ((hB.trans kr.fr).trans uo.fr).trans tR.fr
  refine Go1.loopW (S := Nat × List Int) (fun s σ w => match s with | (k1_25, h1_26) => ∃ (wT : List Value), agrees σ [(1, .slice p_g g.length c_g), (5, .slice p15 f.length f.length), (26, .slice p_f f.length c_f), (27, .int .i64 (f.length : Int)), (28, .int .i64 (k1_25 : Int))] ∧ (fun Z0 => Owns w0.heap.size w Z0 A ∧ Els (Rp.int .i64) (bl Z0 ++ A) w wT h1_26 ∧ ISl (Rp.int .i64) (bl Z0 ++ A) w p_f c_f f ∧ ISl (Rp.int .i64) (bl Z0 ++ A) w p_g c_g g ∧ Fr (bl []) w0 (bl Z0) w) [.row 3 1 p15 f.length f.length wT]) H ⟨wH, ⟨rfl, rfl, rfl, rfl, rfl, trivial⟩, hO, cQ, h_f, h_g, hB⟩ ?_
  intro X1
  refine prE fun k1_25 => fun h1_26 => ?_
  intro H hX1 σ w24
  refine exE fun wT => andE fun hag => andE fun hO => andE fun y6 => andE fun h_f => andE fun h_g => fun hB => ?_
  dsimp only at H
  refine Go1.keep [(1, .slice p_g g.length c_g), (5, .slice p15 f.length f.length), (26, .slice p_f f.length c_f), (27, .int .i64 (f.length : Int)), (28, .int .i64 (k1_25 : Int))] hag ?_
  refine zq (zr ?_)
  by_cases h29 : (k1_25 : Int) < (f.length : Int)
  ·replace H := ifp h29 H
   refine zo (fun w => opB (op_lss rfl rfl w) (decide_eq_true h29)) (zn (zq (zt rfl rfl (zk (zq ?_)))))
   refine zb (zq (zr (zm rfl ?_)))
   obtain ⟨h30, H⟩ := H
   obtain ⟨h31, H⟩ := H
   refine zo (op_index Try.underlying26 ti3 rfl rfl h30 h31 (h_f.some_ h30 h31)) (zs (ldInt h_f h30 h31 Try.underlying3 rfl rfl) (za rfl (za rfl (zn (zr ?_)))))
   refine zm rfl (zm rfl (zm rfl (zm rfl ?_)))
   obtain ⟨h32, H⟩ := H
   obtain ⟨h33, H⟩ := H
   refine zo (op_index Try.underlying26 ti3 rfl rfl h32 h33 (h_g.some_ h32 h33)) (zs (ldInt h_g h32 h33 Try.underlying3 rfl rfl) ?_)
   obtain ⟨h34, H⟩ := H
   obtain ⟨h35, H⟩ := H
   refine zo (op_index Try.underlying26 ti3 rfl rfl h34 (ltn (y6.neq hO 0 rfl) h35) (y6.psome hO 0 rfl h34 h35)) ?_
   have hobt := ost (r := Rp.int .i64) rfl 0 hO rfl y6 h34 h35 (v := .int .i64 (ix g (ix f (k1_25 : Int)))) (u := (ix g (ix f (k1_25 : Int)))) rfl rfl
   obtain ⟨w36, J5, tS, J6, Gs⟩ := hobt
   refine zg (Gs Try.underlying3 rfl ti3 (by exact rfl) (by exact rfl)) ?_
   replace hO := tS.own
   refine zn ?_
   refine Go1.inBlock ?_
   refine zr ?_
   replace h_f := h_f.ch tS.ch
   refine zo (op_add rfl rfl (wrap_i64 (natbd h29 h_f.bd))) (zm rfl (zn ?_))
   replace h_g := h_g.ch tS.ch
   replace hB := hB.trans tS.fr
   exact hX1 _ H _ _ ⟨J5, ⟨rfl, rfl, rfl, rfl, rfl, trivial⟩, hO, J6, h_f, h_g, hB⟩
  replace H := ifn h29 H
  refine zo (fun w => opB (op_lss rfl rfl w) (decide_eq_false h29)) (zn (zq (zf rfl rfl ?_)))
  refine Go1.exit rfl ?_
  refine zq (zr (zm rfl (za rfl (zn ?_))))
  have hobt := freeze 0 hO rfl y6
  obtain ⟨hO1, Dh, J7, J8⟩ := hobt
  replace hO := hO1; clear hO1
  refine Go1.ret1 Try.func37 rfl ?_
  replace hB := hB.trans (Owns.dropFr _ _ 0)
  exact ⟨h1_26, p15, f.length, (congrArg (fun nn => Value.slice p15 nn f.length) J8), hB.same, (J7.ch (Ch.weak _ _ _)), H⟩
 replace H := ifn h1 H
 refine zo (fun w => opB (op_neq rfl rfl w) (ndF h1)) (zm rfl (zp (zp (zp (zo (op_pickT rfl rfl rfl) ?_)))))
 refine zm rfl (zp (zp (zp (zo (op_pickT rfl rfl rfl) (zn ?_)))))
 refine zt rfl rfl (zq ?_)
 refine Go1.cut [] trivial ?_
 intro σ _
 refine zr (za rfl (zn ?_))
 refine Go1.ret1 Try.func37 rfl ?_
 exact ⟨([] : List Int), none, 0, rfl, hB.same, (ISl.null _ _ _), H⟩
end Sg
