/- The walks: each call keeps to its plain transformer. Printed by walkgen.py. -/
import Derived.Test.YtdcibmiaiijjpaaTi
import Derived.Test.YtdcibmiaiijjpaaAl
namespace Sg
open Go Go.RowKit Go.Proofs
set_option linter.unusedVariables false
set_option linter.unusedSimpArgs false
set_option maxRecDepth 100000
set_option maxHeartbeats 4000000
theorem body33 : Body Try.prog 33 := ⟨Try.f33, Try.func33, rfl, by kernel_rfl⟩
theorem walk_ref14_Shape {A : List Nat} {w0 : World} {p_t : Option Addr} {c_t : Nat} {t : List (List Int)} (hA : ∀ b ∈ A, b < w0.heap.size) (h_t : ISl (Rp.sl (Rp.int .i64)) A w0 p_t c_t t) {K : Int → Prop} (H : ref14_Shape t K) :
    CallsV Try.prog 33 #[.slice p_t t.length c_t] w0 (fun v w' => ∃ (r0 : Int), v = .int .i64 r0 ∧ Same w0 w' ∧ K r0) := by
 refine CallsV.of (l := [.slice p_t t.length c_t]) Try.func33 rfl Try.ntmps33 rfl ?_
 have hO := Owns.start hA
 have hB := Fr.refl (bl []) w0
 unfold ref14_Shape at H
 refine zq (zr (za rfl (zn (zq (zq ?_)))))
 refine zr (zm rfl (zo (op_len Try.underlying22 rfl) ?_))
 replace h_t := h_t.ch (Ch.start A w0)
 replace H := H h_t.bd
 by_cases h1 : (400 : Int) < (t.length : Int)
 ·replace H := ifp h1 H
  refine zo (fun w => opB (op_gtr rfl rfl w) (decide_eq_true h1)) (zn (zt rfl rfl (zq (zr (za rfl ?_)))))
  refine zn ?_
  refine Go1.ret1 Try.func33 rfl ?_
  exact ⟨(3 : Int), rfl, hB.same, H⟩
 replace H := ifn h1 H
 refine zo (fun w => opB (op_gtr rfl rfl w) (decide_eq_false h1)) (zn (zf rfl rfl (zk (zq (zq ?_)))))
 refine zr (zm rfl (zo (op_len Try.underlying22 rfl) ?_))
 by_cases h2 : (t.length : Int) = (0 : Int)
 ·replace H := ifp h2 H
  refine zo (fun w => opB (op_eql rfl rfl w) (decide_eq_true h2)) (zn (zt rfl rfl (zq (zr (za rfl ?_)))))
  refine zn ?_
  refine Go1.ret1 Try.func33 rfl ?_
  exact ⟨(4 : Int), rfl, hB.same, H⟩
 replace H := ifn h2 H
 refine zo (fun w => opB (op_eql rfl rfl w) (decide_eq_false h2)) (zn (zf rfl rfl (zk (zq (zq ?_)))))
 refine zr (zm rfl (zo (op_len Try.underlying22 rfl) (zm rfl (zn (zb ?_)))))
 refine Go1.loopW (S := Nat) (fun s σ w => agrees σ [(0, .slice p_t t.length c_t), (13, .slice p_t t.length c_t), (14, .int .i64 (t.length : Int)), (15, .int .i64 (s : Int))] ∧ Owns w0.heap.size w [] A ∧ ISl (Rp.sl (Rp.int .i64)) (bl [] ++ A) w p_t c_t t ∧ Fr (bl []) w0 (bl []) w) H ⟨⟨rfl, rfl, rfl, rfl, trivial⟩, hO, h_t, hB⟩ ?_
 intro X1 k1_4
 intro H hX1 σ w3
 refine andE fun hag => andE fun hO => andE fun h_t => fun hB => ?_
 refine Go1.keep [(0, .slice p_t t.length c_t), (13, .slice p_t t.length c_t), (14, .int .i64 (t.length : Int)), (15, .int .i64 (k1_4 : Int))] hag ?_
 refine zq (zr ?_)
 by_cases h5 : (k1_4 : Int) < (t.length : Int)
 ·replace H := ifp h5 H
  refine zo (fun w => opB (op_lss rfl rfl w) (decide_eq_true h5)) (zn (zq (zt rfl rfl (zk (zq ?_)))))
  refine zb (zq (zr ?_))
  obtain ⟨h6, H⟩ := H
  obtain ⟨h7, H⟩ := H
  refine zo (op_index Try.underlying22 ti26 rfl rfl h6 h7 (h_t.some_ h6 h7)) ?_
  have hobt := ldSl h_t h6 h7
  obtain ⟨p8, c9, di, jq⟩ := hobt
  refine zs (jq Try.underlying26 rfl rfl) (za rfl (zn (zq (zq (zr ?_)))))
  refine zm rfl (zo (op_len Try.underlying26 rfl) ?_)
  replace H := H di.bd
  refine zm rfl (zo (op_len Try.underlying22 rfl) ?_)
  by_cases h12 : ((ix t (k1_4 : Int)).length : Int) = (t.length : Int)
  ·replace H := ifp h12 H
   refine zo (fun w => opB (op_neq rfl rfl w) (ndT h12)) (zn (zf rfl rfl (zk (zq (zr ?_)))))
   refine zm rfl (zo (op_len Try.underlying26 rfl) (zm rfl (zn (zb ?_))))
   refine Go1.loopW (S := Nat) (fun s σ w => agrees σ [(0, .slice p_t t.length c_t), (13, .slice p_t t.length c_t), (14, .int .i64 (t.length : Int)), (15, .int .i64 (k1_4 : Int)), (24, .slice p8 ((ix t (k1_4 : Int)).length) c9), (25, .int .i64 ((ix t (k1_4 : Int)).length : Int)), (26, .int .i64 (s : Int))] ∧ Owns w0.heap.size w [] A ∧ ISl (Rp.sl (Rp.int .i64)) (bl [] ++ A) w p_t c_t t ∧ ISl (Rp.int .i64) (bl [] ++ A) w p8 c9 (ix t (k1_4 : Int)) ∧ Fr (bl []) w0 (bl []) w) H ⟨⟨rfl, rfl, rfl, rfl, rfl, rfl, rfl, trivial⟩, hO, h_t, di, hB⟩ ?_
   intro X2 k2_14
   intro H hX2 σ w13
   refine andE fun hag => andE fun hO => andE fun h_t => andE fun di => fun hB => ?_
   refine Go1.keep [(0, .slice p_t t.length c_t), (13, .slice p_t t.length c_t), (14, .int .i64 (t.length : Int)), (15, .int .i64 (k1_4 : Int)), (24, .slice p8 ((ix t (k1_4 : Int)).length) c9), (25, .int .i64 ((ix t (k1_4 : Int)).length : Int)), (26, .int .i64 (k2_14 : Int))] hag ?_
   refine zq (zr ?_)
   by_cases h15 : (k2_14 : Int) < ((ix t (k1_4 : Int)).length : Int)
   ·replace H := ifp h15 H
    refine zo (fun w => opB (op_lss rfl rfl w) (decide_eq_true h15)) (zn (zq (zt rfl rfl (zk (zq ?_)))))
    refine zb (zq (zr ?_))
    obtain ⟨h16, H⟩ := H
    obtain ⟨h17, H⟩ := H
    refine zo (op_index Try.underlying26 ti3 rfl rfl h16 h17 (di.some_ h16 h17)) (zs (ldInt di h16 h17 Try.underlying3 rfl rfl) (za rfl (zn (zq (zr ?_)))))
    refine zm rfl ?_
    by_cases h18 : (ix (ix t (k1_4 : Int)) (k2_14 : Int)) < (0 : Int)
    ·replace H := ifp h18 H
     refine zo (fun w => opB (op_lss rfl rfl w) (decide_eq_true h18)) (zm rfl (zp (zp (zp (zp ?_)))))
     refine zo (op_pickT rfl rfl rfl) (zn (zt rfl rfl (zq (zr (za rfl ?_)))))
     refine zn ?_
     refine Go1.ret1 Try.func33 rfl ?_
     exact ⟨(4 : Int), rfl, hB.same, H⟩
    replace H := ifn h18 H
    refine zo (fun w => opB (op_lss rfl rfl w) (decide_eq_false h18)) (zm rfl (zm rfl (zm rfl (zo (op_len Try.underlying22 rfl) ?_))))
    by_cases h19 : (t.length : Int) ≤ (ix (ix t (k1_4 : Int)) (k2_14 : Int))
    ·replace H := ifp h19 H
     refine zo (fun w => opB (op_geq rfl rfl w) (decide_eq_true h19)) (zo (op_pickF rfl rfl rfl) (zn (zt rfl rfl (zq ?_))))
     refine Go1.cut [] trivial ?_
     intro σ _
     refine zr (za rfl (zn ?_))
     refine Go1.ret1 Try.func33 rfl ?_
     exact ⟨(4 : Int), rfl, hB.same, H⟩
    replace H := ifn h19 H
    refine zo (fun w => opB (op_geq rfl rfl w) (decide_eq_false h19)) (zo (op_pickF rfl rfl rfl) (zn (zf rfl rfl (zk ?_))))
    refine Go1.inBlock ?_
    refine zr (zo (op_add rfl rfl (wrap_i64 (natbd h15 di.bd))) (zm rfl (zn ?_)))
    exact hX2 _ H _ _ ⟨⟨rfl, rfl, rfl, rfl, rfl, rfl, rfl, trivial⟩, hO, h_t, di, hB⟩
   replace H := ifn h15 H
   refine zo (fun w => opB (op_lss rfl rfl w) (decide_eq_false h15)) (zn (zq (zf rfl rfl ?_)))
   refine Go1.exit rfl ?_
   refine Go1.inBlock ?_
   refine zr (zo (op_add rfl rfl (wrap_i64 (natbd h5 h_t.bd))) (zm rfl (zn ?_)))
   exact hX1 _ H _ _ ⟨⟨rfl, rfl, rfl, rfl, trivial⟩, hO, h_t, hB⟩
  replace H := ifn h12 H
  refine zo (fun w => opB (op_neq rfl rfl w) (ndF h12)) (zn (zt rfl rfl (zq (zr (za rfl ?_)))))
  refine zn ?_
  refine Go1.ret1 Try.func33 rfl ?_
  exact ⟨(4 : Int), rfl, hB.same, H⟩
 replace H := ifn h5 H
 refine zo (fun w => opB (op_lss rfl rfl w) (decide_eq_false h5)) (zn (zq (zf rfl rfl ?_)))
 refine Go1.exit rfl ?_
 refine zq (zr (za rfl (zn ?_)))
 refine Go1.ret1 Try.func33 rfl ?_
 exact ⟨(0 : Int), rfl, hB.same, H⟩
theorem body37 : Body Try.prog 37 := ⟨Try.f37, Try.func37, rfl, by kernel_rfl⟩
theorem walk_ref14_Associative {A : List Nat} {w0 : World} {p_t : Option Addr} {c_t : Nat} {t : List (List Int)} (hA : ∀ b ∈ A, b < w0.heap.size) (h_t : ISl (Rp.sl (Rp.int .i64)) A w0 p_t c_t t) {K : Int → Int → Int → Int → Prop} (H : ref14_Associative t K) :
    CallsV Try.prog 37 #[.slice p_t t.length c_t] w0 (fun v w' => ∃ (r0 : Int), ∃ (r1 : Int), ∃ (r2 : Int), ∃ (r3 : Int), v = .tuple #[.int .i64 r0, .int .i64 r1, .int .i64 r2, .int .i64 r3] ∧ Same w0 w' ∧ K r0 r1 r2 r3) := by
 refine CallsV.of (l := [.slice p_t t.length c_t]) Try.func37 rfl Try.ntmps37 rfl ?_
 have hO := Owns.start hA
 have hB := Fr.refl (bl []) w0
 unfold ref14_Associative at H
 refine zq (zr (za rfl (za rfl (za rfl (za rfl ?_)))))
 refine zn (zq (zq (zr (zm rfl ?_))))
 replace h_t := h_t.ch (Ch.start A w0)
 refine GoR.call (op_call body33 rfl (walk_ref14_Shape hO.lt h_t H)) rfl rfl ?_
 rintro v5 w2 ⟨r1, rfl, hs3, H⟩
 have aV := Stp.same hO hs3
 replace hO := aV.own
 refine za rfl (zn (zq (zr (zm rfl ?_))))
 by_cases h7 : r1 = (0 : Int)
 ·replace H := ifp h7 H
  refine zo (fun w => opB (op_neq rfl rfl w) (ndT h7)) (zn (zf rfl rfl (zk (zq (zq ?_)))))
  refine zr (zm rfl (zo (op_len Try.underlying22 rfl) ?_))
  replace h_t := h_t.ch aV.ch
  replace H := H h_t.bd
  refine zm rfl (zn (zb ?_))
  replace hB := hB.trans aV.fr
  refine Go1.loopW (S := Nat) (fun s σ w => agrees σ [(0, .slice p_t t.length c_t), (16, .int .i64 (t.length : Int)), (17, .int .i64 (s : Int))] ∧ Owns w0.heap.size w [] A ∧ ISl (Rp.sl (Rp.int .i64)) (bl [] ++ A) w p_t c_t t ∧ Fr (bl []) w0 (bl []) w) H ⟨⟨rfl, rfl, rfl, trivial⟩, hO, h_t, hB⟩ ?_
  intro X1 k1_9
  intro H hX1 σ w8
  refine andE fun hag => andE fun hO => andE fun h_t => fun hB => ?_
  refine Go1.keep [(0, .slice p_t t.length c_t), (16, .int .i64 (t.length : Int)), (17, .int .i64 (k1_9 : Int))] hag ?_
  refine zq (zr ?_)
  by_cases h10 : (k1_9 : Int) < (t.length : Int)
  ·replace H := ifp h10 H
   refine zo (fun w => opB (op_lss rfl rfl w) (decide_eq_true h10)) (zn (zq (zt rfl rfl (zk (zq ?_)))))
   refine zb (zq (zr (zm rfl (za rfl (zn ?_)))))
   refine zq (zr (zm rfl (zo (op_len Try.underlying22 rfl) (zm rfl (zn ?_)))))
   refine zb ?_
   refine Go1.loopW (S := Nat) (fun s σ w => agrees σ [(0, .slice p_t t.length c_t), (7, .int .i64 (k1_9 : Int)), (16, .int .i64 (t.length : Int)), (17, .int .i64 (k1_9 : Int)), (21, .int .i64 (t.length : Int)), (22, .int .i64 (s : Int))] ∧ Owns w0.heap.size w [] A ∧ ISl (Rp.sl (Rp.int .i64)) (bl [] ++ A) w p_t c_t t ∧ Fr (bl []) w0 (bl []) w) H ⟨⟨rfl, rfl, rfl, rfl, rfl, rfl, trivial⟩, hO, h_t, hB⟩ ?_
   intro X2 k2_12
   intro H hX2 σ w11
   refine andE fun hag => andE fun hO => andE fun h_t => fun hB => ?_
   refine Go1.keep [(0, .slice p_t t.length c_t), (7, .int .i64 (k1_9 : Int)), (16, .int .i64 (t.length : Int)), (17, .int .i64 (k1_9 : Int)), (21, .int .i64 (t.length : Int)), (22, .int .i64 (k2_12 : Int))] hag ?_
   refine zq (zr ?_)
   by_cases h13 : (k2_12 : Int) < (t.length : Int)
   ·replace H := ifp h13 H
    refine zo (fun w => opB (op_lss rfl rfl w) (decide_eq_true h13)) (zn (zq (zt rfl rfl (zk (zq ?_)))))
    refine zb (zq (zr (zm rfl (za rfl (zn ?_)))))
    refine zq (zr (zm rfl (zo (op_len Try.underlying22 rfl) (zm rfl (zn ?_)))))
    refine zb ?_
    refine Go1.loopW (S := Nat) (fun s σ w => agrees σ [(0, .slice p_t t.length c_t), (7, .int .i64 (k1_9 : Int)), (8, .int .i64 (k2_12 : Int)), (16, .int .i64 (t.length : Int)), (17, .int .i64 (k1_9 : Int)), (21, .int .i64 (t.length : Int)), (22, .int .i64 (k2_12 : Int)), (26, .int .i64 (t.length : Int)), (27, .int .i64 (s : Int))] ∧ Owns w0.heap.size w [] A ∧ ISl (Rp.sl (Rp.int .i64)) (bl [] ++ A) w p_t c_t t ∧ Fr (bl []) w0 (bl []) w) H ⟨⟨rfl, rfl, rfl, rfl, rfl, rfl, rfl, rfl, rfl, trivial⟩, hO, h_t, hB⟩ ?_
    intro X3 k3_15
    intro H hX3 σ w14
    refine andE fun hag => andE fun hO => andE fun h_t => fun hB => ?_
    refine Go1.keep [(0, .slice p_t t.length c_t), (7, .int .i64 (k1_9 : Int)), (8, .int .i64 (k2_12 : Int)), (16, .int .i64 (t.length : Int)), (17, .int .i64 (k1_9 : Int)), (21, .int .i64 (t.length : Int)), (22, .int .i64 (k2_12 : Int)), (26, .int .i64 (t.length : Int)), (27, .int .i64 (k3_15 : Int))] hag ?_
    refine zq (zr ?_)
    by_cases h16 : (k3_15 : Int) < (t.length : Int)
    ·replace H := ifp h16 H
     refine zo (fun w => opB (op_lss rfl rfl w) (decide_eq_true h16)) (zn (zq (zt rfl rfl (zk (zq ?_)))))
     refine zb (zq (zr (zm rfl (za rfl (zn ?_)))))
     refine zq ?_
     refine Go1.drawS 0 [(0, .pure), (1, .pure), (2, .pure), (3, .pure), (4, .stable), (5, .pure), (6, .pure), (7, .stable), (8, .pure), (9, .stable), (10, .pure), (11, .pure), (12, .stable), (13, .pure), (14, .pure), (15, .pure), (16, .stable), (17, .pure), (18, .pure), (19, .pure), (20, .stable), (21, .pure), (22, .pure), (23, .stable), (24, .pure), (25, .stable), (26, .pure)] mixed (by kernel_rfl) ?_
     intro w17 jr
     have bt := Stp.same hO jr
     replace hO := bt.own
     refine GoQ.pure rfl (op_move rfl) rfl rfl ?_
     refine GoQ.pure rfl (op_move rfl) rfl rfl ?_
     refine GoQ.pure rfl (op_move rfl) rfl rfl ?_
     obtain ⟨h20, H⟩ := H
     obtain ⟨h21, H⟩ := H
     replace h_t := h_t.ch bt.ch
     refine GoQ.pure rfl (op_index Try.underlying22 ti26 rfl rfl h20 h21 (h_t.some_ h20 h21)) rfl rfl ?_
     have hobt := ldSl h_t h20 h21
     obtain ⟨p22, c23, kQ, nN⟩ := hobt
     refine GoQ.stable rfl (nN Try.underlying26 rfl rfl) rfl rfl ?_
     refine GoQ.pure rfl (op_move rfl) rfl rfl ?_
     obtain ⟨h26, H⟩ := H
     obtain ⟨h27, H⟩ := H
     refine GoQ.pure rfl (op_index Try.underlying26 ti3 rfl rfl h26 h27 (kQ.some_ h26 h27)) rfl rfl ?_
     refine GoQ.stable rfl (ldInt kQ h26 h27 Try.underlying3 rfl rfl) rfl rfl ?_
     obtain ⟨h28, H⟩ := H
     obtain ⟨h29, H⟩ := H
     refine GoQ.pure rfl (op_index Try.underlying22 ti26 rfl rfl h28 h29 (h_t.some_ h28 h29)) rfl rfl ?_
     have hobt := ldSl h_t h28 h29
     obtain ⟨p30, c31, kS, nO⟩ := hobt
     refine GoQ.stable rfl (nO Try.underlying26 rfl rfl) rfl rfl ?_
     refine GoQ.pure rfl (op_move rfl) rfl rfl ?_
     obtain ⟨h34, H⟩ := H
     obtain ⟨h35, H⟩ := H
     refine GoQ.pure rfl (op_index Try.underlying26 ti3 rfl rfl h34 h35 (kS.some_ h34 h35)) rfl rfl ?_
     refine GoQ.stable rfl (ldInt kS h34 h35 Try.underlying3 rfl rfl) rfl rfl ?_
     refine GoQ.pure rfl (op_move rfl) rfl rfl ?_
     refine GoQ.pure rfl (op_move rfl) rfl rfl ?_
     obtain ⟨h36, H⟩ := H
     obtain ⟨h37, H⟩ := H
     refine GoQ.pure rfl (op_index Try.underlying22 ti26 rfl rfl h36 h37 (h_t.some_ h36 h37)) rfl rfl ?_
     have hobt := ldSl h_t h36 h37
     obtain ⟨p38, c39, kT, nP⟩ := hobt
     refine GoQ.stable rfl (nP Try.underlying26 rfl rfl) rfl rfl ?_
     refine GoQ.pure rfl (op_move rfl) rfl rfl ?_
     refine GoQ.pure rfl (op_move rfl) rfl rfl ?_
     obtain ⟨h42, H⟩ := H
     obtain ⟨h43, H⟩ := H
     refine GoQ.pure rfl (op_index Try.underlying22 ti26 rfl rfl h42 h43 (h_t.some_ h42 h43)) rfl rfl ?_
     have hobt := ldSl h_t h42 h43
     obtain ⟨p44, c45, kU, nQ⟩ := hobt
     refine GoQ.stable rfl (nQ Try.underlying26 rfl rfl) rfl rfl ?_
     refine GoQ.pure rfl (op_move rfl) rfl rfl ?_
     obtain ⟨h48, H⟩ := H
     obtain ⟨h49, H⟩ := H
     refine GoQ.pure rfl (op_index Try.underlying26 ti3 rfl rfl h48 h49 (kU.some_ h48 h49)) rfl rfl ?_
     refine GoQ.stable rfl (ldInt kU h48 h49 Try.underlying3 rfl rfl) rfl rfl ?_
     obtain ⟨h50, H⟩ := H
     obtain ⟨h51, H⟩ := H
     refine GoQ.pure rfl (op_index Try.underlying26 ti3 rfl rfl h50 h51 (kT.some_ h50 h51)) rfl rfl ?_
     refine GoQ.stable rfl (ldInt kT h50 h51 Try.underlying3 rfl rfl) rfl rfl ?_
     by_cases h52 : (ix (ix t (ix (ix t (k1_9 : Int)) (k2_12 : Int))) (k3_15 : Int)) = (ix (ix t (k1_9 : Int)) (ix (ix t (k2_12 : Int)) (k3_15 : Int)))
     ·replace H := ifp h52 H
      refine GoQ.pure rfl (fun w => opB (op_neq rfl rfl w) (ndT h52)) rfl rfl ?_
      refine GoQ.nil ?_
      refine zf rfl rfl (zk ?_)
      refine Go1.inBlock ?_
      refine Go1.cut [(0, .slice p_t t.length c_t), (7, .int .i64 (k1_9 : Int)), (8, .int .i64 (k2_12 : Int)), (16, .int .i64 (t.length : Int)), (17, .int .i64 (k1_9 : Int)), (21, .int .i64 (t.length : Int)), (22, .int .i64 (k2_12 : Int)), (26, .int .i64 (t.length : Int)), (27, .int .i64 (k3_15 : Int))] ⟨rfl, rfl, rfl, rfl, rfl, rfl, rfl, rfl, rfl, trivial⟩ ?_
      intro σ _
      refine zr (zo (op_add rfl rfl (wrap_i64 (natbd h16 h_t.bd))) (zm rfl (zn ?_)))
      replace hB := hB.trans bt.fr
      exact hX3 _ H _ _ ⟨⟨rfl, rfl, rfl, rfl, rfl, rfl, rfl, rfl, rfl, trivial⟩, hO, h_t, hB⟩
     replace H := ifn h52 H
     refine GoQ.pure rfl (fun w => opB (op_neq rfl rfl w) (ndF h52)) rfl rfl ?_
     refine GoQ.nil ?_
     refine zt rfl rfl (zq (zr (zm rfl (zm rfl (zm rfl ?_)))))
     refine za rfl (za rfl (za rfl (za rfl (zn ?_))))
     refine Go1.ret4 Try.func37 rfl ?_
     replace hB := hB.trans bt.fr
     exact ⟨(k1_9 : Int), (k2_12 : Int), (k3_15 : Int), (5 : Int), rfl, hB.same, H⟩
    replace H := ifn h16 H
    refine zo (fun w => opB (op_lss rfl rfl w) (decide_eq_false h16)) (zn (zq (zf rfl rfl ?_)))
    refine Go1.exit rfl ?_
    refine Go1.inBlock ?_
    refine zr (zo (op_add rfl rfl (wrap_i64 (natbd h13 h_t.bd))) (zm rfl (zn ?_)))
    exact hX2 _ H _ _ ⟨⟨rfl, rfl, rfl, rfl, rfl, rfl, trivial⟩, hO, h_t, hB⟩
   replace H := ifn h13 H
   refine zo (fun w => opB (op_lss rfl rfl w) (decide_eq_false h13)) (zn (zq (zf rfl rfl ?_)))
   refine Go1.exit rfl ?_
   refine Go1.inBlock ?_
   refine zr (zo (op_add rfl rfl (wrap_i64 (natbd h10 h_t.bd))) (zm rfl (zn ?_)))
   exact hX1 _ H _ _ ⟨⟨rfl, rfl, rfl, trivial⟩, hO, h_t, hB⟩
  replace H := ifn h10 H
  refine zo (fun w => opB (op_lss rfl rfl w) (decide_eq_false h10)) (zn (zq (zf rfl rfl ?_)))
  refine Go1.exit rfl ?_
  refine zq (zr (za rfl (za rfl (za rfl (za rfl ?_)))))
  refine zn ?_
  refine Go1.ret4 Try.func37 rfl ?_
  exact ⟨(0 : Int), (0 : Int), (0 : Int), (0 : Int), rfl, hB.same, H⟩
 replace H := ifn h7 H
 refine zo (fun w => opB (op_neq rfl rfl w) (ndF h7)) (zn (zt rfl rfl (zq (zr (zm rfl ?_)))))
 refine za rfl (za rfl (za rfl (za rfl (zn ?_))))
 refine Go1.ret4 Try.func37 rfl ?_
 replace hB := hB.trans aV.fr
 exact ⟨(0 : Int), (0 : Int), (0 : Int), r1, rfl, hB.same, H⟩
theorem body15 : Body Try.prog 15 := ⟨Try.f15, Try.func15, rfl, by kernel_rfl⟩
theorem walk_ref14_Validate {A : List Nat} {w0 : World} {p_t : Option Addr} {c_t : Nat} {t : List (List Int)} (hA : ∀ b ∈ A, b < w0.heap.size) (h_t : ISl (Rp.sl (Rp.int .i64)) A w0 p_t c_t t) {K : Int → Prop} (H : ref14_Validate t K) :
    CallsV Try.prog 15 #[.slice p_t t.length c_t] w0 (fun v w' => ∃ (r0 : Int), v = .int .i64 r0 ∧ Same w0 w' ∧ K r0) := by
 refine CallsV.of (l := [.slice p_t t.length c_t]) Try.func15 rfl Try.ntmps15 rfl ?_
 have hO := Owns.start hA
 have hB := Fr.refl (bl []) w0
 unfold ref14_Validate at H
 refine zq (zr (za rfl (zn (zq (zr ?_)))))
 refine zm rfl ?_
 replace h_t := h_t.ch (Ch.start A w0)
 refine GoR.call (op_call body37 rfl (walk_ref14_Associative hO.lt h_t H)) rfl rfl ?_
 rintro v8 w5 ⟨r1, r2, r3, r4, rfl, hs6, H⟩
 have eK := Stp.same hO hs6
 replace hO := eK.own
 refine zm rfl (zo (op_extract rfl rfl) (zo (op_extract rfl rfl) (zo (op_extract rfl rfl) (zo (op_extract rfl rfl) (za rfl ?_)))))
 refine za rfl (za rfl (za rfl (zn (zq (zr ?_)))))
 refine zm rfl (za rfl (zn ?_))
 refine Go1.ret1 Try.func15 rfl ?_
 replace hB := hB.trans eK.fr
 exact ⟨r4, rfl, hB.same, H⟩
theorem body20 : Body Try.prog 20 := ⟨Try.f20, Try.func20, rfl, by kernel_rfl⟩
theorem walk_ref14_Valid {A : List Nat} {w0 : World} {p_t : Option Addr} {c_t : Nat} {t : List (List Int)} (hA : ∀ b ∈ A, b < w0.heap.size) (h_t : ISl (Rp.sl (Rp.int .i64)) A w0 p_t c_t t) {K : Bool → Prop} (H : ref14_Valid t K) :
    CallsV Try.prog 20 #[.slice p_t t.length c_t] w0 (fun v w' => ∃ (r0 : Bool), v = .bool r0 ∧ Same w0 w' ∧ K r0) := by
 refine CallsV.of (l := [.slice p_t t.length c_t]) Try.func20 rfl Try.ntmps20 rfl ?_
 have hO := Owns.start hA
 have hB := Fr.refl (bl []) w0
 unfold ref14_Valid at H
 refine zq (zr (za rfl (zn (zq (zr ?_)))))
 refine zm rfl ?_
 replace h_t := h_t.ch (Ch.start A w0)
 refine GoR.call (op_call body15 rfl (walk_ref14_Validate hO.lt h_t H)) rfl rfl ?_
 rintro v5 w2 ⟨r1, rfl, hs3, H⟩
 have aV := Stp.same hO hs3
 replace hO := aV.own
 by_cases h7 : r1 = (0 : Int)
 ·replace H := ifp h7 H
  refine zo (fun w => opB (op_eql rfl rfl w) (decide_eq_true h7)) (za rfl (zn ?_))
  refine Go1.ret1 Try.func20 rfl ?_
  replace hB := hB.trans aV.fr
  exact ⟨true, rfl, hB.same, H⟩
 replace H := ifn h7 H
 refine zo (fun w => opB (op_eql rfl rfl w) (decide_eq_false h7)) (za rfl (zn ?_))
 refine Go1.ret1 Try.func20 rfl ?_
 replace hB := hB.trans aV.fr
 exact ⟨false, rfl, hB.same, H⟩
theorem body6 : Body Try.prog 6 := ⟨Try.f6, Try.func6, rfl, by kernel_rfl⟩
theorem walk_law15_small {A : List Nat} {w0 : World} {p_t : Option Addr} {c_t : Nat} {t : List (List Int)} {most : Int} (hA : ∀ b ∈ A, b < w0.heap.size) (h_t : ISl (Rp.sl (Rp.int .i64)) A w0 p_t c_t t) {K : Bool → Prop} (H : law15_small t most K) :
    CallsV Try.prog 6 #[.slice p_t t.length c_t, .int .i64 most] w0 (fun v w' => ∃ (r0 : Bool), v = .bool r0 ∧ Same w0 w' ∧ K r0) := by
 refine CallsV.of (l := [.slice p_t t.length c_t, .int .i64 most]) Try.func6 rfl Try.ntmps6 rfl ?_
 have hO := Owns.start hA
 have hB := Fr.refl (bl []) w0
 unfold law15_small at H
 refine zq (zr (za rfl (zn (zq (zr ?_)))))
 refine zm rfl (zo (op_len Try.underlying22 rfl) ?_)
 replace h_t := h_t.ch (Ch.start A w0)
 replace H := H h_t.bd
 refine zm rfl ?_
 by_cases h1 : (t.length : Int) ≤ most
 ·replace H := ifp h1 H
  refine zo (fun w => opB (op_leq rfl rfl w) (decide_eq_true h1)) (zm rfl (zm rfl ?_))
  refine GoR.call (op_call body20 rfl (walk_ref14_Valid hO.lt h_t H)) rfl rfl ?_
  rintro v6 w3 ⟨r2, rfl, hs4, H⟩
  have cJ := Stp.same hO hs4
  replace hO := cJ.own
  refine zo (op_pickT rfl rfl rfl) (za rfl (zn ?_))
  refine Go1.ret1 Try.func6 rfl ?_
  replace hB := hB.trans cJ.fr
  exact ⟨r2, rfl, hB.same, H⟩
 replace H := ifn h1 H
 refine zo (fun w => opB (op_leq rfl rfl w) (decide_eq_false h1)) (zm rfl (zp (zp (zo (op_pickF rfl rfl rfl) (za rfl ?_)))))
 refine zn ?_
 refine Go1.ret1 Try.func6 rfl ?_
 exact ⟨false, rfl, hB.same, H⟩
theorem body7 : Body Try.prog 7 := ⟨Try.f7, Try.func7, rfl, by kernel_rfl⟩
theorem walk_ref14_In {A : List Nat} {w0 : World} {p_t : Option Addr} {c_t : Nat} {p_l : Option Addr} {c_l : Nat} {t : List (List Int)} {l : List Int} (hA : ∀ b ∈ A, b < w0.heap.size) (h_t : ISl (Rp.sl (Rp.int .i64)) A w0 p_t c_t t) (h_l : ISl (Rp.int .i64) A w0 p_l c_l l) {K : Bool → Prop} (H : ref14_In t l K) :
    CallsV Try.prog 7 #[.slice p_t t.length c_t, .slice p_l l.length c_l] w0 (fun v w' => ∃ (r0 : Bool), v = .bool r0 ∧ Same w0 w' ∧ K r0) := by
 refine CallsV.of (l := [.slice p_t t.length c_t, .slice p_l l.length c_l]) Try.func7 rfl Try.ntmps7 rfl ?_
 have hO := Owns.start hA
 have hB := Fr.refl (bl []) w0
 unfold ref14_In at H
 refine zq (zr (za rfl (zn (zq (zq ?_)))))
 refine zr (zm rfl (zo (op_len Try.underlying26 rfl) ?_))
 replace h_l := h_l.ch (Ch.start A w0)
 replace H := H h_l.bd
 refine zm rfl (zn (zb ?_))
 replace h_t := h_t.ch (Ch.start A w0)
 refine Go1.loopW (S := Nat) (fun s σ w => agrees σ [(0, .slice p_t t.length c_t), (7, .slice p_l l.length c_l), (8, .int .i64 (l.length : Int)), (9, .int .i64 (s : Int))] ∧ Owns w0.heap.size w [] A ∧ ISl (Rp.sl (Rp.int .i64)) (bl [] ++ A) w p_t c_t t ∧ ISl (Rp.int .i64) (bl [] ++ A) w p_l c_l l ∧ Fr (bl []) w0 (bl []) w) H ⟨⟨rfl, rfl, rfl, rfl, trivial⟩, hO, h_t, h_l, hB⟩ ?_
 intro X1 k1_2
 intro H hX1 σ w1
 refine andE fun hag => andE fun hO => andE fun h_t => andE fun h_l => fun hB => ?_
 refine Go1.keep [(0, .slice p_t t.length c_t), (7, .slice p_l l.length c_l), (8, .int .i64 (l.length : Int)), (9, .int .i64 (k1_2 : Int))] hag ?_
 refine zq (zr ?_)
 by_cases h3 : (k1_2 : Int) < (l.length : Int)
 ·replace H := ifp h3 H
  refine zo (fun w => opB (op_lss rfl rfl w) (decide_eq_true h3)) (zn (zq (zt rfl rfl (zk (zq ?_)))))
  refine zb (zq (zr ?_))
  obtain ⟨h4, H⟩ := H
  obtain ⟨h5, H⟩ := H
  refine zo (op_index Try.underlying26 ti3 rfl rfl h4 h5 (h_l.some_ h4 h5)) (zs (ldInt h_l h4 h5 Try.underlying3 rfl rfl) (za rfl (zn (zq (zr ?_)))))
  refine zm rfl ?_
  by_cases h6 : (ix l (k1_2 : Int)) < (0 : Int)
  ·replace H := ifp h6 H
   refine zo (fun w => opB (op_lss rfl rfl w) (decide_eq_true h6)) (zm rfl (zp (zp (zp (zp ?_)))))
   refine zo (op_pickT rfl rfl rfl) (zn (zt rfl rfl (zq (zr (za rfl ?_)))))
   refine zn ?_
   refine Go1.ret1 Try.func7 rfl ?_
   exact ⟨false, rfl, hB.same, H⟩
  replace H := ifn h6 H
  refine zo (fun w => opB (op_lss rfl rfl w) (decide_eq_false h6)) (zm rfl (zm rfl (zm rfl (zo (op_len Try.underlying22 rfl) ?_))))
  replace H := H h_t.bd
  by_cases h7 : (t.length : Int) ≤ (ix l (k1_2 : Int))
  ·replace H := ifp h7 H
   refine zo (fun w => opB (op_geq rfl rfl w) (decide_eq_true h7)) (zo (op_pickF rfl rfl rfl) (zn (zt rfl rfl (zq ?_))))
   refine Go1.cut [] trivial ?_
   intro σ _
   refine zr (za rfl (zn ?_))
   refine Go1.ret1 Try.func7 rfl ?_
   exact ⟨false, rfl, hB.same, H⟩
  replace H := ifn h7 H
  refine zo (fun w => opB (op_geq rfl rfl w) (decide_eq_false h7)) (zo (op_pickF rfl rfl rfl) (zn (zf rfl rfl (zk ?_))))
  refine Go1.inBlock ?_
  refine zr (zo (op_add rfl rfl (wrap_i64 (natbd h3 h_l.bd))) (zm rfl (zn ?_)))
  exact hX1 _ H _ _ ⟨⟨rfl, rfl, rfl, rfl, trivial⟩, hO, h_t, h_l, hB⟩
 replace H := ifn h3 H
 refine zo (fun w => opB (op_lss rfl rfl w) (decide_eq_false h3)) (zn (zq (zf rfl rfl ?_)))
 refine Go1.exit rfl ?_
 refine zq (zr (za rfl (zn ?_)))
 refine Go1.ret1 Try.func7 rfl ?_
 exact ⟨true, rfl, hB.same, H⟩
theorem body21 : Body Try.prog 21 := ⟨Try.f21, Try.func21, rfl, by kernel_rfl⟩
theorem walk_law15_flip {A : List Nat} {w0 : World} (hA : ∀ b ∈ A, b < w0.heap.size) {K : List (List Int) → Prop} (H : law15_flip  K) :
    CallsV Try.prog 21 #[] w0 (fun v w' => ∃ (r0 : List (List Int)), ∃ (a8 : Option Addr), ∃ (a9 : Nat), v = .slice a8 r0.length a9 ∧ Same w0 w' ∧ ISl (Rp.sl (Rp.int .i64)) A w' a8 a9 r0 ∧ K r0) := by
 refine CallsV.of (l := []) Try.func21 rfl Try.ntmps21 rfl ?_
 have hO := Owns.start hA
 have hB := Fr.refl (bl []) w0
 unfold law15_flip at H
 refine zq (zr (za rfl (zn (zq (zr ?_)))))
 have hobt := obuild (r := Rp.int .i64) (n := 3) (parts := [(0, .int .i64 (0 : Int)), (1, .int .i64 (1 : Int)), (2, .int .i64 (2 : Int))]) (vs := [.int .i64 (0 : Int), .int .i64 (1 : Int), .int .i64 (2 : Int)]) (xs := [(0 : Int), (1 : Int), (2 : Int)]) rfl Try.underlying26 ti3 hO (by decide) (by kernel_rfl) (Els.cons rfl rfl (Els.cons rfl rfl (Els.cons rfl rfl (Els.nil _ _ _) (by simp [mx])) (by simp [mx])) (by simp [mx])) rfl
 obtain ⟨w1, p2, fu, hE4, hs5, nS⟩ := hobt
 refine zg (nS rfl) ?_
 replace hO := fu.own
 have hobt := obuild (r := Rp.int .i64) (n := 3) (parts := [(0, .int .i64 (1 : Int)), (1, .int .i64 (0 : Int)), (2, .int .i64 (2 : Int))]) (vs := [.int .i64 (1 : Int), .int .i64 (0 : Int), .int .i64 (2 : Int)]) (xs := [(1 : Int), (0 : Int), (2 : Int)]) rfl Try.underlying26 ti3 hO (by decide) (by kernel_rfl) (Els.cons rfl rfl (Els.cons rfl rfl (Els.cons rfl rfl (Els.nil _ _ _) (by simp [mx])) (by simp [mx])) (by simp [mx])) rfl
 obtain ⟨w8, p9, cf, cK, kV, gu⟩ := hobt
 refine zg (gu rfl) ?_
 replace hO := cf.own
 have hobt := obuild (r := Rp.int .i64) (n := 3) (parts := [(0, .int .i64 (2 : Int)), (1, .int .i64 (2 : Int)), (2, .int .i64 (2 : Int))]) (vs := [.int .i64 (2 : Int), .int .i64 (2 : Int), .int .i64 (2 : Int)]) (xs := [(2 : Int), (2 : Int), (2 : Int)]) rfl Try.underlying26 ti3 hO (by decide) (by kernel_rfl) (Els.cons rfl rfl (Els.cons rfl rfl (Els.cons rfl rfl (Els.nil _ _ _) (by simp [mx])) (by simp [mx])) (by simp [mx])) rfl
 obtain ⟨w15, p16, cS, hV, qt, lO⟩ := hobt
 refine zg (lO rfl) ?_
 replace hO := cS.own
 replace hE4 := (hE4.ch cf.ch).ch cS.ch
 have hobt := freeze 2 hO rfl hE4
 obtain ⟨hO1, kW, fA, nT⟩ := hobt
 replace hO := hO1; clear hO1
 replace cK := (cK.ch cS.ch).ch kW
 have hobt := freeze 1 hO rfl cK
 obtain ⟨hO1, kX, gj, nU⟩ := hobt
 replace hO := hO1; clear hO1
 replace hV := (hV.ch kW).ch kX
 have hobt := freeze 0 hO rfl hV
 obtain ⟨hO1, kY, ia, nV⟩ := hobt
 replace hO := hO1; clear hO1
 replace gj := gj.ch kY
 replace fA := (fA.ch kX).ch kY
 have hobt := obuild (r := Rp.sl (Rp.int .i64)) (n := 3) (parts := [(0, .slice p2 3 3), (1, .slice p9 3 3), (2, .slice p16 3 3)]) (vs := [.slice p2 3 3, .slice p9 3 3, .slice p16 3 3]) (xs := [[(0 : Int), (1 : Int), (2 : Int)], [(1 : Int), (0 : Int), (2 : Int)], [(2 : Int), (2 : Int), (2 : Int)]]) rfl Try.underlying22 ti26 hO (by decide) (by kernel_rfl) (Els.cons rfl ⟨p2, 3, congrArg some (congrArg (fun nn => Value.slice p2 nn 3) nT), fA⟩ (Els.cons rfl ⟨p9, 3, congrArg some (congrArg (fun nn => Value.slice p9 nn 3) nU), gj⟩ (Els.cons rfl ⟨p16, 3, congrArg some (congrArg (fun nn => Value.slice p16 nn 3) nV), ia⟩ (Els.nil _ _ _) (by simp [mx])) (by simp [mx])) (by simp [mx])) rfl
 obtain ⟨w31, p32, bE, nW, k8, gv⟩ := hobt
 refine zg (gv rfl) ?_
 replace hO := bE.own
 refine za rfl (zn ?_)
 have hobt := freeze 0 hO rfl nW
 obtain ⟨hO1, jt, nX, nY⟩ := hobt
 replace hO := hO1; clear hO1
 refine Go1.ret1 Try.func21 rfl ?_
 replace hB := (((((((hB.trans fu.fr).trans cf.fr).trans cS.fr).trans (Owns.dropFr _ _ 2)).trans (Owns.dropFr _ _ 1)).trans (Owns.dropFr _ _ 0)).trans bE.fr).trans (Owns.dropFr _ _ 0)
 exact ⟨[[(0 : Int), (1 : Int), (2 : Int)], [(1 : Int), (0 : Int), (2 : Int)], [(2 : Int), (2 : Int), (2 : Int)]], p32, 3, (congrArg (fun nn => Value.slice p32 nn 3) nY), hB.same, (nX.ch (Ch.weak _ _ _)), H⟩
theorem body46 : Body Try.prog 46 := ⟨Try.f46, Try.func46, rfl, by kernel_rfl⟩
theorem walk_mult_shape {A : List Nat} {w0 : World} {p_t : Option Addr} {c_t : Nat} {t : List (List Int)} (hA : ∀ b ∈ A, b < w0.heap.size) (h_t : ISl (Rp.sl (Rp.int .i64)) A w0 p_t c_t t) {K : Int → Prop} (H : mult_shape t K) :
    CallsV Try.prog 46 #[.slice p_t t.length c_t] w0 (fun v w' => ∃ (r0 : Int), v = .int .i64 r0 ∧ Same w0 w' ∧ K r0) := by
 refine CallsV.of (l := [.slice p_t t.length c_t]) Try.func46 rfl Try.ntmps46 rfl ?_
 have hO := Owns.start hA
 have hB := Fr.refl (bl []) w0
 unfold mult_shape at H
 refine zq (zr (za rfl (zn (zq (zq ?_)))))
 refine zr (zm rfl (zo (op_len Try.underlying22 rfl) ?_))
 replace h_t := h_t.ch (Ch.start A w0)
 replace H := H h_t.bd
 by_cases h1 : (400 : Int) < (t.length : Int)
 ·replace H := ifp h1 H
  refine zo (fun w => opB (op_gtr rfl rfl w) (decide_eq_true h1)) (zn (zt rfl rfl (zq (zr (za rfl ?_)))))
  refine zn ?_
  refine Go1.ret1 Try.func46 rfl ?_
  exact ⟨(3 : Int), rfl, hB.same, H⟩
 replace H := ifn h1 H
 refine zo (fun w => opB (op_gtr rfl rfl w) (decide_eq_false h1)) (zn (zf rfl rfl (zk (zq (zq ?_)))))
 refine zr (zm rfl (zo (op_len Try.underlying22 rfl) ?_))
 by_cases h2 : (t.length : Int) = (0 : Int)
 ·replace H := ifp h2 H
  refine zo (fun w => opB (op_eql rfl rfl w) (decide_eq_true h2)) (zn (zt rfl rfl (zq (zr (za rfl ?_)))))
  refine zn ?_
  refine Go1.ret1 Try.func46 rfl ?_
  exact ⟨(4 : Int), rfl, hB.same, H⟩
 replace H := ifn h2 H
 refine zo (fun w => opB (op_eql rfl rfl w) (decide_eq_false h2)) (zn (zf rfl rfl (zk (zq (zq ?_)))))
 refine zr (zm rfl (zo (op_len Try.underlying22 rfl) (zm rfl (zn (zb ?_)))))
 refine Go1.loopW (S := Nat) (fun s σ w => agrees σ [(0, .slice p_t t.length c_t), (13, .slice p_t t.length c_t), (14, .int .i64 (t.length : Int)), (15, .int .i64 (s : Int))] ∧ Owns w0.heap.size w [] A ∧ ISl (Rp.sl (Rp.int .i64)) (bl [] ++ A) w p_t c_t t ∧ Fr (bl []) w0 (bl []) w) H ⟨⟨rfl, rfl, rfl, rfl, trivial⟩, hO, h_t, hB⟩ ?_
 intro X1 k1_4
 intro H hX1 σ w3
 refine andE fun hag => andE fun hO => andE fun h_t => fun hB => ?_
 refine Go1.keep [(0, .slice p_t t.length c_t), (13, .slice p_t t.length c_t), (14, .int .i64 (t.length : Int)), (15, .int .i64 (k1_4 : Int))] hag ?_
 refine zq (zr ?_)
 by_cases h5 : (k1_4 : Int) < (t.length : Int)
 ·replace H := ifp h5 H
  refine zo (fun w => opB (op_lss rfl rfl w) (decide_eq_true h5)) (zn (zq (zt rfl rfl (zk (zq ?_)))))
  refine zb (zq (zr ?_))
  obtain ⟨h6, H⟩ := H
  obtain ⟨h7, H⟩ := H
  refine zo (op_index Try.underlying22 ti26 rfl rfl h6 h7 (h_t.some_ h6 h7)) ?_
  have hobt := ldSl h_t h6 h7
  obtain ⟨p8, c9, di, jq⟩ := hobt
  refine zs (jq Try.underlying26 rfl rfl) (za rfl (zn (zq (zq (zr ?_)))))
  refine zm rfl (zo (op_len Try.underlying26 rfl) ?_)
  replace H := H di.bd
  refine zm rfl (zo (op_len Try.underlying22 rfl) ?_)
  by_cases h12 : ((ix t (k1_4 : Int)).length : Int) = (t.length : Int)
  ·replace H := ifp h12 H
   refine zo (fun w => opB (op_neq rfl rfl w) (ndT h12)) (zn (zf rfl rfl (zk (zq (zr ?_)))))
   refine zm rfl (zo (op_len Try.underlying26 rfl) (zm rfl (zn (zb ?_))))
   refine Go1.loopW (S := Nat) (fun s σ w => agrees σ [(0, .slice p_t t.length c_t), (13, .slice p_t t.length c_t), (14, .int .i64 (t.length : Int)), (15, .int .i64 (k1_4 : Int)), (24, .slice p8 ((ix t (k1_4 : Int)).length) c9), (25, .int .i64 ((ix t (k1_4 : Int)).length : Int)), (26, .int .i64 (s : Int))] ∧ Owns w0.heap.size w [] A ∧ ISl (Rp.sl (Rp.int .i64)) (bl [] ++ A) w p_t c_t t ∧ ISl (Rp.int .i64) (bl [] ++ A) w p8 c9 (ix t (k1_4 : Int)) ∧ Fr (bl []) w0 (bl []) w) H ⟨⟨rfl, rfl, rfl, rfl, rfl, rfl, rfl, trivial⟩, hO, h_t, di, hB⟩ ?_
   intro X2 k2_14
   intro H hX2 σ w13
   refine andE fun hag => andE fun hO => andE fun h_t => andE fun di => fun hB => ?_
   refine Go1.keep [(0, .slice p_t t.length c_t), (13, .slice p_t t.length c_t), (14, .int .i64 (t.length : Int)), (15, .int .i64 (k1_4 : Int)), (24, .slice p8 ((ix t (k1_4 : Int)).length) c9), (25, .int .i64 ((ix t (k1_4 : Int)).length : Int)), (26, .int .i64 (k2_14 : Int))] hag ?_
   refine zq (zr ?_)
   by_cases h15 : (k2_14 : Int) < ((ix t (k1_4 : Int)).length : Int)
   ·replace H := ifp h15 H
    refine zo (fun w => opB (op_lss rfl rfl w) (decide_eq_true h15)) (zn (zq (zt rfl rfl (zk (zq ?_)))))
    refine zb (zq (zr ?_))
    obtain ⟨h16, H⟩ := H
    obtain ⟨h17, H⟩ := H
    refine zo (op_index Try.underlying26 ti3 rfl rfl h16 h17 (di.some_ h16 h17)) (zs (ldInt di h16 h17 Try.underlying3 rfl rfl) (za rfl (zn (zq (zr ?_)))))
    refine zm rfl ?_
    by_cases h18 : (ix (ix t (k1_4 : Int)) (k2_14 : Int)) < (0 : Int)
    ·replace H := ifp h18 H
     refine zo (fun w => opB (op_lss rfl rfl w) (decide_eq_true h18)) (zm rfl (zp (zp (zp (zp ?_)))))
     refine zo (op_pickT rfl rfl rfl) (zn (zt rfl rfl (zq (zr (za rfl ?_)))))
     refine zn ?_
     refine Go1.ret1 Try.func46 rfl ?_
     exact ⟨(4 : Int), rfl, hB.same, H⟩
    replace H := ifn h18 H
    refine zo (fun w => opB (op_lss rfl rfl w) (decide_eq_false h18)) (zm rfl (zm rfl (zm rfl (zo (op_len Try.underlying22 rfl) ?_))))
    by_cases h19 : (t.length : Int) ≤ (ix (ix t (k1_4 : Int)) (k2_14 : Int))
    ·replace H := ifp h19 H
     refine zo (fun w => opB (op_geq rfl rfl w) (decide_eq_true h19)) (zo (op_pickF rfl rfl rfl) (zn (zt rfl rfl (zq ?_))))
     refine Go1.cut [] trivial ?_
     intro σ _
     refine zr (za rfl (zn ?_))
     refine Go1.ret1 Try.func46 rfl ?_
     exact ⟨(4 : Int), rfl, hB.same, H⟩
    replace H := ifn h19 H
    refine zo (fun w => opB (op_geq rfl rfl w) (decide_eq_false h19)) (zo (op_pickF rfl rfl rfl) (zn (zf rfl rfl (zk ?_))))
    refine Go1.inBlock ?_
    refine zr (zo (op_add rfl rfl (wrap_i64 (natbd h15 di.bd))) (zm rfl (zn ?_)))
    exact hX2 _ H _ _ ⟨⟨rfl, rfl, rfl, rfl, rfl, rfl, rfl, trivial⟩, hO, h_t, di, hB⟩
   replace H := ifn h15 H
   refine zo (fun w => opB (op_lss rfl rfl w) (decide_eq_false h15)) (zn (zq (zf rfl rfl ?_)))
   refine Go1.exit rfl ?_
   refine Go1.inBlock ?_
   refine zr (zo (op_add rfl rfl (wrap_i64 (natbd h5 h_t.bd))) (zm rfl (zn ?_)))
   exact hX1 _ H _ _ ⟨⟨rfl, rfl, rfl, rfl, trivial⟩, hO, h_t, hB⟩
  replace H := ifn h12 H
  refine zo (fun w => opB (op_neq rfl rfl w) (ndF h12)) (zn (zt rfl rfl (zq (zr (za rfl ?_)))))
  refine zn ?_
  refine Go1.ret1 Try.func46 rfl ?_
  exact ⟨(4 : Int), rfl, hB.same, H⟩
 replace H := ifn h5 H
 refine zo (fun w => opB (op_lss rfl rfl w) (decide_eq_false h5)) (zn (zq (zf rfl rfl ?_)))
 refine Go1.exit rfl ?_
 refine zq (zr (za rfl (zn ?_)))
 refine Go1.ret1 Try.func46 rfl ?_
 exact ⟨(0 : Int), rfl, hB.same, H⟩
theorem body67 : Body Try.prog 67 := ⟨Try.f67, Try.func67, rfl, by kernel_rfl⟩
theorem body48 : Body Try.prog 48 := ⟨Try.f48, Try.func48, rfl, by kernel_rfl⟩
theorem walk_mult_spanning {A : List Nat} {w0 : World} {ay : Option Addr} {az : Nat} {a0 : List (List Int)} (hA : ∀ b ∈ A, b < w0.heap.size) (ao : ISl (Rp.sl (Rp.int .i64)) A w0 ay az a0) {K : List Int → Prop} (H : mult_spanning a0 K) :
    CallsV Try.prog 48 #[.slice ay a0.length az] w0 (fun v w' => ∃ (r0 : List Int), ∃ (a8 : Option Addr), ∃ (a9 : Nat), v = .slice a8 r0.length a9 ∧ Same w0 w' ∧ ISl (Rp.int .i64) A w' a8 a9 r0 ∧ K r0) := by
 refine CallsV.of (l := [.slice ay a0.length az]) Try.func48 rfl Try.ntmps48 rfl ?_
 have hO := Owns.start hA
 have hB := Fr.refl (bl []) w0
 unfold mult_spanning at H
 refine zq (zr (za rfl (zn (zq (zr ?_)))))
 refine za rfl ?_
 have hobt := oalloc (t := 26) (cs := #[.slice none 0 0]) ti26 hO rfl
 obtain ⟨w1, B2, fu, hs4, ju⟩ := hobt
 refine GoR.op ju rfl rfl ?_
 replace hO := fu.own
 refine zn (zq (zr (zm rfl (zo (op_len Try.underlying22 rfl) ?_))))
 replace ao := (ao.ch (Ch.start A w0)).ch fu.ch
 replace H := H ao.bd
 obtain ⟨h14, H⟩ := H
 obtain ⟨h15, H⟩ := H
 have hobt := omake (n := (a0.length : Int)) (r := Rp.bool) (d := false) Try.underlying42 ti4 (fun _ _ => rfl) rfl hO h14 h15 (by decide)
 obtain ⟨w7, p8, vs9, cf, cK, kV, gu⟩ := hobt
 refine zg (gu rfl rfl) ?_
 replace hO := cf.own
 have hobt := oalloc (t := 42) (cs := #[.slice none 0 0]) ti42 hO rfl
 obtain ⟨w17, B18, bt, qu, iv⟩ := hobt
 refine GoR.op iv rfl rfl ?_
 replace hO := bt.own
 have hobt := oblkSt2 (v := .slice p8 a0.length a0.length) (i := 0) (cs' := #[.slice p8 a0.length a0.length]) 0 hO rfl rfl rfl rfl
 obtain ⟨w23, ba, lP⟩ := hobt
 refine zg (lP Try.underlying42 rfl ti42 (by exact rfl) (by exact rfl)) ?_
 replace hO := ba.own
 refine zn (zq (zr (zo (op_makeFunc (vs := [.pointer (some ⟨B18, 0, none⟩), .pointer (some ⟨B2, 0, none⟩)]) rfl) (za rfl (zn ?_)))))
 refine zq (zr (za rfl (zn (zq (zq ?_)))))
 refine zr (zm rfl (zo (op_len Try.underlying22 rfl) (zm rfl (zn (zb ?_)))))
 have gT := Stp.nil (e := 3) (r := 1) hO
 replace hO := gT.own
 have jv := Els.nil (Rp.int .i64) (bl (.row 3 1 none 0 0 [] :: [.blk B18 (.cells #[.slice p8 a0.length a0.length] 42 (0, 0)), .row 4 1 p8 a0.length a0.length vs9, .blk B2 (.cells #[.slice none 0 0] 26 (0, 0))]) ++ A) w23
 have cg := Stp.nil (e := 3) (r := 1) hO
 replace hO := cg.own
 have n7 := Els.nil (Rp.int .i64) (bl (.row 3 1 none 0 0 [] :: [.row 3 1 none 0 0 [], .blk B18 (.cells #[.slice p8 a0.length a0.length] 42 (0, 0)), .row 4 1 p8 a0.length a0.length vs9, .blk B2 (.cells #[.slice none 0 0] 26 (0, 0))]) ++ A) w23
 replace jv := jv.ch cg.ch
 have Z1 := ((bt.ch.trans ba.ch).trans gT.ch).trans cg.ch
 replace cK := cK.ch Z1
 have Z2 := (((cf.ch.trans bt.ch).trans ba.ch).trans gT.ch).trans cg.ch
 replace ao := ao.ch Z2
 replace hB := (((((hB.trans fu.fr).trans cf.fr).trans bt.fr).trans ba.fr).trans gT.fr).trans cg.fr
 refine Go1.loopW (S := Nat × Nat × List Int × List Int × List Bool) (fun s σ w => match s with | (k1_33, k1_34, d_35, d_41, d_47) => ∃ (n40 : Nat), ∃ (p38 : Option Addr), ∃ (c39 : Nat), ∃ (fB : List Value), ∃ (n46 : Nat), ∃ (p44 : Option Addr), ∃ (c45 : Nat), ∃ (fC : List Value), ∃ (fD : List Value), agrees σ [(0, .slice ay a0.length az), (3, .slice p44 n46 c45), (4, .pointer (some ⟨B2, 0, none⟩)), (5, .pointer (some ⟨B18, 0, none⟩)), (6, .func (.func 67) #[] #[.pointer (some ⟨B18, 0, none⟩), .pointer (some ⟨B2, 0, none⟩)]), (7, .int .i64 (k1_33 : Int)), (17, .int .i64 (a0.length : Int)), (18, .int .i64 (k1_34 : Int))] ∧ (fun Z0 => Owns w0.heap.size w Z0 A ∧ Els (Rp.int .i64) (bl Z0 ++ A) w fB d_35 ∧ Els (Rp.int .i64) (bl Z0 ++ A) w fC d_41 ∧ Els (Rp.bool) (bl Z0 ++ A) w fD d_47 ∧ ISl (Rp.sl (Rp.int .i64)) (bl Z0 ++ A) w ay az a0 ∧ Fr (bl []) w0 (bl Z0) w) [.row 3 1 p38 n40 c39 fB, .row 3 1 p44 n46 c45 fC, .blk B18 (.cells #[.slice p8 a0.length a0.length] 42 (0, 0)), .row 4 1 p8 a0.length a0.length fD, .blk B2 (.cells #[.slice p38 n40 c39] 26 (0, 0))]) H ⟨0, none, 0, [], 0, none, 0, [], vs9, ⟨rfl, rfl, rfl, rfl, rfl, rfl, rfl, rfl, trivial⟩, hO, n7, jv, cK, ao, hB⟩ ?_
 intro X1
 refine prE fun k1_33 => prE fun k1_34 => prE fun d_35 => prE fun d_41 => fun d_47 => ?_
 intro H hX1 σ w32
 refine exE fun n40 => exE fun p38 => exE fun c39 => exE fun fB => exE fun n46 => exE fun p44 => exE fun c45 => exE fun fC => exE fun fD => andE fun hag => andE fun hO => andE fun cU => andE fun gk => andE fun cr => andE fun ao => fun hB => ?_
 dsimp only at H
 refine Go1.keep [(0, .slice ay a0.length az), (3, .slice p44 n46 c45), (4, .pointer (some ⟨B2, 0, none⟩)), (5, .pointer (some ⟨B18, 0, none⟩)), (6, .func (.func 67) #[] #[.pointer (some ⟨B18, 0, none⟩), .pointer (some ⟨B2, 0, none⟩)]), (7, .int .i64 (k1_33 : Int)), (17, .int .i64 (a0.length : Int)), (18, .int .i64 (k1_34 : Int))] hag ?_
 refine zq (zr ?_)
 by_cases h50 : (k1_34 : Int) < (a0.length : Int)
 ·replace H := ifp h50 H
  refine zo (fun w => opB (op_lss rfl rfl w) (decide_eq_true h50)) (zn (zq (zt rfl rfl (zk (zq ?_)))))
  refine zb (zq (zr (zm rfl (za rfl (zn ?_)))))
  refine zq (zq (zr (zs (oblk (i := 0) 2 hO rfl rfl Try.underlying42 rfl rfl) (zm rfl ?_))))
  obtain ⟨h51, H⟩ := H
  obtain ⟨h52, H⟩ := H
  refine zo (op_index Try.underlying42 ti4 rfl rfl h51 (ltn (cr.neq hO 3 rfl) h52) (cr.psome hO 3 rfl h51 h52)) ?_
  by_cases h53 : ix d_47 (k1_34 : Int) = true
  ·replace H := ifp h53 H
   refine zg (opB ((oldBool 3 hO rfl cr h51 h52 Try.underlying4 rfl rfl) _ (Same.refl _)) (h53)) (zn (zt rfl rfl ?_))
   refine Go1.exit rfl ?_
   refine zr (zo (op_add rfl rfl (wrap_i64 (natbd h50 ao.bd))) (zm rfl (zn ?_)))
   exact hX1 _ H _ _ ⟨n40, p38, c39, fB, n46, p44, c45, fC, fD, ⟨rfl, rfl, rfl, rfl, rfl, rfl, rfl, rfl, trivial⟩, hO, cU, gk, cr, ao, hB⟩
  replace H := ifn h53 H
  refine zg (opB ((oldBool 3 hO rfl cr h51 h52 Try.underlying4 rfl rfl) _ (Same.refl _)) (Bool.eq_false_iff.2 h53)) (zn (zf rfl rfl (zk (zq (zr ?_)))))
  refine zm rfl (zm rfl ?_)
  have hobt := obuild (r := Rp.int .i64) (n := 1) (parts := [(0, .int .i64 (k1_34 : Int))]) (vs := [.int .i64 (k1_34 : Int)]) (xs := [(k1_34 : Int)]) rfl Try.underlying26 ti3 hO (by decide) (by kernel_rfl) (Els.cons rfl rfl (Els.nil _ _ _) (by simp [mx])) rfl
  obtain ⟨w54, p55, bF, gl, k9, iw⟩ := hobt
  refine zg (iw rfl) ?_
  replace hO := bF.own
  have hobt := freeze 0 hO rfl gl
  obtain ⟨hO1, ib, dn, n8⟩ := hobt
  dsimp only [eS, eZ] at hO1 ib dn
  replace hB := (hB.trans bF.fr).trans (Owns.dropFr _ _ 0)
  dsimp only [eS, eZ] at hB
  replace hO := hO1; clear hO1
  obtain ⟨h64, H⟩ := H
  replace gk := (gk.ch bF.ch).ch ib
  have hobt := oapp Try.underlying26 ti3 rfl 1 hO rfl gk dn n8 h64 (by decide)
  obtain ⟨w65, p66, c67, cV, fE, aU, lQ⟩ := hobt
  dsimp only [sS, sZ] at fE aU
  refine zg (lQ (by exact rfl) (by exact rfl)) ?_
  replace hO := fE.own
  refine za rfl (zn (zq (zr (zm rfl (zm rfl ?_)))))
  refine GoR.inl (vs := [.int .i64 (k1_34 : Int)]) (caps := [.pointer (some ⟨B18, 0, none⟩), .pointer (some ⟨B2, 0, none⟩)]) rfl rfl body67 Try.func67 rfl Try.ntmps67 rfl rfl rfl ?_
  intro RhR73 hR73
  refine zq (zr (zs (oblk (i := 0) 2 hO rfl rfl Try.underlying42 rfl rfl) (zm rfl ?_)))
  obtain ⟨h74, H⟩ := H
  obtain ⟨h75, H⟩ := H
  have Z3 := (bF.ch.trans ib).trans fE.ch
  replace cr := cr.ch Z3
  refine zo (op_index Try.underlying42 ti4 rfl rfl h74 (ltn (cr.neq hO 3 rfl) h75) (cr.psome hO 3 rfl h74 h75)) (zg (opB ((oldBool 3 hO rfl cr h74 h75 Try.underlying4 rfl rfl) _ (Same.refl _)) (Bool.eq_false_iff.2 h53)) (zo (op_not rfl) (zn (zt rfl rfl (zq ?_)))))
  refine Go1.cut [(0, .int .i64 (k1_34 : Int)), (1, .pointer (some ⟨B18, 0, none⟩)), (2, .pointer (some ⟨B2, 0, none⟩))] ⟨rfl, rfl, rfl, trivial⟩ ?_
  intro σ _
  refine zr (zs (oblk (i := 0) 2 hO rfl rfl Try.underlying42 rfl rfl) (zm rfl ?_))
  obtain ⟨h76, H⟩ := H
  obtain ⟨h77, H⟩ := H
  refine zo (op_index Try.underlying42 ti4 rfl rfl h76 (ltn (cr.neq hO 3 rfl) h77) (cr.psome hO 3 rfl h76 h77)) ?_
  have hobt := ost (r := Rp.bool) rfl 3 hO rfl cr h76 h77 (v := .bool true) (u := true) rfl rfl
  obtain ⟨w78, n9, cT, fv, lR⟩ := hobt
  dsimp only [sS, sZ] at cT fv
  refine zg (lR Try.underlying4 rfl ti4 (by exact rfl) (by exact rfl)) ?_
  replace hO := cT.own
  refine zn (zr (zs (oblk (i := 0) 4 hO rfl rfl Try.underlying26 rfl rfl) (zm rfl ?_)))
  have hobt := obuild (r := Rp.int .i64) (n := 1) (parts := [(0, .int .i64 (k1_34 : Int))]) (vs := [.int .i64 (k1_34 : Int)]) (xs := [(k1_34 : Int)]) rfl Try.underlying26 ti3 hO (by decide) (by kernel_rfl) (Els.cons rfl rfl (Els.nil _ _ _) (by simp [mx])) rfl
  obtain ⟨w83, p84, bN, oa, qv, lT⟩ := hobt
  refine zg (lT rfl) ?_
  replace hO := bN.own
  have hobt := freeze 0 hO rfl oa
  obtain ⟨hO1, gM, gN, ob⟩ := hobt
  dsimp only [eS, eZ] at hO1 gM gN
  replace hB := (((hB.trans fE.fr).trans cT.fr).trans bN.fr).trans (Owns.dropFr _ _ 0)
  dsimp only [eS, eZ] at hB
  replace hO := hO1; clear hO1
  obtain ⟨h93, H⟩ := H
  have Z4 := ((Z3.trans cT.ch).trans bN.ch).trans gM
  replace cU := cU.ch Z4
  have hobt := oapp Try.underlying26 ti3 rfl 0 hO rfl cU gN ob h93 (by decide)
  obtain ⟨w94, p95, c96, oc, eY, iA, la⟩ := hobt
  dsimp only [sS, sZ] at eY iA
  refine zg (la (by exact rfl) (by exact rfl)) ?_
  replace hO := eY.own
  have hobt := oblkSt2 (v := .slice p95 (n40 + 1) c96) (i := 0) (cs' := #[.slice p95 (n40 + 1) c96]) 4 hO rfl rfl rfl rfl
  obtain ⟨qw, bw, lb⟩ := hobt
  dsimp only [sS, sZ] at bw
  refine zg (lb Try.underlying26 rfl ti26 (by exact rfl) (by exact rfl)) ?_
  replace hO := bw.own
  refine zn ?_
  refine Go1.fin0V Try.func67 rfl ?_
  refine hR73 _ _ ?_
  refine zn (zb ?_)
  replace iA := iA.ch bw.ch
  replace hB := (hB.trans eY.fr).trans bw.fr
  have Z5 := ((bN.ch.trans gM).trans eY.ch).trans bw.ch
  replace fv := fv.ch Z5
  have Z6 := (((cT.ch.trans bN.ch).trans gM).trans eY.ch).trans bw.ch
  replace aU := aU.ch Z6
  replace ao := ((ao.ch Z4).ch eY.ch).ch bw.ch
  refine Go1.loopW (S := Nat × List Int × List Bool) (fun s σ w => match s with | (k2_106, d_107, d_113) => ∃ (dj : Nat), ∃ (ct : Option Addr), ∃ (cu : Nat), ∃ (dI : List Value), ∃ (dJ : List Value), agrees σ [(0, .slice ay a0.length az), (3, .slice p66 (n46 + 1) c67), (4, .pointer (some ⟨B2, 0, none⟩)), (5, .pointer (some ⟨B18, 0, none⟩)), (6, .func (.func 67) #[] #[.pointer (some ⟨B18, 0, none⟩), .pointer (some ⟨B2, 0, none⟩)]), (7, .int .i64 (k2_106 : Int)), (17, .int .i64 (a0.length : Int)), (18, .int .i64 (k1_34 : Int))] ∧ (fun Z0 => Owns w0.heap.size w Z0 A ∧ Els (Rp.int .i64) (bl Z0 ++ A) w dI d_107 ∧ Els (Rp.int .i64) (bl Z0 ++ A) w cV (d_41 ++ ([(k1_34 : Int)])) ∧ Els (Rp.bool) (bl Z0 ++ A) w dJ d_113 ∧ ISl (Rp.sl (Rp.int .i64)) (bl Z0 ++ A) w ay az a0 ∧ Fr (bl []) w0 (bl Z0) w) [.row 3 1 ct dj cu dI, .row 3 1 p66 (n46 + 1) c67 cV, .blk B18 (.cells #[.slice p8 a0.length a0.length] 42 (0, 0)), .row 4 1 p8 a0.length a0.length dJ, .blk B2 (.cells #[.slice ct dj cu] 26 (0, 0))]) H ⟨n40 + 1, p95, c96, oc, n9, ⟨rfl, rfl, rfl, rfl, rfl, rfl, rfl, rfl, trivial⟩, hO, iA, aU, fv, ao, hB⟩ ?_
  intro X2
  refine prE fun k2_106 => prE fun d_107 => fun d_113 => ?_
  intro H hX2 σ od
  refine exE fun dj => exE fun ct => exE fun cu => exE fun dI => exE fun dJ => andE fun hag => andE fun hO => andE fun eM => andE fun aU => andE fun kK => andE fun ao => fun hB => ?_
  dsimp only at H
  refine Go1.keep [(0, .slice ay a0.length az), (3, .slice p66 (n46 + 1) c67), (4, .pointer (some ⟨B2, 0, none⟩)), (5, .pointer (some ⟨B18, 0, none⟩)), (6, .func (.func 67) #[] #[.pointer (some ⟨B18, 0, none⟩), .pointer (some ⟨B2, 0, none⟩)]), (7, .int .i64 (k2_106 : Int)), (17, .int .i64 (a0.length : Int)), (18, .int .i64 (k1_34 : Int))] hag ?_
  refine zq (zq (zr (zm rfl (zs (oblk (i := 0) 4 hO rfl rfl Try.underlying26 rfl rfl) (zo (op_lenN Try.underlying26 rfl (eM.neq hO 0 rfl)) ?_)))))
  by_cases fF : (k2_106 : Int) < (d_107.length : Int)
  ·replace H := ifp fF H
   refine zo (fun w => opB (op_lss rfl rfl w) (decide_eq_true fF)) (zn (zt rfl rfl (zk (zq (zb ?_)))))
   refine zq (zr (zs (oblk (i := 0) 4 hO rfl rfl Try.underlying26 rfl rfl) (zm rfl ?_)))
   obtain ⟨gm, H⟩ := H
   obtain ⟨fU, H⟩ := H
   refine zo (op_index Try.underlying26 ti3 rfl rfl gm (ltn (eM.neq hO 0 rfl) fU) (eM.psome hO 0 rfl gm fU)) (zs (oldInt 0 hO rfl eM gm fU Try.underlying3 rfl rfl) (za rfl (zn (zq (zr ?_)))))
   refine zs (oblk (i := 0) 4 hO rfl rfl Try.underlying26 rfl rfl) (zm rfl (zo (op_add rfl rfl (wrap_i64 (natbd fF eM.bd))) ?_))
   obtain ⟨jw, H⟩ := H
   obtain ⟨jx, H⟩ := H
   have hal121 := AL.start 0 hO rfl eM ((k2_106 + 1 : Int)).toNat
   refine zo (op_sliceTo Try.underlying26 ti3 rfl rfl jw (Els.lec 0 hO rfl eM jx)) (zo (op_lenN Try.underlying26 rfl (takeLen jw jx)) (zm rfl (zn (zb ?_))))
   refine Go1.loopW (S := Nat × List Int × List Bool) (fun s σ w => match s with | (k3_123, d_124, d_130) => ∃ (bB : Nat), ∃ (cv : Option Addr), ∃ (cE : Nat), ∃ (dp : List Value), ∃ (dq : List Value), agrees σ [(0, .slice ay a0.length az), (3, .slice p66 (n46 + 1) c67), (4, .pointer (some ⟨B2, 0, none⟩)), (5, .pointer (some ⟨B18, 0, none⟩)), (6, .func (.func 67) #[] #[.pointer (some ⟨B18, 0, none⟩), .pointer (some ⟨B2, 0, none⟩)]), (7, .int .i64 (k2_106 : Int)), (9, .int .i64 (ix d_107 (k2_106 : Int))), (17, .int .i64 (a0.length : Int)), (18, .int .i64 (k1_34 : Int)), (45, .slice ct (((k2_106 + 1 : Int)).toNat) cu), (46, .int .i64 ((d_107.take ((k2_106 + 1 : Int)).toNat).length : Int)), (47, .int .i64 (k3_123 : Int))] ∧ (fun Z0 => Owns w0.heap.size w Z0 A ∧ Els (Rp.int .i64) (bl Z0 ++ A) w dp d_124 ∧ Els (Rp.int .i64) (bl Z0 ++ A) w cV (d_41 ++ ([(k1_34 : Int)])) ∧ Els (Rp.bool) (bl Z0 ++ A) w dq d_130 ∧ AL (Rp.int .i64) (bl Z0 ++ A) w cv d_124 ct cu (d_107.take ((k2_106 + 1 : Int)).toNat) ∧ ISl (Rp.sl (Rp.int .i64)) (bl Z0 ++ A) w ay az a0 ∧ Fr (bl []) w0 (bl Z0) w) [.row 3 1 cv bB cE dp, .row 3 1 p66 (n46 + 1) c67 cV, .blk B18 (.cells #[.slice p8 a0.length a0.length] 42 (0, 0)), .row 4 1 p8 a0.length a0.length dq, .blk B2 (.cells #[.slice cv bB cE] 26 (0, 0))]) H ⟨dj, ct, cu, dI, dJ, ⟨rfl, rfl, rfl, rfl, rfl, rfl, rfl, rfl, rfl, rfl, rfl, rfl, trivial⟩, hO, eM, aU, kK, hal121, ao, hB⟩ ?_
   intro X3
   refine prE fun k3_123 => prE fun d_124 => fun d_130 => ?_
   intro H hX3 σ qx
   refine exE fun bB => exE fun cv => exE fun cE => exE fun dp => exE fun dq => andE fun hag => andE fun hO => andE fun bY => andE fun aU => andE fun ci => andE fun hal121 => andE fun ao => fun hB => ?_
   dsimp only at H
   refine Go1.keep [(0, .slice ay a0.length az), (3, .slice p66 (n46 + 1) c67), (4, .pointer (some ⟨B2, 0, none⟩)), (5, .pointer (some ⟨B18, 0, none⟩)), (6, .func (.func 67) #[] #[.pointer (some ⟨B18, 0, none⟩), .pointer (some ⟨B2, 0, none⟩)]), (7, .int .i64 (k2_106 : Int)), (9, .int .i64 (ix d_107 (k2_106 : Int))), (17, .int .i64 (a0.length : Int)), (18, .int .i64 (k1_34 : Int)), (45, .slice ct (((k2_106 + 1 : Int)).toNat) cu), (46, .int .i64 ((d_107.take ((k2_106 + 1 : Int)).toNat).length : Int)), (47, .int .i64 (k3_123 : Int))] hag ?_
   refine zq (zr ?_)
   by_cases iB : (k3_123 : Int) < ((d_107.take ((k2_106 + 1 : Int)).toNat).length : Int)
   ·replace H := ifp iB H
    refine zo (fun w => opB (op_lss rfl rfl w) (decide_eq_true iB)) (zn (zq (zt rfl rfl (zk (zq ?_)))))
    refine zb (zq (zr ?_))
    obtain ⟨fG, H⟩ := H
    obtain ⟨fH, H⟩ := H
    refine zo (op_index Try.underlying26 ti3 rfl rfl fG (ltn (takeLen jw jx) fH) (hal121.some_ fG fH)) (zs (AL.int 0 hO rfl bY hal121 fG fH Try.underlying3 rfl rfl) (za rfl (zn (zq (zr ?_)))))
    refine zm rfl (zm rfl (zm rfl ?_))
    obtain ⟨gn, H⟩ := H
    obtain ⟨gp, H⟩ := H
    refine zo (op_index Try.underlying22 ti26 rfl rfl gn gp (ao.some_ gn gp)) ?_
    have hobt := ldSl ao gn gp
    obtain ⟨qy, qz, a7, lU⟩ := hobt
    refine zs (lU Try.underlying26 rfl rfl) (zm rfl ?_)
    obtain ⟨jy, H⟩ := H
    obtain ⟨jz, H⟩ := H
    refine zo (op_index Try.underlying26 ti3 rfl rfl jy jz (a7.some_ jy jz)) (zs (ldInt a7 jy jz Try.underlying3 rfl rfl) ?_)
    refine GoR.inl (vs := [.int .i64 (ix (ix a0 (ix d_107 (k2_106 : Int))) (ix (d_107.take ((k2_106 + 1 : Int)).toNat) (k3_123 : Int)))]) (caps := [.pointer (some ⟨B18, 0, none⟩), .pointer (some ⟨B2, 0, none⟩)]) rfl rfl body67 Try.func67 rfl Try.ntmps67 rfl rfl rfl ?_
    intro RhR144 hR144
    refine zq (zr (zs (oblk (i := 0) 2 hO rfl rfl Try.underlying42 rfl rfl) (zm rfl ?_)))
    obtain ⟨fV, H⟩ := H
    obtain ⟨iC, H⟩ := H
    refine zo (op_index Try.underlying42 ti4 rfl rfl fV (ltn (ci.neq hO 3 rfl) iC) (ci.psome hO 3 rfl fV iC)) ?_
    by_cases fI : ix d_130 (ix (ix a0 (ix d_107 (k2_106 : Int))) (ix (d_107.take ((k2_106 + 1 : Int)).toNat) (k3_123 : Int))) = true
    ·replace H := ifp fI H
     refine zg (opB ((oldBool 3 hO rfl ci fV iC Try.underlying4 rfl rfl) _ (Same.refl _)) (fI)) (zo (op_not rfl) (zn (zf rfl rfl (zk ?_))))
     refine Go1.fin0V Try.func67 rfl ?_
     refine hR144 _ _ ?_
     refine zn (zr (zm rfl (zm rfl (zm rfl ?_))))
     obtain ⟨jA, H⟩ := H
     obtain ⟨jB, H⟩ := H
     refine zo (op_index Try.underlying22 ti26 rfl rfl jA jB (ao.some_ jA jB)) ?_
     have hobt := ldSl ao jA jB
     obtain ⟨qA, qB, de, lV⟩ := hobt
     refine zs (lV Try.underlying26 rfl rfl) (zm rfl ?_)
     obtain ⟨jC, H⟩ := H
     obtain ⟨jD, H⟩ := H
     refine zo (op_index Try.underlying26 ti3 rfl rfl jC jD (de.some_ jC jD)) (zs (ldInt de jC jD Try.underlying3 rfl rfl) ?_)
     refine GoR.inl (vs := [.int .i64 (ix (ix a0 (ix (d_107.take ((k2_106 + 1 : Int)).toNat) (k3_123 : Int))) (ix d_107 (k2_106 : Int)))]) (caps := [.pointer (some ⟨B18, 0, none⟩), .pointer (some ⟨B2, 0, none⟩)]) rfl rfl body67 Try.func67 rfl Try.ntmps67 rfl rfl rfl ?_
     intro RhR156 hR156
     refine zq ?_
     refine Go1.cut [(0, .int .i64 (ix (ix a0 (ix (d_107.take ((k2_106 + 1 : Int)).toNat) (k3_123 : Int))) (ix d_107 (k2_106 : Int)))), (1, .pointer (some ⟨B18, 0, none⟩)), (2, .pointer (some ⟨B2, 0, none⟩))] ⟨rfl, rfl, rfl, trivial⟩ ?_
     intro σ _
     refine zr (zs (oblk (i := 0) 2 hO rfl rfl Try.underlying42 rfl rfl) (zm rfl ?_))
     obtain ⟨fW, H⟩ := H
     obtain ⟨fX, H⟩ := H
     refine zo (op_index Try.underlying42 ti4 rfl rfl fW (ltn (ci.neq hO 3 rfl) fX) (ci.psome hO 3 rfl fW fX)) ?_
     by_cases fY : ix d_130 (ix (ix a0 (ix (d_107.take ((k2_106 + 1 : Int)).toNat) (k3_123 : Int))) (ix d_107 (k2_106 : Int))) = true
     ·replace H := ifp fY H
      refine zg (opB ((oldBool 3 hO rfl ci fW fX Try.underlying4 rfl rfl) _ (Same.refl _)) (fY)) (zo (op_not rfl) (zn (zf rfl rfl (zk ?_))))
      refine Go1.fin0V Try.func67 rfl ?_
      refine hR156 _ _ ?_
      refine zn ?_
      refine Go1.inBlock ?_
      refine zr ?_
      obtain ⟨ic, H⟩ := H
      refine zo (op_add rfl rfl (wrap_i64 ic)) (zm rfl (zn ?_))
      exact hX3 _ H _ _ ⟨bB, cv, cE, dp, dq, ⟨rfl, rfl, rfl, rfl, rfl, rfl, rfl, rfl, rfl, rfl, rfl, rfl, trivial⟩, hO, bY, aU, ci, hal121, ao, hB⟩
     replace H := ifn fY H
     refine zg (opB ((oldBool 3 hO rfl ci fW fX Try.underlying4 rfl rfl) _ (Same.refl _)) (Bool.eq_false_iff.2 fY)) (zo (op_not rfl) (zn (zt rfl rfl (zq (zr ?_)))))
     refine zs (oblk (i := 0) 2 hO rfl rfl Try.underlying42 rfl rfl) (zm rfl ?_)
     obtain ⟨f0, H⟩ := H
     obtain ⟨jE, H⟩ := H
     refine zo (op_index Try.underlying42 ti4 rfl rfl f0 (ltn (ci.neq hO 3 rfl) jE) (ci.psome hO 3 rfl f0 jE)) ?_
     have hobt := ost (r := Rp.bool) rfl 3 hO rfl ci f0 jE (v := .bool true) (u := true) rfl rfl
     obtain ⟨ld, lW, dr, dK, lg⟩ := hobt
     dsimp only [sS, sZ] at dr dK
     refine zg (lg Try.underlying4 rfl ti4 (by exact rfl) (by exact rfl)) ?_
     replace hO := dr.own
     refine zn (zr (zs (oblk (i := 0) 4 hO rfl rfl Try.underlying26 rfl rfl) (zm rfl ?_)))
     have hobt := obuild (r := Rp.int .i64) (n := 1) (parts := [(0, .int .i64 (ix (ix a0 (ix (d_107.take ((k2_106 + 1 : Int)).toNat) (k3_123 : Int))) (ix d_107 (k2_106 : Int))))]) (vs := [.int .i64 (ix (ix a0 (ix (d_107.take ((k2_106 + 1 : Int)).toNat) (k3_123 : Int))) (ix d_107 (k2_106 : Int)))]) (xs := [(ix (ix a0 (ix (d_107.take ((k2_106 + 1 : Int)).toNat) (k3_123 : Int))) (ix d_107 (k2_106 : Int)))]) rfl Try.underlying26 ti3 hO (by decide) (by kernel_rfl) (Els.cons rfl rfl (Els.nil _ _ _) (by simp [mx])) rfl
     obtain ⟨oe, qC, dt, lX, kM, lh⟩ := hobt
     refine zg (lh rfl) ?_
     replace hO := dt.own
     have hobt := freeze 0 hO rfl lX
     obtain ⟨hO1, e8, gf, lY⟩ := hobt
     dsimp only [eS, eZ] at hO1 e8 gf
     replace hB := ((hB.trans dr.fr).trans dt.fr).trans (Owns.dropFr _ _ 0)
     dsimp only [eS, eZ] at hB
     replace hO := hO1; clear hO1
     obtain ⟨og, H⟩ := H
     have Z7 := (dr.ch.trans dt.ch).trans e8
     replace bY := bY.ch Z7
     have hobt := oapp2 Try.underlying26 ti3 rfl 0 hO rfl bY gf lY og (by decide)
     obtain ⟨qD, jF, jG, l5, cX, gU, hold186, li⟩ := hobt
     dsimp only [sS, sZ] at cX gU hold186
     refine zg (li (by exact rfl) (by exact rfl)) ?_
     replace hal121 := hal121.ch Z7
     replace hal121 := hal121.app (us := [(ix (ix a0 (ix (d_107.take ((k2_106 + 1 : Int)).toNat) (k3_123 : Int))) (ix d_107 (k2_106 : Int)))]) cX.ch hold186
     replace hO := cX.own
     have hobt := oblkSt2 (v := .slice jF (bB + 1) jG) (i := 0) (cs' := #[.slice jF (bB + 1) jG]) 4 hO rfl rfl rfl rfl
     obtain ⟨qE, cL, lj⟩ := hobt
     dsimp only [sS, sZ] at cL
     refine zg (lj Try.underlying26 rfl ti26 (by exact rfl) (by exact rfl)) ?_
     replace hO := cL.own
     refine zn ?_
     refine Go1.fin0V Try.func67 rfl ?_
     refine hR156 _ _ ?_
     refine zn ?_
     refine Go1.inBlock ?_
     refine zr ?_
     obtain ⟨oh, H⟩ := H
     refine zo (op_add rfl rfl (wrap_i64 oh)) (zm rfl (zn ?_))
     replace gU := gU.ch cL.ch
     replace hal121 := hal121.ch cL.ch
     replace hB := (hB.trans cX.fr).trans cL.fr
     have Z8 := ((dt.ch.trans e8).trans cX.ch).trans cL.ch
     replace dK := dK.ch Z8
     have Z9 := (Z7.trans cX.ch).trans cL.ch
     replace aU := aU.ch Z9
     replace ao := ao.ch Z9
     exact hX3 _ H _ _ ⟨bB + 1, jF, jG, l5, lW, ⟨rfl, rfl, rfl, rfl, rfl, rfl, rfl, rfl, rfl, rfl, rfl, rfl, trivial⟩, hO, gU, aU, dK, hal121, ao, hB⟩
    replace H := ifn fI H
    refine zg (opB ((oldBool 3 hO rfl ci fV iC Try.underlying4 rfl rfl) _ (Same.refl _)) (Bool.eq_false_iff.2 fI)) (zo (op_not rfl) (zn (zt rfl rfl (zq ?_))))
    refine Go1.cut [(0, .int .i64 (ix (ix a0 (ix d_107 (k2_106 : Int))) (ix (d_107.take ((k2_106 + 1 : Int)).toNat) (k3_123 : Int)))), (1, .pointer (some ⟨B18, 0, none⟩)), (2, .pointer (some ⟨B2, 0, none⟩))] ⟨rfl, rfl, rfl, trivial⟩ ?_
    intro σ _
    refine zr (zs (oblk (i := 0) 2 hO rfl rfl Try.underlying42 rfl rfl) (zm rfl ?_))
    obtain ⟨jH, H⟩ := H
    obtain ⟨jI, H⟩ := H
    refine zo (op_index Try.underlying42 ti4 rfl rfl jH (ltn (ci.neq hO 3 rfl) jI) (ci.psome hO 3 rfl jH jI)) ?_
    have hobt := ost (r := Rp.bool) rfl 3 hO rfl ci jH jI (v := .bool true) (u := true) rfl rfl
    obtain ⟨qF, l7, bC, b7, lk⟩ := hobt
    dsimp only [sS, sZ] at bC b7
    refine zg (lk Try.underlying4 rfl ti4 (by exact rfl) (by exact rfl)) ?_
    replace hO := bC.own
    refine zn (zr (zs (oblk (i := 0) 4 hO rfl rfl Try.underlying26 rfl rfl) (zm rfl ?_)))
    have hobt := obuild (r := Rp.int .i64) (n := 1) (parts := [(0, .int .i64 (ix (ix a0 (ix d_107 (k2_106 : Int))) (ix (d_107.take ((k2_106 + 1 : Int)).toNat) (k3_123 : Int))))]) (vs := [.int .i64 (ix (ix a0 (ix d_107 (k2_106 : Int))) (ix (d_107.take ((k2_106 + 1 : Int)).toNat) (k3_123 : Int)))]) (xs := [(ix (ix a0 (ix d_107 (k2_106 : Int))) (ix (d_107.take ((k2_106 + 1 : Int)).toNat) (k3_123 : Int)))]) rfl Try.underlying26 ti3 hO (by decide) (by kernel_rfl) (Els.cons rfl rfl (Els.nil _ _ _) (by simp [mx])) rfl
    obtain ⟨qG, qH, dR, l8, qe, ll⟩ := hobt
    refine zg (ll rfl) ?_
    replace hO := dR.own
    have hobt := freeze 0 hO rfl l8
    obtain ⟨hO1, fJ, cj, l9⟩ := hobt
    dsimp only [eS, eZ] at hO1 fJ cj
    replace hB := ((hB.trans bC.fr).trans dR.fr).trans (Owns.dropFr _ _ 0)
    dsimp only [eS, eZ] at hB
    replace hO := hO1; clear hO1
    obtain ⟨gO, H⟩ := H
    have Z10 := (bC.ch.trans dR.ch).trans fJ
    replace bY := bY.ch Z10
    have hobt := oapp2 Try.underlying26 ti3 rfl 0 hO rfl bY cj l9 gO (by decide)
    obtain ⟨qI, jJ, jK, ma, du, dw, hold216, lm⟩ := hobt
    dsimp only [sS, sZ] at du dw hold216
    refine zg (lm (by exact rfl) (by exact rfl)) ?_
    replace hal121 := hal121.ch Z10
    replace hal121 := hal121.app (us := [(ix (ix a0 (ix d_107 (k2_106 : Int))) (ix (d_107.take ((k2_106 + 1 : Int)).toNat) (k3_123 : Int)))]) du.ch hold216
    replace hO := du.own
    have hobt := oblkSt2 (v := .slice jJ (bB + 1) jK) (i := 0) (cs' := #[.slice jJ (bB + 1) jK]) 4 hO rfl rfl rfl rfl
    obtain ⟨qJ, cY, lp⟩ := hobt
    dsimp only [sS, sZ] at cY
    refine zg (lp Try.underlying26 rfl ti26 (by exact rfl) (by exact rfl)) ?_
    replace hO := cY.own
    refine zn ?_
    refine Go1.fin0V Try.func67 rfl ?_
    refine hR144 _ _ ?_
    refine zn (zr (zm rfl (zm rfl (zm rfl ?_))))
    obtain ⟨jL, H⟩ := H
    obtain ⟨jM, H⟩ := H
    replace ao := ((ao.ch Z10).ch du.ch).ch cY.ch
    refine zo (op_index Try.underlying22 ti26 rfl rfl jL jM (ao.some_ jL jM)) ?_
    have hobt := ldSl ao jL jM
    obtain ⟨qK, qL, dg, mb⟩ := hobt
    refine zs (mb Try.underlying26 rfl rfl) (zm rfl ?_)
    obtain ⟨jN, H⟩ := H
    obtain ⟨jO, H⟩ := H
    refine zo (op_index Try.underlying26 ti3 rfl rfl jN jO (dg.some_ jN jO)) (zs (ldInt dg jN jO Try.underlying3 rfl rfl) ?_)
    refine GoR.inl (vs := [.int .i64 (ix (ix a0 (ix (d_107.take ((k2_106 + 1 : Int)).toNat) (k3_123 : Int))) (ix d_107 (k2_106 : Int)))]) (caps := [.pointer (some ⟨B18, 0, none⟩), .pointer (some ⟨B2, 0, none⟩)]) rfl rfl body67 Try.func67 rfl Try.ntmps67 rfl rfl rfl ?_
    intro RhR228 hR228
    refine zq (zr (zs (oblk (i := 0) 2 hO rfl rfl Try.underlying42 rfl rfl) (zm rfl ?_)))
    obtain ⟨iD, H⟩ := H
    obtain ⟨iE, H⟩ := H
    have Z11 := ((dR.ch.trans fJ).trans du.ch).trans cY.ch
    replace b7 := b7.ch Z11
    refine zo (op_index Try.underlying42 ti4 rfl rfl iD (ltn (b7.neq hO 3 rfl) iE) (b7.psome hO 3 rfl iD iE)) ?_
    by_cases iF : ix (st d_130 (ix (ix a0 (ix d_107 (k2_106 : Int))) (ix (d_107.take ((k2_106 + 1 : Int)).toNat) (k3_123 : Int))) true) (ix (ix a0 (ix (d_107.take ((k2_106 + 1 : Int)).toNat) (k3_123 : Int))) (ix d_107 (k2_106 : Int))) = true
    ·replace H := ifp iF H
     refine zg (opB ((oldBool 3 hO rfl b7 iD iE Try.underlying4 rfl rfl) _ (Same.refl _)) (iF)) (zo (op_not rfl) (zn (zf rfl rfl (zk ?_))))
     refine Go1.fin0V Try.func67 rfl ?_
     refine hR228 _ _ ?_
     refine zn ?_
     refine Go1.inBlock ?_
     refine Go1.cut [(0, .slice ay a0.length az), (3, .slice p66 (n46 + 1) c67), (4, .pointer (some ⟨B2, 0, none⟩)), (5, .pointer (some ⟨B18, 0, none⟩)), (6, .func (.func 67) #[] #[.pointer (some ⟨B18, 0, none⟩), .pointer (some ⟨B2, 0, none⟩)]), (7, .int .i64 (k2_106 : Int)), (9, .int .i64 (ix d_107 (k2_106 : Int))), (17, .int .i64 (a0.length : Int)), (18, .int .i64 (k1_34 : Int)), (45, .slice ct (((k2_106 + 1 : Int)).toNat) cu), (46, .int .i64 ((d_107.take ((k2_106 + 1 : Int)).toNat).length : Int)), (47, .int .i64 (k3_123 : Int))] ⟨rfl, rfl, rfl, rfl, rfl, rfl, rfl, rfl, rfl, rfl, rfl, rfl, trivial⟩ ?_
     intro σ _
     refine zr ?_
     obtain ⟨ol, H⟩ := H
     refine zo (op_add rfl rfl (wrap_i64 ol)) (zm rfl (zn ?_))
     replace dw := dw.ch cY.ch
     replace hal121 := hal121.ch cY.ch
     replace hB := (hB.trans du.fr).trans cY.fr
     replace aU := ((aU.ch Z10).ch du.ch).ch cY.ch
     exact hX3 _ H _ _ ⟨bB + 1, jJ, jK, ma, l7, ⟨rfl, rfl, rfl, rfl, rfl, rfl, rfl, rfl, rfl, rfl, rfl, rfl, trivial⟩, hO, dw, aU, b7, hal121, ao, hB⟩
    replace H := ifn iF H
    refine zg (opB ((oldBool 3 hO rfl b7 iD iE Try.underlying4 rfl rfl) _ (Same.refl _)) (Bool.eq_false_iff.2 iF)) (zo (op_not rfl) (zn (zt rfl rfl (zq (zr ?_)))))
    refine zs (oblk (i := 0) 2 hO rfl rfl Try.underlying42 rfl rfl) (zm rfl ?_)
    obtain ⟨jP, H⟩ := H
    obtain ⟨jQ, H⟩ := H
    refine zo (op_index Try.underlying42 ti4 rfl rfl jP (ltn (b7.neq hO 3 rfl) jQ) (b7.psome hO 3 rfl jP jQ)) ?_
    have hobt := ost (r := Rp.bool) rfl 3 hO rfl b7 jP jQ (v := .bool true) (u := true) rfl rfl
    obtain ⟨qM, mc, c5, dM, lr⟩ := hobt
    dsimp only [sS, sZ] at c5 dM
    refine zg (lr Try.underlying4 rfl ti4 (by exact rfl) (by exact rfl)) ?_
    replace hO := c5.own
    refine zn (zr (zs (oblk (i := 0) 4 hO rfl rfl Try.underlying26 rfl rfl) (zm rfl ?_)))
    have hobt := obuild (r := Rp.int .i64) (n := 1) (parts := [(0, .int .i64 (ix (ix a0 (ix (d_107.take ((k2_106 + 1 : Int)).toNat) (k3_123 : Int))) (ix d_107 (k2_106 : Int))))]) (vs := [.int .i64 (ix (ix a0 (ix (d_107.take ((k2_106 + 1 : Int)).toNat) (k3_123 : Int))) (ix d_107 (k2_106 : Int)))]) (xs := [(ix (ix a0 (ix (d_107.take ((k2_106 + 1 : Int)).toNat) (k3_123 : Int))) (ix d_107 (k2_106 : Int)))]) rfl Try.underlying26 ti3 hO (by decide) (by kernel_rfl) (Els.cons rfl rfl (Els.nil _ _ _) (by simp [mx])) rfl
    obtain ⟨qN, qO, c6, me, qf, lv⟩ := hobt
    refine zg (lv rfl) ?_
    replace hO := c6.own
    have hobt := freeze 0 hO rfl me
    obtain ⟨hO1, eN, gh, mf⟩ := hobt
    dsimp only [eS, eZ] at hO1 eN gh
    replace hB := ((((hB.trans du.fr).trans cY.fr).trans c5.fr).trans c6.fr).trans (Owns.dropFr _ _ 0)
    dsimp only [eS, eZ] at hB
    replace hO := hO1; clear hO1
    obtain ⟨om, H⟩ := H
    have Z12 := ((cY.ch.trans c5.ch).trans c6.ch).trans eN
    replace dw := dw.ch Z12
    have hobt := oapp2 Try.underlying26 ti3 rfl 0 hO rfl dw gh mf om (by decide)
    obtain ⟨qP, jR, jS, mg, cM, gV, hold258, lx⟩ := hobt
    dsimp only [sS, sZ] at cM gV hold258
    refine zg (lx (by exact rfl) (by exact rfl)) ?_
    replace hal121 := hal121.ch Z12
    replace hal121 := hal121.app (us := [(ix (ix a0 (ix (d_107.take ((k2_106 + 1 : Int)).toNat) (k3_123 : Int))) (ix d_107 (k2_106 : Int)))]) cM.ch hold258
    replace hO := cM.own
    have hobt := oblkSt2 (v := .slice jR ((bB + 1) + 1) jS) (i := 0) (cs' := #[.slice jR ((bB + 1) + 1) jS]) 4 hO rfl rfl rfl rfl
    obtain ⟨qQ, cD, ly⟩ := hobt
    dsimp only [sS, sZ] at cD
    refine zg (ly Try.underlying26 rfl ti26 (by exact rfl) (by exact rfl)) ?_
    replace hO := cD.own
    refine zn ?_
    refine Go1.fin0V Try.func67 rfl ?_
    refine hR228 _ _ ?_
    refine zn ?_
    refine Go1.inBlock ?_
    refine zr ?_
    obtain ⟨oo, H⟩ := H
    refine zo (op_add rfl rfl (wrap_i64 oo)) (zm rfl (zn ?_))
    replace gV := gV.ch cD.ch
    replace hal121 := hal121.ch cD.ch
    replace hB := (hB.trans cM.fr).trans cD.fr
    have Z13 := ((c6.ch.trans eN).trans cM.ch).trans cD.ch
    replace dM := dM.ch Z13
    have Z14 := (((c5.ch.trans c6.ch).trans eN).trans cM.ch).trans cD.ch
    replace ao := ao.ch Z14
    have Z15 := ((((((Z10.trans du.ch).trans cY.ch).trans c5.ch).trans c6.ch).trans eN).trans cM.ch).trans cD.ch
    replace aU := aU.ch Z15
    exact hX3 _ H _ _ ⟨(bB + 1) + 1, jR, jS, mg, mc, ⟨rfl, rfl, rfl, rfl, rfl, rfl, rfl, rfl, rfl, rfl, rfl, rfl, trivial⟩, hO, gV, aU, dM, hal121, ao, hB⟩
   replace H := ifn iB H
   refine zo (fun w => opB (op_lss rfl rfl w) (decide_eq_false iB)) (zn (zq (zf rfl rfl ?_)))
   refine Go1.exit rfl ?_
   refine Go1.inBlock ?_
   refine zr (zm rfl ?_)
   obtain ⟨oq, H⟩ := H
   refine zo (op_add rfl rfl (wrap_i64 oq)) (za rfl (zn ?_))
   exact hX2 _ H _ _ ⟨bB, cv, cE, dp, dq, ⟨rfl, rfl, rfl, rfl, rfl, rfl, rfl, rfl, trivial⟩, hO, bY, aU, ci, ao, hB⟩
  replace H := ifn fF H
  refine zo (fun w => opB (op_lss rfl rfl w) (decide_eq_false fF)) (zn (zf rfl rfl ?_))
  refine Go1.exit rfl ?_
  refine Go1.inBlock ?_
  refine zr (zo (op_add rfl rfl (wrap_i64 (natbd h50 ao.bd))) (zm rfl (zn ?_)))
  exact hX1 _ H _ _ ⟨dj, ct, cu, dI, n46 + 1, p66, c67, cV, dJ, ⟨rfl, rfl, rfl, rfl, rfl, rfl, rfl, rfl, trivial⟩, hO, eM, aU, kK, ao, hB⟩
 replace H := ifn h50 H
 refine zo (fun w => opB (op_lss rfl rfl w) (decide_eq_false h50)) (zn (zq (zf rfl rfl ?_)))
 refine Go1.exit rfl ?_
 refine zq ?_
 refine Go1.cut [(3, .slice p44 n46 c45)] ⟨rfl, trivial⟩ ?_
 intro σ _
 refine zr (zm rfl (za rfl (zn ?_)))
 have hobt := freeze 1 hO rfl gk
 obtain ⟨hO1, gW, kN, mh⟩ := hobt
 dsimp only [eS, eZ] at hO1 gW kN
 replace hB := hB.trans (Owns.dropFr _ _ 1)
 dsimp only [eS, eZ] at hB
 replace hO := hO1; clear hO1
 refine Go1.ret1 Try.func48 rfl ?_
 exact ⟨d_41, p44, c45, (congrArg (fun nn => Value.slice p44 nn c45) mh), hB.same, (kN.ch (Ch.weak _ _ _)), H⟩
theorem body47 : Body Try.prog 47 := ⟨Try.f47, Try.func47, rfl, by kernel_rfl⟩
theorem walk_mult_associates {A : List Nat} {w0 : World} {p_t : Option Addr} {c_t : Nat} {ck : Option Addr} {co : Nat} {t : List (List Int)} {gens : List Int} (hA : ∀ b ∈ A, b < w0.heap.size) (h_t : ISl (Rp.sl (Rp.int .i64)) A w0 p_t c_t t) (bo : ISl (Rp.int .i64) A w0 ck co gens) {K : Bool → Prop} (H : mult_associates t gens K) :
    CallsV Try.prog 47 #[.slice p_t t.length c_t, .slice ck gens.length co] w0 (fun v w' => ∃ (r0 : Bool), v = .bool r0 ∧ Same w0 w' ∧ K r0) := by
 refine CallsV.of (l := [.slice p_t t.length c_t, .slice ck gens.length co]) Try.func47 rfl Try.ntmps47 rfl ?_
 have hO := Owns.start hA
 have hB := Fr.refl (bl []) w0
 unfold mult_associates at H
 refine zq (zr (za rfl (zn (zq (zr ?_)))))
 refine zm rfl (zo (op_len Try.underlying22 rfl) ?_)
 replace h_t := h_t.ch (Ch.start A w0)
 replace H := H h_t.bd
 obtain ⟨h8, H⟩ := H
 obtain ⟨h9, H⟩ := H
 have hobt := omake (n := (t.length : Int)) (r := Rp.bool) (d := false) Try.underlying42 ti4 (fun _ _ => rfl) rfl hO h8 h9 (by decide)
 obtain ⟨w1, p2, vs3, bx, hE5, hs6, dF⟩ := hobt
 refine zg (dF rfl rfl) ?_
 replace hO := bx.own
 refine za rfl (zn (zq (zq (zr (zm rfl ?_)))))
 refine zo (op_len Try.underlying26 rfl) ?_
 replace bo := (bo.ch (Ch.start A w0)).ch bx.ch
 replace H := H bo.bd
 refine zm rfl (zn (zb ?_))
 replace h_t := h_t.ch bx.ch
 replace hB := hB.trans bx.fr
 refine Go1.loopW (S := Nat × List Bool) (fun s σ w => match s with | (k1_12, tried1_13) => ∃ (dk : List Value), agrees σ [(0, .slice p_t t.length c_t), (5, .slice p2 t.length t.length), (16, .slice ck gens.length co), (17, .int .i64 (gens.length : Int)), (18, .int .i64 (k1_12 : Int))] ∧ (fun Z0 => Owns w0.heap.size w Z0 A ∧ Els (Rp.bool) (bl Z0 ++ A) w dk tried1_13 ∧ ISl (Rp.sl (Rp.int .i64)) (bl Z0 ++ A) w p_t c_t t ∧ ISl (Rp.int .i64) (bl Z0 ++ A) w ck co gens ∧ Fr (bl []) w0 (bl Z0) w) [.row 4 1 p2 t.length t.length dk]) H ⟨vs3, ⟨rfl, rfl, rfl, rfl, rfl, trivial⟩, hO, hE5, h_t, bo, hB⟩ ?_
 intro X1
 refine prE fun k1_12 => fun tried1_13 => ?_
 intro H hX1 σ w11
 refine exE fun dk => andE fun hag => andE fun hO => andE fun dG => andE fun h_t => andE fun bo => fun hB => ?_
 dsimp only at H
 refine Go1.keep [(0, .slice p_t t.length c_t), (5, .slice p2 t.length t.length), (16, .slice ck gens.length co), (17, .int .i64 (gens.length : Int)), (18, .int .i64 (k1_12 : Int))] hag ?_
 refine zq (zr ?_)
 by_cases h16 : (k1_12 : Int) < (gens.length : Int)
 ·replace H := ifp h16 H
  refine zo (fun w => opB (op_lss rfl rfl w) (decide_eq_true h16)) (zn (zq (zt rfl rfl (zk (zq ?_)))))
  refine zb (zq (zr ?_))
  obtain ⟨h17, H⟩ := H
  obtain ⟨h18, H⟩ := H
  refine zo (op_index Try.underlying26 ti3 rfl rfl h17 h18 (bo.some_ h17 h18)) (zs (ldInt bo h17 h18 Try.underlying3 rfl rfl) (za rfl (zn (zq (zq ?_)))))
  refine zr (zm rfl (zm rfl ?_))
  obtain ⟨h19, H⟩ := H
  obtain ⟨h20, H⟩ := H
  refine zo (op_index Try.underlying42 ti4 rfl rfl h19 (ltn (dG.neq hO 0 rfl) h20) (dG.psome hO 0 rfl h19 h20)) ?_
  by_cases h21 : ix tried1_13 (ix gens (k1_12 : Int)) = true
  ·replace H := ifp h21 H
   refine zg (opB ((oldBool 0 hO rfl dG h19 h20 Try.underlying4 rfl rfl) _ (Same.refl _)) (h21)) (zn (zt rfl rfl ?_))
   refine Go1.exit rfl ?_
   refine zr (zo (op_add rfl rfl (wrap_i64 (natbd h16 bo.bd))) (zm rfl (zn ?_)))
   exact hX1 _ H _ _ ⟨dk, ⟨rfl, rfl, rfl, rfl, rfl, trivial⟩, hO, dG, h_t, bo, hB⟩
  replace H := ifn h21 H
  refine zg (opB ((oldBool 0 hO rfl dG h19 h20 Try.underlying4 rfl rfl) _ (Same.refl _)) (Bool.eq_false_iff.2 h21)) (zn (zf rfl rfl (zk (zq (zr ?_)))))
  refine zm rfl (zm rfl ?_)
  obtain ⟨h22, H⟩ := H
  obtain ⟨h23, H⟩ := H
  refine zo (op_index Try.underlying42 ti4 rfl rfl h22 (ltn (dG.neq hO 0 rfl) h23) (dG.psome hO 0 rfl h22 h23)) ?_
  have hobt := ost (r := Rp.bool) rfl 0 hO rfl dG h22 h23 (v := .bool true) (u := true) rfl rfl
  obtain ⟨w24, cW, gX, fK, mj⟩ := hobt
  refine zg (mj Try.underlying4 rfl ti4 (by exact rfl) (by exact rfl)) ?_
  replace hO := gX.own
  refine zn (zq (zr (zm rfl (zo (op_len Try.underlying22 rfl) (zm rfl ?_)))))
  refine zn (zb ?_)
  replace h_t := h_t.ch gX.ch
  replace bo := bo.ch gX.ch
  replace hB := hB.trans gX.fr
  refine Go1.loopW (S := Nat) (fun s σ w => agrees σ [(0, .slice p_t t.length c_t), (5, .slice p2 t.length t.length), (7, .int .i64 (ix gens (k1_12 : Int))), (16, .slice ck gens.length co), (17, .int .i64 (gens.length : Int)), (18, .int .i64 (k1_12 : Int)), (29, .slice p_t t.length c_t), (30, .int .i64 (t.length : Int)), (31, .int .i64 (s : Int))] ∧ (fun Z0 => Owns w0.heap.size w Z0 A ∧ Els (Rp.bool) (bl Z0 ++ A) w cW (st tried1_13 (ix gens (k1_12 : Int)) true) ∧ ISl (Rp.sl (Rp.int .i64)) (bl Z0 ++ A) w p_t c_t t ∧ ISl (Rp.int .i64) (bl Z0 ++ A) w ck co gens ∧ Fr (bl []) w0 (bl Z0) w) [.row 4 1 p2 t.length t.length cW]) H ⟨⟨rfl, rfl, rfl, rfl, rfl, rfl, rfl, rfl, rfl, trivial⟩, hO, fK, h_t, bo, hB⟩ ?_
  intro X2 k2_30
  intro H hX2 σ w29
  refine andE fun hag => andE fun hO => andE fun fK => andE fun h_t => andE fun bo => fun hB => ?_
  refine Go1.keep [(0, .slice p_t t.length c_t), (5, .slice p2 t.length t.length), (7, .int .i64 (ix gens (k1_12 : Int))), (16, .slice ck gens.length co), (17, .int .i64 (gens.length : Int)), (18, .int .i64 (k1_12 : Int)), (29, .slice p_t t.length c_t), (30, .int .i64 (t.length : Int)), (31, .int .i64 (k2_30 : Int))] hag ?_
  refine zq (zr ?_)
  by_cases h31 : (k2_30 : Int) < (t.length : Int)
  ·replace H := ifp h31 H
   refine zo (fun w => opB (op_lss rfl rfl w) (decide_eq_true h31)) (zn (zq (zt rfl rfl (zk (zq ?_)))))
   refine zb (zq (zr ?_))
   obtain ⟨h32, H⟩ := H
   obtain ⟨h33, H⟩ := H
   refine zo (op_index Try.underlying22 ti26 rfl rfl h32 h33 (h_t.some_ h32 h33)) ?_
   have hobt := ldSl h_t h32 h33
   obtain ⟨p34, c35, fL, ot⟩ := hobt
   refine zs (ot Try.underlying26 rfl rfl) (za rfl (zn (zq (zr (zm rfl ?_)))))
   refine zm rfl (zm rfl ?_)
   obtain ⟨h38, H⟩ := H
   obtain ⟨h39, H⟩ := H
   refine zo (op_index Try.underlying26 ti3 rfl rfl h38 h39 (fL.some_ h38 h39)) (zs (ldInt fL h38 h39 Try.underlying3 rfl rfl) ?_)
   obtain ⟨h40, H⟩ := H
   obtain ⟨h41, H⟩ := H
   refine zo (op_index Try.underlying22 ti26 rfl rfl h40 h41 (h_t.some_ h40 h41)) ?_
   have hobt := ldSl h_t h40 h41
   obtain ⟨p42, c43, dl, jT⟩ := hobt
   refine zs (jT Try.underlying26 rfl rfl) (za rfl (zn (zq (zr (zm rfl ?_)))))
   refine zm rfl ?_
   obtain ⟨h46, H⟩ := H
   obtain ⟨h47, H⟩ := H
   refine zo (op_index Try.underlying22 ti26 rfl rfl h46 h47 (h_t.some_ h46 h47)) ?_
   have hobt := ldSl h_t h46 h47
   obtain ⟨p48, c49, fM, ou⟩ := hobt
   refine zs (ou Try.underlying26 rfl rfl) (zo (op_len Try.underlying26 rfl) ?_)
   replace H := H fM.bd
   refine zm rfl (zn (zb ?_))
   refine Go1.loopW (S := Nat) (fun s σ w => agrees σ [(0, .slice p_t t.length c_t), (5, .slice p2 t.length t.length), (7, .int .i64 (ix gens (k1_12 : Int))), (9, .slice p34 ((ix t (k2_30 : Int)).length) c35), (10, .slice p42 ((ix t (ix (ix t (k2_30 : Int)) (ix gens (k1_12 : Int)))).length) c43), (16, .slice ck gens.length co), (17, .int .i64 (gens.length : Int)), (18, .int .i64 (k1_12 : Int)), (29, .slice p_t t.length c_t), (30, .int .i64 (t.length : Int)), (31, .int .i64 (k2_30 : Int)), (45, .slice p48 ((ix t (ix gens (k1_12 : Int))).length) c49), (46, .int .i64 ((ix t (ix gens (k1_12 : Int))).length : Int)), (47, .int .i64 (s : Int))] ∧ (fun Z0 => Owns w0.heap.size w Z0 A ∧ Els (Rp.bool) (bl Z0 ++ A) w cW (st tried1_13 (ix gens (k1_12 : Int)) true) ∧ ISl (Rp.sl (Rp.int .i64)) (bl Z0 ++ A) w p_t c_t t ∧ ISl (Rp.int .i64) (bl Z0 ++ A) w ck co gens ∧ ISl (Rp.int .i64) (bl Z0 ++ A) w p34 c35 (ix t (k2_30 : Int)) ∧ ISl (Rp.int .i64) (bl Z0 ++ A) w p42 c43 (ix t (ix (ix t (k2_30 : Int)) (ix gens (k1_12 : Int)))) ∧ ISl (Rp.int .i64) (bl Z0 ++ A) w p48 c49 (ix t (ix gens (k1_12 : Int))) ∧ Fr (bl []) w0 (bl Z0) w) [.row 4 1 p2 t.length t.length cW]) H ⟨⟨rfl, rfl, rfl, rfl, rfl, rfl, rfl, rfl, rfl, rfl, rfl, rfl, rfl, rfl, trivial⟩, hO, fK, h_t, bo, fL, dl, fM, hB⟩ ?_
   intro X3 k3_53
   intro H hX3 σ w52
   refine andE fun hag => andE fun hO => andE fun fK => andE fun h_t => andE fun bo => andE fun fL => andE fun dl => andE fun fM => fun hB => ?_
   refine Go1.keep [(0, .slice p_t t.length c_t), (5, .slice p2 t.length t.length), (7, .int .i64 (ix gens (k1_12 : Int))), (9, .slice p34 ((ix t (k2_30 : Int)).length) c35), (10, .slice p42 ((ix t (ix (ix t (k2_30 : Int)) (ix gens (k1_12 : Int)))).length) c43), (16, .slice ck gens.length co), (17, .int .i64 (gens.length : Int)), (18, .int .i64 (k1_12 : Int)), (29, .slice p_t t.length c_t), (30, .int .i64 (t.length : Int)), (31, .int .i64 (k2_30 : Int)), (45, .slice p48 ((ix t (ix gens (k1_12 : Int))).length) c49), (46, .int .i64 ((ix t (ix gens (k1_12 : Int))).length : Int)), (47, .int .i64 (k3_53 : Int))] hag ?_
   refine zq (zr ?_)
   by_cases h54 : (k3_53 : Int) < ((ix t (ix gens (k1_12 : Int))).length : Int)
   ·replace H := ifp h54 H
    refine zo (fun w => opB (op_lss rfl rfl w) (decide_eq_true h54)) (zn (zq (zt rfl rfl (zk (zq ?_)))))
    refine zb (zq (zr (zm rfl ?_)))
    obtain ⟨h55, H⟩ := H
    obtain ⟨h56, H⟩ := H
    refine zo (op_index Try.underlying26 ti3 rfl rfl h55 h56 (fM.some_ h55 h56)) (zs (ldInt fM h55 h56 Try.underlying3 rfl rfl) (za rfl (za rfl (zn (zq ?_)))))
    refine Go1.drawS 0 [(0, .pure), (1, .pure), (2, .pure), (3, .stable), (4, .pure), (5, .pure), (6, .pure), (7, .stable), (8, .pure)] mixed (by kernel_rfl) ?_
    intro w57 k9
    have e9 := Stp.same hO k9
    replace hO := e9.own
    refine GoQ.pure rfl (op_move rfl) rfl rfl ?_
    refine GoQ.pure rfl (op_move rfl) rfl rfl ?_
    obtain ⟨h60, H⟩ := H
    obtain ⟨h61, H⟩ := H
    replace dl := dl.ch e9.ch
    refine GoQ.pure rfl (op_index Try.underlying26 ti3 rfl rfl h60 h61 (dl.some_ h60 h61)) rfl rfl ?_
    refine GoQ.stable rfl (ldInt dl h60 h61 Try.underlying3 rfl rfl) rfl rfl ?_
    refine GoQ.pure rfl (op_move rfl) rfl rfl ?_
    refine GoQ.pure rfl (op_move rfl) rfl rfl ?_
    obtain ⟨h62, H⟩ := H
    obtain ⟨h63, H⟩ := H
    replace fL := fL.ch e9.ch
    refine GoQ.pure rfl (op_index Try.underlying26 ti3 rfl rfl h62 h63 (fL.some_ h62 h63)) rfl rfl ?_
    refine GoQ.stable rfl (ldInt fL h62 h63 Try.underlying3 rfl rfl) rfl rfl ?_
    by_cases h64 : (ix (ix t (ix (ix t (k2_30 : Int)) (ix gens (k1_12 : Int)))) (k3_53 : Int)) = (ix (ix t (k2_30 : Int)) (ix (ix t (ix gens (k1_12 : Int))) (k3_53 : Int)))
    ·replace H := ifp h64 H
     refine GoQ.pure rfl (fun w => opB (op_neq rfl rfl w) (ndT h64)) rfl rfl ?_
     refine GoQ.nil ?_
     refine zf rfl rfl (zk ?_)
     refine Go1.inBlock ?_
     refine zr ?_
     replace fM := fM.ch e9.ch
     refine zo (op_add rfl rfl (wrap_i64 (natbd h54 fM.bd))) (zm rfl (zn ?_))
     replace fK := fK.ch e9.ch
     replace h_t := h_t.ch e9.ch
     replace bo := bo.ch e9.ch
     replace hB := hB.trans e9.fr
     exact hX3 _ H _ _ ⟨⟨rfl, rfl, rfl, rfl, rfl, rfl, rfl, rfl, rfl, rfl, rfl, rfl, rfl, rfl, trivial⟩, hO, fK, h_t, bo, fL, dl, fM, hB⟩
    replace H := ifn h64 H
    refine GoQ.pure rfl (fun w => opB (op_neq rfl rfl w) (ndF h64)) rfl rfl ?_
    refine GoQ.nil ?_
    refine zt rfl rfl (zq (zr (za rfl (zn ?_))))
    refine Go1.ret1 Try.func47 rfl ?_
    replace hB := hB.trans e9.fr
    exact ⟨false, rfl, hB.same, H⟩
   replace H := ifn h54 H
   refine zo (fun w => opB (op_lss rfl rfl w) (decide_eq_false h54)) (zn (zq (zf rfl rfl ?_)))
   refine Go1.exit rfl ?_
   refine Go1.inBlock ?_
   refine zr (zo (op_add rfl rfl (wrap_i64 (natbd h31 h_t.bd))) (zm rfl (zn ?_)))
   exact hX2 _ H _ _ ⟨⟨rfl, rfl, rfl, rfl, rfl, rfl, rfl, rfl, rfl, trivial⟩, hO, fK, h_t, bo, hB⟩
  replace H := ifn h31 H
  refine zo (fun w => opB (op_lss rfl rfl w) (decide_eq_false h31)) (zn (zq (zf rfl rfl ?_)))
  refine Go1.exit rfl ?_
  refine Go1.inBlock ?_
  refine Go1.cut [(0, .slice p_t t.length c_t), (5, .slice p2 t.length t.length), (16, .slice ck gens.length co), (17, .int .i64 (gens.length : Int)), (18, .int .i64 (k1_12 : Int))] ⟨rfl, rfl, rfl, rfl, rfl, trivial⟩ ?_
  intro σ _
  refine zr (zo (op_add rfl rfl (wrap_i64 (natbd h16 bo.bd))) (zm rfl (zn ?_)))
  exact hX1 _ H _ _ ⟨cW, ⟨rfl, rfl, rfl, rfl, rfl, trivial⟩, hO, fK, h_t, bo, hB⟩
 replace H := ifn h16 H
 refine zo (fun w => opB (op_lss rfl rfl w) (decide_eq_false h16)) (zn (zq (zf rfl rfl ?_)))
 refine Go1.exit rfl ?_
 refine zq (zr (za rfl (zn ?_)))
 refine Go1.ret1 Try.func47 rfl ?_
 exact ⟨true, rfl, hB.same, H⟩
theorem body24 : Body Try.prog 24 := ⟨Try.f24, Try.func24, rfl, by kernel_rfl⟩
theorem walk_mult_Validate {A : List Nat} {w0 : World} {p_t : Option Addr} {c_t : Nat} {t : List (List Int)} (hA : ∀ b ∈ A, b < w0.heap.size) (h_t : ISl (Rp.sl (Rp.int .i64)) A w0 p_t c_t t) {K : Int → Prop} (H : mult_Validate t K) :
    CallsV Try.prog 24 #[.slice p_t t.length c_t] w0 (fun v w' => ∃ (r0 : Int), v = .int .i64 r0 ∧ Same w0 w' ∧ K r0) := by
 refine CallsV.of (l := [.slice p_t t.length c_t]) Try.func24 rfl Try.ntmps24 rfl ?_
 have hO := Owns.start hA
 have hB := Fr.refl (bl []) w0
 unfold mult_Validate at H
 refine zq (zr (za rfl (zn (zq (zq ?_)))))
 refine zr (zm rfl ?_)
 replace h_t := h_t.ch (Ch.start A w0)
 refine GoR.call (op_call body46 rfl (walk_mult_shape hO.lt h_t H)) rfl rfl ?_
 rintro v5 w2 ⟨r1, rfl, hs3, H⟩
 have aV := Stp.same hO hs3
 replace hO := aV.own
 refine za rfl (zn (zq (zr (zm rfl ?_))))
 by_cases h7 : r1 = (0 : Int)
 ·replace H := ifp h7 H
  refine zo (fun w => opB (op_neq rfl rfl w) (ndT h7)) (zn (zf rfl rfl (zk (zq (zq ?_)))))
  refine zr (zm rfl (zm rfl ?_))
  replace h_t := h_t.ch aV.ch
  refine GoR.call (op_call body48 rfl (walk_mult_spanning hO.lt h_t H)) rfl rfl ?_
  rintro v12 w9 ⟨r8, qR, qS, rfl, iG, jU, H⟩
  have bS := Stp.same hO iG
  replace hO := bS.own
  replace h_t := h_t.ch bS.ch
  refine GoR.call (op_call body47 rfl (walk_mult_associates hO.lt h_t jU H)) rfl rfl ?_
  rintro v18 w15 ⟨r14, rfl, iH, H⟩
  have bt := Stp.same hO iH
  replace hO := bt.own
  cases r14
  ·replace H := ifn Bool.false_ne_true H
   refine zo (op_not rfl) (zn (zt rfl rfl (zq (zr (za rfl ?_)))))
   refine zn ?_
   refine Go1.ret1 Try.func24 rfl ?_
   replace hB := ((hB.trans aV.fr).trans bS.fr).trans bt.fr
   exact ⟨(5 : Int), rfl, hB.same, H⟩
  replace H := ifp rfl H
  refine zo (op_not rfl) (zn (zf rfl rfl (zk (zq (zr ?_)))))
  refine za rfl (zn ?_)
  refine Go1.ret1 Try.func24 rfl ?_
  replace hB := ((hB.trans aV.fr).trans bS.fr).trans bt.fr
  exact ⟨(0 : Int), rfl, hB.same, H⟩
 replace H := ifn h7 H
 refine zo (fun w => opB (op_neq rfl rfl w) (ndF h7)) (zn (zt rfl rfl (zq (zr (zm rfl ?_)))))
 refine za rfl (zn ?_)
 refine Go1.ret1 Try.func24 rfl ?_
 replace hB := hB.trans aV.fr
 exact ⟨r1, rfl, hB.same, H⟩
theorem body49 : Body Try.prog 49 := ⟨Try.f49, Try.func49, rfl, by kernel_rfl⟩
theorem walk_green_newIdeal {A : List Nat} {w0 : World} {n : Int} (hA : ∀ b ∈ A, b < w0.heap.size) {K : List Int → Prop} (H : green_newIdeal n K) :
    CallsV Try.prog 49 #[.int .i64 n] w0 (fun v w' => ∃ (r0 : List Int), ∃ (jV : Nat), ∃ (a8 : Option Addr), ∃ (a9 : Nat), ∃ (iI : List Value), v = .slice a8 jV a9 ∧ Same w0 w' ∧ Owns w0.heap.size w' [.row 77 1 a8 jV a9 iI] A ∧ Els (Rp.int .u64) (bl [.row 77 1 a8 jV a9 iI] ++ A) w' iI r0 ∧ K r0) := by
 refine CallsV.of (l := [.int .i64 n]) Try.func49 rfl Try.ntmps49 rfl ?_
 have hO := Owns.start hA
 have hB := Fr.refl (bl []) w0
 unfold green_newIdeal at H
 refine zq (zr (za rfl (zn (zq (zr ?_)))))
 refine zm rfl ?_
 obtain ⟨h1, H⟩ := H
 refine zo (op_add rfl rfl (wrap_i64 h1)) ?_
 obtain ⟨h2, H⟩ := H
 refine zo (op_quo rfl rfl (by decide) (wrap_i64 h2)) ?_
 obtain ⟨h10, H⟩ := H
 obtain ⟨h11, H⟩ := H
 have hobt := omake (n := ((n + (63 : Int)).tdiv (64 : Int))) (r := Rp.int .u64) (d := (0 : Int)) Try.underlying56 ti77 (fun _ _ => rfl) rfl hO h10 h11 (by decide)
 obtain ⟨w3, p4, vs5, aV, hE7, hs8, ov⟩ := hobt
 refine zg (ov rfl rfl) ?_
 replace hO := aV.own
 refine za rfl (zn ?_)
 refine Go1.ret1 Try.func49 rfl ?_
 replace hB := hB.trans aV.fr
 exact ⟨(List.replicate (((n + (63 : Int)).tdiv (64 : Int)).toNat) ((0 : Int))), (((n + (63 : Int)).tdiv (64 : Int)).toNat), p4, (((n + (63 : Int)).tdiv (64 : Int)).toNat), vs5, rfl, hB.same, hO, hE7, H⟩
theorem body50 : Body Try.prog 50 := ⟨Try.f50, Try.func50, rfl, by kernel_rfl⟩
theorem body25 : Body Try.prog 25 := ⟨Try.f25, Try.func25, rfl, by kernel_rfl⟩
theorem walk_green_rightIdeals {A : List Nat} {w0 : World} {p_t : Option Addr} {c_t : Nat} {t : List (List Int)} (hA : ∀ b ∈ A, b < w0.heap.size) (h_t : ISl (Rp.sl (Rp.int .i64)) A w0 p_t c_t t) {K : List (List Int) → Prop} (H : green_rightIdeals t K) :
    CallsV Try.prog 25 #[.slice p_t t.length c_t] w0 (fun v w' => ∃ (r0 : List (List Int)), ∃ (a8 : Option Addr), ∃ (a9 : Nat), v = .slice a8 r0.length a9 ∧ Same w0 w' ∧ ISl (Rp.sl (Rp.int .u64)) A w' a8 a9 r0 ∧ K r0) := by
 refine CallsV.of (l := [.slice p_t t.length c_t]) Try.func25 rfl Try.ntmps25 rfl ?_
 have hO := Owns.start hA
 have hB := Fr.refl (bl []) w0
 unfold green_rightIdeals at H
 refine zq (zr (za rfl (zn (zq (zr ?_)))))
 refine zm rfl (zo (op_len Try.underlying22 rfl) ?_)
 replace h_t := h_t.ch (Ch.start A w0)
 replace H := H h_t.bd
 obtain ⟨h8, H⟩ := H
 obtain ⟨h9, H⟩ := H
 have hobt := t2make (m := (t.length : Int)) (e' := 77) (Fl.int .u64) Try.underlying49 ti56 hO h8 h9 (by decide)
 obtain ⟨w1, p2, bx, hs6, dF⟩ := hobt
 refine zg (dF rfl rfl) ?_
 replace hO := bx.own
 refine za rfl (zn (zq (zq (zr (zm rfl ?_)))))
 refine zo (op_len Try.underlying22 rfl) (zm rfl (zn (zb ?_)))
 replace h_t := h_t.ch bx.ch
 replace hB := hB.trans bx.fr
 refine Go1.loopW (S := Nat × List (List Int)) (fun s σ w => match s with | (k1_12, ideals1_13) => ∃ (n16 : Nat), ∃ (p14 : Option Addr), ∃ (c15 : Nat), ∃ (aS : Hd), agrees σ [(0, .slice p_t t.length c_t), (3, .slice p14 n16 c15), (11, .slice p_t t.length c_t), (12, .int .i64 (t.length : Int)), (13, .int .i64 (k1_12 : Int))] ∧ (fun Z0 => Owns w0.heap.size w Z0 A ∧ ISl (Rp.sl (Rp.int .i64)) (bl Z0 ++ A) w p_t c_t t ∧ Fr (bl []) w0 (bl Z0) w) [t2 (Fl.int .u64) 56 77 p14 n16 c15 aS ideals1_13]) H ⟨t.length, p2, t.length, (fun _ => (none, 0)), ⟨rfl, rfl, rfl, rfl, rfl, trivial⟩, hO, h_t, hB⟩ ?_
 intro X1
 refine prE fun k1_12 => fun ideals1_13 => ?_
 intro H hX1 σ w11
 refine exE fun n16 => exE fun p14 => exE fun c15 => exE fun aS => andE fun hag => andE fun hO => andE fun h_t => fun hB => ?_
 dsimp only at H
 refine Go1.keep [(0, .slice p_t t.length c_t), (3, .slice p14 n16 c15), (11, .slice p_t t.length c_t), (12, .int .i64 (t.length : Int)), (13, .int .i64 (k1_12 : Int))] hag ?_
 refine zq (zr ?_)
 by_cases h18 : (k1_12 : Int) < (t.length : Int)
 ·replace H := ifp h18 H
  refine zo (fun w => opB (op_lss rfl rfl w) (decide_eq_true h18)) (zn (zq (zt rfl rfl (zk (zq ?_)))))
  refine zb (zq (zr (zm rfl ?_)))
  obtain ⟨h19, H⟩ := H
  obtain ⟨h20, H⟩ := H
  refine zo (op_index Try.underlying22 ti26 rfl rfl h19 h20 (h_t.some_ h19 h20)) ?_
  have hobt := ldSl h_t h19 h20
  obtain ⟨p21, c22, bQ, ow⟩ := hobt
  refine zs (ow Try.underlying26 rfl rfl) (za rfl (za rfl (zn (zq (zr ?_)))))
  refine zm rfl (zm rfl (zm rfl (zo (op_len Try.underlying22 rfl) ?_)))
  refine GoR.call (op_call body49 rfl (walk_green_newIdeal hO.lt H)) rfl rfl ?_
  rintro v30 w27 ⟨r25, qg, dx, dy, qd, rfl, jW, hN29, gq, H⟩
  have cG := Stp.more hO jW hN29
  replace hO := cG.own
  obtain ⟨h33, H⟩ := H
  obtain ⟨h34, H⟩ := H
  refine zo (op_index Try.underlying49 ti56 rfl rfl h33 (ltn (t2neq 1 hO rfl) h34) (t2some 1 hO rfl h33 h34)) ?_
  have dN := Stp.front 1 hO rfl
  replace hO := dN.own
  have b8 := Stp.front 1 hO rfl
  replace hO := b8.own
  have Z1 := ((Ch.assoc _ _ _ _).trans dN.ch).trans b8.ch
  replace gq := gq.ch Z1
  have hobt := t2put (hf := (Fl.int .u64)) hO gq h33 h34
  obtain ⟨w37, dO, ml⟩ := hobt
  refine zg (ml Try.underlying56 rfl ti56 (by exact rfl) (by exact rfl)) ?_
  replace hO := dO.own
  refine zn (zq (zr (zm rfl (zm rfl ?_))))
  obtain ⟨h40, H⟩ := H
  obtain ⟨h41, H⟩ := H
  refine zo (op_index Try.underlying49 ti56 rfl rfl h40 (ltn (t2neq 0 hO rfl) h41) (t2some 0 hO rfl h40 h41)) (zs (t2head 0 hO rfl h40 h41 Try.underlying56 rfl rfl) (zm rfl ?_))
  refine GoR.inl (vs := [.slice ((hup aS (k1_12 : Int).toNat (dx, dy)) (k1_12 : Int).toNat).1 ((ix (st ideals1_13 (k1_12 : Int) r25) (k1_12 : Int)).length) ((hup aS (k1_12 : Int).toNat (dx, dy)) (k1_12 : Int).toNat).2, .int .i64 (k1_12 : Int)]) (caps := []) rfl rfl body50 Try.func50 rfl Try.ntmps50 rfl rfl rfl ?_
  intro RhR42 hR42
  refine Go1.cut [(0, .slice ((hup aS (k1_12 : Int).toNat (dx, dy)) (k1_12 : Int).toNat).1 ((ix (st ideals1_13 (k1_12 : Int) r25) (k1_12 : Int)).length) ((hup aS (k1_12 : Int).toNat (dx, dy)) (k1_12 : Int).toNat).2), (1, .int .i64 (k1_12 : Int))] ⟨rfl, rfl, trivial⟩ ?_
  intro σ _
  refine Go1.drawS 1 [(0, .pure), (1, .pure), (2, .pure), (3, .pure), (4, .stable), (5, .pure), (6, .pure), (7, .pure), (8, .pure), (9, .pure), (10, .last)] mixed (by kernel_rfl) ?_
  intro w43 oA
  have bT := Stp.same hO oA
  replace hO := bT.own
  refine GoQ.pure rfl (op_move rfl) rfl rfl ?_
  refine GoQ.pure rfl (op_move rfl) rfl rfl ?_
  refine GoQ.pure rfl (op_shr rfl rfl (by decide) rfl) rfl rfl ?_
  obtain ⟨h46, H⟩ := H
  obtain ⟨h47, H⟩ := H
  refine GoQ.pure rfl (op_index Try.underlying56 ti77 rfl rfl h46 h47 (t2isome 0 hO rfl h40 h41 h46 h47)) rfl rfl ?_
  refine GoQ.stable rfl (t2Int 0 hO rfl h40 h41 h46 h47 Try.underlying77 rfl rfl) rfl rfl ?_
  refine GoQ.pure rfl (op_move rfl) rfl rfl ?_
  refine GoQ.pure rfl (op_and rfl rfl) rfl rfl ?_
  obtain ⟨h48, H⟩ := H
  refine GoQ.pure rfl (op_shl rfl rfl h48 rfl) rfl rfl ?_
  refine GoQ.pure rfl (op_or rfl rfl) rfl rfl ?_
  obtain ⟨h49, H⟩ := H
  obtain ⟨h50, H⟩ := H
  refine GoQ.pure rfl (op_index Try.underlying56 ti77 rfl rfl h49 h50 (t2isome 0 hO rfl h40 h41 h49 h50)) rfl rfl ?_
  have hobt := t2st (r := Rp.int .u64) (hf := (Fl.int .u64)) rfl 0 hO rfl h40 h41 h49 h50 (v := .int .u64 (bits .or .u64 (ix (ix (st ideals1_13 (k1_12 : Int) r25) (k1_12 : Int)) (shrK .i64 (k1_12 : Int) (6 : Int))) (shlK .u64 (1 : Int) (bits .and .i64 (k1_12 : Int) (63 : Int))))) (u := (bits .or .u64 (ix (ix (st ideals1_13 (k1_12 : Int) r25) (k1_12 : Int)) (shrK .i64 (k1_12 : Int) (6 : Int))) (shlK .u64 (1 : Int) (bits .and .i64 (k1_12 : Int) (63 : Int))))) rfl rfl
  obtain ⟨w51, bG, iJ⟩ := hobt
  refine GoQ.last rfl (iJ Try.underlying77 rfl ti77 (by exact rfl) (by exact rfl)) rfl rfl ?_
  replace hO := bG.own
  refine GoQ.nil ?_
  refine Go1.fin0V Try.func50 rfl ?_
  refine hR42 _ _ ?_
  refine zn (zq (zr (zm rfl (zo (op_len Try.underlying26 rfl) ?_))))
  have Z2 := ((((cG.ch.trans dN.ch).trans b8.ch).trans dO.ch).trans bT.ch).trans bG.ch
  replace bQ := bQ.ch Z2
  replace H := H bQ.bd
  refine zm rfl (zn (zb ?_))
  replace h_t := h_t.ch Z2
  replace hB := (((((hB.trans cG.fr).trans dN.fr).trans b8.fr).trans dO.fr).trans bT.fr).trans bG.fr
  refine Go1.loopW (S := Nat × List (List Int)) (fun s σ w => match s with | (k2_55, ideals2_56) => agrees σ [(0, .slice p_t t.length c_t), (3, .slice p14 n16 c15), (4, .int .i64 (k1_12 : Int)), (11, .slice p_t t.length c_t), (12, .int .i64 (t.length : Int)), (13, .int .i64 (k1_12 : Int)), (30, .slice p21 ((ix t (k1_12 : Int)).length) c22), (31, .int .i64 ((ix t (k1_12 : Int)).length : Int)), (32, .int .i64 (k2_55 : Int))] ∧ (fun Z0 => Owns w0.heap.size w Z0 A ∧ ISl (Rp.sl (Rp.int .i64)) (bl Z0 ++ A) w p_t c_t t ∧ ISl (Rp.int .i64) (bl Z0 ++ A) w p21 c22 (ix t (k1_12 : Int)) ∧ Fr (bl []) w0 (bl Z0) w) [t2 (Fl.int .u64) 56 77 p14 n16 c15 (hup aS (k1_12 : Int).toNat (dx, dy)) ideals2_56]) H ⟨⟨rfl, rfl, rfl, rfl, rfl, rfl, rfl, rfl, rfl, trivial⟩, hO, h_t, bQ, hB⟩ ?_
  intro X2
  refine prE fun k2_55 => fun ideals2_56 => ?_
  intro H hX2 σ w54
  refine andE fun hag => andE fun hO => andE fun h_t => andE fun bQ => fun hB => ?_
  dsimp only at H
  refine Go1.keep [(0, .slice p_t t.length c_t), (3, .slice p14 n16 c15), (4, .int .i64 (k1_12 : Int)), (11, .slice p_t t.length c_t), (12, .int .i64 (t.length : Int)), (13, .int .i64 (k1_12 : Int)), (30, .slice p21 ((ix t (k1_12 : Int)).length) c22), (31, .int .i64 ((ix t (k1_12 : Int)).length : Int)), (32, .int .i64 (k2_55 : Int))] hag ?_
  refine zq (zr ?_)
  by_cases h57 : (k2_55 : Int) < ((ix t (k1_12 : Int)).length : Int)
  ·replace H := ifp h57 H
   refine zo (fun w => opB (op_lss rfl rfl w) (decide_eq_true h57)) (zn (zq (zt rfl rfl (zk (zq ?_)))))
   refine zb (zq (zr ?_))
   obtain ⟨h58, H⟩ := H
   obtain ⟨h59, H⟩ := H
   refine zo (op_index Try.underlying26 ti3 rfl rfl h58 h59 (bQ.some_ h58 h59)) (zs (ldInt bQ h58 h59 Try.underlying3 rfl rfl) (za rfl (zn (zr (zm rfl ?_)))))
   refine zm rfl ?_
   obtain ⟨h60, H⟩ := H
   obtain ⟨h61, H⟩ := H
   refine zo (op_index Try.underlying49 ti56 rfl rfl h60 (ltn (t2neq 0 hO rfl) h61) (t2some 0 hO rfl h60 h61)) (zs (t2head 0 hO rfl h60 h61 Try.underlying56 rfl rfl) (zm rfl ?_))
   refine GoR.inl (vs := [.slice ((hup aS (k1_12 : Int).toNat (dx, dy)) (k1_12 : Int).toNat).1 ((ix ideals2_56 (k1_12 : Int)).length) ((hup aS (k1_12 : Int).toNat (dx, dy)) (k1_12 : Int).toNat).2, .int .i64 (ix (ix t (k1_12 : Int)) (k2_55 : Int))]) (caps := []) rfl rfl body50 Try.func50 rfl Try.ntmps50 rfl rfl rfl ?_
   intro RhR62 hR62
   refine Go1.drawS 1 [(0, .pure), (1, .pure), (2, .pure), (3, .pure), (4, .stable), (5, .pure), (6, .pure), (7, .pure), (8, .pure), (9, .pure), (10, .last)] mixed (by kernel_rfl) ?_
   intro w63 oB
   have eO := Stp.same hO oB
   replace hO := eO.own
   refine GoQ.pure rfl (op_move rfl) rfl rfl ?_
   refine GoQ.pure rfl (op_move rfl) rfl rfl ?_
   refine GoQ.pure rfl (op_shr rfl rfl (by decide) rfl) rfl rfl ?_
   obtain ⟨h66, H⟩ := H
   obtain ⟨h67, H⟩ := H
   refine GoQ.pure rfl (op_index Try.underlying56 ti77 rfl rfl h66 h67 (t2isome 0 hO rfl h60 h61 h66 h67)) rfl rfl ?_
   refine GoQ.stable rfl (t2Int 0 hO rfl h60 h61 h66 h67 Try.underlying77 rfl rfl) rfl rfl ?_
   refine GoQ.pure rfl (op_move rfl) rfl rfl ?_
   refine GoQ.pure rfl (op_and rfl rfl) rfl rfl ?_
   obtain ⟨h68, H⟩ := H
   refine GoQ.pure rfl (op_shl rfl rfl h68 rfl) rfl rfl ?_
   refine GoQ.pure rfl (op_or rfl rfl) rfl rfl ?_
   obtain ⟨h69, H⟩ := H
   obtain ⟨h70, H⟩ := H
   refine GoQ.pure rfl (op_index Try.underlying56 ti77 rfl rfl h69 h70 (t2isome 0 hO rfl h60 h61 h69 h70)) rfl rfl ?_
   have hobt := t2st (r := Rp.int .u64) (hf := (Fl.int .u64)) rfl 0 hO rfl h60 h61 h69 h70 (v := .int .u64 (bits .or .u64 (ix (ix ideals2_56 (k1_12 : Int)) (shrK .i64 (ix (ix t (k1_12 : Int)) (k2_55 : Int)) (6 : Int))) (shlK .u64 (1 : Int) (bits .and .i64 (ix (ix t (k1_12 : Int)) (k2_55 : Int)) (63 : Int))))) (u := (bits .or .u64 (ix (ix ideals2_56 (k1_12 : Int)) (shrK .i64 (ix (ix t (k1_12 : Int)) (k2_55 : Int)) (6 : Int))) (shlK .u64 (1 : Int) (bits .and .i64 (ix (ix t (k1_12 : Int)) (k2_55 : Int)) (63 : Int))))) rfl rfl
   obtain ⟨w71, gY, mm⟩ := hobt
   refine GoQ.last rfl (mm Try.underlying77 rfl ti77 (by exact rfl) (by exact rfl)) rfl rfl ?_
   replace hO := gY.own
   refine GoQ.nil ?_
   refine Go1.fin0V Try.func50 rfl ?_
   refine hR62 _ _ ?_
   refine zn ?_
   refine Go1.inBlock ?_
   refine Go1.cut [(0, .slice p_t t.length c_t), (3, .slice p14 n16 c15), (4, .int .i64 (k1_12 : Int)), (11, .slice p_t t.length c_t), (12, .int .i64 (t.length : Int)), (13, .int .i64 (k1_12 : Int)), (30, .slice p21 ((ix t (k1_12 : Int)).length) c22), (31, .int .i64 ((ix t (k1_12 : Int)).length : Int)), (32, .int .i64 (k2_55 : Int))] ⟨rfl, rfl, rfl, rfl, rfl, rfl, rfl, rfl, rfl, trivial⟩ ?_
   intro σ _
   refine zr ?_
   replace bQ := (bQ.ch eO.ch).ch gY.ch
   refine zo (op_add rfl rfl (wrap_i64 (natbd h57 bQ.bd))) (zm rfl (zn ?_))
   replace h_t := (h_t.ch eO.ch).ch gY.ch
   replace hB := (hB.trans eO.fr).trans gY.fr
   exact hX2 _ H _ _ ⟨⟨rfl, rfl, rfl, rfl, rfl, rfl, rfl, rfl, rfl, trivial⟩, hO, h_t, bQ, hB⟩
  replace H := ifn h57 H
  refine zo (fun w => opB (op_lss rfl rfl w) (decide_eq_false h57)) (zn (zq (zf rfl rfl ?_)))
  refine Go1.exit rfl ?_
  refine Go1.inBlock ?_
  refine zr (zo (op_add rfl rfl (wrap_i64 (natbd h18 h_t.bd))) (zm rfl (zn ?_)))
  exact hX1 _ H _ _ ⟨n16, p14, c15, hup aS (k1_12 : Int).toNat (dx, dy), ⟨rfl, rfl, rfl, rfl, rfl, trivial⟩, hO, h_t, hB⟩
 replace H := ifn h18 H
 refine zo (fun w => opB (op_lss rfl rfl w) (decide_eq_false h18)) (zn (zq (zf rfl rfl ?_)))
 refine Go1.exit rfl ?_
 refine zq (zr (zm rfl (za rfl (zn ?_))))
 have hobt := t2freezeA 0 hO rfl
 obtain ⟨hO1, oC, oD, oE⟩ := hobt
 replace hO := hO1; clear hO1
 refine Go1.ret1 Try.func25 rfl ?_
 replace hB := hB.trans (Owns.dropFr _ _ 0)
 exact ⟨ideals1_13, p14, c15, (congrArg (fun nn => Value.slice p14 nn c15) oE), hB.same, (oD.ch (Ch.weak _ _ _)), H⟩
theorem body26 : Body Try.prog 26 := ⟨Try.f26, Try.func26, rfl, by kernel_rfl⟩
theorem walk_green_leftIdeals {A : List Nat} {w0 : World} {p_t : Option Addr} {c_t : Nat} {t : List (List Int)} (hA : ∀ b ∈ A, b < w0.heap.size) (h_t : ISl (Rp.sl (Rp.int .i64)) A w0 p_t c_t t) {K : List (List Int) → Prop} (H : green_leftIdeals t K) :
    CallsV Try.prog 26 #[.slice p_t t.length c_t] w0 (fun v w' => ∃ (r0 : List (List Int)), ∃ (a8 : Option Addr), ∃ (a9 : Nat), v = .slice a8 r0.length a9 ∧ Same w0 w' ∧ ISl (Rp.sl (Rp.int .u64)) A w' a8 a9 r0 ∧ K r0) := by
 refine CallsV.of (l := [.slice p_t t.length c_t]) Try.func26 rfl Try.ntmps26 rfl ?_
 have hO := Owns.start hA
 have hB := Fr.refl (bl []) w0
 unfold green_leftIdeals at H
 refine zq ?_
 refine Go1.cut [(0, .slice p_t t.length c_t)] ⟨rfl, trivial⟩ ?_
 intro σ _
 refine zr (za rfl (zn (zq (zr (zm rfl ?_)))))
 refine zo (op_len Try.underlying22 rfl) ?_
 replace h_t := h_t.ch (Ch.start A w0)
 replace H := H h_t.bd
 obtain ⟨h8, H⟩ := H
 obtain ⟨h9, H⟩ := H
 have hobt := t2make (m := (t.length : Int)) (e' := 77) (Fl.int .u64) Try.underlying49 ti56 hO h8 h9 (by decide)
 obtain ⟨w1, p2, bx, hs6, dF⟩ := hobt
 refine zg (dF rfl rfl) ?_
 replace hO := bx.own
 refine za rfl (zn (zq (zq (zr (zm rfl ?_)))))
 refine zo (op_len Try.underlying22 rfl) (zm rfl (zn (zb ?_)))
 replace h_t := h_t.ch bx.ch
 replace hB := hB.trans bx.fr
 refine Go1.loopW (S := Nat × List (List Int)) (fun s σ w => match s with | (k1_12, ideals1_13) => ∃ (n16 : Nat), ∃ (p14 : Option Addr), ∃ (c15 : Nat), ∃ (aS : Hd), agrees σ [(0, .slice p_t t.length c_t), (3, .slice p14 n16 c15), (11, .int .i64 (t.length : Int)), (12, .int .i64 (k1_12 : Int))] ∧ (fun Z0 => Owns w0.heap.size w Z0 A ∧ ISl (Rp.sl (Rp.int .i64)) (bl Z0 ++ A) w p_t c_t t ∧ Fr (bl []) w0 (bl Z0) w) [t2 (Fl.int .u64) 56 77 p14 n16 c15 aS ideals1_13]) H ⟨t.length, p2, t.length, (fun _ => (none, 0)), ⟨rfl, rfl, rfl, rfl, trivial⟩, hO, h_t, hB⟩ ?_
 intro X1
 refine prE fun k1_12 => fun ideals1_13 => ?_
 intro H hX1 σ w11
 refine exE fun n16 => exE fun p14 => exE fun c15 => exE fun aS => andE fun hag => andE fun hO => andE fun h_t => fun hB => ?_
 dsimp only at H
 refine Go1.keep [(0, .slice p_t t.length c_t), (3, .slice p14 n16 c15), (11, .int .i64 (t.length : Int)), (12, .int .i64 (k1_12 : Int))] hag ?_
 refine zq (zr ?_)
 by_cases h18 : (k1_12 : Int) < (t.length : Int)
 ·replace H := ifp h18 H
  refine zo (fun w => opB (op_lss rfl rfl w) (decide_eq_true h18)) (zn (zq (zt rfl rfl (zk (zq ?_)))))
  refine zb (zq (zr (zm rfl (za rfl (zn ?_)))))
  refine zq (zr (zm rfl (zm rfl (zm rfl (zo (op_len Try.underlying22 rfl) ?_)))))
  refine GoR.call (op_call body49 rfl (walk_green_newIdeal hO.lt H)) rfl rfl ?_
  rintro v24 w21 ⟨r19, mo, bm, bn, lz, rfl, ie, hN23, bW, H⟩
  have bO := Stp.more hO ie hN23
  replace hO := bO.own
  obtain ⟨h27, H⟩ := H
  obtain ⟨h28, H⟩ := H
  refine zo (op_index Try.underlying49 ti56 rfl rfl h27 (ltn (t2neq 1 hO rfl) h28) (t2some 1 hO rfl h27 h28)) ?_
  have dP := Stp.front 1 hO rfl
  replace hO := dP.own
  have cg := Stp.front 1 hO rfl
  replace hO := cg.own
  have Z1 := ((Ch.assoc _ _ _ _).trans dP.ch).trans cg.ch
  replace bW := bW.ch Z1
  have hobt := t2put (hf := (Fl.int .u64)) hO bW h27 h28
  obtain ⟨w31, fd, gw⟩ := hobt
  refine zg (gw Try.underlying56 rfl ti56 (by exact rfl) (by exact rfl)) ?_
  replace hO := fd.own
  refine zn (zq (zr (zm rfl (zm rfl ?_))))
  obtain ⟨h34, H⟩ := H
  obtain ⟨h35, H⟩ := H
  refine zo (op_index Try.underlying49 ti56 rfl rfl h34 (ltn (t2neq 0 hO rfl) h35) (t2some 0 hO rfl h34 h35)) (zs (t2head 0 hO rfl h34 h35 Try.underlying56 rfl rfl) (zm rfl ?_))
  refine GoR.inl (vs := [.slice ((hup aS (k1_12 : Int).toNat (bm, bn)) (k1_12 : Int).toNat).1 ((ix (st ideals1_13 (k1_12 : Int) r19) (k1_12 : Int)).length) ((hup aS (k1_12 : Int).toNat (bm, bn)) (k1_12 : Int).toNat).2, .int .i64 (k1_12 : Int)]) (caps := []) rfl rfl body50 Try.func50 rfl Try.ntmps50 rfl rfl rfl ?_
  intro RhR36 hR36
  refine Go1.drawS 1 [(0, .pure), (1, .pure), (2, .pure), (3, .pure), (4, .stable), (5, .pure), (6, .pure), (7, .pure), (8, .pure), (9, .pure), (10, .last)] mixed (by kernel_rfl) ?_
  intro w37 oF
  have iK := Stp.same hO oF
  replace hO := iK.own
  refine GoQ.pure rfl (op_move rfl) rfl rfl ?_
  refine GoQ.pure rfl (op_move rfl) rfl rfl ?_
  refine GoQ.pure rfl (op_shr rfl rfl (by decide) rfl) rfl rfl ?_
  obtain ⟨h40, H⟩ := H
  obtain ⟨h41, H⟩ := H
  refine GoQ.pure rfl (op_index Try.underlying56 ti77 rfl rfl h40 h41 (t2isome 0 hO rfl h34 h35 h40 h41)) rfl rfl ?_
  refine GoQ.stable rfl (t2Int 0 hO rfl h34 h35 h40 h41 Try.underlying77 rfl rfl) rfl rfl ?_
  refine GoQ.pure rfl (op_move rfl) rfl rfl ?_
  refine GoQ.pure rfl (op_and rfl rfl) rfl rfl ?_
  obtain ⟨h42, H⟩ := H
  refine GoQ.pure rfl (op_shl rfl rfl h42 rfl) rfl rfl ?_
  refine GoQ.pure rfl (op_or rfl rfl) rfl rfl ?_
  obtain ⟨h43, H⟩ := H
  obtain ⟨h44, H⟩ := H
  refine GoQ.pure rfl (op_index Try.underlying56 ti77 rfl rfl h43 h44 (t2isome 0 hO rfl h34 h35 h43 h44)) rfl rfl ?_
  have hobt := t2st (r := Rp.int .u64) (hf := (Fl.int .u64)) rfl 0 hO rfl h34 h35 h43 h44 (v := .int .u64 (bits .or .u64 (ix (ix (st ideals1_13 (k1_12 : Int) r19) (k1_12 : Int)) (shrK .i64 (k1_12 : Int) (6 : Int))) (shlK .u64 (1 : Int) (bits .and .i64 (k1_12 : Int) (63 : Int))))) (u := (bits .or .u64 (ix (ix (st ideals1_13 (k1_12 : Int) r19) (k1_12 : Int)) (shrK .i64 (k1_12 : Int) (6 : Int))) (shlK .u64 (1 : Int) (bits .and .i64 (k1_12 : Int) (63 : Int))))) rfl rfl
  obtain ⟨w45, iL, iM⟩ := hobt
  refine GoQ.last rfl (iM Try.underlying77 rfl ti77 (by exact rfl) (by exact rfl)) rfl rfl ?_
  replace hO := iL.own
  refine GoQ.nil ?_
  refine Go1.fin0V Try.func50 rfl ?_
  refine hR36 _ _ ?_
  refine zn (zq ?_)
  refine Go1.cut [(0, .slice p_t t.length c_t), (3, .slice p14 n16 c15), (4, .int .i64 (k1_12 : Int)), (11, .int .i64 (t.length : Int)), (12, .int .i64 (k1_12 : Int))] ⟨rfl, rfl, rfl, rfl, rfl, trivial⟩ ?_
  intro σ _
  refine zr (zm rfl (zo (op_len Try.underlying22 rfl) (zm rfl (zn (zb ?_)))))
  have Z2 := ((((bO.ch.trans dP.ch).trans cg.ch).trans fd.ch).trans iK.ch).trans iL.ch
  replace h_t := h_t.ch Z2
  replace hB := (((((hB.trans bO.fr).trans dP.fr).trans cg.fr).trans fd.fr).trans iK.fr).trans iL.fr
  refine Go1.loopW (S := Nat × List (List Int)) (fun s σ w => match s with | (k2_49, ideals2_50) => agrees σ [(0, .slice p_t t.length c_t), (3, .slice p14 n16 c15), (4, .int .i64 (k1_12 : Int)), (11, .int .i64 (t.length : Int)), (12, .int .i64 (k1_12 : Int)), (27, .slice p_t t.length c_t), (28, .int .i64 (t.length : Int)), (29, .int .i64 (k2_49 : Int))] ∧ (fun Z0 => Owns w0.heap.size w Z0 A ∧ ISl (Rp.sl (Rp.int .i64)) (bl Z0 ++ A) w p_t c_t t ∧ Fr (bl []) w0 (bl Z0) w) [t2 (Fl.int .u64) 56 77 p14 n16 c15 (hup aS (k1_12 : Int).toNat (bm, bn)) ideals2_50]) H ⟨⟨rfl, rfl, rfl, rfl, rfl, rfl, rfl, rfl, trivial⟩, hO, h_t, hB⟩ ?_
  intro X2
  refine prE fun k2_49 => fun ideals2_50 => ?_
  intro H hX2 σ w48
  refine andE fun hag => andE fun hO => andE fun h_t => fun hB => ?_
  dsimp only at H
  refine Go1.keep [(0, .slice p_t t.length c_t), (3, .slice p14 n16 c15), (4, .int .i64 (k1_12 : Int)), (11, .int .i64 (t.length : Int)), (12, .int .i64 (k1_12 : Int)), (27, .slice p_t t.length c_t), (28, .int .i64 (t.length : Int)), (29, .int .i64 (k2_49 : Int))] hag ?_
  refine zq (zr ?_)
  by_cases h51 : (k2_49 : Int) < (t.length : Int)
  ·replace H := ifp h51 H
   refine zo (fun w => opB (op_lss rfl rfl w) (decide_eq_true h51)) (zn (zq (zt rfl rfl (zk (zq ?_)))))
   refine zb (zq (zr ?_))
   obtain ⟨h52, H⟩ := H
   obtain ⟨h53, H⟩ := H
   refine zo (op_index Try.underlying22 ti26 rfl rfl h52 h53 (h_t.some_ h52 h53)) ?_
   have hobt := ldSl h_t h52 h53
   obtain ⟨p54, c55, f5, oG⟩ := hobt
   refine zs (oG Try.underlying26 rfl rfl) (za rfl (zn ?_))
   refine Go1.drawS 1 [(0, .pure), (1, .pure), (2, .pure), (3, .stable), (4, .pure), (5, .pure), (6, .pure), (7, .stable), (8, .last)] mixed (by kernel_rfl) ?_
   intro w58 oH
   have g5 := Stp.same hO oH
   replace hO := g5.own
   refine GoQ.pure rfl (op_move rfl) rfl rfl ?_
   refine GoQ.pure rfl (op_move rfl) rfl rfl ?_
   obtain ⟨h61, H⟩ := H
   obtain ⟨h62, H⟩ := H
   refine GoQ.pure rfl (op_index Try.underlying49 ti56 rfl rfl h61 (ltn (t2neq 0 hO rfl) h62) (t2some 0 hO rfl h61 h62)) rfl rfl ?_
   refine GoQ.stable rfl (t2head 0 hO rfl h61 h62 Try.underlying56 rfl rfl) rfl rfl ?_
   refine GoQ.pure rfl (op_move rfl) rfl rfl ?_
   refine GoQ.pure rfl (op_move rfl) rfl rfl ?_
   obtain ⟨h63, H⟩ := H
   obtain ⟨h64, H⟩ := H
   replace f5 := f5.ch g5.ch
   refine GoQ.pure rfl (op_index Try.underlying26 ti3 rfl rfl h63 h64 (f5.some_ h63 h64)) rfl rfl ?_
   refine GoQ.stable rfl (ldInt f5 h63 h64 Try.underlying3 rfl rfl) rfl rfl ?_
   refine GoQ.inl (vs := [.slice ((hup aS (k1_12 : Int).toNat (bm, bn)) (k1_12 : Int).toNat).1 ((ix ideals2_50 (k1_12 : Int)).length) ((hup aS (k1_12 : Int).toNat (bm, bn)) (k1_12 : Int).toNat).2, .int .i64 (ix (ix t (k2_49 : Int)) (k1_12 : Int))]) (caps := []) rfl rfl rfl body50 Try.func50 rfl Try.ntmps50 rfl rfl rfl ?_
   intro RhR65 hR65
   refine Go1.drawS 1 [(0, .pure), (1, .pure), (2, .pure), (3, .pure), (4, .stable), (5, .pure), (6, .pure), (7, .pure), (8, .pure), (9, .pure), (10, .last)] mixed (by kernel_rfl) ?_
   intro w66 jX
   have cw := Stp.same hO jX
   replace hO := cw.own
   refine GoQ.pure rfl (op_move rfl) rfl rfl ?_
   refine GoQ.pure rfl (op_move rfl) rfl rfl ?_
   refine GoQ.pure rfl (op_shr rfl rfl (by decide) rfl) rfl rfl ?_
   obtain ⟨h69, H⟩ := H
   obtain ⟨h70, H⟩ := H
   refine GoQ.pure rfl (op_index Try.underlying56 ti77 rfl rfl h69 h70 (t2isome 0 hO rfl h61 h62 h69 h70)) rfl rfl ?_
   refine GoQ.stable rfl (t2Int 0 hO rfl h61 h62 h69 h70 Try.underlying77 rfl rfl) rfl rfl ?_
   refine GoQ.pure rfl (op_move rfl) rfl rfl ?_
   refine GoQ.pure rfl (op_and rfl rfl) rfl rfl ?_
   obtain ⟨h71, H⟩ := H
   refine GoQ.pure rfl (op_shl rfl rfl h71 rfl) rfl rfl ?_
   refine GoQ.pure rfl (op_or rfl rfl) rfl rfl ?_
   obtain ⟨h72, H⟩ := H
   obtain ⟨h73, H⟩ := H
   refine GoQ.pure rfl (op_index Try.underlying56 ti77 rfl rfl h72 h73 (t2isome 0 hO rfl h61 h62 h72 h73)) rfl rfl ?_
   have hobt := t2st (r := Rp.int .u64) (hf := (Fl.int .u64)) rfl 0 hO rfl h61 h62 h72 h73 (v := .int .u64 (bits .or .u64 (ix (ix ideals2_50 (k1_12 : Int)) (shrK .i64 (ix (ix t (k2_49 : Int)) (k1_12 : Int)) (6 : Int))) (shlK .u64 (1 : Int) (bits .and .i64 (ix (ix t (k2_49 : Int)) (k1_12 : Int)) (63 : Int))))) (u := (bits .or .u64 (ix (ix ideals2_50 (k1_12 : Int)) (shrK .i64 (ix (ix t (k2_49 : Int)) (k1_12 : Int)) (6 : Int))) (shlK .u64 (1 : Int) (bits .and .i64 (ix (ix t (k2_49 : Int)) (k1_12 : Int)) (63 : Int))))) rfl rfl
   obtain ⟨w74, g6, mp⟩ := hobt
   refine GoQ.last rfl (mp Try.underlying77 rfl ti77 (by exact rfl) (by exact rfl)) rfl rfl ?_
   replace hO := g6.own
   refine GoQ.nil ?_
   refine Go1.fin0V Try.func50 rfl ?_
   refine hR65 _ _ ?_
   refine GoQ.nil ?_
   refine Go1.inBlock ?_
   refine Go1.cut [(0, .slice p_t t.length c_t), (3, .slice p14 n16 c15), (4, .int .i64 (k1_12 : Int)), (11, .int .i64 (t.length : Int)), (12, .int .i64 (k1_12 : Int)), (27, .slice p_t t.length c_t), (28, .int .i64 (t.length : Int)), (29, .int .i64 (k2_49 : Int))] ⟨rfl, rfl, rfl, rfl, rfl, rfl, rfl, rfl, trivial⟩ ?_
   intro σ _
   refine zr ?_
   have Z3 := (g5.ch.trans cw.ch).trans g6.ch
   replace h_t := h_t.ch Z3
   refine zo (op_add rfl rfl (wrap_i64 (natbd h51 h_t.bd))) (zm rfl (zn ?_))
   replace hB := ((hB.trans g5.fr).trans cw.fr).trans g6.fr
   exact hX2 _ H _ _ ⟨⟨rfl, rfl, rfl, rfl, rfl, rfl, rfl, rfl, trivial⟩, hO, h_t, hB⟩
  replace H := ifn h51 H
  refine zo (fun w => opB (op_lss rfl rfl w) (decide_eq_false h51)) (zn (zq (zf rfl rfl ?_)))
  refine Go1.exit rfl ?_
  refine Go1.inBlock ?_
  refine zr (zo (op_add rfl rfl (wrap_i64 (natbd h18 h_t.bd))) (zm rfl (zn ?_)))
  exact hX1 _ H _ _ ⟨n16, p14, c15, hup aS (k1_12 : Int).toNat (bm, bn), ⟨rfl, rfl, rfl, rfl, trivial⟩, hO, h_t, hB⟩
 replace H := ifn h18 H
 refine zo (fun w => opB (op_lss rfl rfl w) (decide_eq_false h18)) (zn (zq (zf rfl rfl ?_)))
 refine Go1.exit rfl ?_
 refine zq (zr (zm rfl (za rfl (zn ?_))))
 have hobt := t2freezeA 0 hO rfl
 obtain ⟨hO1, oI, oJ, oK⟩ := hobt
 replace hO := hO1; clear hO1
 refine Go1.ret1 Try.func26 rfl ?_
 replace hB := hB.trans (Owns.dropFr _ _ 0)
 exact ⟨ideals1_13, p14, c15, (congrArg (fun nn => Value.slice p14 nn c15) oK), hB.same, (oJ.ch (Ch.weak _ _ _)), H⟩
theorem body31 : Body Try.prog 31 := ⟨Try.f31, Try.func31, rfl, by kernel_rfl⟩
theorem walk_green_ideal_has {A : List Nat} {w0 : World} {jY : Option Addr} {j3 : Nat} {s_ : List Int} {x : Int} (hA : ∀ b ∈ A, b < w0.heap.size) (iN : ISl (Rp.int .u64) A w0 jY j3 s_) {K : Bool → Prop} (H : green_ideal_has s_ x K) :
    CallsV Try.prog 31 #[.slice jY s_.length j3, .int .i64 x] w0 (fun v w' => ∃ (r0 : Bool), v = .bool r0 ∧ Same w0 w' ∧ K r0) := by
 refine CallsV.of (l := [.slice jY s_.length j3, .int .i64 x]) Try.func31 rfl Try.ntmps31 rfl ?_
 have hO := Owns.start hA
 have hB := Fr.refl (bl []) w0
 unfold green_ideal_has at H
 refine zq (zr (za rfl (zn (zq (zr ?_)))))
 refine zm rfl (zm rfl (zo (op_shr rfl rfl (by decide) rfl) ?_))
 obtain ⟨h1, H⟩ := H
 obtain ⟨h2, H⟩ := H
 replace iN := iN.ch (Ch.start A w0)
 refine zo (op_index Try.underlying56 ti77 rfl rfl h1 h2 (iN.some_ h1 h2)) (zs (ldInt iN h1 h2 Try.underlying77 rfl rfl) (zm rfl (zo (op_and rfl rfl) ?_)))
 obtain ⟨h3, H⟩ := H
 refine zo (op_shr rfl rfl h3 rfl) (zo (op_and rfl rfl) ?_)
 by_cases h4 : (bits .and .u64 (shrK .u64 (ix s_ (shrK .i64 x (6 : Int))) (bits .and .i64 x (63 : Int))) (1 : Int)) = (1 : Int)
 ·replace H := ifp h4 H
  refine zo (fun w => opB (op_eql rfl rfl w) (decide_eq_true h4)) (za rfl (zn ?_))
  refine Go1.ret1 Try.func31 rfl ?_
  exact ⟨true, rfl, hB.same, H⟩
 replace H := ifn h4 H
 refine zo (fun w => opB (op_eql rfl rfl w) (decide_eq_false h4)) (za rfl (zn ?_))
 refine Go1.ret1 Try.func31 rfl ?_
 exact ⟨false, rfl, hB.same, H⟩
theorem body51 : Body Try.prog 51 := ⟨Try.f51, Try.func51, rfl, by kernel_rfl⟩
theorem body27 : Body Try.prog 27 := ⟨Try.f27, Try.func27, rfl, by kernel_rfl⟩
theorem walk_green_twoSided {A : List Nat} {w0 : World} {cp : Option Addr} {cq : Nat} {cN : Option Addr} {cO : Nat} {right : List (List Int)} {left : List (List Int)} (hA : ∀ b ∈ A, b < w0.heap.size) (aM : ISl (Rp.sl (Rp.int .u64)) A w0 cp cq right) (aT : ISl (Rp.sl (Rp.int .u64)) A w0 cN cO left) {K : List (List Int) → Prop} (H : green_twoSided right left K) :
    CallsV Try.prog 27 #[.slice cp right.length cq, .slice cN left.length cO] w0 (fun v w' => ∃ (r0 : List (List Int)), ∃ (a8 : Option Addr), ∃ (a9 : Nat), v = .slice a8 r0.length a9 ∧ Same w0 w' ∧ ISl (Rp.sl (Rp.int .u64)) A w' a8 a9 r0 ∧ K r0) := by
 refine CallsV.of (l := [.slice cp right.length cq, .slice cN left.length cO]) Try.func27 rfl Try.ntmps27 rfl ?_
 have hO := Owns.start hA
 have hB := Fr.refl (bl []) w0
 unfold green_twoSided at H
 refine zq (zr (za rfl (zn (zq (zr ?_)))))
 refine zm rfl (zo (op_len Try.underlying49 rfl) ?_)
 replace aM := aM.ch (Ch.start A w0)
 replace H := H aM.bd
 obtain ⟨h8, H⟩ := H
 obtain ⟨h9, H⟩ := H
 have hobt := t2make (m := (right.length : Int)) (e' := 77) (Fl.int .u64) Try.underlying49 ti56 hO h8 h9 (by decide)
 obtain ⟨w1, p2, bx, hs6, dF⟩ := hobt
 refine zg (dF rfl rfl) ?_
 replace hO := bx.own
 refine za rfl (zn (zq (zq ?_)))
 refine Go1.cut [(0, .slice cp right.length cq), (1, .slice cN left.length cO), (5, .slice p2 right.length right.length)] ⟨rfl, rfl, rfl, trivial⟩ ?_
 intro σ _
 refine zr (zm rfl (zo (op_lenN Try.underlying49 rfl (t2neq 0 hO rfl)) (zm rfl (zn (zb ?_)))))
 replace aM := aM.ch bx.ch
 replace hB := hB.trans bx.fr
 replace aT := (aT.ch (Ch.start A w0)).ch bx.ch
 refine Go1.loopW (S := Nat × List (List Int)) (fun s σ w => match s with | (k1_12, ideals1_13) => ∃ (n16 : Nat), ∃ (p14 : Option Addr), ∃ (c15 : Nat), ∃ (aS : Hd), agrees σ [(0, .slice cp right.length cq), (1, .slice cN left.length cO), (5, .slice p14 n16 c15), (12, .int .i64 ((List.replicate right.length ([] : List Int)).length : Int)), (13, .int .i64 (k1_12 : Int))] ∧ (fun Z0 => Owns w0.heap.size w Z0 A ∧ ISl (Rp.sl (Rp.int .u64)) (bl Z0 ++ A) w cp cq right ∧ ISl (Rp.sl (Rp.int .u64)) (bl Z0 ++ A) w cN cO left ∧ Fr (bl []) w0 (bl Z0) w) [t2 (Fl.int .u64) 56 77 p14 n16 c15 aS ideals1_13]) H ⟨right.length, p2, right.length, (fun _ => (none, 0)), ⟨rfl, rfl, rfl, rfl, rfl, trivial⟩, hO, aM, aT, hB⟩ ?_
 intro X1
 refine prE fun k1_12 => fun ideals1_13 => ?_
 intro H hX1 σ w11
 refine exE fun n16 => exE fun p14 => exE fun c15 => exE fun aS => andE fun hag => andE fun hO => andE fun aM => andE fun aT => fun hB => ?_
 dsimp only at H
 refine Go1.keep [(0, .slice cp right.length cq), (1, .slice cN left.length cO), (5, .slice p14 n16 c15), (12, .int .i64 ((List.replicate right.length ([] : List Int)).length : Int)), (13, .int .i64 (k1_12 : Int))] hag ?_
 refine zq (zr ?_)
 by_cases h18 : (k1_12 : Int) < ((List.replicate right.length ([] : List Int)).length : Int)
 ·replace H := ifp h18 H
  refine zo (fun w => opB (op_lss rfl rfl w) (decide_eq_true h18)) (zn (zq (zt rfl rfl (zk (zq ?_)))))
  refine zb (zq (zr (zm rfl (za rfl (zn ?_)))))
  refine zq (zr (zm rfl (zm rfl (zm rfl (zo (op_len Try.underlying49 rfl) ?_)))))
  refine GoR.call (op_call body49 rfl (walk_green_newIdeal hO.lt H)) rfl rfl ?_
  rintro v24 w21 ⟨r19, mo, bm, bn, lz, rfl, ie, hN23, bW, H⟩
  have bO := Stp.more hO ie hN23
  replace hO := bO.own
  obtain ⟨h27, H⟩ := H
  obtain ⟨h28, H⟩ := H
  refine zo (op_index Try.underlying49 ti56 rfl rfl h27 (ltn (t2neq 1 hO rfl) h28) (t2some 1 hO rfl h27 h28)) ?_
  have dP := Stp.front 1 hO rfl
  replace hO := dP.own
  have cg := Stp.front 1 hO rfl
  replace hO := cg.own
  have Z1 := ((Ch.assoc _ _ _ _).trans dP.ch).trans cg.ch
  replace bW := bW.ch Z1
  have hobt := t2put (hf := (Fl.int .u64)) hO bW h27 h28
  obtain ⟨w31, fd, gw⟩ := hobt
  refine zg (gw Try.underlying56 rfl ti56 (by exact rfl) (by exact rfl)) ?_
  replace hO := fd.own
  refine zn (zq (zr (zm rfl (zo (op_len Try.underlying49 rfl) (zm rfl ?_)))))
  refine zn (zb ?_)
  have Z2 := ((bO.ch.trans dP.ch).trans cg.ch).trans fd.ch
  replace aM := aM.ch Z2
  replace aT := aT.ch Z2
  replace hB := (((hB.trans bO.fr).trans dP.fr).trans cg.fr).trans fd.fr
  refine Go1.loopW (S := Nat × List (List Int)) (fun s σ w => match s with | (k2_35, ideals2_36) => agrees σ [(0, .slice cp right.length cq), (1, .slice cN left.length cO), (5, .slice p14 n16 c15), (6, .int .i64 (k1_12 : Int)), (12, .int .i64 ((List.replicate right.length ([] : List Int)).length : Int)), (13, .int .i64 (k1_12 : Int)), (23, .int .i64 (right.length : Int)), (24, .int .i64 (k2_35 : Int))] ∧ (fun Z0 => Owns w0.heap.size w Z0 A ∧ ISl (Rp.sl (Rp.int .u64)) (bl Z0 ++ A) w cp cq right ∧ ISl (Rp.sl (Rp.int .u64)) (bl Z0 ++ A) w cN cO left ∧ Fr (bl []) w0 (bl Z0) w) [t2 (Fl.int .u64) 56 77 p14 n16 c15 (hup aS (k1_12 : Int).toNat (bm, bn)) ideals2_36]) H ⟨⟨rfl, rfl, rfl, rfl, rfl, rfl, rfl, rfl, trivial⟩, hO, aM, aT, hB⟩ ?_
  intro X2
  refine prE fun k2_35 => fun ideals2_36 => ?_
  intro H hX2 σ w34
  refine andE fun hag => andE fun hO => andE fun aM => andE fun aT => fun hB => ?_
  dsimp only at H
  refine Go1.keep [(0, .slice cp right.length cq), (1, .slice cN left.length cO), (5, .slice p14 n16 c15), (6, .int .i64 (k1_12 : Int)), (12, .int .i64 ((List.replicate right.length ([] : List Int)).length : Int)), (13, .int .i64 (k1_12 : Int)), (23, .int .i64 (right.length : Int)), (24, .int .i64 (k2_35 : Int))] hag ?_
  refine zq (zr ?_)
  by_cases h37 : (k2_35 : Int) < (right.length : Int)
  ·replace H := ifp h37 H
   refine zo (fun w => opB (op_lss rfl rfl w) (decide_eq_true h37)) (zn (zq (zt rfl rfl (zk (zq ?_)))))
   refine zb (zq (zr (zm rfl (za rfl (zn ?_)))))
   refine zq (zr (zm rfl (zm rfl ?_)))
   obtain ⟨h38, H⟩ := H
   obtain ⟨h39, H⟩ := H
   refine zo (op_index Try.underlying49 ti56 rfl rfl h38 h39 (aT.some_ h38 h39)) ?_
   have hobt := ldSl aT h38 h39
   obtain ⟨p40, c41, ig, oL⟩ := hobt
   refine zs (oL Try.underlying56 rfl rfl) (zm rfl ?_)
   refine GoR.call (op_call body31 rfl (walk_green_ideal_has hO.lt ig H)) rfl rfl ?_
   rintro v48 w45 ⟨r44, rfl, j4, H⟩
   have cH := Stp.same hO j4
   replace hO := cH.own
   refine zn ?_
   cases r44
   ·replace H := ifn Bool.false_ne_true H
    refine zf rfl rfl (zk ?_)
    refine Go1.inBlock ?_
    refine zr ?_
    replace aM := aM.ch cH.ch
    refine zo (op_add rfl rfl (wrap_i64 (natbd h37 aM.bd))) (zm rfl (zn ?_))
    replace aT := aT.ch cH.ch
    replace hB := hB.trans cH.fr
    exact hX2 _ H _ _ ⟨⟨rfl, rfl, rfl, rfl, rfl, rfl, rfl, rfl, trivial⟩, hO, aM, aT, hB⟩
   replace H := ifp rfl H
   refine zt rfl rfl ?_
   refine Go1.drawS 1 [(0, .pure), (1, .pure), (2, .pure), (3, .stable), (4, .pure), (5, .pure), (6, .pure), (7, .stable), (8, .last)] mixed (by kernel_rfl) ?_
   intro w50 oM
   have bG := Stp.same hO oM
   replace hO := bG.own
   refine GoQ.pure rfl (op_move rfl) rfl rfl ?_
   refine GoQ.pure rfl (op_move rfl) rfl rfl ?_
   obtain ⟨h53, H⟩ := H
   obtain ⟨h54, H⟩ := H
   refine GoQ.pure rfl (op_index Try.underlying49 ti56 rfl rfl h53 (ltn (t2neq 0 hO rfl) h54) (t2some 0 hO rfl h53 h54)) rfl rfl ?_
   refine GoQ.stable rfl (t2head 0 hO rfl h53 h54 Try.underlying56 rfl rfl) rfl rfl ?_
   refine GoQ.pure rfl (op_move rfl) rfl rfl ?_
   refine GoQ.pure rfl (op_move rfl) rfl rfl ?_
   obtain ⟨h55, H⟩ := H
   obtain ⟨h56, H⟩ := H
   replace aM := (aM.ch cH.ch).ch bG.ch
   refine GoQ.pure rfl (op_index Try.underlying49 ti56 rfl rfl h55 h56 (aM.some_ h55 h56)) rfl rfl ?_
   have hobt := ldSl aM h55 h56
   obtain ⟨p57, c58, fN, oN⟩ := hobt
   refine GoQ.stable rfl (oN Try.underlying56 rfl rfl) rfl rfl ?_
   refine GoQ.inl (vs := [.slice ((hup aS (k1_12 : Int).toNat (bm, bn)) (k1_12 : Int).toNat).1 ((ix ideals2_36 (k1_12 : Int)).length) ((hup aS (k1_12 : Int).toNat (bm, bn)) (k1_12 : Int).toNat).2, .slice p57 ((ix right (k2_35 : Int)).length) c58]) (caps := []) rfl rfl rfl body51 Try.func51 rfl Try.ntmps51 rfl rfl rfl ?_
   intro RhR61 hR61
   refine zq ?_
   refine Go1.cut [(0, .slice ((hup aS (k1_12 : Int).toNat (bm, bn)) (k1_12 : Int).toNat).1 ((ix ideals2_36 (k1_12 : Int)).length) ((hup aS (k1_12 : Int).toNat (bm, bn)) (k1_12 : Int).toNat).2), (1, .slice p57 ((ix right (k2_35 : Int)).length) c58)] ⟨rfl, rfl, trivial⟩ ?_
   intro σ _
   refine zr (zm rfl (zo (op_len Try.underlying56 rfl) (zm rfl (zn (zb ?_)))))
   replace aT := (aT.ch cH.ch).ch bG.ch
   replace hB := (hB.trans cH.fr).trans bG.fr
   refine Go1.loopW (S := Nat × List (List Int)) (fun s σ w => match s with | (k3_63, d_64) => agrees σ [(0, .slice ((hup aS (k1_12 : Int).toNat (bm, bn)) (k1_12 : Int).toNat).1 ((ix ideals2_36 (k1_12 : Int)).length) ((hup aS (k1_12 : Int).toNat (bm, bn)) (k1_12 : Int).toNat).2), (1, .slice p57 ((ix right (k2_35 : Int)).length) c58), (6, .int .i64 ((ix ideals2_36 (k1_12 : Int)).length : Int)), (7, .int .i64 (k3_63 : Int))] ∧ (fun Z0 => Owns w0.heap.size w Z0 A ∧ ISl (Rp.sl (Rp.int .u64)) (bl Z0 ++ A) w cp cq right ∧ ISl (Rp.sl (Rp.int .u64)) (bl Z0 ++ A) w cN cO left ∧ ISl (Rp.int .u64) (bl Z0 ++ A) w p57 c58 (ix right (k2_35 : Int)) ∧ Fr (bl []) w0 (bl Z0) w) [t2 (Fl.int .u64) 56 77 p14 n16 c15 (hup aS (k1_12 : Int).toNat (bm, bn)) d_64]) H ⟨⟨rfl, rfl, rfl, rfl, trivial⟩, hO, aM, aT, fN, hB⟩ ?_
   intro X3
   refine prE fun k3_63 => fun d_64 => ?_
   intro H hX3 σ w62
   refine andE fun hag => andE fun hO => andE fun aM => andE fun aT => andE fun fN => fun hB => ?_
   dsimp only at H
   refine Go1.keep [(0, .slice ((hup aS (k1_12 : Int).toNat (bm, bn)) (k1_12 : Int).toNat).1 ((ix ideals2_36 (k1_12 : Int)).length) ((hup aS (k1_12 : Int).toNat (bm, bn)) (k1_12 : Int).toNat).2), (1, .slice p57 ((ix right (k2_35 : Int)).length) c58), (6, .int .i64 ((ix ideals2_36 (k1_12 : Int)).length : Int)), (7, .int .i64 (k3_63 : Int))] hag ?_
   refine zq (zr ?_)
   by_cases h65 : (k3_63 : Int) < ((ix ideals2_36 (k1_12 : Int)).length : Int)
   ·replace H := ifp h65 H
    refine zo (fun w => opB (op_lss rfl rfl w) (decide_eq_true h65)) (zn (zq (zt rfl rfl (zk (zq ?_)))))
    refine zb (zq (zr (zm rfl (za rfl (zn ?_)))))
    refine Go1.drawS 1 [(0, .pure), (1, .pure), (2, .pure), (3, .stable), (4, .pure), (5, .pure), (6, .pure), (7, .stable), (8, .pure), (9, .pure), (10, .last)] mixed (by kernel_rfl) ?_
    intro w66 jX
    have cw := Stp.same hO jX
    replace hO := cw.own
    refine GoQ.pure rfl (op_move rfl) rfl rfl ?_
    refine GoQ.pure rfl (op_move rfl) rfl rfl ?_
    obtain ⟨h69, H⟩ := H
    obtain ⟨h70, H⟩ := H
    obtain ⟨h71, H⟩ := H
    obtain ⟨h72, H⟩ := H
    refine GoQ.pure rfl (op_index Try.underlying56 ti77 rfl rfl h69 h70 (t2isome 0 hO rfl h53 h71 h69 h72)) rfl rfl ?_
    refine GoQ.stable rfl (t2Int 0 hO rfl h53 h71 h69 h72 Try.underlying77 rfl rfl) rfl rfl ?_
    refine GoQ.pure rfl (op_move rfl) rfl rfl ?_
    refine GoQ.pure rfl (op_move rfl) rfl rfl ?_
    obtain ⟨h73, H⟩ := H
    obtain ⟨h74, H⟩ := H
    replace fN := fN.ch cw.ch
    refine GoQ.pure rfl (op_index Try.underlying56 ti77 rfl rfl h73 h74 (fN.some_ h73 h74)) rfl rfl ?_
    refine GoQ.stable rfl (ldInt fN h73 h74 Try.underlying77 rfl rfl) rfl rfl ?_
    refine GoQ.pure rfl (op_or rfl rfl) rfl rfl ?_
    obtain ⟨h75, H⟩ := H
    obtain ⟨h76, H⟩ := H
    obtain ⟨h77, H⟩ := H
    obtain ⟨h78, H⟩ := H
    refine GoQ.pure rfl (op_index Try.underlying56 ti77 rfl rfl h75 h76 (t2isome 0 hO rfl h53 h77 h75 h78)) rfl rfl ?_
    have hobt := t2st (r := Rp.int .u64) (hf := (Fl.int .u64)) rfl 0 hO rfl h53 h77 h75 h78 (v := .int .u64 (bits .or .u64 (ix (ix d_64 (k1_12 : Int)) (k3_63 : Int)) (ix (ix right (k2_35 : Int)) (k3_63 : Int)))) (u := (bits .or .u64 (ix (ix d_64 (k1_12 : Int)) (k3_63 : Int)) (ix (ix right (k2_35 : Int)) (k3_63 : Int)))) rfl rfl
    obtain ⟨w79, cT, mq⟩ := hobt
    refine GoQ.last rfl (mq Try.underlying77 rfl ti77 (by exact rfl) (by exact rfl)) rfl rfl ?_
    replace hO := cT.own
    refine GoQ.nil ?_
    refine Go1.inBlock ?_
    refine zr ?_
    obtain ⟨h82, H⟩ := H
    refine zo (op_add rfl rfl (wrap_i64 h82)) (zm rfl (zn ?_))
    replace fN := fN.ch cT.ch
    have Z3 := cw.ch.trans cT.ch
    replace aM := aM.ch Z3
    replace aT := aT.ch Z3
    replace hB := (hB.trans cw.fr).trans cT.fr
    exact hX3 _ H _ _ ⟨⟨rfl, rfl, rfl, rfl, trivial⟩, hO, aM, aT, fN, hB⟩
   replace H := ifn h65 H
   refine zo (fun w => opB (op_lss rfl rfl w) (decide_eq_false h65)) (zn (zq (zf rfl rfl ?_)))
   refine Go1.exit rfl ?_
   refine Go1.fin0V Try.func51 rfl ?_
   refine hR61 _ _ ?_
   refine GoQ.nil ?_
   refine Go1.inBlock ?_
   refine zr (zo (op_add rfl rfl (wrap_i64 (natbd h37 aM.bd))) (zm rfl (zn ?_)))
   exact hX2 _ H _ _ ⟨⟨rfl, rfl, rfl, rfl, rfl, rfl, rfl, rfl, trivial⟩, hO, aM, aT, hB⟩
  replace H := ifn h37 H
  refine zo (fun w => opB (op_lss rfl rfl w) (decide_eq_false h37)) (zn (zq (zf rfl rfl ?_)))
  refine Go1.exit rfl ?_
  refine Go1.inBlock ?_
  refine zr ?_
  obtain ⟨h83, H⟩ := H
  refine zo (op_add rfl rfl (wrap_i64 h83)) (zm rfl (zn ?_))
  exact hX1 _ H _ _ ⟨n16, p14, c15, hup aS (k1_12 : Int).toNat (bm, bn), ⟨rfl, rfl, rfl, rfl, rfl, trivial⟩, hO, aM, aT, hB⟩
 replace H := ifn h18 H
 refine zo (fun w => opB (op_lss rfl rfl w) (decide_eq_false h18)) (zn (zq (zf rfl rfl ?_)))
 refine Go1.exit rfl ?_
 refine zq ?_
 refine Go1.cut [(5, .slice p14 n16 c15)] ⟨rfl, trivial⟩ ?_
 intro σ _
 refine zr (zm rfl (za rfl (zn ?_)))
 have hobt := t2freezeA 0 hO rfl
 obtain ⟨hO1, lA, oO, oP⟩ := hobt
 replace hO := hO1; clear hO1
 refine Go1.ret1 Try.func27 rfl ?_
 replace hB := hB.trans (Owns.dropFr _ _ 0)
 exact ⟨ideals1_13, p14, c15, (congrArg (fun nn => Value.slice p14 nn c15) oP), hB.same, (oO.ch (Ch.weak _ _ _)), H⟩
theorem body68 : Body Try.prog 68 := ⟨Try.f68, Try.func68, rfl, by kernel_rfl⟩
theorem walk_partition_canonical_int {A : List Nat} {w0 : World} {p_l : Option Addr} {c_l : Nat} {l : List Int} (hA : ∀ b ∈ A, b < w0.heap.size) (h_l : ISl (Rp.int .i64) A w0 p_l c_l l) {K : List Int → Prop} (H : partition_canonical_int l K) :
    CallsV Try.prog 68 #[.slice p_l l.length c_l] w0 (fun v w' => ∃ (r0 : List Int), ∃ (a8 : Option Addr), ∃ (a9 : Nat), v = .slice a8 r0.length a9 ∧ Same w0 w' ∧ ISl (Rp.int .i64) A w' a8 a9 r0 ∧ K r0) := by
 refine CallsV.of (l := [.slice p_l l.length c_l]) Try.func68 rfl Try.ntmps68 rfl ?_
 have hO := Owns.start hA
 have hB := Fr.refl (bl []) w0
 unfold partition_canonical_int at H
 refine zq (zr (za rfl (zn (zq (zr ?_)))))
 refine zm rfl (zo (op_len Try.underlying26 rfl) ?_)
 replace h_l := h_l.ch (Ch.start A w0)
 replace H := H h_l.bd
 obtain ⟨h8, H⟩ := H
 obtain ⟨h9, H⟩ := H
 have hobt := omake (n := (l.length : Int)) (r := Rp.int .i64) (d := (0 : Int)) Try.underlying26 ti3 (fun _ _ => rfl) rfl hO h8 h9 (by decide)
 obtain ⟨w1, p2, vs3, bx, hE5, hs6, dF⟩ := hobt
 refine zg (dF rfl rfl) ?_
 replace hO := bx.own
 refine za rfl (zn (zq (zr ?_)))
 have hobt := omakeMap (fun a : Int => Value.int .i64 a) (fun a : Int => Value.int .i64 a) hO
 obtain ⟨w11, B12, bS, oQ, gx⟩ := hobt
 refine GoR.op gx rfl rfl ?_
 replace hO := bS.own
 refine za rfl (zn (zq (zq (zr (zm rfl ?_)))))
 refine zo (op_len Try.underlying26 rfl) (zm rfl (zn (zb ?_)))
 replace hE5 := hE5.ch bS.ch
 replace h_l := (h_l.ch bx.ch).ch bS.ch
 replace hB := (hB.trans bx.fr).trans bS.fr
 refine Go1.loopW (S := Nat × (List (Int × Int)) × List Int) (fun s σ w => match s with | (k1_18, m1_19, p1_20) => ∃ (dH : List Value), agrees σ [(3, .slice p2 l.length l.length), (4, .map (some B12)), (13, .slice p_l l.length c_l), (14, .int .i64 (l.length : Int)), (15, .int .i64 (k1_18 : Int))] ∧ (fun Z0 => Owns w0.heap.size w Z0 A ∧ Els (Rp.int .i64) (bl Z0 ++ A) w dH p1_20 ∧ ISl (Rp.int .i64) (bl Z0 ++ A) w p_l c_l l ∧ Fr (bl []) w0 (bl Z0) w) [.any (mapE (fun a : Int => Value.int .i64 a) (fun a : Int => Value.int .i64 a) B12 m1_19), .row 3 1 p2 l.length l.length dH]) H ⟨vs3, ⟨rfl, rfl, rfl, rfl, rfl, trivial⟩, hO, hE5, h_l, hB⟩ ?_
 intro X1
 refine prE fun k1_18 => prE fun m1_19 => fun p1_20 => ?_
 intro H hX1 σ w17
 refine exE fun dH => andE fun hag => andE fun hO => andE fun bk => andE fun h_l => fun hB => ?_
 dsimp only at H
 refine Go1.keep [(3, .slice p2 l.length l.length), (4, .map (some B12)), (13, .slice p_l l.length c_l), (14, .int .i64 (l.length : Int)), (15, .int .i64 (k1_18 : Int))] hag ?_
 refine zq (zr ?_)
 by_cases h23 : (k1_18 : Int) < (l.length : Int)
 ·replace H := ifp h23 H
  refine zo (fun w => opB (op_lss rfl rfl w) (decide_eq_true h23)) (zn (zq (zt rfl rfl (zk (zq ?_)))))
  refine zb (zq (zr (zm rfl ?_)))
  obtain ⟨h24, H⟩ := H
  obtain ⟨h25, H⟩ := H
  refine zo (op_index Try.underlying26 ti3 rfl rfl h24 h25 (h_l.some_ h24 h25)) (zs (ldInt h_l h24 h25 Try.underlying3 rfl rfl) (za rfl (za rfl (zn (zq ?_)))))
  refine zr (zm rfl (zm rfl ?_))
  by_cases h26 : mhas m1_19 ((ix l (k1_18 : Int))) = true
  ·replace H := ifp h26 H
   refine zs (olookT (a := (ix l (k1_18 : Int))) (MK.int Try.underlying3) 0 hO rfl Try.underlying95 rfl rfl h26) (zm rfl (zo (op_extract rfl rfl) (zo (op_extract rfl rfl) (za rfl (za rfl ?_)))))
   refine zn (zq (zq (zr (zm rfl (zo (op_not rfl) ?_)))))
   refine zn (zf rfl rfl (zk (zr (zm rfl (zm rfl ?_)))))
   refine zm rfl ?_
   obtain ⟨h27, H⟩ := H
   obtain ⟨h28, H⟩ := H
   refine zo (op_index Try.underlying26 ti3 rfl rfl h27 (ltn (bk.neq hO 1 rfl) h28) (bk.psome hO 1 rfl h27 h28)) ?_
   have hobt := ost (r := Rp.int .i64) rfl 1 hO rfl bk h27 h28 (v := .int .i64 (mgt m1_19 ((ix l (k1_18 : Int))))) (u := (mgt m1_19 ((ix l (k1_18 : Int))))) rfl rfl
   obtain ⟨w29, oR, cG, oS, gw⟩ := hobt
   refine zg (gw Try.underlying3 rfl ti3 (by exact rfl) (by exact rfl)) ?_
   replace hO := cG.own
   refine zn ?_
   refine Go1.inBlock ?_
   refine Go1.cut [(3, .slice p2 l.length l.length), (4, .map (some B12)), (13, .slice p_l l.length c_l), (14, .int .i64 (l.length : Int)), (15, .int .i64 (k1_18 : Int))] ⟨rfl, rfl, rfl, rfl, rfl, trivial⟩ ?_
   intro σ _
   refine zr ?_
   replace h_l := h_l.ch cG.ch
   refine zo (op_add rfl rfl (wrap_i64 (natbd h23 h_l.bd))) (zm rfl (zn ?_))
   replace hB := hB.trans cG.fr
   exact hX1 _ H _ _ ⟨oR, ⟨rfl, rfl, rfl, rfl, rfl, trivial⟩, hO, oS, h_l, hB⟩
  replace H := ifn h26 H
  refine zs (olookF (a := (ix l (k1_18 : Int))) (MK.int Try.underlying3) 0 hO rfl Try.underlying95 ti3 rfl rfl h26) (zm rfl (zo (op_extract rfl rfl) (zo (op_extract rfl rfl) (za rfl (za rfl ?_)))))
  refine zn (zq (zq (zr (zm rfl (zo (op_not rfl) ?_)))))
  refine zn (zt rfl rfl (zq (zr (zm rfl (zs (omapLen 0 hO rfl Try.underlying95 rfl) ?_)))))
  refine za rfl (zn (zr (zm rfl (zm rfl (zm rfl ?_)))))
  have hobt := omapUpd (MK.int Try.underlying3) 0 hO rfl Try.underlying95 (ix l (k1_18 : Int)) (m1_19.length : Int)
  obtain ⟨w34, dN, gv⟩ := hobt
  refine zg (gv (by exact rfl) (by exact rfl) (by exact rfl)) ?_
  replace hO := dN.own
  refine zn (zr (zm rfl (zm rfl (zm rfl ?_))))
  obtain ⟨h37, H⟩ := H
  obtain ⟨h38, H⟩ := H
  replace bk := bk.ch dN.ch
  refine zo (op_index Try.underlying26 ti3 rfl rfl h37 (ltn (bk.neq hO 1 rfl) h38) (bk.psome hO 1 rfl h37 h38)) ?_
  have hobt := ost (r := Rp.int .i64) rfl 1 hO rfl bk h37 h38 (v := .int .i64 (m1_19.length : Int)) (u := (m1_19.length : Int)) rfl rfl
  obtain ⟨w39, oT, iO, oU, mr⟩ := hobt
  refine zg (mr Try.underlying3 rfl ti3 (by exact rfl) (by exact rfl)) ?_
  replace hO := iO.own
  refine zn ?_
  refine Go1.inBlock ?_
  refine Go1.cut [(3, .slice p2 l.length l.length), (4, .map (some B12)), (13, .slice p_l l.length c_l), (14, .int .i64 (l.length : Int)), (15, .int .i64 (k1_18 : Int))] ⟨rfl, rfl, rfl, rfl, rfl, trivial⟩ ?_
  intro σ _
  refine zr ?_
  replace h_l := (h_l.ch dN.ch).ch iO.ch
  refine zo (op_add rfl rfl (wrap_i64 (natbd h23 h_l.bd))) (zm rfl (zn ?_))
  replace hB := (hB.trans dN.fr).trans iO.fr
  exact hX1 _ H _ _ ⟨oT, ⟨rfl, rfl, rfl, rfl, rfl, trivial⟩, hO, oU, h_l, hB⟩
 replace H := ifn h23 H
 refine zo (fun w => opB (op_lss rfl rfl w) (decide_eq_false h23)) (zn (zq (zf rfl rfl ?_)))
 refine Go1.exit rfl ?_
 refine zq (zr (zm rfl (za rfl (zn ?_))))
 have hobt := freeze 1 hO rfl bk
 obtain ⟨hO1, oV, dl, oW⟩ := hobt
 replace hO := hO1; clear hO1
 refine Go1.ret1 Try.func68 rfl ?_
 replace hB := hB.trans (Owns.dropFr _ _ 1)
 exact ⟨p1_20, p2, l.length, (congrArg (fun nn => Value.slice p2 nn l.length) oW), hB.same, (dl.ch (Ch.weak _ _ _)), H⟩
theorem body52 : Body Try.prog 52 := ⟨Try.f52, Try.func52, rfl, by kernel_rfl⟩
theorem walk_partition_Canonical {A : List Nat} {w0 : World} {p_l : Option Addr} {c_l : Nat} {l : List Int} (hA : ∀ b ∈ A, b < w0.heap.size) (h_l : ISl (Rp.int .i64) A w0 p_l c_l l) {K : List Int → Prop} (H : partition_Canonical l K) :
    CallsV Try.prog 52 #[.slice p_l l.length c_l] w0 (fun v w' => ∃ (r0 : List Int), ∃ (a8 : Option Addr), ∃ (a9 : Nat), v = .slice a8 r0.length a9 ∧ Same w0 w' ∧ ISl (Rp.int .i64) A w' a8 a9 r0 ∧ K r0) := by
 refine CallsV.of (l := [.slice p_l l.length c_l]) Try.func52 rfl Try.ntmps52 rfl ?_
 have hO := Owns.start hA
 have hB := Fr.refl (bl []) w0
 unfold partition_Canonical at H
 refine zq (zr (za rfl (zn (zq (zq ?_)))))
 refine zr (zm rfl (zo (op_len Try.underlying26 rfl) ?_))
 replace h_l := h_l.ch (Ch.start A w0)
 replace H := H h_l.bd
 by_cases h1 : (4096 : Int) < (l.length : Int)
 ·replace H := ifp h1 H
  refine zo (fun w => opB (op_gtr rfl rfl w) (decide_eq_true h1)) (zn (zt rfl rfl (zq (zr (za rfl ?_)))))
  refine zn ?_
  refine Go1.ret1 Try.func52 rfl ?_
  exact ⟨([] : List Int), none, 0, rfl, hB.same, (ISl.null _ _ _), H⟩
 replace H := ifn h1 H
 refine zo (fun w => opB (op_gtr rfl rfl w) (decide_eq_false h1)) (zn (zf rfl rfl (zk (zq (zr ?_)))))
 refine zm rfl ?_
 refine GoR.call (op_call body68 rfl (walk_partition_canonical_int hO.lt h_l H)) rfl rfl ?_
 rintro v6 w3 ⟨r2, oX, oY, rfl, hs4, o3, H⟩
 have cJ := Stp.same hO hs4
 replace hO := cJ.own
 refine za rfl (zn ?_)
 refine Go1.ret1 Try.func52 rfl ?_
 replace hB := hB.trans cJ.fr
 exact ⟨r2, oX, oY, rfl, hB.same, (o3.ch (Ch.weak _ _ _)), H⟩
theorem body28 : Body Try.prog 28 := ⟨Try.f28, Try.func28, rfl, by kernel_rfl⟩
theorem walk_green_mutual {A : List Nat} {w0 : World} {ca : Option Addr} {cb : Nat} {ideals : List (List Int)} (hA : ∀ b ∈ A, b < w0.heap.size) (aN : ISl (Rp.sl (Rp.int .u64)) A w0 ca cb ideals) {K : List Int → Prop} (H : green_mutual ideals K) :
    CallsV Try.prog 28 #[.slice ca ideals.length cb] w0 (fun v w' => ∃ (r0 : List Int), ∃ (a8 : Option Addr), ∃ (a9 : Nat), v = .slice a8 r0.length a9 ∧ Same w0 w' ∧ ISl (Rp.int .i64) A w' a8 a9 r0 ∧ K r0) := by
 refine CallsV.of (l := [.slice ca ideals.length cb]) Try.func28 rfl Try.ntmps28 rfl ?_
 have hO := Owns.start hA
 have hB := Fr.refl (bl []) w0
 unfold green_mutual at H
 refine zq (zr (za rfl (zn (zq (zr ?_)))))
 refine zm rfl (zo (op_len Try.underlying49 rfl) ?_)
 replace aN := aN.ch (Ch.start A w0)
 replace H := H aN.bd
 obtain ⟨h8, H⟩ := H
 obtain ⟨h9, H⟩ := H
 have hobt := omake (n := (ideals.length : Int)) (r := Rp.int .i64) (d := (0 : Int)) Try.underlying26 ti3 (fun _ _ => rfl) rfl hO h8 h9 (by decide)
 obtain ⟨w1, p2, vs3, bx, hE5, hs6, dF⟩ := hobt
 refine zg (dF rfl rfl) ?_
 replace hO := bx.own
 refine za rfl (zn (zq (zq (zr (zm rfl ?_)))))
 refine zo (op_len Try.underlying49 rfl) (zm rfl (zn (zb ?_)))
 replace aN := aN.ch bx.ch
 replace hB := hB.trans bx.fr
 refine Go1.loopW (S := Nat × List Int) (fun s σ w => match s with | (k1_12, class1_13) => ∃ (dk : List Value), agrees σ [(0, .slice ca ideals.length cb), (3, .slice p2 ideals.length ideals.length), (10, .int .i64 (ideals.length : Int)), (11, .int .i64 (k1_12 : Int))] ∧ (fun Z0 => Owns w0.heap.size w Z0 A ∧ Els (Rp.int .i64) (bl Z0 ++ A) w dk class1_13 ∧ ISl (Rp.sl (Rp.int .u64)) (bl Z0 ++ A) w ca cb ideals ∧ Fr (bl []) w0 (bl Z0) w) [.row 3 1 p2 ideals.length ideals.length dk]) H ⟨vs3, ⟨rfl, rfl, rfl, rfl, trivial⟩, hO, hE5, aN, hB⟩ ?_
 intro X1
 refine prE fun k1_12 => fun class1_13 => ?_
 intro H hX1 σ w11
 refine exE fun dk => andE fun hag => andE fun hO => andE fun dG => andE fun aN => fun hB => ?_
 dsimp only at H
 refine Go1.keep [(0, .slice ca ideals.length cb), (3, .slice p2 ideals.length ideals.length), (10, .int .i64 (ideals.length : Int)), (11, .int .i64 (k1_12 : Int))] hag ?_
 refine zq (zr ?_)
 by_cases h16 : (k1_12 : Int) < (ideals.length : Int)
 ·replace H := ifp h16 H
  refine zo (fun w => opB (op_lss rfl rfl w) (decide_eq_true h16)) (zn (zq (zt rfl rfl (zk (zq ?_)))))
  refine zb (zq (zr (zm rfl (za rfl (zn ?_)))))
  refine zq (zr (zm rfl (zm rfl (zm rfl ?_))))
  obtain ⟨h17, H⟩ := H
  obtain ⟨h18, H⟩ := H
  refine zo (op_index Try.underlying26 ti3 rfl rfl h17 (ltn (dG.neq hO 0 rfl) h18) (dG.psome hO 0 rfl h17 h18)) ?_
  have hobt := ost (r := Rp.int .i64) rfl 0 hO rfl dG h17 h18 (v := .int .i64 (k1_12 : Int)) (u := (k1_12 : Int)) rfl rfl
  obtain ⟨w19, dz, iP, bk, iQ⟩ := hobt
  refine zg (iQ Try.underlying3 rfl ti3 (by exact rfl) (by exact rfl)) ?_
  replace hO := iP.own
  refine zn (zq (zr (zm rfl (zm rfl (zn ?_)))))
  refine zb ?_
  replace aN := aN.ch iP.ch
  replace hB := hB.trans iP.fr
  refine Go1.loopW (S := Nat) (fun s σ w => agrees σ [(0, .slice ca ideals.length cb), (3, .slice p2 ideals.length ideals.length), (4, .int .i64 (k1_12 : Int)), (10, .int .i64 (ideals.length : Int)), (11, .int .i64 (k1_12 : Int)), (18, .int .i64 (k1_12 : Int)), (19, .int .i64 (s : Int))] ∧ (fun Z0 => Owns w0.heap.size w Z0 A ∧ Els (Rp.int .i64) (bl Z0 ++ A) w dz (st class1_13 (k1_12 : Int) (k1_12 : Int)) ∧ ISl (Rp.sl (Rp.int .u64)) (bl Z0 ++ A) w ca cb ideals ∧ Fr (bl []) w0 (bl Z0) w) [.row 3 1 p2 ideals.length ideals.length dz]) H ⟨⟨rfl, rfl, rfl, rfl, rfl, rfl, rfl, trivial⟩, hO, bk, aN, hB⟩ ?_
  intro X2 k2_25
  intro H hX2 σ w24
  refine andE fun hag => andE fun hO => andE fun bk => andE fun aN => fun hB => ?_
  refine Go1.keep [(0, .slice ca ideals.length cb), (3, .slice p2 ideals.length ideals.length), (4, .int .i64 (k1_12 : Int)), (10, .int .i64 (ideals.length : Int)), (11, .int .i64 (k1_12 : Int)), (18, .int .i64 (k1_12 : Int)), (19, .int .i64 (k2_25 : Int))] hag ?_
  refine zq (zr ?_)
  by_cases h26 : (k2_25 : Int) < (k1_12 : Int)
  ·replace H := ifp h26 H
   refine zo (fun w => opB (op_lss rfl rfl w) (decide_eq_true h26)) (zn (zq (zt rfl rfl (zk (zq ?_)))))
   refine zb (zq (zr (zm rfl (za rfl (zn ?_)))))
   refine zq (zr (zm rfl (zm rfl ?_)))
   obtain ⟨h27, H⟩ := H
   obtain ⟨h28, H⟩ := H
   refine zo (op_index Try.underlying49 ti56 rfl rfl h27 h28 (aN.some_ h27 h28)) ?_
   have hobt := ldSl aN h27 h28
   obtain ⟨p29, c30, gr, o4⟩ := hobt
   refine zs (o4 Try.underlying56 rfl rfl) (zm rfl ?_)
   refine GoR.call (op_call body31 rfl (walk_green_ideal_has hO.lt gr H)) rfl rfl ?_
   rintro v37 w34 ⟨r33, rfl, k8, H⟩
   have dO := Stp.same hO k8
   replace hO := dO.own
   refine zm rfl ?_
   cases r33
   ·replace H := ifn Bool.false_ne_true H
    refine zp (zp (zp (zp (zp (zp ?_)))))
    refine zo (op_pickF rfl rfl rfl) (zn (zf rfl rfl (zk ?_)))
    refine Go1.inBlock ?_
    refine zr ?_
    obtain ⟨h39, H⟩ := H
    refine zo (op_add rfl rfl (wrap_i64 h39)) (zm rfl (zn ?_))
    replace bk := bk.ch dO.ch
    replace aN := aN.ch dO.ch
    replace hB := hB.trans dO.fr
    exact hX2 _ H _ _ ⟨⟨rfl, rfl, rfl, rfl, rfl, rfl, rfl, trivial⟩, hO, bk, aN, hB⟩
   replace H := ifp rfl H
   refine zm rfl (zm rfl ?_)
   obtain ⟨h40, H⟩ := H
   obtain ⟨h41, H⟩ := H
   replace aN := aN.ch dO.ch
   refine zo (op_index Try.underlying49 ti56 rfl rfl h40 h41 (aN.some_ h40 h41)) ?_
   have hobt := ldSl aN h40 h41
   obtain ⟨p42, c43, dl, jT⟩ := hobt
   refine zs (jT Try.underlying56 rfl rfl) (zm rfl ?_)
   refine GoR.call (op_call body31 rfl (walk_green_ideal_has hO.lt dl H)) rfl rfl ?_
   rintro v50 w47 ⟨r46, rfl, o5, H⟩
   have cx := Stp.same hO o5
   replace hO := cx.own
   refine zo (op_pickT rfl rfl rfl) (zn ?_)
   cases r46
   ·replace H := ifn Bool.false_ne_true H
    refine zf rfl rfl (zk ?_)
    refine Go1.inBlock ?_
    refine Go1.cut [(0, .slice ca ideals.length cb), (3, .slice p2 ideals.length ideals.length), (4, .int .i64 (k1_12 : Int)), (10, .int .i64 (ideals.length : Int)), (11, .int .i64 (k1_12 : Int)), (18, .int .i64 (k1_12 : Int)), (19, .int .i64 (k2_25 : Int))] ⟨rfl, rfl, rfl, rfl, rfl, rfl, rfl, trivial⟩ ?_
    intro σ _
    refine zr ?_
    obtain ⟨h52, H⟩ := H
    refine zo (op_add rfl rfl (wrap_i64 h52)) (zm rfl (zn ?_))
    replace aN := aN.ch cx.ch
    replace bk := (bk.ch dO.ch).ch cx.ch
    replace hB := (hB.trans dO.fr).trans cx.fr
    exact hX2 _ H _ _ ⟨⟨rfl, rfl, rfl, rfl, rfl, rfl, rfl, trivial⟩, hO, bk, aN, hB⟩
   replace H := ifp rfl H
   refine zt rfl rfl (zq (zr (zm rfl (zm rfl (zm rfl ?_)))))
   obtain ⟨h53, H⟩ := H
   obtain ⟨h54, H⟩ := H
   replace bk := (bk.ch dO.ch).ch cx.ch
   refine zo (op_index Try.underlying26 ti3 rfl rfl h53 (ltn (bk.neq hO 0 rfl) h54) (bk.psome hO 0 rfl h53 h54)) ?_
   have hobt := ost (r := Rp.int .i64) rfl 0 hO rfl bk h53 h54 (v := .int .i64 (k2_25 : Int)) (u := (k2_25 : Int)) rfl rfl
   obtain ⟨w55, o6, cy, o7, iw⟩ := hobt
   refine zg (iw Try.underlying3 rfl ti3 (by exact rfl) (by exact rfl)) ?_
   replace hO := cy.own
   refine zn ?_
   refine Go1.exit rfl ?_
   refine Go1.inBlock ?_
   refine zr ?_
   replace aN := (aN.ch cx.ch).ch cy.ch
   refine zo (op_add rfl rfl (wrap_i64 (natbd h16 aN.bd))) (zm rfl (zn ?_))
   replace hB := ((hB.trans dO.fr).trans cx.fr).trans cy.fr
   exact hX1 _ H _ _ ⟨o6, ⟨rfl, rfl, rfl, rfl, trivial⟩, hO, o7, aN, hB⟩
  replace H := ifn h26 H
  refine zo (fun w => opB (op_lss rfl rfl w) (decide_eq_false h26)) (zn (zq (zf rfl rfl ?_)))
  refine Go1.exit rfl ?_
  refine Go1.inBlock ?_
  refine zr (zo (op_add rfl rfl (wrap_i64 (natbd h16 aN.bd))) (zm rfl (zn ?_)))
  exact hX1 _ H _ _ ⟨dz, ⟨rfl, rfl, rfl, rfl, trivial⟩, hO, bk, aN, hB⟩
 replace H := ifn h16 H
 refine zo (fun w => opB (op_lss rfl rfl w) (decide_eq_false h16)) (zn (zq (zf rfl rfl ?_)))
 refine Go1.exit rfl ?_
 refine zq (zr (zm rfl ?_))
 have hobt := freeze 0 hO rfl dG
 obtain ⟨hO1, o8, j5, o9⟩ := hobt
 replace hO := hO1; clear hO1
 refine GoR.call (op_call body52 (show ([.slice p2 ideals.length ideals.length] : List Value) = [.slice p2 class1_13.length ideals.length] from by rw [← o9]) (walk_partition_Canonical hO.lt j5 H)) rfl rfl ?_
 rintro v67 w64 ⟨r63, ms, mt, rfl, pc, mv, H⟩
 have cw := Stp.same hO pc
 replace hO := cw.own
 refine za rfl (zn ?_)
 refine Go1.ret1 Try.func28 rfl ?_
 replace hB := (hB.trans (Owns.dropFr _ _ 0)).trans cw.fr
 exact ⟨r63, ms, mt, rfl, hB.same, (mv.ch (Ch.weak _ _ _)), H⟩
theorem body55 : Body Try.prog 55 := ⟨Try.f55, Try.func55, rfl, by kernel_rfl⟩
theorem walk_partition_Valid {A : List Nat} {w0 : World} {p_p : Option Addr} {c_p : Nat} {p : List Int} (hA : ∀ b ∈ A, b < w0.heap.size) (h_p : ISl (Rp.int .i64) A w0 p_p c_p p) {K : Bool → Prop} (H : partition_Valid p K) :
    CallsV Try.prog 55 #[.slice p_p p.length c_p] w0 (fun v w' => ∃ (r0 : Bool), v = .bool r0 ∧ Same w0 w' ∧ K r0) := by
 refine CallsV.of (l := [.slice p_p p.length c_p]) Try.func55 rfl Try.ntmps55 rfl ?_
 have hO := Owns.start hA
 have hB := Fr.refl (bl []) w0
 unfold partition_Valid at H
 refine zq (zr (za rfl (zn (zq (zq ?_)))))
 refine zr (zm rfl (zo (op_len Try.underlying26 rfl) ?_))
 replace h_p := h_p.ch (Ch.start A w0)
 replace H := H h_p.bd
 by_cases h1 : (4096 : Int) < (p.length : Int)
 ·replace H := ifp h1 H
  refine zo (fun w => opB (op_gtr rfl rfl w) (decide_eq_true h1)) (zn (zt rfl rfl (zq (zr (za rfl ?_)))))
  refine zn ?_
  refine Go1.ret1 Try.func55 rfl ?_
  exact ⟨false, rfl, hB.same, H⟩
 replace H := ifn h1 H
 refine zo (fun w => opB (op_gtr rfl rfl w) (decide_eq_false h1)) (zn (zf rfl rfl (zk (zq (zr ?_)))))
 refine za rfl (zn (zq (zq (zr (zm rfl ?_)))))
 refine zo (op_len Try.underlying26 rfl) (zm rfl (zn (zb ?_)))
 refine Go1.loopW (S := Nat × Nat) (fun s σ w => match s with | (count1_3, k1_4) => agrees σ [(3, .int .i64 (count1_3 : Int)), (9, .slice p_p p.length c_p), (10, .int .i64 (p.length : Int)), (11, .int .i64 (k1_4 : Int))] ∧ Owns w0.heap.size w [] A ∧ ISl (Rp.int .i64) (bl [] ++ A) w p_p c_p p ∧ Fr (bl []) w0 (bl []) w) H ⟨⟨rfl, rfl, rfl, rfl, trivial⟩, hO, h_p, hB⟩ ?_
 intro X1
 refine prE fun count1_3 => fun k1_4 => ?_
 intro H hX1 σ w2
 refine andE fun hag => andE fun hO => andE fun h_p => fun hB => ?_
 dsimp only at H
 refine Go1.keep [(3, .int .i64 (count1_3 : Int)), (9, .slice p_p p.length c_p), (10, .int .i64 (p.length : Int)), (11, .int .i64 (k1_4 : Int))] hag ?_
 refine zq (zr ?_)
 by_cases h5 : (k1_4 : Int) < (p.length : Int)
 ·replace H := ifp h5 H
  refine zo (fun w => opB (op_lss rfl rfl w) (decide_eq_true h5)) (zn (zq (zt rfl rfl (zk (zq ?_)))))
  refine zb (zq (zr ?_))
  obtain ⟨h6, H⟩ := H
  obtain ⟨h7, H⟩ := H
  refine zo (op_index Try.underlying26 ti3 rfl rfl h6 h7 (h_p.some_ h6 h7)) (zs (ldInt h_p h6 h7 Try.underlying3 rfl rfl) (za rfl (zn (zq (zq ?_)))))
  refine zr (zm rfl ?_)
  by_cases h8 : (ix p (k1_4 : Int)) < (0 : Int)
  ·replace H := ifp h8 H
   refine zo (fun w => opB (op_lss rfl rfl w) (decide_eq_true h8)) (zm rfl (zp (zp (zp (zo (op_pickT rfl rfl rfl) ?_)))))
   refine zn (zt rfl rfl (zq (zr (za rfl (zn ?_)))))
   refine Go1.ret1 Try.func55 rfl ?_
   exact ⟨false, rfl, hB.same, H⟩
  replace H := ifn h8 H
  refine zo (fun w => opB (op_lss rfl rfl w) (decide_eq_false h8)) (zm rfl (zm rfl (zm rfl ?_)))
  by_cases h9 : (count1_3 : Int) < (ix p (k1_4 : Int))
  ·replace H := ifp h9 H
   refine zo (fun w => opB (op_gtr rfl rfl w) (decide_eq_true h9)) (zo (op_pickF rfl rfl rfl) (zn (zt rfl rfl (zq (zr ?_)))))
   refine za rfl (zn ?_)
   refine Go1.ret1 Try.func55 rfl ?_
   exact ⟨false, rfl, hB.same, H⟩
  replace H := ifn h9 H
  refine zo (fun w => opB (op_gtr rfl rfl w) (decide_eq_false h9)) (zo (op_pickF rfl rfl rfl) (zn (zf rfl rfl (zk (zq ?_)))))
  refine Go1.cut [(3, .int .i64 (count1_3 : Int)), (5, .int .i64 (ix p (k1_4 : Int))), (9, .slice p_p p.length c_p), (10, .int .i64 (p.length : Int)), (11, .int .i64 (k1_4 : Int))] ⟨rfl, rfl, rfl, rfl, rfl, trivial⟩ ?_
  intro σ _
  refine zr (zm rfl (zm rfl ?_))
  by_cases h10 : (ix p (k1_4 : Int)) = (count1_3 : Int)
  ·replace H := ifp h10 H
   refine zo (fun w => opB (op_eql rfl rfl w) (decide_eq_true h10)) (zn (zt rfl rfl (zr (zm rfl ?_))))
   obtain ⟨h11, H⟩ := H
   refine zo (op_add rfl rfl (wrap_i64 h11)) (za rfl (zn ?_))
   refine Go1.inBlock ?_
   refine zr (zo (op_add rfl rfl (wrap_i64 (natbd h5 h_p.bd))) (zm rfl (zn ?_)))
   exact hX1 _ H _ _ ⟨⟨rfl, rfl, rfl, rfl, trivial⟩, hO, h_p, hB⟩
  replace H := ifn h10 H
  refine zo (fun w => opB (op_eql rfl rfl w) (decide_eq_false h10)) (zn (zf rfl rfl (zk ?_)))
  refine Go1.inBlock ?_
  refine zr (zo (op_add rfl rfl (wrap_i64 (natbd h5 h_p.bd))) (zm rfl (zn ?_)))
  exact hX1 _ H _ _ ⟨⟨rfl, rfl, rfl, rfl, trivial⟩, hO, h_p, hB⟩
 replace H := ifn h5 H
 refine zo (fun w => opB (op_lss rfl rfl w) (decide_eq_false h5)) (zn (zq (zf rfl rfl ?_)))
 refine Go1.exit rfl ?_
 refine zq (zr (za rfl (zn ?_)))
 refine Go1.ret1 Try.func55 rfl ?_
 exact ⟨true, rfl, hB.same, H⟩
theorem body53 : Body Try.prog 53 := ⟨Try.f53, Try.func53, rfl, by kernel_rfl⟩
theorem walk_partition_matching {A : List Nat} {w0 : World} {p_p : Option Addr} {c_p : Nat} {p_q : Option Addr} {c_q : Nat} {p : List Int} {q : List Int} (hA : ∀ b ∈ A, b < w0.heap.size) (h_p : ISl (Rp.int .i64) A w0 p_p c_p p) (h_q : ISl (Rp.int .i64) A w0 p_q c_q q) {K : Bool → Prop} (H : partition_matching p q K) :
    CallsV Try.prog 53 #[.slice p_p p.length c_p, .slice p_q q.length c_q] w0 (fun v w' => ∃ (r0 : Bool), v = .bool r0 ∧ Same w0 w' ∧ K r0) := by
 refine CallsV.of (l := [.slice p_p p.length c_p, .slice p_q q.length c_q]) Try.func53 rfl Try.ntmps53 rfl ?_
 have hO := Owns.start hA
 have hB := Fr.refl (bl []) w0
 unfold partition_matching at H
 refine zq (zr (za rfl (zn (zq (zr ?_)))))
 refine zm rfl (zo (op_len Try.underlying26 rfl) ?_)
 replace h_p := h_p.ch (Ch.start A w0)
 replace H := H h_p.bd
 refine zm rfl (zo (op_len Try.underlying26 rfl) ?_)
 replace h_q := h_q.ch (Ch.start A w0)
 replace H := H h_q.bd
 by_cases h1 : (p.length : Int) = (q.length : Int)
 ·replace H := ifp h1 H
  refine zo (fun w => opB (op_eql rfl rfl w) (decide_eq_true h1)) (zm rfl (zm rfl ?_))
  refine GoR.call (op_call body55 rfl (walk_partition_Valid hO.lt h_p H)) rfl rfl ?_
  rintro v6 w3 ⟨r2, rfl, hs4, H⟩
  have cJ := Stp.same hO hs4
  replace hO := cJ.own
  refine zo (op_pickT rfl rfl rfl) (zm rfl ?_)
  cases r2
  ·replace H := ifn Bool.false_ne_true H
   refine zp (zp (zo (op_pickF rfl rfl rfl) (za rfl (zn ?_))))
   refine Go1.ret1 Try.func53 rfl ?_
   replace hB := hB.trans cJ.fr
   exact ⟨false, rfl, hB.same, H⟩
  replace H := ifp rfl H
  refine zm rfl ?_
  replace h_q := h_q.ch cJ.ch
  refine GoR.call (op_call body55 rfl (walk_partition_Valid hO.lt h_q H)) rfl rfl ?_
  rintro v12 w9 ⟨r8, rfl, iG, H⟩
  have bS := Stp.same hO iG
  replace hO := bS.own
  refine zo (op_pickT rfl rfl rfl) (za rfl (zn ?_))
  refine Go1.ret1 Try.func53 rfl ?_
  replace hB := (hB.trans cJ.fr).trans bS.fr
  exact ⟨r8, rfl, hB.same, H⟩
 replace H := ifn h1 H
 refine zo (fun w => opB (op_eql rfl rfl w) (decide_eq_false h1)) (zm rfl (zp (zp (zo (op_pickF rfl rfl rfl) (zm rfl ?_)))))
 refine zp (zp (zo (op_pickF rfl rfl rfl) (za rfl (zn ?_))))
 refine Go1.ret1 Try.func53 rfl ?_
 exact ⟨false, rfl, hB.same, H⟩
theorem body54 : Body Try.prog 54 := ⟨Try.f54, Try.func54, rfl, by kernel_rfl⟩
theorem walk_partition_canonical_2_int {A : List Nat} {w0 : World} {p_l : Option Addr} {c_l : Nat} {l : List (Int × Int)} (hA : ∀ b ∈ A, b < w0.heap.size) (h_l : ISl (rpP2 .i64) A w0 p_l c_l l) {K : List Int → Prop} (H : partition_canonical_2_int l K) :
    CallsV Try.prog 54 #[.slice p_l l.length c_l] w0 (fun v w' => ∃ (r0 : List Int), ∃ (a8 : Option Addr), ∃ (a9 : Nat), v = .slice a8 r0.length a9 ∧ Same w0 w' ∧ ISl (Rp.int .i64) A w' a8 a9 r0 ∧ K r0) := by
 refine CallsV.of (l := [.slice p_l l.length c_l]) Try.func54 rfl Try.ntmps54 rfl ?_
 have hO := Owns.start hA
 have hB := Fr.refl (bl []) w0
 unfold partition_canonical_2_int at H
 refine zq (zr (za rfl (zn (zq (zr ?_)))))
 refine zm rfl (zo (op_len Try.underlying72 rfl) ?_)
 replace h_l := h_l.ch (Ch.start A w0)
 replace H := H h_l.bd
 obtain ⟨h8, H⟩ := H
 obtain ⟨h9, H⟩ := H
 have hobt := omake (n := (l.length : Int)) (r := Rp.int .i64) (d := (0 : Int)) Try.underlying26 ti3 (fun _ _ => rfl) rfl hO h8 h9 (by decide)
 obtain ⟨w1, p2, vs3, bx, hE5, hs6, dF⟩ := hobt
 refine zg (dF rfl rfl) ?_
 replace hO := bx.own
 refine za rfl (zn (zq (zr ?_)))
 have hobt := omakeMap (fun a : Int × Int => Value.agg #[.int .i64 a.1, .int .i64 a.2]) (fun a : Int => Value.int .i64 a) hO
 obtain ⟨w11, B12, bS, oQ, gx⟩ := hobt
 refine GoR.op gx rfl rfl ?_
 replace hO := bS.own
 refine za rfl (zn (zq (zq (zr (zm rfl ?_)))))
 refine zo (op_len Try.underlying72 rfl) (zm rfl (zn (zb ?_)))
 replace hE5 := hE5.ch bS.ch
 replace h_l := (h_l.ch bx.ch).ch bS.ch
 replace hB := (hB.trans bx.fr).trans bS.fr
 refine Go1.loopW (S := Nat × (List ((Int × Int) × Int)) × List Int) (fun s σ w => match s with | (k1_18, m1_19, p1_20) => ∃ (dH : List Value), agrees σ [(3, .slice p2 l.length l.length), (4, .map (some B12)), (13, .slice p_l l.length c_l), (14, .int .i64 (l.length : Int)), (15, .int .i64 (k1_18 : Int))] ∧ (fun Z0 => Owns w0.heap.size w Z0 A ∧ Els (Rp.int .i64) (bl Z0 ++ A) w dH p1_20 ∧ ISl (rpP2 .i64) (bl Z0 ++ A) w p_l c_l l ∧ Fr (bl []) w0 (bl Z0) w) [.any (mapE (fun a : Int × Int => Value.agg #[.int .i64 a.1, .int .i64 a.2]) (fun a : Int => Value.int .i64 a) B12 m1_19), .row 3 1 p2 l.length l.length dH]) H ⟨vs3, ⟨rfl, rfl, rfl, rfl, rfl, trivial⟩, hO, hE5, h_l, hB⟩ ?_
 intro X1
 refine prE fun k1_18 => prE fun m1_19 => fun p1_20 => ?_
 intro H hX1 σ w17
 refine exE fun dH => andE fun hag => andE fun hO => andE fun bk => andE fun h_l => fun hB => ?_
 dsimp only at H
 refine Go1.keep [(3, .slice p2 l.length l.length), (4, .map (some B12)), (13, .slice p_l l.length c_l), (14, .int .i64 (l.length : Int)), (15, .int .i64 (k1_18 : Int))] hag ?_
 refine zq (zr ?_)
 by_cases h23 : (k1_18 : Int) < (l.length : Int)
 ·replace H := ifp h23 H
  refine zo (fun w => opB (op_lss rfl rfl w) (decide_eq_true h23)) (zn (zq (zt rfl rfl (zk (zq ?_)))))
  refine zb (zq (zr (zm rfl ?_)))
  obtain ⟨h24, H⟩ := H
  obtain ⟨h25, H⟩ := H
  refine zo (op_index Try.underlying72 ti73 rfl rfl h24 h25 (h_l.some_ h24 h25)) (zs (ldFlat h_l h24 h25 Try.underlying73 rfl ti73 rfl) ?_)
  have hobt := oalloc (t := 73) (cs := #[.int .i64 (0 : Int), .int .i64 (0 : Int)]) ti73 hO rfl
  obtain ⟨w26, B27, bU, fw, iR⟩ := hobt
  refine GoR.op iR rfl rfl ?_
  replace hO := bU.own
  refine za rfl ?_
  have hobt := oblkStAgg (us := [.int .i64 ((ix l (k1_18 : Int)).1), .int .i64 ((ix l (k1_18 : Int)).2)]) (o := 0) (cs' := #[.int .i64 ((ix l (k1_18 : Int)).1), .int .i64 ((ix l (k1_18 : Int)).2)]) 0 hO rfl rfl (Nat.le_of_ble_eq_true rfl) rfl
  obtain ⟨w32, bE, iT⟩ := hobt
  refine zg (iT ti73 (by exact rfl) (by exact rfl) rfl) ?_
  replace hO := bE.own
  refine zn (zq (zr (zm rfl (zs (oblkAgg (vs := [.int .i64 ((ix l (k1_18 : Int)).1), .int .i64 ((ix l (k1_18 : Int)).2)]) (i := 0) 0 hO rfl rfl Try.underlying73 rfl ti73 rfl) ?_))))
  by_cases h35 : mhas m1_19 ((ix l (k1_18 : Int))) = true
  ·replace H := ifp h35 H
   refine zs (olookT (a := (ix l (k1_18 : Int))) (MK.arr2 Try.underlying73 Try.underlying3 ti3) 1 hO rfl Try.underlying84 rfl rfl h35) (zm rfl (zo (op_extract rfl rfl) (zo (op_extract rfl rfl) (za rfl (za rfl ?_)))))
   refine zn (zq (zq (zr (zm rfl (zo (op_not rfl) ?_)))))
   refine zn (zf rfl rfl (zk (zr (zm rfl (zm rfl ?_)))))
   refine zm rfl ?_
   obtain ⟨h36, H⟩ := H
   obtain ⟨h37, H⟩ := H
   replace bk := (bk.ch bU.ch).ch bE.ch
   refine zo (op_index Try.underlying26 ti3 rfl rfl h36 (ltn (bk.neq hO 2 rfl) h37) (bk.psome hO 2 rfl h36 h37)) ?_
   have hobt := ost (r := Rp.int .i64) rfl 2 hO rfl bk h36 h37 (v := .int .i64 (mgt m1_19 ((ix l (k1_18 : Int))))) (u := (mgt m1_19 ((ix l (k1_18 : Int))))) rfl rfl
   obtain ⟨w38, pe, iU, j6, mw⟩ := hobt
   refine zg (mw Try.underlying3 rfl ti3 (by exact rfl) (by exact rfl)) ?_
   replace hO := iU.own
   refine zn ?_
   refine Go1.inBlock ?_
   refine Go1.cut [(3, .slice p2 l.length l.length), (4, .map (some B12)), (13, .slice p_l l.length c_l), (14, .int .i64 (l.length : Int)), (15, .int .i64 (k1_18 : Int))] ⟨rfl, rfl, rfl, rfl, rfl, trivial⟩ ?_
   intro σ _
   refine zr ?_
   have Z1 := (bU.ch.trans bE.ch).trans iU.ch
   replace h_l := h_l.ch Z1
   refine zo (op_add rfl rfl (wrap_i64 (natbd h23 h_l.bd))) (zm rfl (zn ?_))
   replace hO := hO.drop 0
   replace h_l := h_l.ch (Owns.dropCh _ _ 0)
   replace j6 := j6.ch (Owns.dropCh _ _ 0)
   replace hB := (((hB.trans bU.fr).trans bE.fr).trans iU.fr).trans (Owns.dropFr _ _ 0)
   exact hX1 _ H _ _ ⟨pe, ⟨rfl, rfl, rfl, rfl, rfl, trivial⟩, hO, j6, h_l, hB⟩
  replace H := ifn h35 H
  refine zs (olookF (a := (ix l (k1_18 : Int))) (MK.arr2 Try.underlying73 Try.underlying3 ti3) 1 hO rfl Try.underlying84 ti3 rfl rfl h35) (zm rfl (zo (op_extract rfl rfl) (zo (op_extract rfl rfl) (za rfl (za rfl ?_)))))
  refine zn (zq (zq (zr (zm rfl (zo (op_not rfl) ?_)))))
  refine zn (zt rfl rfl (zq (zr (zm rfl (zs (omapLen 1 hO rfl Try.underlying84 rfl) ?_)))))
  refine za rfl (zn (zr (zm rfl (zs (oblkAgg (vs := [.int .i64 ((ix l (k1_18 : Int)).1), .int .i64 ((ix l (k1_18 : Int)).2)]) (i := 0) 0 hO rfl rfl Try.underlying73 rfl ti73 rfl) (zm rfl ?_)))))
  have hobt := omapUpd (MK.arr2 Try.underlying73 Try.underlying3 ti3) 1 hO rfl Try.underlying84 (ix l (k1_18 : Int)) (m1_19.length : Int)
  obtain ⟨w43, bP, my⟩ := hobt
  refine zg (my (by exact rfl) (by exact rfl) (by exact rfl)) ?_
  replace hO := bP.own
  refine zn (zr (zm rfl (zm rfl (zm rfl ?_))))
  obtain ⟨h46, H⟩ := H
  obtain ⟨h47, H⟩ := H
  have Z2 := (bU.ch.trans bE.ch).trans bP.ch
  replace bk := bk.ch Z2
  refine zo (op_index Try.underlying26 ti3 rfl rfl h46 (ltn (bk.neq hO 2 rfl) h47) (bk.psome hO 2 rfl h46 h47)) ?_
  have hobt := ost (r := Rp.int .i64) rfl 2 hO rfl bk h46 h47 (v := .int .i64 (m1_19.length : Int)) (u := (m1_19.length : Int)) rfl rfl
  obtain ⟨w48, pg, cI, j7, mz⟩ := hobt
  refine zg (mz Try.underlying3 rfl ti3 (by exact rfl) (by exact rfl)) ?_
  replace hO := cI.own
  refine zn ?_
  refine Go1.inBlock ?_
  refine Go1.cut [(3, .slice p2 l.length l.length), (4, .map (some B12)), (13, .slice p_l l.length c_l), (14, .int .i64 (l.length : Int)), (15, .int .i64 (k1_18 : Int))] ⟨rfl, rfl, rfl, rfl, rfl, trivial⟩ ?_
  intro σ _
  refine zr ?_
  replace h_l := (h_l.ch Z2).ch cI.ch
  refine zo (op_add rfl rfl (wrap_i64 (natbd h23 h_l.bd))) (zm rfl (zn ?_))
  replace hO := hO.drop 0
  replace h_l := h_l.ch (Owns.dropCh _ _ 0)
  replace j7 := j7.ch (Owns.dropCh _ _ 0)
  replace hB := ((((hB.trans bU.fr).trans bE.fr).trans bP.fr).trans cI.fr).trans (Owns.dropFr _ _ 0)
  exact hX1 _ H _ _ ⟨pg, ⟨rfl, rfl, rfl, rfl, rfl, trivial⟩, hO, j7, h_l, hB⟩
 replace H := ifn h23 H
 refine zo (fun w => opB (op_lss rfl rfl w) (decide_eq_false h23)) (zn (zq (zf rfl rfl ?_)))
 refine Go1.exit rfl ?_
 refine zq (zr (zm rfl (za rfl (zn ?_))))
 have hobt := freeze 1 hO rfl bk
 obtain ⟨hO1, ph, pi, pk⟩ := hobt
 replace hO := hO1; clear hO1
 refine Go1.ret1 Try.func54 rfl ?_
 replace hB := hB.trans (Owns.dropFr _ _ 1)
 exact ⟨p1_20, p2, l.length, (congrArg (fun nn => Value.slice p2 nn l.length) pk), hB.same, (pi.ch (Ch.weak _ _ _)), H⟩
theorem body29 : Body Try.prog 29 := ⟨Try.f29, Try.func29, rfl, by kernel_rfl⟩
theorem walk_partition_Meet {A : List Nat} {w0 : World} {p_p : Option Addr} {c_p : Nat} {p_q : Option Addr} {c_q : Nat} {p : List Int} {q : List Int} (hA : ∀ b ∈ A, b < w0.heap.size) (h_p : ISl (Rp.int .i64) A w0 p_p c_p p) (h_q : ISl (Rp.int .i64) A w0 p_q c_q q) {K : List Int → Prop} (H : partition_Meet p q K) :
    CallsV Try.prog 29 #[.slice p_p p.length c_p, .slice p_q q.length c_q] w0 (fun v w' => ∃ (r0 : List Int), ∃ (a8 : Option Addr), ∃ (a9 : Nat), v = .slice a8 r0.length a9 ∧ Same w0 w' ∧ ISl (Rp.int .i64) A w' a8 a9 r0 ∧ K r0) := by
 refine CallsV.of (l := [.slice p_p p.length c_p, .slice p_q q.length c_q]) Try.func29 rfl Try.ntmps29 rfl ?_
 have hO := Owns.start hA
 have hB := Fr.refl (bl []) w0
 unfold partition_Meet at H
 refine zq (zr (za rfl (zn (zq (zq ?_)))))
 refine zr (zm rfl (zm rfl ?_))
 replace h_p := h_p.ch (Ch.start A w0)
 replace h_q := h_q.ch (Ch.start A w0)
 refine GoR.call (op_call body53 rfl (walk_partition_matching hO.lt h_p h_q H)) rfl rfl ?_
 rintro v5 w2 ⟨r1, rfl, hs3, H⟩
 have aV := Stp.same hO hs3
 replace hO := aV.own
 cases r1
 ·replace H := ifn Bool.false_ne_true H
  refine zo (op_not rfl) (zn (zt rfl rfl (zq (zr (za rfl ?_)))))
  refine zn ?_
  refine Go1.ret1 Try.func29 rfl ?_
  replace hB := hB.trans aV.fr
  exact ⟨([] : List Int), none, 0, rfl, hB.same, (ISl.null _ _ _), H⟩
 replace H := ifp rfl H
 refine zo (op_not rfl) (zn (zf rfl rfl (zk (zq (zr ?_)))))
 refine zm rfl (zo (op_len Try.underlying26 rfl) ?_)
 replace h_p := h_p.ch aV.ch
 replace H := H h_p.bd
 obtain ⟨h14, H⟩ := H
 obtain ⟨h15, H⟩ := H
 have hobt := omake (n := (p.length : Int)) (r := rpP2 .i64) (d := ((0, 0) : Int × Int)) Try.underlying72 ti73 (fun _ _ => ⟨trivial, fun ii _ => cells_agg ii⟩) rfl hO h14 h15 (by decide)
 obtain ⟨w7, p8, vs9, cf, cK, kV, gu⟩ := hobt
 refine zg (gu rfl rfl) ?_
 replace hO := cf.own
 refine za rfl (zn (zq (zq (zr (zm rfl ?_)))))
 refine zo (op_len Try.underlying26 rfl) (zm rfl (zn (zb ?_)))
 replace h_p := h_p.ch cf.ch
 replace h_q := (h_q.ch aV.ch).ch cf.ch
 replace hB := (hB.trans aV.fr).trans cf.fr
 refine Go1.loopW (S := Nat × (List (Int × Int))) (fun s σ w => match s with | (k1_18, pairs1_19) => ∃ (dz : List Value), agrees σ [(0, .slice p_p p.length c_p), (1, .slice p_q q.length c_q), (5, .slice p8 p.length p.length), (15, .int .i64 (p.length : Int)), (16, .int .i64 (k1_18 : Int))] ∧ (fun Z0 => Owns w0.heap.size w Z0 A ∧ Els (rpP2 .i64) (bl Z0 ++ A) w dz pairs1_19 ∧ ISl (Rp.int .i64) (bl Z0 ++ A) w p_p c_p p ∧ ISl (Rp.int .i64) (bl Z0 ++ A) w p_q c_q q ∧ Fr (bl []) w0 (bl Z0) w) [.row 73 2 p8 p.length p.length dz]) H ⟨vs9, ⟨rfl, rfl, rfl, rfl, rfl, trivial⟩, hO, cK, h_p, h_q, hB⟩ ?_
 intro X1
 refine prE fun k1_18 => fun pairs1_19 => ?_
 intro H hX1 σ w17
 refine exE fun dz => andE fun hag => andE fun hO => andE fun gP => andE fun h_p => andE fun h_q => fun hB => ?_
 dsimp only at H
 refine Go1.keep [(0, .slice p_p p.length c_p), (1, .slice p_q q.length c_q), (5, .slice p8 p.length p.length), (15, .int .i64 (p.length : Int)), (16, .int .i64 (k1_18 : Int))] hag ?_
 refine zq (zr ?_)
 by_cases h22 : (k1_18 : Int) < (p.length : Int)
 ·replace H := ifp h22 H
  refine zo (fun w => opB (op_lss rfl rfl w) (decide_eq_true h22)) (zn (zq (zt rfl rfl (zk (zq ?_)))))
  refine zb (zq (zr (zm rfl (za rfl (zn ?_)))))
  refine Go1.drawS 1 [(0, .pure), (1, .pure), (2, .pure), (3, .pure), (4, .pure), (5, .stable), (6, .pure), (7, .pure), (8, .pure), (9, .stable), (10, .pure), (11, .pure), (12, .last)] mixed (by kernel_rfl) ?_
  intro w23 pm
  have bO := Stp.same hO pm
  replace hO := bO.own
  refine GoQ.pure rfl (op_move rfl) rfl rfl ?_
  refine GoQ.pure rfl (op_move rfl) rfl rfl ?_
  refine GoQ.pure rfl (op_move rfl) rfl rfl ?_
  refine GoQ.pure rfl (op_move rfl) rfl rfl ?_
  obtain ⟨h26, H⟩ := H
  obtain ⟨h27, H⟩ := H
  replace h_p := h_p.ch bO.ch
  refine GoQ.pure rfl (op_index Try.underlying26 ti3 rfl rfl h26 h27 (h_p.some_ h26 h27)) rfl rfl ?_
  refine GoQ.stable rfl (ldInt h_p h26 h27 Try.underlying3 rfl rfl) rfl rfl ?_
  refine GoQ.pure rfl (op_move rfl) rfl rfl ?_
  refine GoQ.pure rfl (op_move rfl) rfl rfl ?_
  obtain ⟨h28, H⟩ := H
  obtain ⟨h29, H⟩ := H
  replace h_q := h_q.ch bO.ch
  refine GoQ.pure rfl (op_index Try.underlying26 ti3 rfl rfl h28 h29 (h_q.some_ h28 h29)) rfl rfl ?_
  refine GoQ.stable rfl (ldInt h_q h28 h29 Try.underlying3 rfl rfl) rfl rfl ?_
  refine GoQ.pure rfl (op_buildArr Try.underlying73 ti73 ti3 (vs := [(0, .int .i64 (ix p (k1_18 : Int))), (1, .int .i64 (ix q (k1_18 : Int)))]) (cs := #[.int .i64 (ix p (k1_18 : Int)), .int .i64 (ix q (k1_18 : Int))]) rfl (by kernel_rfl)) rfl rfl ?_
  obtain ⟨h30, H⟩ := H
  obtain ⟨h31, H⟩ := H
  replace gP := gP.ch bO.ch
  refine GoQ.pure rfl (op_index Try.underlying72 ti73 rfl rfl h30 (ltn (gP.neq hO 0 rfl) h31) (gP.psome hO 0 rfl h30 h31)) rfl rfl ?_
  have hobt := ostFlat 0 hO rfl gP h30 h31 ((ix p (k1_18 : Int)), (ix q (k1_18 : Int))) trivial
  obtain ⟨w32, po, g7, pp, gv⟩ := hobt
  refine GoQ.last rfl (gv ti73 (by exact rfl) (by exact rfl) rfl) rfl rfl ?_
  replace hO := g7.own
  refine GoQ.nil ?_
  refine Go1.inBlock ?_
  refine zr ?_
  replace h_p := h_p.ch g7.ch
  refine zo (op_add rfl rfl (wrap_i64 (natbd h22 h_p.bd))) (zm rfl (zn ?_))
  replace h_q := h_q.ch g7.ch
  replace hB := (hB.trans bO.fr).trans g7.fr
  exact hX1 _ H _ _ ⟨po, ⟨rfl, rfl, rfl, rfl, rfl, trivial⟩, hO, pp, h_p, h_q, hB⟩
 replace H := ifn h22 H
 refine zo (fun w => opB (op_lss rfl rfl w) (decide_eq_false h22)) (zn (zq (zf rfl rfl ?_)))
 refine Go1.exit rfl ?_
 refine zq (zr (zm rfl ?_))
 have hobt := freeze 0 hO rfl gP
 obtain ⟨hO1, lB, j8, pq⟩ := hobt
 replace hO := hO1; clear hO1
 refine GoR.call (op_call body54 (show ([.slice p8 p.length p.length] : List Value) = [.slice p8 pairs1_19.length p.length] from by rw [← pq]) (walk_partition_canonical_2_int hO.lt j8 H)) rfl rfl ?_
 rintro v44 w41 ⟨r40, mA, mB, rfl, pr, mC, H⟩
 have bT := Stp.same hO pr
 replace hO := bT.own
 refine za rfl (zn ?_)
 refine Go1.ret1 Try.func29 rfl ?_
 replace hB := (hB.trans (Owns.dropFr _ _ 0)).trans bT.fr
 exact ⟨r40, mA, mB, rfl, hB.same, (mC.ch (Ch.weak _ _ _)), H⟩
theorem body56 : Body Try.prog 56 := ⟨Try.f56, Try.func56, rfl, by kernel_rfl⟩
theorem walk_partition_Count {A : List Nat} {w0 : World} {p_p : Option Addr} {c_p : Nat} {p : List Int} (hA : ∀ b ∈ A, b < w0.heap.size) (h_p : ISl (Rp.int .i64) A w0 p_p c_p p) {K : Int → Prop} (H : partition_Count p K) :
    CallsV Try.prog 56 #[.slice p_p p.length c_p] w0 (fun v w' => ∃ (r0 : Int), v = .int .i64 r0 ∧ Same w0 w' ∧ K r0) := by
 refine CallsV.of (l := [.slice p_p p.length c_p]) Try.func56 rfl Try.ntmps56 rfl ?_
 have hO := Owns.start hA
 have hB := Fr.refl (bl []) w0
 unfold partition_Count at H
 refine zq (zr (za rfl (zn (zq (zq ?_)))))
 refine zr (zm rfl ?_)
 replace h_p := h_p.ch (Ch.start A w0)
 refine GoR.call (op_call body55 rfl (walk_partition_Valid hO.lt h_p H)) rfl rfl ?_
 rintro v5 w2 ⟨r1, rfl, hs3, H⟩
 have aV := Stp.same hO hs3
 replace hO := aV.own
 cases r1
 ·replace H := ifn Bool.false_ne_true H
  refine zo (op_not rfl) (zn (zt rfl rfl (zq (zr (za rfl ?_)))))
  refine zn ?_
  refine Go1.ret1 Try.func56 rfl ?_
  replace hB := hB.trans aV.fr
  exact ⟨(0 : Int), rfl, hB.same, H⟩
 replace H := ifp rfl H
 refine zo (op_not rfl) (zn (zf rfl rfl (zk (zq (zr ?_)))))
 refine za rfl (zn (zq (zq (zr (zm rfl ?_)))))
 refine zo (op_len Try.underlying26 rfl) ?_
 replace h_p := h_p.ch aV.ch
 replace H := H h_p.bd
 refine zm rfl (zn (zb ?_))
 replace hB := hB.trans aV.fr
 refine Go1.loopW (S := Int × Nat) (fun s σ w => match s with | (count1_8, k1_9) => agrees σ [(3, .int .i64 count1_8), (9, .slice p_p p.length c_p), (10, .int .i64 (p.length : Int)), (11, .int .i64 (k1_9 : Int))] ∧ Owns w0.heap.size w [] A ∧ ISl (Rp.int .i64) (bl [] ++ A) w p_p c_p p ∧ Fr (bl []) w0 (bl []) w) H ⟨⟨rfl, rfl, rfl, rfl, trivial⟩, hO, h_p, hB⟩ ?_
 intro X1
 refine prE fun count1_8 => fun k1_9 => ?_
 intro H hX1 σ w7
 refine andE fun hag => andE fun hO => andE fun h_p => fun hB => ?_
 dsimp only at H
 refine Go1.keep [(3, .int .i64 count1_8), (9, .slice p_p p.length c_p), (10, .int .i64 (p.length : Int)), (11, .int .i64 (k1_9 : Int))] hag ?_
 refine zq (zr ?_)
 by_cases h10 : (k1_9 : Int) < (p.length : Int)
 ·replace H := ifp h10 H
  refine zo (fun w => opB (op_lss rfl rfl w) (decide_eq_true h10)) (zn (zq (zt rfl rfl (zk (zq ?_)))))
  refine zb (zq (zr ?_))
  obtain ⟨h11, H⟩ := H
  obtain ⟨h12, H⟩ := H
  refine zo (op_index Try.underlying26 ti3 rfl rfl h11 h12 (h_p.some_ h11 h12)) (zs (ldInt h_p h11 h12 Try.underlying3 rfl rfl) (za rfl (zn (zr (zm rfl ?_)))))
  refine zm rfl ?_
  obtain ⟨h13, H⟩ := H
  refine zo (op_add rfl rfl (wrap_i64 h13)) ?_
  by_cases h14 : count1_8 < ((ix p (k1_9 : Int)) + (1 : Int))
  ·replace H := ifp h14 H
   refine zo (op_maxT rfl rfl h14) (za rfl (zn ?_))
   refine Go1.inBlock ?_
   refine zr (zo (op_add rfl rfl (wrap_i64 (natbd h10 h_p.bd))) (zm rfl (zn ?_)))
   exact hX1 _ H _ _ ⟨⟨rfl, rfl, rfl, rfl, trivial⟩, hO, h_p, hB⟩
  replace H := ifn h14 H
  refine zo (op_maxF rfl rfl h14) (za rfl (zn ?_))
  refine Go1.inBlock ?_
  refine zr (zo (op_add rfl rfl (wrap_i64 (natbd h10 h_p.bd))) (zm rfl (zn ?_)))
  exact hX1 _ H _ _ ⟨⟨rfl, rfl, rfl, rfl, trivial⟩, hO, h_p, hB⟩
 replace H := ifn h10 H
 refine zo (fun w => opB (op_lss rfl rfl w) (decide_eq_false h10)) (zn (zq (zf rfl rfl ?_)))
 refine Go1.exit rfl ?_
 refine zq (zr (zm rfl (za rfl (zn ?_))))
 refine Go1.ret1 Try.func56 rfl ?_
 exact ⟨count1_8, rfl, hB.same, H⟩
theorem body30 : Body Try.prog 30 := ⟨Try.f30, Try.func30, rfl, by kernel_rfl⟩
theorem walk_partition_Classes {A : List Nat} {w0 : World} {p_p : Option Addr} {c_p : Nat} {p : List Int} (hA : ∀ b ∈ A, b < w0.heap.size) (h_p : ISl (Rp.int .i64) A w0 p_p c_p p) {K : List (List Int) → Prop} (H : partition_Classes p K) :
    CallsV Try.prog 30 #[.slice p_p p.length c_p] w0 (fun v w' => ∃ (r0 : List (List Int)), ∃ (a8 : Option Addr), ∃ (a9 : Nat), v = .slice a8 r0.length a9 ∧ Same w0 w' ∧ ISl (Rp.sl (Rp.int .i64)) A w' a8 a9 r0 ∧ K r0) := by
 refine CallsV.of (l := [.slice p_p p.length c_p]) Try.func30 rfl Try.ntmps30 rfl ?_
 have hO := Owns.start hA
 have hB := Fr.refl (bl []) w0
 unfold partition_Classes at H
 refine zq (zr (za rfl (zn (zq (zq ?_)))))
 refine zr (zm rfl ?_)
 replace h_p := h_p.ch (Ch.start A w0)
 refine GoR.call (op_call body55 rfl (walk_partition_Valid hO.lt h_p H)) rfl rfl ?_
 rintro v5 w2 ⟨r1, rfl, hs3, H⟩
 have aV := Stp.same hO hs3
 replace hO := aV.own
 cases r1
 ·replace H := ifn Bool.false_ne_true H
  refine zo (op_not rfl) (zn (zt rfl rfl (zq ?_)))
  refine Go1.cut [] trivial ?_
  intro σ _
  refine zr (za rfl (zn ?_))
  refine Go1.ret1 Try.func30 rfl ?_
  replace hB := hB.trans aV.fr
  exact ⟨([] : List (List Int)), none, 0, rfl, hB.same, (ISl.null _ _ _), H⟩
 replace H := ifp rfl H
 refine zo (op_not rfl) (zn (zf rfl rfl (zk (zq (zr ?_)))))
 refine zm rfl ?_
 replace h_p := h_p.ch aV.ch
 refine GoR.call (op_call body56 rfl (walk_partition_Count hO.lt h_p H)) rfl rfl ?_
 rintro v11 w8 ⟨r7, rfl, hs9, H⟩
 have bz := Stp.same hO hs9
 replace hO := bz.own
 obtain ⟨h20, H⟩ := H
 obtain ⟨h21, H⟩ := H
 have hobt := t2make (m := r7) (e' := 3) (Fl.int .i64) Try.underlying22 ti26 hO h20 h21 (by decide)
 obtain ⟨w13, p14, iV, jr, iW⟩ := hobt
 refine zg (iW rfl rfl) ?_
 replace hO := iV.own
 refine za rfl (zn (zq (zq (zr (zm rfl ?_)))))
 refine zo (op_len Try.underlying26 rfl) ?_
 replace h_p := (h_p.ch bz.ch).ch iV.ch
 replace H := H h_p.bd
 refine zm rfl (zn (zb ?_))
 replace hB := ((hB.trans aV.fr).trans bz.fr).trans iV.fr
 refine Go1.loopW (S := Nat × List (List Int)) (fun s σ w => match s with | (k1_24, classes1_25) => ∃ (n28 : Nat), ∃ (p26 : Option Addr), ∃ (c27 : Nat), ∃ (fw : Hd), agrees σ [(3, .slice p26 n28 c27), (12, .slice p_p p.length c_p), (13, .int .i64 (p.length : Int)), (14, .int .i64 (k1_24 : Int))] ∧ (fun Z0 => Owns w0.heap.size w Z0 A ∧ ISl (Rp.int .i64) (bl Z0 ++ A) w p_p c_p p ∧ Fr (bl []) w0 (bl Z0) w) [t2 (Fl.int .i64) 26 3 p26 n28 c27 fw classes1_25]) H ⟨r7.toNat, p14, r7.toNat, (fun _ => (none, 0)), ⟨rfl, rfl, rfl, rfl, trivial⟩, hO, h_p, hB⟩ ?_
 intro X1
 refine prE fun k1_24 => fun classes1_25 => ?_
 intro H hX1 σ w23
 refine exE fun n28 => exE fun p26 => exE fun c27 => exE fun fw => andE fun hag => andE fun hO => andE fun h_p => fun hB => ?_
 dsimp only at H
 refine Go1.keep [(3, .slice p26 n28 c27), (12, .slice p_p p.length c_p), (13, .int .i64 (p.length : Int)), (14, .int .i64 (k1_24 : Int))] hag ?_
 refine zq (zr ?_)
 by_cases h30 : (k1_24 : Int) < (p.length : Int)
 ·replace H := ifp h30 H
  refine zo (fun w => opB (op_lss rfl rfl w) (decide_eq_true h30)) (zn (zq (zt rfl rfl (zk (zq ?_)))))
  refine zb (zq (zr (zm rfl ?_)))
  obtain ⟨h31, H⟩ := H
  obtain ⟨h32, H⟩ := H
  refine zo (op_index Try.underlying26 ti3 rfl rfl h31 h32 (h_p.some_ h31 h32)) (zs (ldInt h_p h31 h32 Try.underlying3 rfl rfl) (za rfl (za rfl (zn (zr ?_)))))
  refine zm rfl (zm rfl (zm rfl (zm rfl ?_)))
  obtain ⟨h33, H⟩ := H
  obtain ⟨h34, H⟩ := H
  refine zo (op_index Try.underlying22 ti26 rfl rfl h33 (ltn (t2neq 0 hO rfl) h34) (t2some 0 hO rfl h33 h34)) (zs (t2head 0 hO rfl h33 h34 Try.underlying26 rfl rfl) (zm rfl ?_))
  have hobt := obuild (r := Rp.int .i64) (n := 1) (parts := [(0, .int .i64 (k1_24 : Int))]) (vs := [.int .i64 (k1_24 : Int)]) (xs := [(k1_24 : Int)]) rfl Try.underlying26 ti3 hO (by decide) (by kernel_rfl) (Els.cons rfl rfl (Els.nil _ _ _) (by simp [mx])) rfl
  obtain ⟨w35, p36, bH, ik, qT, mD⟩ := hobt
  refine zg (mD rfl) ?_
  replace hO := bH.own
  have g8 := Stp.front 1 hO rfl
  replace hO := g8.own
  have hobt := t2take (hf := (Fl.int .i64)) hO h33 h34
  obtain ⟨pt, bP, pv⟩ := hobt
  replace hO := bP.own
  have j9 := pv (bl [.row 3 1 (fw (ix p (k1_24 : Int)).toNat).1 ((ix classes1_25 (ix p (k1_24 : Int))).length) ((fw (ix p (k1_24 : Int)).toNat).2) pt, t2h (Fl.int .i64) 26 3 p26 n28 c27 fw classes1_25 (ix p (k1_24 : Int)).toNat, .row 3 1 p36 1 1 [.int .i64 (k1_24 : Int)]] ++ A)
  replace ik := (ik.ch g8.ch).ch bP.ch
  have hobt := freeze 2 hO rfl ik
  obtain ⟨hO1, lC, fO, px⟩ := hobt
  replace hO := hO1; clear hO1
  obtain ⟨h51, H⟩ := H
  replace j9 := j9.ch lC
  have hobt := oapp Try.underlying26 ti3 rfl 0 hO rfl j9 fO px h51 (by decide)
  obtain ⟨w52, p53, c54, qU, bF, gl, iX⟩ := hobt
  refine zg (iX (by exact rfl) (by exact rfl)) ?_
  replace hO := bF.own
  obtain ⟨h60, H⟩ := H
  obtain ⟨h61, H⟩ := H
  refine zo (op_index Try.underlying22 ti26 rfl rfl h60 (ltn (t2neqH 1 hO rfl) h61) (t2someH 1 hO rfl h60 h61)) ?_
  have gy := Stp.front 1 hO rfl
  replace hO := gy.own
  have gz := Stp.front 1 hO rfl
  replace hO := gz.own
  replace gl := (gl.ch gy.ch).ch gz.ch
  have hobt := t2fix (hf := (Fl.int .i64)) hO gl h60 h61 rfl
  obtain ⟨w64, eO, mE⟩ := hobt
  refine zg (mE Try.underlying26 rfl ti26 (by exact rfl) (by exact rfl)) ?_
  replace hO := eO.own
  refine zn ?_
  refine Go1.inBlock ?_
  refine zr ?_
  have Z1 := ((((((bH.ch.trans g8.ch).trans bP.ch).trans lC).trans bF.ch).trans gy.ch).trans gz.ch).trans eO.ch
  replace h_p := h_p.ch Z1
  refine zo (op_add rfl rfl (wrap_i64 (natbd h30 h_p.bd))) (zm rfl (zn ?_))
  replace hB := (((((((hB.trans bH.fr).trans g8.fr).trans bP.fr).trans (Owns.dropFr _ _ 2)).trans bF.fr).trans gy.fr).trans gz.fr).trans eO.fr
  exact hX1 _ H _ _ ⟨n28, p26, c27, hup fw (ix p (k1_24 : Int)).toNat (p53, c54), ⟨rfl, rfl, rfl, rfl, trivial⟩, hO, h_p, hB⟩
 replace H := ifn h30 H
 refine zo (fun w => opB (op_lss rfl rfl w) (decide_eq_false h30)) (zn (zq (zf rfl rfl ?_)))
 refine Go1.exit rfl ?_
 refine zq ?_
 refine Go1.cut [(3, .slice p26 n28 c27)] ⟨rfl, trivial⟩ ?_
 intro σ _
 refine zr (zm rfl (za rfl (zn ?_)))
 have hobt := t2freezeA 0 hO rfl
 obtain ⟨hO1, pz, pC, pD⟩ := hobt
 replace hO := hO1; clear hO1
 refine Go1.ret1 Try.func30 rfl ?_
 replace hB := hB.trans (Owns.dropFr _ _ 0)
 exact ⟨classes1_25, p26, c27, (congrArg (fun nn => Value.slice p26 nn c27) pD), hB.same, (pC.ch (Ch.weak _ _ _)), H⟩
end Sg
