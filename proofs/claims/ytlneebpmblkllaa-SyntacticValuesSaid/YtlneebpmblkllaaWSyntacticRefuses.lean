/- -/
import Derived.Test.YtlneebpmblkllaaTi
import Derived.Test.YtlneebpmblkllaaWSyntacticJoint
import Derived.Test.YtlneebpmblkllaaWSyntacticMonoidse
import Derived.Test.YtlneebpmblkllaaAl
namespace Sg
open Go Go.RowKit Go.Proofs
set_option linter.unusedVariables false
set_option linter.unusedSimpArgs false
set_option maxRecDepth 100000
set_option maxHeartbeats 4000000
theorem body76 : Body Try.prog 76 := ⟨Try.f76, Try.func76, rfl, by kernel_rfl⟩
theorem walk_syntactic_within {A : List Nat} {w0 : World} {wU : Option Addr} {wV : Nat} {list : List Int} {n : Int} (hA : ∀ b ∈ A, b < w0.heap.size) (vd : ISl (Rp.int .i64) A w0 wU wV list) {K : Bool → Prop} (H : J0E list n K) :
    CallsV Try.prog 76 #[.slice wU list.length wV, .int .i64 n] w0 (fun v w' => ∃ (r0 : Bool), v = .bool r0 ∧ Same w0 w' ∧ K r0) := by
 refine CallsV.of (l := [.slice wU list.length wV, .int .i64 n]) Try.func76 rfl Try.ntmps76 rfl ?_
 have hO := Owns.start hA
 have hB := Fr.refl (bl []) w0
 unfold J0E at H
 refine zq (zr (za rfl (zn (zq (zq ?_)))))
 refine zr (zm rfl (zo (J0d Try.underlying31 rfl) ?_))
 replace vd := vd.ch (Ch.start A w0)
 replace H := H vd.bd
 refine zm rfl (zn (zb ?_))
 refine Go1.loopW (S := Nat) (fun s σ w => agrees σ [(1, .int .i64 n), (7, .slice wU list.length wV), (8, .int .i64 (list.length : Int)), (9, .int .i64 (s : Int))] ∧ Owns w0.heap.size w [] A ∧ ISl (Rp.int .i64) (bl [] ++ A) w wU wV list ∧ Fr (bl []) w0 (bl []) w) H ⟨⟨rfl, rfl, rfl, rfl, trivial⟩, hO, vd, hB⟩ ?_
 intro X1 k1_2
 intro H hX1 σ w1
 refine andE fun hag => andE fun hO => andE fun vd => fun hB => ?_
 refine Go1.keep [(1, .int .i64 n), (7, .slice wU list.length wV), (8, .int .i64 (list.length : Int)), (9, .int .i64 (k1_2 : Int))] hag ?_
 refine zq (zr ?_)
 by_cases h3 : (k1_2 : Int) < (list.length : Int)
 ·replace H := ifp h3 H
  refine zo (fun w => opB (J08 rfl rfl w) (decide_eq_true h3)) (zn (zq (zt rfl rfl (zk (zq ?_)))))
  refine zb (zq (zr ?_))
  obtain ⟨h4, H⟩ := H
  obtain ⟨h5, H⟩ := H
  refine zo (J02 Try.underlying31 ti3 rfl rfl h4 h5 (vd.some_ h4 h5)) (zs (ldInt vd h4 h5 Try.underlying3 rfl rfl) (za rfl (zn (zq (zr ?_)))))
  refine zm rfl ?_
  by_cases h6 : (ix list (k1_2 : Int)) < (0 : Int)
  ·replace H := ifp h6 H
   refine zo (fun w => opB (J08 rfl rfl w) (decide_eq_true h6)) (zm rfl (zp (zp (zp (zo (J05 rfl rfl rfl) ?_)))))
   refine zn (zt rfl rfl (zq (zr (za rfl (zn ?_)))))
   refine Go1.ret1 Try.func76 rfl ?_
   exact ⟨false, rfl, hB.same, H⟩
  replace H := ifn h6 H
  refine zo (fun w => opB (J08 rfl rfl w) (decide_eq_false h6)) (zm rfl (zm rfl (zm rfl ?_)))
  by_cases h7 : n ≤ (ix list (k1_2 : Int))
  ·replace H := ifp h7 H
   refine zo (fun w => opB (J0L rfl rfl w) (decide_eq_true h7)) (zo (J04 rfl rfl rfl) (zn (zt rfl rfl (zq (zr ?_)))))
   refine za rfl (zn ?_)
   refine Go1.ret1 Try.func76 rfl ?_
   exact ⟨false, rfl, hB.same, H⟩
  replace H := ifn h7 H
  refine zo (fun w => opB (J0L rfl rfl w) (decide_eq_false h7)) (zo (J04 rfl rfl rfl) (zn (zf rfl rfl (zk ?_))))
  refine Go1.inBlock ?_
  refine Go1.cut [(1, .int .i64 n), (7, .slice wU list.length wV), (8, .int .i64 (list.length : Int)), (9, .int .i64 (k1_2 : Int))] ⟨rfl, rfl, rfl, rfl, trivial⟩ ?_
  intro σ _
  refine zr (zo (J0c rfl rfl (wrap_i64 (natbd h3 vd.bd))) (zm rfl (zn ?_)))
  exact hX1 _ H _ _ ⟨⟨rfl, rfl, rfl, rfl, trivial⟩, hO, vd, hB⟩
 replace H := ifn h3 H
 refine zo (fun w => opB (J08 rfl rfl w) (decide_eq_false h3)) (zn (zq (zf rfl rfl ?_)))
 refine Go1.exit rfl ?_
 refine zq (zr (za rfl (zn ?_)))
 refine Go1.ret1 Try.func76 rfl ?_
 exact ⟨true, rfl, hB.same, H⟩
theorem body71 : Body Try.prog 71 := ⟨Try.f71, Try.func71, rfl, by kernel_rfl⟩
theorem walk_syntactic_shaped {A : List Nat} {w0 : World} {dM : Option Addr} {dN : Nat} {dV : Option Addr} {dW : Nat} {dD : Option Addr} {dE : Nat} {dF : Option Addr} {dG : Nat} {eg : Option Addr} {eh : Nat} {a0 : Syntactic} (hA : ∀ b ∈ A, b < w0.heap.size) (cC : ISl (Rp.sl (Rp.int .i64)) A w0 dM dN a0.Table) (c6 : ISl (Rp.str) A w0 dV dW a0.Words) (cA : ISl (Rp.int .i64) A w0 dD dE a0.Images) (cD : ISl (Rp.bool) A w0 dF dG a0.Accept) (dy : ISl (Rp.bool) A w0 eg eh a0.Plus) {K : Bool → Prop} (H : J0V a0 K) :
    CallsV Try.prog 71 #[.agg #[.int .i64 a0.Letters, .slice dM a0.Table.length dN, .slice dV a0.Words.length dW, .slice dD a0.Images.length dE, .slice dF a0.Accept.length dG, .slice eg a0.Plus.length eh]] w0 (fun v w' => ∃ (r0 : Bool), v = .bool r0 ∧ Same w0 w' ∧ K r0) := by
 refine CallsV.of (l := [.agg #[.int .i64 a0.Letters, .slice dM a0.Table.length dN, .slice dV a0.Words.length dW, .slice dD a0.Images.length dE, .slice dF a0.Accept.length dG, .slice eg a0.Plus.length eh]]) Try.func71 rfl Try.ntmps71 rfl ?_
 have hO := Owns.start hA
 have hB := Fr.refl (bl []) w0
 unfold J0V at H
 refine zq (zr ?_)
 have zz := obox (t := 33) (v := .agg #[.int .i64 a0.Letters, .slice dM a0.Table.length dN, .slice dV a0.Words.length dW, .slice dD a0.Images.length dE, .slice dF a0.Accept.length dG, .slice eg a0.Plus.length eh]) (cs := #[.int .i64 a0.Letters, .slice dM a0.Table.length dN, .slice dV a0.Words.length dW, .slice dD a0.Images.length dE, .slice dF a0.Accept.length dG, .slice eg a0.Plus.length eh]) hO rfl
 obtain ⟨w1, B2, cB, hs4, ic⟩ := zz
 refine zg (ic rfl) ?_
 replace hO := cB.own
 refine za rfl (zn (zq (zr (zo (J00 Try.underlying33 rfl ti23 rfl (by decide)) (zs (oblk (i := 1) 0 hO rfl rfl Try.underlying23 rfl rfl) ?_)))))
 refine zo (J0d Try.underlying23 rfl) ?_
 replace cC := (cC.ch (Ch.start A w0)).ch cB.ch
 replace H := H cC.bd
 refine za rfl (zn (zq (zq (zr (zo (J00 Try.underlying33 rfl ti3 rfl (by decide)) ?_)))))
 refine zs (oblk (i := 0) 0 hO rfl rfl Try.underlying3 rfl rfl) ?_
 by_cases h7 : a0.Letters < (1 : Int)
 ·replace H := ifp h7 H
  refine zo (fun w => opB (J08 rfl rfl w) (decide_eq_true h7)) (zm rfl (zp (zp (zp (zo (J05 rfl rfl rfl) ?_)))))
  refine zm rfl (zp (zp (zo (J05 rfl rfl rfl) (zm rfl (zp ?_)))))
  refine zp (zo (J05 rfl rfl rfl) (zn (zt rfl rfl (zq ?_))))
  refine Go1.cut [] trivial ?_
  intro σ _
  refine zr (za rfl (zn ?_))
  refine Go1.ret1 Try.func71 rfl ?_
  replace hB := hB.trans cB.fr
  exact ⟨false, rfl, hB.same, H⟩
 replace H := ifn h7 H
 refine zo (fun w => opB (J08 rfl rfl w) (decide_eq_false h7)) (zm rfl (zo (J00 Try.underlying33 rfl ti3 rfl (by decide)) (zs (oblk (i := 0) 0 hO rfl rfl Try.underlying3 rfl rfl) ?_)))
 by_cases h8 : (6 : Int) < a0.Letters
 ·replace H := ifp h8 H
  refine zo (fun w => opB (J0M rfl rfl w) (decide_eq_true h8)) (zo (J04 rfl rfl rfl) (zm rfl (zp (zp (zo (J05 rfl rfl rfl) ?_)))))
  refine zm rfl (zp (zp (zo (J05 rfl rfl rfl) (zn (zt rfl rfl ?_)))))
  refine zq (zr (za rfl (zn ?_)))
  refine Go1.ret1 Try.func71 rfl ?_
  replace hB := hB.trans cB.fr
  exact ⟨false, rfl, hB.same, H⟩
 replace H := ifn h8 H
 refine zo (fun w => opB (J0M rfl rfl w) (decide_eq_false h8)) (zo (J04 rfl rfl rfl) (zm rfl (zm rfl ?_)))
 by_cases h9 : (a0.Table.length : Int) < (1 : Int)
 ·replace H := ifp h9 H
  refine zo (fun w => opB (J08 rfl rfl w) (decide_eq_true h9)) (zo (J04 rfl rfl rfl) (zm rfl (zp (zp (zo (J05 rfl rfl rfl) ?_)))))
  refine zn (zt rfl rfl (zq ?_))
  refine Go1.cut [] trivial ?_
  intro σ _
  refine zr (za rfl (zn ?_))
  refine Go1.ret1 Try.func71 rfl ?_
  replace hB := hB.trans cB.fr
  exact ⟨false, rfl, hB.same, H⟩
 replace H := ifn h9 H
 refine zo (fun w => opB (J08 rfl rfl w) (decide_eq_false h9)) (zo (J04 rfl rfl rfl) (zm rfl (zm rfl ?_)))
 by_cases h10 : (400 : Int) < (a0.Table.length : Int)
 ·replace H := ifp h10 H
  refine zo (fun w => opB (J0M rfl rfl w) (decide_eq_true h10)) (zo (J04 rfl rfl rfl) (zn (zt rfl rfl (zq (zr ?_)))))
  refine za rfl (zn ?_)
  refine Go1.ret1 Try.func71 rfl ?_
  replace hB := hB.trans cB.fr
  exact ⟨false, rfl, hB.same, H⟩
 replace H := ifn h10 H
 refine zo (fun w => opB (J0M rfl rfl w) (decide_eq_false h10)) (zo (J04 rfl rfl rfl) (zn (zf rfl rfl (zk (zq ?_)))))
 refine zq (zr (zo (J00 Try.underlying33 rfl ti30 rfl (by decide)) (zs (oblk (i := 2) 0 hO rfl rfl Try.underlying30 rfl rfl) (zo (J0d Try.underlying30 rfl) ?_))))
 replace c6 := (c6.ch (Ch.start A w0)).ch cB.ch
 replace H := H c6.bd
 refine zm rfl ?_
 by_cases h11 : (a0.Words.length : Int) = (a0.Table.length : Int)
 ·replace H := ifp h11 H
  refine zo (fun w => opB (J0g rfl rfl w) (ndT h11)) (zm rfl (zo (J00 Try.underlying33 rfl ti22 rfl (by decide)) (zs (oblk (i := 4) 0 hO rfl rfl Try.underlying22 rfl rfl) (zo (J0d Try.underlying22 rfl) ?_))))
  replace cD := (cD.ch (Ch.start A w0)).ch cB.ch
  replace H := H cD.bd
  refine zm rfl ?_
  by_cases h12 : (a0.Accept.length : Int) = (a0.Table.length : Int)
  ·replace H := ifp h12 H
   refine zo (fun w => opB (J0g rfl rfl w) (ndT h12)) (zo (J04 rfl rfl rfl) (zm rfl (zo (J00 Try.underlying33 rfl ti22 rfl (by decide)) (zs (oblk (i := 5) 0 hO rfl rfl Try.underlying22 rfl rfl) (zo (J0d Try.underlying22 rfl) ?_)))))
   replace dy := (dy.ch (Ch.start A w0)).ch cB.ch
   replace H := H dy.bd
   refine zm rfl ?_
   by_cases h13 : (a0.Plus.length : Int) = (a0.Table.length : Int)
   ·replace H := ifp h13 H
    refine zo (fun w => opB (J0g rfl rfl w) (ndT h13)) (zo (J04 rfl rfl rfl) (zm rfl (zo (J00 Try.underlying33 rfl ti31 rfl (by decide)) (zs (oblk (i := 3) 0 hO rfl rfl Try.underlying31 rfl rfl) (zo (J0d Try.underlying31 rfl) ?_)))))
    replace cA := (cA.ch (Ch.start A w0)).ch cB.ch
    replace H := H cA.bd
    refine zo (J00 Try.underlying33 rfl ti3 rfl (by decide)) (zs (oblk (i := 0) 0 hO rfl rfl Try.underlying3 rfl rfl) ?_)
    by_cases h14 : (a0.Images.length : Int) = a0.Letters
    ·replace H := ifp h14 H
     refine zo (fun w => opB (J0g rfl rfl w) (ndT h14)) (zo (J04 rfl rfl rfl) (zn (zf rfl rfl (zk (zq ?_)))))
     refine zq ?_
     refine Go1.cut [(1, .pointer (some ⟨B2, 0, none⟩)), (3, .int .i64 (a0.Table.length : Int))] ⟨rfl, rfl, trivial⟩ ?_
     intro σ _
     refine zr (zo (J00 Try.underlying33 rfl ti23 rfl (by decide)) (zs (oblk (i := 1) 0 hO rfl rfl Try.underlying23 rfl rfl) (zo (J0d Try.underlying23 rfl) (zm rfl (zn ?_)))))
     refine zb ?_
     replace hB := hB.trans cB.fr
     refine Go1.loopW (S := Nat) (fun s σ w => agrees σ [(1, .pointer (some ⟨B2, 0, none⟩)), (3, .int .i64 (a0.Table.length : Int)), (53, .slice dM a0.Table.length dN), (54, .int .i64 (a0.Table.length : Int)), (55, .int .i64 (s : Int))] ∧ (fun Z0 => Owns w0.heap.size w Z0 A ∧ ISl (Rp.sl (Rp.int .i64)) (bl Z0 ++ A) w dM dN a0.Table ∧ ISl (Rp.str) (bl Z0 ++ A) w dV dW a0.Words ∧ ISl (Rp.int .i64) (bl Z0 ++ A) w dD dE a0.Images ∧ ISl (Rp.bool) (bl Z0 ++ A) w dF dG a0.Accept ∧ ISl (Rp.bool) (bl Z0 ++ A) w eg eh a0.Plus ∧ Fr (bl []) w0 (bl Z0) w) [.blk B2 (.cells #[.int .i64 a0.Letters, .slice dM a0.Table.length dN, .slice dV a0.Words.length dW, .slice dD a0.Images.length dE, .slice dF a0.Accept.length dG, .slice eg a0.Plus.length eh] 33 (0, 0))]) H ⟨⟨rfl, rfl, rfl, rfl, rfl, trivial⟩, hO, cC, c6, cA, cD, dy, hB⟩ ?_
     intro X1 k1_16
     intro H hX1 σ w15
     refine andE fun hag => andE fun hO => andE fun cC => andE fun c6 => andE fun cA => andE fun cD => andE fun dy => fun hB => ?_
     refine Go1.keep [(1, .pointer (some ⟨B2, 0, none⟩)), (3, .int .i64 (a0.Table.length : Int)), (53, .slice dM a0.Table.length dN), (54, .int .i64 (a0.Table.length : Int)), (55, .int .i64 (k1_16 : Int))] hag ?_
     refine zq (zr ?_)
     by_cases h17 : (k1_16 : Int) < (a0.Table.length : Int)
     ·replace H := ifp h17 H
      refine zo (fun w => opB (J08 rfl rfl w) (decide_eq_true h17)) (zn (zq (zt rfl rfl (zk (zq ?_)))))
      refine zb (zq (zr ?_))
      obtain ⟨h18, H⟩ := H
      obtain ⟨h19, H⟩ := H
      refine zo (J02 Try.underlying23 ti31 rfl rfl h18 h19 (cC.some_ h18 h19)) ?_
      have zz := ldSl cC h18 h19
      obtain ⟨p20, c21, Fm, Td⟩ := zz
      refine zs (Td Try.underlying31 rfl rfl) (za rfl (zn (zq (zr (zm rfl ?_)))))
      refine zo (J0d Try.underlying31 rfl) ?_
      replace H := H Fm.bd
      refine zm rfl ?_
      by_cases h24 : ((ix a0.Table (k1_16 : Int)).length : Int) = (a0.Table.length : Int)
      ·replace H := ifp h24 H
       refine zo (fun w => opB (J0g rfl rfl w) (ndT h24)) (zm rfl (zm rfl (zm rfl ?_)))
       refine GoR.call (J0a body76 rfl (walk_syntactic_within hO.lt Fm H)) rfl rfl ?_
       rintro v29 w26 ⟨r25, rfl, HR, H⟩
       have sT := Stp.same hO HR
       replace hO := sT.own
       cases r25
       ·replace H := ifn Bool.false_ne_true H
        refine zo (J0l rfl) (zo (J04 rfl rfl rfl) (zn (zt rfl rfl (zq (zr ?_)))))
        refine za rfl (zn ?_)
        refine Go1.ret1 Try.func71 rfl ?_
        replace hB := hB.trans sT.fr
        exact ⟨false, rfl, hB.same, H⟩
       replace H := ifp rfl H
       refine zo (J0l rfl) (zo (J04 rfl rfl rfl) (zn (zf rfl rfl (zk ?_))))
       refine Go1.inBlock ?_
       refine zr ?_
       replace cC := cC.ch sT.ch
       refine zo (J0c rfl rfl (wrap_i64 (natbd h17 cC.bd))) (zm rfl (zn ?_))
       replace c6 := c6.ch sT.ch
       replace cA := cA.ch sT.ch
       replace cD := cD.ch sT.ch
       replace dy := dy.ch sT.ch
       replace hB := hB.trans sT.fr
       exact hX1 _ H _ _ ⟨⟨rfl, rfl, rfl, rfl, rfl, trivial⟩, hO, cC, c6, cA, cD, dy, hB⟩
      replace H := ifn h24 H
      refine zo (fun w => opB (J0g rfl rfl w) (ndF h24)) (zm rfl (zp (zp (zp (zp ?_)))))
      refine zo (J05 rfl rfl rfl) (zn (zt rfl rfl (zq ?_)))
      refine Go1.cut [] trivial ?_
      intro σ _
      refine zr (za rfl (zn ?_))
      refine Go1.ret1 Try.func71 rfl ?_
      exact ⟨false, rfl, hB.same, H⟩
     replace H := ifn h17 H
     refine zo (fun w => opB (J08 rfl rfl w) (decide_eq_false h17)) (zn (zq (zf rfl rfl ?_)))
     refine Go1.exit rfl ?_
     refine zq (zr (zo (J00 Try.underlying33 rfl ti31 rfl (by decide)) (zs (oblk (i := 3) 0 hO rfl rfl Try.underlying31 rfl rfl) (zm rfl ?_))))
     refine GoR.call (J0a body76 rfl (walk_syntactic_within hO.lt cA H)) rfl rfl ?_
     rintro v35 w32 ⟨r31, rfl, Te, H⟩
     have uo := Stp.same hO Te
     replace hO := uo.own
     refine za rfl (zn ?_)
     refine Go1.ret1 Try.func71 rfl ?_
     replace hB := hB.trans uo.fr
     exact ⟨r31, rfl, hB.same, H⟩
    replace H := ifn h14 H
    refine zo (fun w => opB (J0g rfl rfl w) (ndF h14)) (zo (J04 rfl rfl rfl) (zn (zt rfl rfl (zq (zr ?_)))))
    refine za rfl (zn ?_)
    refine Go1.ret1 Try.func71 rfl ?_
    replace hB := hB.trans cB.fr
    exact ⟨false, rfl, hB.same, H⟩
   replace H := ifn h13 H
   refine zo (fun w => opB (J0g rfl rfl w) (ndF h13)) (zo (J04 rfl rfl rfl) (zm rfl (zp (zp (zp ?_)))))
   refine zp (zp (zp (zo (J05 rfl rfl rfl) (zn (zt rfl rfl ?_)))))
   refine zq (zr (za rfl (zn ?_)))
   refine Go1.ret1 Try.func71 rfl ?_
   replace hB := hB.trans cB.fr
   exact ⟨false, rfl, hB.same, H⟩
  replace H := ifn h12 H
  refine zo (fun w => opB (J0g rfl rfl w) (ndF h12)) (zo (J04 rfl rfl rfl) (zm rfl (zp (zp (zp ?_)))))
  refine zp (zp (zo (J05 rfl rfl rfl) (zm rfl (zp (zp ?_)))))
  refine zp (zp (zp (zp (zo (J05 rfl rfl rfl) (zn ?_)))))
  refine zt rfl rfl (zq ?_)
  refine Go1.cut [] trivial ?_
  intro σ _
  refine zr (za rfl (zn ?_))
  refine Go1.ret1 Try.func71 rfl ?_
  replace hB := hB.trans cB.fr
  exact ⟨false, rfl, hB.same, H⟩
 replace H := ifn h11 H
 refine zo (fun w => opB (J0g rfl rfl w) (ndF h11)) (zm rfl (zp (zp (zp (zp ?_)))))
 refine zp (zo (J05 rfl rfl rfl) (zm rfl (zp (zp (zp ?_)))))
 refine zp (zp (zo (J05 rfl rfl rfl) (zm rfl (zp (zp ?_)))))
 refine zp (zp (zp (zp (zo (J05 rfl rfl rfl) (zn ?_)))))
 refine zt rfl rfl (zq ?_)
 refine Go1.cut [] trivial ?_
 intro σ _
 refine zr (za rfl (zn ?_))
 refine Go1.ret1 Try.func71 rfl ?_
 replace hB := hB.trans cB.fr
 exact ⟨false, rfl, hB.same, H⟩
theorem body72 : Body Try.prog 72 := ⟨Try.f72, Try.func72, rfl, by kernel_rfl⟩
theorem walk_syntactic_automaton {A : List Nat} {w0 : World} {bn : Option Addr} {bo : Nat} {bE : Option Addr} {bF : Nat} {bh : Option Addr} {bi : Nat} {bk : Option Addr} {bm : Nat} {bO : Option Addr} {bP : Nat} {s_ : Syntactic} (hA : ∀ b ∈ A, b < w0.heap.size) (aC : ISl (Rp.sl (Rp.int .i64)) A w0 bn bo s_.Table) (aL : ISl (Rp.str) A w0 bE bF s_.Words) (av : ISl (Rp.int .i64) A w0 bh bi s_.Images) (ax : ISl (Rp.bool) A w0 bk bm s_.Accept) (aY : ISl (Rp.bool) A w0 bO bP s_.Plus) {K : DFA → Prop} (H : J0C s_ K) :
    CallsV Try.prog 72 #[.agg #[.int .i64 s_.Letters, .slice bn s_.Table.length bo, .slice bE s_.Words.length bF, .slice bh s_.Images.length bi, .slice bk s_.Accept.length bm, .slice bO s_.Plus.length bP]] w0 (fun v w' => ∃ (r0 : DFA) (iT : Option Addr) (iU : Nat) (jy : Option Addr) (jz : Nat), v = .agg #[.int .i64 r0.Letters, .int .i64 r0.Start, .slice iT r0.Final.length iU, .slice jy r0.Next.length jz] ∧ Same w0 w' ∧ ISl (Rp.bool) A w' iT iU r0.Final ∧ ISl (Rp.sl (Rp.int .i64)) A w' jy jz r0.Next ∧ K r0) := by
 refine CallsV.of (l := [.agg #[.int .i64 s_.Letters, .slice bn s_.Table.length bo, .slice bE s_.Words.length bF, .slice bh s_.Images.length bi, .slice bk s_.Accept.length bm, .slice bO s_.Plus.length bP]]) Try.func72 rfl Try.ntmps72 rfl ?_
 have hO := Owns.start hA
 have hB := Fr.refl (bl []) w0
 unfold J0C at H
 refine zq (zr ?_)
 have zz := obox (t := 33) (v := .agg #[.int .i64 s_.Letters, .slice bn s_.Table.length bo, .slice bE s_.Words.length bF, .slice bh s_.Images.length bi, .slice bk s_.Accept.length bm, .slice bO s_.Plus.length bP]) (cs := #[.int .i64 s_.Letters, .slice bn s_.Table.length bo, .slice bE s_.Words.length bF, .slice bh s_.Images.length bi, .slice bk s_.Accept.length bm, .slice bO s_.Plus.length bP]) hO rfl
 obtain ⟨w1, B2, cB, hs4, ic⟩ := zz
 refine zg (ic rfl) ?_
 replace hO := cB.own
 have zz := oalloc (t := 25) (cs := #[.int .i64 0, .int .i64 0, .slice none 0 0, .slice none 0 0]) ti25 hO rfl
 obtain ⟨w7, B8, ja, xq, tI⟩ := zz
 refine GoR.op tI rfl rfl ?_
 replace hO := ja.own
 refine zn (zq ?_)
 refine Go1.cut [(1, .pointer (some ⟨B2, 0, none⟩)), (2, .pointer (some ⟨B8, 0, none⟩))] ⟨rfl, rfl, trivial⟩ ?_
 intro σ _
 refine Go1.drawA Same.tr A 1 [(0, .pure), (1, .stable), (2, .pure), (3, .stable), (5, .pure), (6, .stable), (7, .pure), (4, .loud), (8, .alloc), (9, .pure), (10, .alloc), (11, .last)] mixed (by kernel_rfl) trivial hO.bd ?_
 intro w13 Tf
 have nP := Stp.same hO Tf
 replace hO := nP.own
 have LO := hO.le
 replace hB := ((hB.trans cB.fr).trans ja.fr).trans nP.fr
 have hw16 := hB.ch.size
 refine GoQA.pure rfl (J00 Try.underlying33 rfl ti3 rfl (by decide)) rfl rfl ?_
 refine GoQA.stable rfl (oblk (i := 0) 1 hO rfl rfl Try.underlying3 rfl rfl) rfl rfl ?_
 refine GoQA.pure rfl (J00 Try.underlying33 rfl ti22 rfl (by decide)) rfl rfl ?_
 refine GoQA.stable rfl (oblk (i := 4) 1 hO rfl rfl Try.underlying22 rfl rfl) rfl rfl ?_
 refine GoQA.pure rfl (J00 Try.underlying33 rfl ti23 rfl (by decide)) rfl rfl ?_
 refine GoQA.stable rfl (oblk (i := 1) 1 hO rfl rfl Try.underlying23 rfl rfl) rfl rfl ?_
 refine GoQA.pure rfl (J0d Try.underlying23 rfl) rfl rfl ?_
 have Z1 := (((Ch.start A w0).trans cB.ch).trans ja.ch).trans nP.ch
 replace aC := aC.ch Z1
 replace H := H aC.bd
 refine GoQA.loudI rfl rfl ?_
 intro w18 A19 Ap
 replace hO := Ap.own hO
 replace ax := (ax.ch Z1).ch (Ap.ch _)
 refine GoAt.call (J0a body69 rfl (walk_slices_Clone_bool hO.lt ax H)) (fun v w hr => ⟨fun _ => (by obtain ⟨_, _, _, _, _, _, hs, _, _, _⟩ := hr; exact hs), Same.kp hO (by obtain ⟨_, _, _, _, _, _, hs, _, _, _⟩ := hr; exact hs)⟩) rfl ?_
 rintro v26 w23 ⟨r21, fI, fq, ft, jE, rfl, Ix, hN25, fX, H⟩
 have qL := Stp.more hO Ix hN25
 replace hO := qL.own
 obtain ⟨h39, H⟩ := H
 obtain ⟨h40, H⟩ := H
 refine GoQA.alloc rfl rfl (alMake2 (e' := 3) (Fl.int .i64) Try.underlying23 ti31 h39 h40 (by decide) rfl rfl) ?_
 intro w30 A31 b32 A33 yK LP hd36 hnb37 hh38
 replace hO := yK.own hO
 have BJ := gainCh (w := w30) (E := [.row 4 1 fq fI ft jE, .blk B8 (.cells #[.int .i64 0, .int .i64 0, .slice none 0 0, .slice none 0 0] 25 (0, 0)), .blk B2 (.cells #[.int .i64 s_.Letters, .slice bn s_.Table.length bo, .slice bE s_.Words.length bF, .slice bh s_.Images.length bi, .slice bk s_.Accept.length bm, .slice bO s_.Plus.length bP] 33 (0, 0))]) (e := t2 (Fl.int .i64) 31 3 (some ⟨b32, 0, none⟩) s_.Table.length s_.Table.length ((fun _ => (none, 0))) (List.replicate s_.Table.length ([] : List Int))) LP (t2fp_new b32)
 replace hB := ((hB.trans (Ap.same.fr _)).trans qL.fr).trans (yK.same.fr _)
 replace hB := Fr.gain (e := t2 (Fl.int .i64) 31 3 (some ⟨b32, 0, none⟩) s_.Table.length s_.Table.length ((fun _ => (none, 0))) (List.replicate s_.Table.length ([] : List Int))) hB (Nat.le_trans hw16 hnb37) (t2fp_new b32)
 replace hO := Owns.gain hO LP LO (t2fp_new b32) hh38 hd36
 refine GoQA.pure rfl (J0q Try.underlying25 ti25 (pl := [(0, 1), (1, 1), (2, 1), (3, 1)]) (vs := [(0, .int .i64 s_.Letters), (2, .slice fq fI ft), (3, .slice (some ⟨b32, 0, none⟩) s_.Table.length s_.Table.length)]) (cs := #[.int .i64 s_.Letters, .int .i64 0, .slice fq fI ft, .slice (some ⟨b32, 0, none⟩) s_.Table.length s_.Table.length]) (by kernel_rfl) rfl (by kernel_rfl)) rfl rfl ?_
 refine GoQA.alloc rfl rfl (alAlloc (cs := #[.int .i64 0, .int .i64 0, .slice none 0 0, .slice none 0 0]) ti25 rfl) ?_
 intro w43 A44 b45 A46 yL LQ hd49 hnb50 hh51
 replace hO := yL.own hO
 have BK := gainCh (w := w43) (E := [t2 (Fl.int .i64) 31 3 (some ⟨b32, 0, none⟩) s_.Table.length s_.Table.length ((fun _ => (none, 0))) (List.replicate s_.Table.length ([] : List Int)), .row 4 1 fq fI ft jE, .blk B8 (.cells #[.int .i64 0, .int .i64 0, .slice none 0 0, .slice none 0 0] 25 (0, 0)), .blk B2 (.cells #[.int .i64 s_.Letters, .slice bn s_.Table.length bo, .slice bE s_.Words.length bF, .slice bh s_.Images.length bi, .slice bk s_.Accept.length bm, .slice bO s_.Plus.length bP] 33 (0, 0))]) (e := .blk b45 (.cells #[.int .i64 0, .int .i64 0, .slice none 0 0, .slice none 0 0] 25 (0, 0))) LQ rfl
 replace hB := hB.trans (yL.same.fr _)
 replace hB := Fr.gain (e := .blk b45 (.cells #[.int .i64 0, .int .i64 0, .slice none 0 0, .slice none 0 0] 25 (0, 0))) hB (Nat.le_trans hw16 hnb50) rfl
 replace hO := Owns.gain hO LQ LO rfl hh51 hd49
 refine GoQA.lastI rfl rfl ?_
 intro w53 A54 yM
 replace hO := yM.own hO
 have zz := J0b (us := [.int .i64 s_.Letters, .int .i64 0, .slice fq fI ft, .slice (some ⟨b32, 0, none⟩) s_.Table.length s_.Table.length]) (o := 0) (cs' := #[.int .i64 s_.Letters, .int .i64 0, .slice fq fI ft, .slice (some ⟨b32, 0, none⟩) s_.Table.length s_.Table.length]) 0 hO rfl rfl (Nat.le_of_ble_eq_true rfl) rfl
 obtain ⟨w56, iv, Qu⟩ := zz
 dsimp only [sS, sZ] at iv
 refine GoAt.step (Qu ti25 (by exact rfl) (by exact rfl) rfl) (fun h => nomatch h) (Stp.kp hO iv) rfl ?_
 replace hO := iv.own
 refine GoQA.nil ?_
 intro w59 A60 yN Aq
 replace hO := yN.own hO
 replace hO := hO.permA Aq
 refine zq (zq (zr (zo (J00 Try.underlying33 rfl ti23 rfl (by decide)) (zs (oblk (i := 1) 4 hO rfl rfl Try.underlying23 rfl rfl) (zo (J0d Try.underlying23 rfl) ?_)))))
 refine zm rfl (zn (zb ?_))
 replace fX := fX.ch (Ch.assoc _ _ _ _)
 replace hB := ((hB.trans (yM.same.fr _)).trans iv.fr).trans (yN.same.fr _)
 have Z2 := (((((((yK.ch _).trans BJ).trans (yL.ch _)).trans BK).trans (yM.ch _)).trans iv.ch).trans (yN.ch _)).trans (permCh Aq _)
 replace fX := fX.ch Z2
 have Z3 := (((((((qL.ch.trans (yK.ch _)).trans BJ).trans (yL.ch _)).trans BK).trans (yM.ch _)).trans iv.ch).trans (yN.ch _)).trans (permCh Aq _)
 replace ax := ax.ch Z3
 have Z4 := (((((((((Ap.ch _).trans qL.ch).trans (yK.ch _)).trans BJ).trans (yL.ch _)).trans BK).trans (yM.ch _)).trans iv.ch).trans (yN.ch _)).trans (permCh Aq _)
 replace aC := aC.ch Z4
 have Z5 := (((((((((Z1.trans (Ap.ch _)).trans qL.ch).trans (yK.ch _)).trans BJ).trans (yL.ch _)).trans BK).trans (yM.ch _)).trans iv.ch).trans (yN.ch _)).trans (permCh Aq _)
 replace aL := aL.ch Z5
 replace av := av.ch Z5
 replace aY := aY.ch Z5
 refine Go1.loopW (S := Nat × List (List Int)) (fun s σ w => match s with | (k1_64, d_65) => ∃ (ie : Hd), agrees σ [(1, .pointer (some ⟨B2, 0, none⟩)), (2, .pointer (some ⟨B8, 0, none⟩)), (3, .pointer (some ⟨b45, 0, none⟩)), (19, .slice bn s_.Table.length bo), (20, .int .i64 (s_.Table.length : Int)), (21, .int .i64 (k1_64 : Int))] ∧ (fun Z0 => Owns w0.heap.size w Z0 A ∧ Els (Rp.bool) (bl Z0 ++ A) w jE r21 ∧ ISl (Rp.sl (Rp.int .i64)) (bl Z0 ++ A) w bn bo s_.Table ∧ ISl (Rp.str) (bl Z0 ++ A) w bE bF s_.Words ∧ ISl (Rp.int .i64) (bl Z0 ++ A) w bh bi s_.Images ∧ ISl (Rp.bool) (bl Z0 ++ A) w bk bm s_.Accept ∧ ISl (Rp.bool) (bl Z0 ++ A) w bO bP s_.Plus ∧ Fr (bl []) w0 (bl Z0) w) [.blk b45 (.cells #[.int .i64 s_.Letters, .int .i64 0, .slice fq fI ft, .slice (some ⟨b32, 0, none⟩) s_.Table.length s_.Table.length] 25 (0, 0)), t2 (Fl.int .i64) 31 3 (some ⟨b32, 0, none⟩) s_.Table.length s_.Table.length ie d_65, .row 4 1 fq fI ft jE, .blk B8 (.cells #[.int .i64 0, .int .i64 0, .slice none 0 0, .slice none 0 0] 25 (0, 0)), .blk B2 (.cells #[.int .i64 s_.Letters, .slice bn s_.Table.length bo, .slice bE s_.Words.length bF, .slice bh s_.Images.length bi, .slice bk s_.Accept.length bm, .slice bO s_.Plus.length bP] 33 (0, 0))]) H ⟨(fun _ => (none, 0)), ⟨rfl, rfl, rfl, rfl, rfl, rfl, trivial⟩, hO, fX, aC, aL, av, ax, aY, hB⟩ ?_
 intro X1
 refine prE fun k1_64 => fun d_65 => ?_
 intro H hX1 σ w63
 refine exE fun ie => andE fun hag => andE fun hO => andE fun fX => andE fun aC => andE fun aL => andE fun av => andE fun ax => andE fun aY => fun hB => ?_
 dsimp only at H
 refine Go1.keep [(1, .pointer (some ⟨B2, 0, none⟩)), (2, .pointer (some ⟨B8, 0, none⟩)), (3, .pointer (some ⟨b45, 0, none⟩)), (19, .slice bn s_.Table.length bo), (20, .int .i64 (s_.Table.length : Int)), (21, .int .i64 (k1_64 : Int))] hag ?_
 refine zq (zr ?_)
 by_cases h67 : (k1_64 : Int) < (s_.Table.length : Int)
 ·replace H := ifp h67 H
  refine zo (fun w => opB (J08 rfl rfl w) (decide_eq_true h67)) (zn (zq (zt rfl rfl (zk (zq ?_)))))
  refine zb (zq (zr (zm rfl ?_)))
  obtain ⟨h68, H⟩ := H
  obtain ⟨h69, H⟩ := H
  refine zo (J02 Try.underlying23 ti31 rfl rfl h68 h69 (aC.some_ h68 h69)) ?_
  have zz := ldSl aC h68 h69
  obtain ⟨p70, c71, kI, Tg⟩ := zz
  refine zs (Tg Try.underlying31 rfl rfl) (za rfl (za rfl (zn (zq ?_))))
  refine Go1.drawS 1 [(0, .pure), (1, .stable), (2, .pure), (3, .pure), (4, .stable), (5, .loud), (6, .pure), (7, .last)] mixed (by kernel_rfl) ?_
  intro w74 Th
  have wy := Stp.same hO Th
  replace hO := wy.own
  refine GoQ.pure rfl (J00 Try.underlying25 rfl ti23 rfl (by decide)) rfl rfl ?_
  refine GoQ.stable rfl (oblk (i := 3) 0 hO rfl rfl Try.underlying23 rfl rfl) rfl rfl ?_
  refine GoQ.pure rfl (J03 rfl) rfl rfl ?_
  refine GoQ.pure rfl (J00 Try.underlying33 rfl ti3 rfl (by decide)) rfl rfl ?_
  refine GoQ.stable rfl (oblk (i := 0) 4 hO rfl rfl Try.underlying3 rfl rfl) rfl rfl ?_
  obtain ⟨h84, H⟩ := H
  obtain ⟨h85, H⟩ := H
  have zz := omake (n := s_.Letters) (r := Rp.int .i64) (d := (0 : Int)) Try.underlying31 ti3 (fun _ _ => rfl) rfl hO h84 h85 (by decide)
  obtain ⟨w77, p78, aak, jG, ns, Tj, Ew⟩ := zz
  refine GoQ.loud rfl (Ew rfl rfl) Tj rfl rfl ?_
  replace hO := jG.own
  obtain ⟨h87, H⟩ := H
  obtain ⟨h88, H⟩ := H
  refine GoQ.pure rfl (J02 Try.underlying23 ti31 rfl rfl h87 (ltn (t2neq 2 hO rfl) h88) (t2some 2 hO rfl h87 h88)) rfl rfl ?_
  have gQ := Stp.front 2 hO rfl
  dsimp only [eS, eZ] at gQ
  replace hO := gQ.own
  have ve := Stp.front 1 hO rfl
  dsimp only [eS, eZ] at ve
  replace hO := ve.own
  replace ns := (ns.ch gQ.ch).ch ve.ch
  have zz := t2put (hf := (Fl.int .i64)) hO ns h87 h88
  obtain ⟨w91, qT, Qv⟩ := zz
  refine GoQ.last rfl (Qv Try.underlying31 rfl ti31 (by exact rfl) (by exact rfl)) rfl rfl ?_
  replace hO := qT.own
  refine GoQ.nil ?_
  refine zq (zr (zo (J00 Try.underlying33 rfl ti31 rfl (by decide)) (zs (oblk (i := 3) 4 hO rfl rfl Try.underlying31 rfl rfl) (zo (J0d Try.underlying31 rfl) ?_))))
  have Z6 := (((wy.ch.trans jG.ch).trans gQ.ch).trans ve.ch).trans qT.ch
  replace av := av.ch Z6
  replace H := H av.bd
  refine zm rfl (zn (zb ?_))
  replace fX := fX.ch Z6
  replace aC := aC.ch Z6
  replace aL := aL.ch Z6
  replace ax := ax.ch Z6
  replace aY := aY.ch Z6
  replace kI := kI.ch Z6
  replace hB := ((((hB.trans wy.fr).trans jG.fr).trans gQ.fr).trans ve.fr).trans qT.fr
  refine Go1.loopW (S := Nat × List (List Int)) (fun s σ w => match s with | (k2_95, d_96) => agrees σ [(1, .pointer (some ⟨B2, 0, none⟩)), (2, .pointer (some ⟨B8, 0, none⟩)), (3, .pointer (some ⟨b45, 0, none⟩)), (4, .int .i64 (k1_64 : Int)), (5, .slice p70 ((ix s_.Table (k1_64 : Int)).length) c71), (19, .slice bn s_.Table.length bo), (20, .int .i64 (s_.Table.length : Int)), (21, .int .i64 (k1_64 : Int)), (34, .slice bh s_.Images.length bi), (35, .int .i64 (s_.Images.length : Int)), (36, .int .i64 (k2_95 : Int))] ∧ (fun Z0 => Owns w0.heap.size w Z0 A ∧ Els (Rp.bool) (bl Z0 ++ A) w jE r21 ∧ ISl (Rp.sl (Rp.int .i64)) (bl Z0 ++ A) w bn bo s_.Table ∧ ISl (Rp.str) (bl Z0 ++ A) w bE bF s_.Words ∧ ISl (Rp.int .i64) (bl Z0 ++ A) w bh bi s_.Images ∧ ISl (Rp.bool) (bl Z0 ++ A) w bk bm s_.Accept ∧ ISl (Rp.bool) (bl Z0 ++ A) w bO bP s_.Plus ∧ ISl (Rp.int .i64) (bl Z0 ++ A) w p70 c71 (ix s_.Table (k1_64 : Int)) ∧ Fr (bl []) w0 (bl Z0) w) [t2 (Fl.int .i64) 31 3 (some ⟨b32, 0, none⟩) s_.Table.length s_.Table.length (hup ie (k1_64 : Int).toNat (p78, s_.Letters.toNat)) d_96, .blk b45 (.cells #[.int .i64 s_.Letters, .int .i64 0, .slice fq fI ft, .slice (some ⟨b32, 0, none⟩) s_.Table.length s_.Table.length] 25 (0, 0)), .row 4 1 fq fI ft jE, .blk B8 (.cells #[.int .i64 0, .int .i64 0, .slice none 0 0, .slice none 0 0] 25 (0, 0)), .blk B2 (.cells #[.int .i64 s_.Letters, .slice bn s_.Table.length bo, .slice bE s_.Words.length bF, .slice bh s_.Images.length bi, .slice bk s_.Accept.length bm, .slice bO s_.Plus.length bP] 33 (0, 0))]) H ⟨⟨rfl, rfl, rfl, rfl, rfl, rfl, rfl, rfl, rfl, rfl, rfl, trivial⟩, hO, fX, aC, aL, av, ax, aY, kI, hB⟩ ?_
  intro X2
  refine prE fun k2_95 => fun d_96 => ?_
  intro H hX2 σ w94
  refine andE fun hag => andE fun hO => andE fun fX => andE fun aC => andE fun aL => andE fun av => andE fun ax => andE fun aY => andE fun kI => fun hB => ?_
  dsimp only at H
  refine Go1.keep [(1, .pointer (some ⟨B2, 0, none⟩)), (2, .pointer (some ⟨B8, 0, none⟩)), (3, .pointer (some ⟨b45, 0, none⟩)), (4, .int .i64 (k1_64 : Int)), (5, .slice p70 ((ix s_.Table (k1_64 : Int)).length) c71), (19, .slice bn s_.Table.length bo), (20, .int .i64 (s_.Table.length : Int)), (21, .int .i64 (k1_64 : Int)), (34, .slice bh s_.Images.length bi), (35, .int .i64 (s_.Images.length : Int)), (36, .int .i64 (k2_95 : Int))] hag ?_
  refine zq (zr ?_)
  by_cases h97 : (k2_95 : Int) < (s_.Images.length : Int)
  ·replace H := ifp h97 H
   refine zo (fun w => opB (J08 rfl rfl w) (decide_eq_true h97)) (zn (zq (zt rfl rfl (zk (zq ?_)))))
   refine zb (zq (zr (zm rfl ?_)))
   obtain ⟨h98, H⟩ := H
   obtain ⟨h99, H⟩ := H
   refine zo (J02 Try.underlying31 ti3 rfl rfl h98 h99 (av.some_ h98 h99)) (zs (ldInt av h98 h99 Try.underlying3 rfl rfl) (za rfl (za rfl (zn ?_))))
   refine Go1.drawS 1 [(0, .pure), (1, .stable), (2, .pure), (3, .pure), (4, .stable), (5, .pure), (6, .pure), (7, .pure), (8, .pure), (9, .stable), (10, .pure), (11, .last)] mixed (by kernel_rfl) ?_
   intro Rh Qw
   have vg := Stp.same hO Qw
   replace hO := vg.own
   refine GoQ.pure rfl (J00 Try.underlying25 rfl ti23 rfl (by decide)) rfl rfl ?_
   refine GoQ.stable rfl (oblk (i := 3) 1 hO rfl rfl Try.underlying23 rfl rfl) rfl rfl ?_
   refine GoQ.pure rfl (J03 rfl) rfl rfl ?_
   obtain ⟨zU, H⟩ := H
   obtain ⟨uQ, H⟩ := H
   refine GoQ.pure rfl (J02 Try.underlying23 ti31 rfl rfl zU (ltn (t2neq 0 hO rfl) uQ) (t2some 0 hO rfl zU uQ)) rfl rfl ?_
   refine GoQ.stable rfl (t2head 0 hO rfl zU uQ Try.underlying31 rfl rfl) rfl rfl ?_
   refine GoQ.pure rfl (J03 rfl) rfl rfl ?_
   refine GoQ.pure rfl (J03 rfl) rfl rfl ?_
   refine GoQ.pure rfl (J03 rfl) rfl rfl ?_
   obtain ⟨wK, H⟩ := H
   obtain ⟨Ab, H⟩ := H
   replace kI := kI.ch vg.ch
   refine GoQ.pure rfl (J02 Try.underlying31 ti3 rfl rfl wK Ab (kI.some_ wK Ab)) rfl rfl ?_
   refine GoQ.stable rfl (ldInt kI wK Ab Try.underlying3 rfl rfl) rfl rfl ?_
   obtain ⟨nM, H⟩ := H
   obtain ⟨qJ, H⟩ := H
   refine GoQ.pure rfl (J02 Try.underlying31 ti3 rfl rfl nM qJ (t2isome 0 hO rfl zU uQ nM qJ)) rfl rfl ?_
   have zz := t2st (r := Rp.int .i64) (hf := (Fl.int .i64)) rfl 0 hO rfl zU uQ nM qJ (v := .int .i64 (ix (ix s_.Table (k1_64 : Int)) (ix s_.Images (k2_95 : Int)))) (u := (ix (ix s_.Table (k1_64 : Int)) (ix s_.Images (k2_95 : Int)))) rfl rfl
   obtain ⟨Jf, kF, CR⟩ := zz
   dsimp only [sS, sZ] at kF
   refine GoQ.last rfl (CR Try.underlying3 rfl ti3 (by exact rfl) (by exact rfl)) rfl rfl ?_
   replace hO := kF.own
   refine GoQ.nil ?_
   refine Go1.inBlock ?_
   refine zr ?_
   replace av := (av.ch vg.ch).ch kF.ch
   refine zo (J0c rfl rfl (wrap_i64 (natbd h97 av.bd))) (zm rfl (zn ?_))
   replace kI := kI.ch kF.ch
   have Z7 := vg.ch.trans kF.ch
   replace fX := fX.ch Z7
   replace aC := aC.ch Z7
   replace aL := aL.ch Z7
   replace ax := ax.ch Z7
   replace aY := aY.ch Z7
   replace hB := (hB.trans vg.fr).trans kF.fr
   exact hX2 _ H _ _ ⟨⟨rfl, rfl, rfl, rfl, rfl, rfl, rfl, rfl, rfl, rfl, rfl, trivial⟩, hO, fX, aC, aL, av, ax, aY, kI, hB⟩
  replace H := ifn h97 H
  refine zo (fun w => opB (J08 rfl rfl w) (decide_eq_false h97)) (zn (zq (zf rfl rfl ?_)))
  refine Go1.exit rfl ?_
  refine Go1.inBlock ?_
  refine Go1.cut [(1, .pointer (some ⟨B2, 0, none⟩)), (2, .pointer (some ⟨B8, 0, none⟩)), (3, .pointer (some ⟨b45, 0, none⟩)), (19, .slice bn s_.Table.length bo), (20, .int .i64 (s_.Table.length : Int)), (21, .int .i64 (k1_64 : Int))] ⟨rfl, rfl, rfl, rfl, rfl, rfl, trivial⟩ ?_
  intro σ _
  refine zr (zo (J0c rfl rfl (wrap_i64 (natbd h67 aC.bd))) (zm rfl (zn ?_)))
  have l7 := Stp.front 4 hO rfl
  dsimp only [eS, eZ] at l7
  replace hO := l7.own
  have kX := Stp.front 4 hO rfl
  dsimp only [eS, eZ] at kX
  replace hO := kX.own
  have ul := Stp.front 4 hO rfl
  dsimp only [eS, eZ] at ul
  replace hO := ul.own
  have iu := Stp.front 3 hO rfl
  dsimp only [eS, eZ] at iu
  replace hO := iu.own
  have mK := Stp.front 4 hO rfl
  dsimp only [eS, eZ] at mK
  replace hO := mK.own
  have Z8 := (((l7.ch.trans kX.ch).trans ul.ch).trans iu.ch).trans mK.ch
  replace fX := fX.ch Z8
  replace aC := aC.ch Z8
  replace aL := aL.ch Z8
  replace av := av.ch Z8
  replace ax := ax.ch Z8
  replace aY := aY.ch Z8
  replace hB := ((((hB.trans l7.fr).trans kX.fr).trans ul.fr).trans iu.fr).trans mK.fr
  exact hX1 _ H _ _ ⟨hup ie (k1_64 : Int).toNat (p78, s_.Letters.toNat), ⟨rfl, rfl, rfl, rfl, rfl, rfl, trivial⟩, hO, fX, aC, aL, av, ax, aY, hB⟩
 replace H := ifn h67 H
 refine zo (fun w => opB (J08 rfl rfl w) (decide_eq_false h67)) (zn (zq (zf rfl rfl ?_)))
 refine Go1.exit rfl ?_
 refine zq (zr (zs (J0j (vs := [.int .i64 s_.Letters, .int .i64 0, .slice fq fI ft, .slice (some ⟨b32, 0, none⟩) s_.Table.length s_.Table.length]) (i := 0) 0 hO rfl rfl Try.underlying25 rfl ti25 rfl) ?_))
 have zz := J0b (us := [.int .i64 s_.Letters, .int .i64 0, .slice fq fI ft, .slice (some ⟨b32, 0, none⟩) s_.Table.length s_.Table.length]) (o := 0) (cs' := #[.int .i64 s_.Letters, .int .i64 0, .slice fq fI ft, .slice (some ⟨b32, 0, none⟩) s_.Table.length s_.Table.length]) 3 hO rfl rfl (Nat.le_of_ble_eq_true rfl) rfl
 obtain ⟨Rr, vh, Dz⟩ := zz
 dsimp only [sS, sZ] at vh
 refine zg (Dz ti25 (by exact rfl) (by exact rfl) rfl) ?_
 replace hO := vh.own
 refine zn ?_
 replace fX := fX.ch vh.ch
 have zz := freeze 2 hO rfl fX
 obtain ⟨hO1, zy, Co, Qx⟩ := zz
 dsimp only [eS, eZ] at hO1 zy Co
 replace hB := (hB.trans vh.fr).trans (Owns.J09 _ _ 2)
 dsimp only [eS, eZ] at hB
 replace hO := hO1; clear hO1
 have zz := t2freezeA 1 hO rfl
 obtain ⟨hO1, yk, Iv, Qy⟩ := zz
 dsimp only [eS, eZ] at hO1 yk Iv
 replace hB := hB.trans (Owns.J09 _ _ 1)
 dsimp only [eS, eZ] at hB
 replace hO := hO1; clear hO1
 refine Go1.retC1 Try.func72 rfl rfl (J0f (vs := [.int .i64 s_.Letters, .int .i64 0, .slice fq fI ft, .slice (some ⟨b32, 0, none⟩) s_.Table.length s_.Table.length]) 1 hO rfl rfl Try.underlying25 rfl ti25) ?_
 replace Co := Co.ch yk
 exact ⟨(⟨s_.Letters, (0 : Int), r21, d_65⟩ : DFA), fq, ft, (some ⟨b32, 0, none⟩), s_.Table.length, (congrArg (fun l => Value.agg (List.toArray l)) (J0h rfl (J0h rfl (J0h (congrArg (fun nn => Value.slice fq nn ft) Qx) (J0h (congrArg (fun nn => Value.slice (some ⟨b32, 0, none⟩) nn s_.Table.length) Qy) rfl))))), hB.same, (Co.ch (Ch.weak _ _ _)), (Iv.ch (Ch.weak _ _ _)), H⟩
theorem body73 : Body Try.prog 73 := ⟨Try.f73, Try.func73, rfl, by kernel_rfl⟩
theorem walk_slices_Equal_int {A : List Nat} {w0 : World} {qz : Option Addr} {qA : Nat} {qB : Option Addr} {qC : Nat} {s1 : List Int} {s2 : List Int} (hA : ∀ b ∈ A, b < w0.heap.size) (iF : ISl (Rp.int .i64) A w0 qz qA s1) (iM : ISl (Rp.int .i64) A w0 qB qC s2) {K : Bool → Prop} (H : J0U s1 s2 K) :
    CallsV Try.prog 73 #[.slice qz s1.length qA, .slice qB s2.length qC] w0 (fun v w' => ∃ (r0 : Bool), v = .bool r0 ∧ Same w0 w' ∧ K r0) := by
 refine CallsV.of (l := [.slice qz s1.length qA, .slice qB s2.length qC]) Try.func73 rfl Try.ntmps73 rfl ?_
 have hO := Owns.start hA
 have hB := Fr.refl (bl []) w0
 unfold J0U at H
 refine zq (zr (za rfl (zn (zq (zq ?_)))))
 refine zr (zm rfl (zo (J0d Try.underlying31 rfl) ?_))
 replace iF := iF.ch (Ch.start A w0)
 replace H := H iF.bd
 refine zm rfl (zo (J0d Try.underlying31 rfl) ?_)
 replace iM := iM.ch (Ch.start A w0)
 replace H := H iM.bd
 by_cases h1 : (s1.length : Int) = (s2.length : Int)
 ·replace H := ifp h1 H
  refine zo (fun w => opB (J0g rfl rfl w) (ndT h1)) (zn (zf rfl rfl (zk (zq (zq ?_)))))
  refine zr (zm rfl (zo (J0d Try.underlying31 rfl) (zm rfl (zn (zb ?_)))))
  refine Go1.loopW (S := Nat) (fun s σ w => agrees σ [(0, .slice qz s1.length qA), (1, .slice qB s2.length qC), (12, .int .i64 (s1.length : Int)), (13, .int .i64 (s : Int))] ∧ Owns w0.heap.size w [] A ∧ ISl (Rp.int .i64) (bl [] ++ A) w qz qA s1 ∧ ISl (Rp.int .i64) (bl [] ++ A) w qB qC s2 ∧ Fr (bl []) w0 (bl []) w) H ⟨⟨rfl, rfl, rfl, rfl, trivial⟩, hO, iF, iM, hB⟩ ?_
  intro X1 k1_3
  intro H hX1 σ w2
  refine andE fun hag => andE fun hO => andE fun iF => andE fun iM => fun hB => ?_
  refine Go1.keep [(0, .slice qz s1.length qA), (1, .slice qB s2.length qC), (12, .int .i64 (s1.length : Int)), (13, .int .i64 (k1_3 : Int))] hag ?_
  refine zq (zr ?_)
  by_cases h4 : (k1_3 : Int) < (s1.length : Int)
  ·replace H := ifp h4 H
   refine zo (fun w => opB (J08 rfl rfl w) (decide_eq_true h4)) (zn (zq (zt rfl rfl (zk (zq ?_)))))
   refine zb (zq (zr (zm rfl (za rfl (zn ?_)))))
   refine zq ?_
   refine Go1.drawS 0 [(0, .pure), (1, .pure), (2, .pure), (3, .stable), (4, .pure), (5, .pure), (6, .pure), (7, .stable), (8, .pure)] mixed (by kernel_rfl) ?_
   intro w5 hs6
   have mU := Stp.same hO hs6
   replace hO := mU.own
   refine GoQ.pure rfl (J03 rfl) rfl rfl ?_
   refine GoQ.pure rfl (J03 rfl) rfl rfl ?_
   obtain ⟨h8, H⟩ := H
   obtain ⟨h9, H⟩ := H
   replace iF := iF.ch mU.ch
   refine GoQ.pure rfl (J02 Try.underlying31 ti3 rfl rfl h8 h9 (iF.some_ h8 h9)) rfl rfl ?_
   refine GoQ.stable rfl (ldInt iF h8 h9 Try.underlying3 rfl rfl) rfl rfl ?_
   refine GoQ.pure rfl (J03 rfl) rfl rfl ?_
   refine GoQ.pure rfl (J03 rfl) rfl rfl ?_
   obtain ⟨h10, H⟩ := H
   obtain ⟨h11, H⟩ := H
   replace iM := iM.ch mU.ch
   refine GoQ.pure rfl (J02 Try.underlying31 ti3 rfl rfl h10 h11 (iM.some_ h10 h11)) rfl rfl ?_
   refine GoQ.stable rfl (ldInt iM h10 h11 Try.underlying3 rfl rfl) rfl rfl ?_
   by_cases h12 : (ix s1 (k1_3 : Int)) = (ix s2 (k1_3 : Int))
   ·replace H := ifp h12 H
    refine GoQ.pure rfl (fun w => opB (J0g rfl rfl w) (ndT h12)) rfl rfl ?_
    refine GoQ.nil ?_
    refine zf rfl rfl (zk ?_)
    refine Go1.inBlock ?_
    refine zr (zo (J0c rfl rfl (wrap_i64 (natbd h4 iF.bd))) (zm rfl (zn ?_)))
    replace hB := hB.trans mU.fr
    exact hX1 _ H _ _ ⟨⟨rfl, rfl, rfl, rfl, trivial⟩, hO, iF, iM, hB⟩
   replace H := ifn h12 H
   refine GoQ.pure rfl (fun w => opB (J0g rfl rfl w) (ndF h12)) rfl rfl ?_
   refine GoQ.nil ?_
   refine zt rfl rfl (zq (zr (za rfl (zn ?_))))
   refine Go1.ret1 Try.func73 rfl ?_
   replace hB := hB.trans mU.fr
   exact ⟨false, rfl, hB.same, H⟩
  replace H := ifn h4 H
  refine zo (fun w => opB (J08 rfl rfl w) (decide_eq_false h4)) (zn (zq (zf rfl rfl ?_)))
  refine Go1.exit rfl ?_
  refine zq (zr (za rfl (zn ?_)))
  refine Go1.ret1 Try.func73 rfl ?_
  exact ⟨true, rfl, hB.same, H⟩
 replace H := ifn h1 H
 refine zo (fun w => opB (J0g rfl rfl w) (ndF h1)) (zn (zt rfl rfl (zq (zr (za rfl ?_)))))
 refine zn ?_
 refine Go1.ret1 Try.func73 rfl ?_
 exact ⟨false, rfl, hB.same, H⟩
theorem body74 : Body Try.prog 74 := ⟨Try.f74, Try.func74, rfl, by kernel_rfl⟩
theorem walk_slices_Equal_string {A : List Nat} {w0 : World} {qz : Option Addr} {qA : Nat} {qB : Option Addr} {qC : Nat} {s1 : List Str} {s2 : List Str} (hA : ∀ b ∈ A, b < w0.heap.size) (iF : ISl (Rp.str) A w0 qz qA s1) (iM : ISl (Rp.str) A w0 qB qC s2) {K : Bool → Prop} (H : J0S s1 s2 K) :
    CallsV Try.prog 74 #[.slice qz s1.length qA, .slice qB s2.length qC] w0 (fun v w' => ∃ (r0 : Bool), v = .bool r0 ∧ Same w0 w' ∧ K r0) := by
 refine CallsV.of (l := [.slice qz s1.length qA, .slice qB s2.length qC]) Try.func74 rfl Try.ntmps74 rfl ?_
 have hO := Owns.start hA
 have hB := Fr.refl (bl []) w0
 unfold J0S at H
 refine zq (zr (za rfl (zn (zq (zq ?_)))))
 refine zr (zm rfl (zo (J0d Try.underlying30 rfl) ?_))
 replace iF := iF.ch (Ch.start A w0)
 replace H := H iF.bd
 refine zm rfl (zo (J0d Try.underlying30 rfl) ?_)
 replace iM := iM.ch (Ch.start A w0)
 replace H := H iM.bd
 by_cases h1 : (s1.length : Int) = (s2.length : Int)
 ·replace H := ifp h1 H
  refine zo (fun w => opB (J0g rfl rfl w) (ndT h1)) (zn (zf rfl rfl (zk (zq (zq ?_)))))
  refine zr (zm rfl (zo (J0d Try.underlying30 rfl) (zm rfl (zn (zb ?_)))))
  refine Go1.loopW (S := Nat) (fun s σ w => agrees σ [(0, .slice qz s1.length qA), (1, .slice qB s2.length qC), (12, .int .i64 (s1.length : Int)), (13, .int .i64 (s : Int))] ∧ Owns w0.heap.size w [] A ∧ ISl (Rp.str) (bl [] ++ A) w qz qA s1 ∧ ISl (Rp.str) (bl [] ++ A) w qB qC s2 ∧ Fr (bl []) w0 (bl []) w) H ⟨⟨rfl, rfl, rfl, rfl, trivial⟩, hO, iF, iM, hB⟩ ?_
  intro X1 k1_3
  intro H hX1 σ w2
  refine andE fun hag => andE fun hO => andE fun iF => andE fun iM => fun hB => ?_
  refine Go1.keep [(0, .slice qz s1.length qA), (1, .slice qB s2.length qC), (12, .int .i64 (s1.length : Int)), (13, .int .i64 (k1_3 : Int))] hag ?_
  refine zq (zr ?_)
  by_cases h4 : (k1_3 : Int) < (s1.length : Int)
  ·replace H := ifp h4 H
   refine zo (fun w => opB (J08 rfl rfl w) (decide_eq_true h4)) (zn (zq (zt rfl rfl (zk (zq ?_)))))
   refine zb (zq (zr (zm rfl (za rfl (zn ?_)))))
   refine zq ?_
   refine Go1.drawS 0 [(0, .pure), (1, .pure), (2, .pure), (3, .stable), (4, .pure), (5, .pure), (6, .pure), (7, .stable), (8, .pure)] mixed (by kernel_rfl) ?_
   intro w5 hs6
   have mU := Stp.same hO hs6
   replace hO := mU.own
   refine GoQ.pure rfl (J03 rfl) rfl rfl ?_
   refine GoQ.pure rfl (J03 rfl) rfl rfl ?_
   obtain ⟨h8, H⟩ := H
   obtain ⟨h9, H⟩ := H
   replace iF := iF.ch mU.ch
   refine GoQ.pure rfl (J02 Try.underlying30 ti9 rfl rfl h8 h9 (iF.some_ h8 h9)) rfl rfl ?_
   refine GoQ.stable rfl (ldStr iF h8 h9 Try.underlying9 rfl rfl) rfl rfl ?_
   have hle10 := ISl.str_le iF h8 h9
   refine GoQ.pure rfl (J03 rfl) rfl rfl ?_
   refine GoQ.pure rfl (J03 rfl) rfl rfl ?_
   obtain ⟨h11, H⟩ := H
   obtain ⟨h12, H⟩ := H
   replace iM := iM.ch mU.ch
   refine GoQ.pure rfl (J02 Try.underlying30 ti9 rfl rfl h11 h12 (iM.some_ h11 h12)) rfl rfl ?_
   refine GoQ.stable rfl (ldStr iM h11 h12 Try.underlying9 rfl rfl) rfl rfl ?_
   have hle13 := ISl.str_le iM h11 h12
   by_cases h14 : (ix s1 (k1_3 : Int)) = (ix s2 (k1_3 : Int))
   ·replace H := ifp h14 H
    refine GoQ.pure rfl (fun w => opB (op_neqS rfl rfl w) (ndT h14)) rfl rfl ?_
    refine GoQ.nil ?_
    refine zf rfl rfl (zk ?_)
    refine Go1.inBlock ?_
    refine zr (zo (J0c rfl rfl (wrap_i64 (natbd h4 iF.bd))) (zm rfl (zn ?_)))
    replace hB := hB.trans mU.fr
    exact hX1 _ H _ _ ⟨⟨rfl, rfl, rfl, rfl, trivial⟩, hO, iF, iM, hB⟩
   replace H := ifn h14 H
   refine GoQ.pure rfl (fun w => opB (op_neqS rfl rfl w) (ndF h14)) rfl rfl ?_
   refine GoQ.nil ?_
   refine zt rfl rfl (zq (zr (za rfl (zn ?_))))
   refine Go1.ret1 Try.func74 rfl ?_
   replace hB := hB.trans mU.fr
   exact ⟨false, rfl, hB.same, H⟩
  replace H := ifn h4 H
  refine zo (fun w => opB (J08 rfl rfl w) (decide_eq_false h4)) (zn (zq (zf rfl rfl ?_)))
  refine Go1.exit rfl ?_
  refine zq (zr (za rfl (zn ?_)))
  refine Go1.ret1 Try.func74 rfl ?_
  exact ⟨true, rfl, hB.same, H⟩
 replace H := ifn h1 H
 refine zo (fun w => opB (J0g rfl rfl w) (ndF h1)) (zn (zt rfl rfl (zq (zr (za rfl ?_)))))
 refine zn ?_
 refine Go1.ret1 Try.func74 rfl ?_
 exact ⟨false, rfl, hB.same, H⟩
theorem body75 : Body Try.prog 75 := ⟨Try.f75, Try.func75, rfl, by kernel_rfl⟩
theorem walk_slices_Equal_bool {A : List Nat} {w0 : World} {qz : Option Addr} {qA : Nat} {qB : Option Addr} {qC : Nat} {s1 : List Bool} {s2 : List Bool} (hA : ∀ b ∈ A, b < w0.heap.size) (iF : ISl (Rp.bool) A w0 qz qA s1) (iM : ISl (Rp.bool) A w0 qB qC s2) {K : Bool → Prop} (H : J0O s1 s2 K) :
    CallsV Try.prog 75 #[.slice qz s1.length qA, .slice qB s2.length qC] w0 (fun v w' => ∃ (r0 : Bool), v = .bool r0 ∧ Same w0 w' ∧ K r0) := by
 refine CallsV.of (l := [.slice qz s1.length qA, .slice qB s2.length qC]) Try.func75 rfl Try.ntmps75 rfl ?_
 have hO := Owns.start hA
 have hB := Fr.refl (bl []) w0
 unfold J0O at H
 refine zq (zr (za rfl (zn (zq (zq ?_)))))
 refine zr (zm rfl (zo (J0d Try.underlying22 rfl) ?_))
 replace iF := iF.ch (Ch.start A w0)
 replace H := H iF.bd
 refine zm rfl (zo (J0d Try.underlying22 rfl) ?_)
 replace iM := iM.ch (Ch.start A w0)
 replace H := H iM.bd
 by_cases h1 : (s1.length : Int) = (s2.length : Int)
 ·replace H := ifp h1 H
  refine zo (fun w => opB (J0g rfl rfl w) (ndT h1)) (zn (zf rfl rfl (zk (zq (zq ?_)))))
  refine zr (zm rfl (zo (J0d Try.underlying22 rfl) (zm rfl (zn (zb ?_)))))
  refine Go1.loopW (S := Nat) (fun s σ w => agrees σ [(0, .slice qz s1.length qA), (1, .slice qB s2.length qC), (12, .int .i64 (s1.length : Int)), (13, .int .i64 (s : Int))] ∧ Owns w0.heap.size w [] A ∧ ISl (Rp.bool) (bl [] ++ A) w qz qA s1 ∧ ISl (Rp.bool) (bl [] ++ A) w qB qC s2 ∧ Fr (bl []) w0 (bl []) w) H ⟨⟨rfl, rfl, rfl, rfl, trivial⟩, hO, iF, iM, hB⟩ ?_
  intro X1 k1_3
  intro H hX1 σ w2
  refine andE fun hag => andE fun hO => andE fun iF => andE fun iM => fun hB => ?_
  refine Go1.keep [(0, .slice qz s1.length qA), (1, .slice qB s2.length qC), (12, .int .i64 (s1.length : Int)), (13, .int .i64 (k1_3 : Int))] hag ?_
  refine zq (zr ?_)
  by_cases h4 : (k1_3 : Int) < (s1.length : Int)
  ·replace H := ifp h4 H
   refine zo (fun w => opB (J08 rfl rfl w) (decide_eq_true h4)) (zn (zq (zt rfl rfl (zk (zq ?_)))))
   refine zb (zq (zr (zm rfl (za rfl (zn ?_)))))
   refine zq ?_
   refine Go1.drawS 0 [(0, .pure), (1, .pure), (2, .pure), (3, .stable), (4, .pure), (5, .pure), (6, .pure), (7, .stable), (8, .pure)] mixed (by kernel_rfl) ?_
   intro w5 hs6
   have mU := Stp.same hO hs6
   replace hO := mU.own
   refine GoQ.pure rfl (J03 rfl) rfl rfl ?_
   refine GoQ.pure rfl (J03 rfl) rfl rfl ?_
   obtain ⟨h8, H⟩ := H
   obtain ⟨h9, H⟩ := H
   replace iF := iF.ch mU.ch
   refine GoQ.pure rfl (J02 Try.underlying22 ti4 rfl rfl h8 h9 (iF.some_ h8 h9)) rfl rfl ?_
   by_cases h10 : ix s1 (k1_3 : Int) = true
   ·replace H := ifp h10 H
    refine GoQ.stable rfl (fun w hw => opB ((ldBool iF h8 h9 Try.underlying4 rfl rfl) w hw) (h10)) rfl rfl ?_
    refine GoQ.pure rfl (J03 rfl) rfl rfl ?_
    refine GoQ.pure rfl (J03 rfl) rfl rfl ?_
    obtain ⟨h11, H⟩ := H
    obtain ⟨h12, H⟩ := H
    replace iM := iM.ch mU.ch
    refine GoQ.pure rfl (J02 Try.underlying22 ti4 rfl rfl h11 h12 (iM.some_ h11 h12)) rfl rfl ?_
    by_cases h13 : ix s2 (k1_3 : Int) = true
    ·replace H := ifp h13 H
     refine GoQ.stable rfl (fun w hw => opB ((ldBool iM h11 h12 Try.underlying4 rfl rfl) w hw) (h13)) rfl rfl ?_
     refine GoQ.pure rfl (op_neqB Try.underlying4 rfl rfl) rfl rfl ?_
     refine GoQ.nil ?_
     refine zf rfl rfl (zk ?_)
     refine Go1.inBlock ?_
     refine zr (zo (J0c rfl rfl (wrap_i64 (natbd h4 iF.bd))) (zm rfl (zn ?_)))
     replace hB := hB.trans mU.fr
     exact hX1 _ H _ _ ⟨⟨rfl, rfl, rfl, rfl, trivial⟩, hO, iF, iM, hB⟩
    replace H := ifn h13 H
    refine GoQ.stable rfl (fun w hw => opB ((ldBool iM h11 h12 Try.underlying4 rfl rfl) w hw) (Bool.eq_false_iff.2 h13)) rfl rfl ?_
    refine GoQ.pure rfl (op_neqB Try.underlying4 rfl rfl) rfl rfl ?_
    refine GoQ.nil ?_
    refine zt rfl rfl (zq (zr (za rfl (zn ?_))))
    refine Go1.ret1 Try.func75 rfl ?_
    replace hB := hB.trans mU.fr
    exact ⟨false, rfl, hB.same, H⟩
   replace H := ifn h10 H
   refine GoQ.stable rfl (fun w hw => opB ((ldBool iF h8 h9 Try.underlying4 rfl rfl) w hw) (Bool.eq_false_iff.2 h10)) rfl rfl ?_
   refine GoQ.pure rfl (J03 rfl) rfl rfl ?_
   refine GoQ.pure rfl (J03 rfl) rfl rfl ?_
   obtain ⟨h14, H⟩ := H
   obtain ⟨h15, H⟩ := H
   replace iM := iM.ch mU.ch
   refine GoQ.pure rfl (J02 Try.underlying22 ti4 rfl rfl h14 h15 (iM.some_ h14 h15)) rfl rfl ?_
   by_cases h16 : ix s2 (k1_3 : Int) = true
   ·replace H := ifp h16 H
    refine GoQ.stable rfl (fun w hw => opB ((ldBool iM h14 h15 Try.underlying4 rfl rfl) w hw) (h16)) rfl rfl ?_
    refine GoQ.pure rfl (op_neqB Try.underlying4 rfl rfl) rfl rfl ?_
    refine GoQ.nil ?_
    refine zt rfl rfl (zq ?_)
    refine Go1.cut [] trivial ?_
    intro σ _
    refine zr (za rfl (zn ?_))
    refine Go1.ret1 Try.func75 rfl ?_
    replace hB := hB.trans mU.fr
    exact ⟨false, rfl, hB.same, H⟩
   replace H := ifn h16 H
   refine GoQ.stable rfl (fun w hw => opB ((ldBool iM h14 h15 Try.underlying4 rfl rfl) w hw) (Bool.eq_false_iff.2 h16)) rfl rfl ?_
   refine GoQ.pure rfl (op_neqB Try.underlying4 rfl rfl) rfl rfl ?_
   refine GoQ.nil ?_
   refine zf rfl rfl (zk ?_)
   refine Go1.inBlock ?_
   refine zr (zo (J0c rfl rfl (wrap_i64 (natbd h4 iF.bd))) (zm rfl (zn ?_)))
   replace hB := hB.trans mU.fr
   exact hX1 _ H _ _ ⟨⟨rfl, rfl, rfl, rfl, trivial⟩, hO, iF, iM, hB⟩
  replace H := ifn h4 H
  refine zo (fun w => opB (J08 rfl rfl w) (decide_eq_false h4)) (zn (zq (zf rfl rfl ?_)))
  refine Go1.exit rfl ?_
  refine zq (zr (za rfl (zn ?_)))
  refine Go1.ret1 Try.func75 rfl ?_
  exact ⟨true, rfl, hB.same, H⟩
 replace H := ifn h1 H
 refine zo (fun w => opB (J0g rfl rfl w) (ndF h1)) (zn (zt rfl rfl (zq (zr (za rfl ?_)))))
 refine zn ?_
 refine Go1.ret1 Try.func75 rfl ?_
 exact ⟨false, rfl, hB.same, H⟩
theorem body28 : Body Try.prog 28 := ⟨Try.f28, Try.func28, rfl, by kernel_rfl⟩
theorem J1r {A : List Nat} {w0 : World} {dM : Option Addr} {dN : Nat} {dV : Option Addr} {dW : Nat} {dD : Option Addr} {dE : Nat} {dF : Option Addr} {dG : Nat} {eg : Option Addr} {eh : Nat} {a0 : Syntactic} (hA : ∀ b ∈ A, b < w0.heap.size) (cC : ISl (Rp.sl (Rp.int .i64)) A w0 dM dN a0.Table) (c6 : ISl (Rp.str) A w0 dV dW a0.Words) (cA : ISl (Rp.int .i64) A w0 dD dE a0.Images) (cD : ISl (Rp.bool) A w0 dF dG a0.Accept) (dy : ISl (Rp.bool) A w0 eg eh a0.Plus) {K : Int → Prop} (H : J0x a0 K) :
    CallsV Try.prog 28 #[.agg #[.int .i64 a0.Letters, .slice dM a0.Table.length dN, .slice dV a0.Words.length dW, .slice dD a0.Images.length dE, .slice dF a0.Accept.length dG, .slice eg a0.Plus.length eh]] w0 (fun v w' => ∃ (r0 : Int), v = .int .i64 r0 ∧ Same w0 w' ∧ K r0) := by
 refine CallsV.of (l := [.agg #[.int .i64 a0.Letters, .slice dM a0.Table.length dN, .slice dV a0.Words.length dW, .slice dD a0.Images.length dE, .slice dF a0.Accept.length dG, .slice eg a0.Plus.length eh]]) Try.func28 rfl Try.ntmps28 rfl ?_
 have hO := Owns.start hA
 have hB := Fr.refl (bl []) w0
 unfold J0x at H
 refine zq (zr ?_)
 have zz := obox (t := 33) (v := .agg #[.int .i64 a0.Letters, .slice dM a0.Table.length dN, .slice dV a0.Words.length dW, .slice dD a0.Images.length dE, .slice dF a0.Accept.length dG, .slice eg a0.Plus.length eh]) (cs := #[.int .i64 a0.Letters, .slice dM a0.Table.length dN, .slice dV a0.Words.length dW, .slice dD a0.Images.length dE, .slice dF a0.Accept.length dG, .slice eg a0.Plus.length eh]) hO rfl
 obtain ⟨w1, B2, cB, hs4, ic⟩ := zz
 refine zg (ic rfl) ?_
 replace hO := cB.own
 refine za rfl (zn (zq (zq (zr (zs (J0j (vs := [.int .i64 a0.Letters, .slice dM a0.Table.length dN, .slice dV a0.Words.length dW, .slice dD a0.Images.length dE, .slice dF a0.Accept.length dG, .slice eg a0.Plus.length eh]) (i := 0) 0 hO rfl rfl Try.underlying33 rfl ti33 rfl) ?_)))))
 have Z1 := (Ch.start A w0).trans cB.ch
 replace cC := cC.ch Z1
 replace c6 := c6.ch Z1
 replace cA := cA.ch Z1
 replace cD := cD.ch Z1
 replace dy := dy.ch Z1
 refine GoR.call (J0a body71 rfl (walk_syntactic_shaped (a0 := a0) hO.lt cC c6 cA cD dy H)) rfl rfl ?_
 rintro v11 w8 ⟨r7, rfl, hs9, H⟩
 have d8 := Stp.same hO hs9
 replace hO := d8.own
 cases r7
 ·replace H := ifn Bool.false_ne_true H
  refine zo (J0l rfl) (zn (zt rfl rfl (zq (zr (za rfl ?_)))))
  refine zn ?_
  refine Go1.ret1 Try.func28 rfl ?_
  replace hB := (hB.trans cB.fr).trans d8.fr
  exact ⟨(8 : Int), rfl, hB.same, H⟩
 replace H := ifp rfl H
 refine zo (J0l rfl) (zn (zf rfl rfl (zk (zq (zr ?_)))))
 refine zs (J0j (vs := [.int .i64 a0.Letters, .slice dM a0.Table.length dN, .slice dV a0.Words.length dW, .slice dD a0.Images.length dE, .slice dF a0.Accept.length dG, .slice eg a0.Plus.length eh]) (i := 0) 0 hO rfl rfl Try.underlying33 rfl ti33 rfl) ?_
 replace cC := cC.ch d8.ch
 replace c6 := c6.ch d8.ch
 replace cA := cA.ch d8.ch
 replace cD := cD.ch d8.ch
 replace dy := dy.ch d8.ch
 refine GoR.call (J0a body72 rfl (walk_syntactic_automaton (s_ := a0) hO.lt cC c6 cA cD dy H)) rfl rfl ?_
 rintro v17 w14 ⟨r13, dX, dY, en, eo, rfl, xP, bf, bj, H⟩
 have gG := Stp.same hO xP
 replace hO := gG.own
 refine GoR.call (J0a body19 rfl (walk_syntactic_Of (d := r13) hO.lt bf bj H)) rfl rfl ?_
 rintro v24 w21 ⟨r19, r20, gc, gf, gO, gP, gt, gu, gv, gw, iG, iH, rfl, HS, fo, fW, fE, fF, gx, H⟩
 have mT := Stp.same hO HS
 replace hO := mT.own
 refine zm rfl (zo (J07 rfl rfl) (zo (J07 rfl rfl) ?_))
 have zz := oalloc (t := 33) (cs := #[.int .i64 0, .slice none 0 0, .slice none 0 0, .slice none 0 0, .slice none 0 0, .slice none 0 0]) ti33 hO rfl
 obtain ⟨w26, B27, j4, aal, Qz⟩ := zz
 refine GoR.op Qz rfl rfl ?_
 replace hO := j4.own
 have zz := J0b (us := [.int .i64 r19.Letters, .slice gc r19.Table.length gf, .slice gO r19.Words.length gP, .slice gt r19.Images.length gu, .slice gv r19.Accept.length gw, .slice iG r19.Plus.length iH]) (o := 0) (cs' := #[.int .i64 r19.Letters, .slice gc r19.Table.length gf, .slice gO r19.Words.length gP, .slice gt r19.Images.length gu, .slice gv r19.Accept.length gw, .slice iG r19.Plus.length iH]) 0 hO rfl rfl (Nat.le_of_ble_eq_true rfl) rfl
 obtain ⟨w32, tt, QA⟩ := zz
 refine zg (QA ti33 (by exact rfl) (by exact rfl) rfl) ?_
 replace hO := tt.own
 refine za rfl (zn (zq (zq (zr (zm rfl ?_)))))
 by_cases h35 : r20 = (0 : Int)
 ·replace H := ifp h35 H
  refine zo (fun w => opB (J0g rfl rfl w) (ndT h35)) (zm rfl (zo (J00 Try.underlying33 rfl ti23 rfl (by decide)) (zs (oblk (i := 1) 0 hO rfl rfl Try.underlying23 rfl rfl) (zo (J0d Try.underlying23 rfl) ?_))))
  replace fo := (fo.ch j4.ch).ch tt.ch
  replace H := H fo.bd
  refine zo (J00 Try.underlying33 rfl ti23 rfl (by decide)) (zs (oblk (i := 1) 1 hO rfl rfl Try.underlying23 rfl rfl) (zo (J0d Try.underlying23 rfl) ?_))
  have Z2 := ((gG.ch.trans mT.ch).trans j4.ch).trans tt.ch
  replace cC := cC.ch Z2
  replace H := H cC.bd
  by_cases h36 : (r19.Table.length : Int) = (a0.Table.length : Int)
  ·replace H := ifp h36 H
   refine zo (fun w => opB (J0g rfl rfl w) (ndT h36)) (zo (J04 rfl rfl rfl) (zn (zf rfl rfl (zk (zq ?_)))))
   refine zq ?_
   refine Go1.cut [(1, .pointer (some ⟨B2, 0, none⟩)), (3, .pointer (some ⟨B27, 0, none⟩))] ⟨rfl, rfl, trivial⟩ ?_
   intro σ _
   refine zr (zo (J00 Try.underlying33 rfl ti23 rfl (by decide)) (zs (oblk (i := 1) 0 hO rfl rfl Try.underlying23 rfl rfl) (zo (J0d Try.underlying23 rfl) (zm rfl (zn ?_)))))
   refine zb ?_
   have Z3 := j4.ch.trans tt.ch
   replace fW := fW.ch Z3
   replace fE := fE.ch Z3
   replace fF := fF.ch Z3
   replace gx := gx.ch Z3
   replace c6 := c6.ch Z2
   replace cA := cA.ch Z2
   replace cD := cD.ch Z2
   replace dy := dy.ch Z2
   replace hB := (((((hB.trans cB.fr).trans d8.fr).trans gG.fr).trans mT.fr).trans j4.fr).trans tt.fr
   refine Go1.loopW (S := Nat) (fun s σ w => agrees σ [(1, .pointer (some ⟨B2, 0, none⟩)), (3, .pointer (some ⟨B27, 0, none⟩)), (28, .slice gc r19.Table.length gf), (29, .int .i64 (r19.Table.length : Int)), (30, .int .i64 (s : Int))] ∧ (fun Z0 => Owns w0.heap.size w Z0 A ∧ ISl (Rp.sl (Rp.int .i64)) (bl Z0 ++ A) w dM dN a0.Table ∧ ISl (Rp.str) (bl Z0 ++ A) w dV dW a0.Words ∧ ISl (Rp.int .i64) (bl Z0 ++ A) w dD dE a0.Images ∧ ISl (Rp.bool) (bl Z0 ++ A) w dF dG a0.Accept ∧ ISl (Rp.bool) (bl Z0 ++ A) w eg eh a0.Plus ∧ ISl (Rp.sl (Rp.int .i64)) (bl Z0 ++ A) w gc gf r19.Table ∧ ISl (Rp.str) (bl Z0 ++ A) w gO gP r19.Words ∧ ISl (Rp.int .i64) (bl Z0 ++ A) w gt gu r19.Images ∧ ISl (Rp.bool) (bl Z0 ++ A) w gv gw r19.Accept ∧ ISl (Rp.bool) (bl Z0 ++ A) w iG iH r19.Plus ∧ Fr (bl []) w0 (bl Z0) w) [.blk B27 (.cells #[.int .i64 r19.Letters, .slice gc r19.Table.length gf, .slice gO r19.Words.length gP, .slice gt r19.Images.length gu, .slice gv r19.Accept.length gw, .slice iG r19.Plus.length iH] 33 (0, 0)), .blk B2 (.cells #[.int .i64 a0.Letters, .slice dM a0.Table.length dN, .slice dV a0.Words.length dW, .slice dD a0.Images.length dE, .slice dF a0.Accept.length dG, .slice eg a0.Plus.length eh] 33 (0, 0))]) H ⟨⟨rfl, rfl, rfl, rfl, rfl, trivial⟩, hO, cC, c6, cA, cD, dy, fo, fW, fE, fF, gx, hB⟩ ?_
   intro X1 k1_38
   intro H hX1 σ w37
   refine andE fun hag => andE fun hO => andE fun cC => andE fun c6 => andE fun cA => andE fun cD => andE fun dy => andE fun fo => andE fun fW => andE fun fE => andE fun fF => andE fun gx => fun hB => ?_
   refine Go1.keep [(1, .pointer (some ⟨B2, 0, none⟩)), (3, .pointer (some ⟨B27, 0, none⟩)), (28, .slice gc r19.Table.length gf), (29, .int .i64 (r19.Table.length : Int)), (30, .int .i64 (k1_38 : Int))] hag ?_
   refine zq (zr ?_)
   by_cases h39 : (k1_38 : Int) < (r19.Table.length : Int)
   ·replace H := ifp h39 H
    refine zo (fun w => opB (J08 rfl rfl w) (decide_eq_true h39)) (zn (zq (zt rfl rfl (zk (zq ?_)))))
    refine zb (zq (zr (zm rfl ?_)))
    obtain ⟨h40, H⟩ := H
    obtain ⟨h41, H⟩ := H
    refine zo (J02 Try.underlying23 ti31 rfl rfl h40 h41 (fo.some_ h40 h41)) ?_
    have zz := ldSl fo h40 h41
    obtain ⟨p42, c43, HT, Tk⟩ := zz
    refine zs (Tk Try.underlying31 rfl rfl) (za rfl (za rfl (zn (zq (zr ?_)))))
    refine zm rfl (zo (J00 Try.underlying33 rfl ti23 rfl (by decide)) (zs (oblk (i := 1) 1 hO rfl rfl Try.underlying23 rfl rfl) (zm rfl ?_)))
    obtain ⟨h46, H⟩ := H
    obtain ⟨h47, H⟩ := H
    refine zo (J02 Try.underlying23 ti31 rfl rfl h46 h47 (cC.some_ h46 h47)) ?_
    have zz := ldSl cC h46 h47
    obtain ⟨p48, c49, HU, Tl⟩ := zz
    refine zs (Tl Try.underlying31 rfl rfl) ?_
    refine GoR.call (J0a body73 rfl (walk_slices_Equal_int hO.lt HT HU H)) rfl rfl ?_
    rintro v56 w53 ⟨r52, rfl, Tm, H⟩
    have iv := Stp.same hO Tm
    replace hO := iv.own
    cases r52
    ·replace H := ifn Bool.false_ne_true H
     refine zo (J0l rfl) (zn (zt rfl rfl (zq (zr (za rfl ?_)))))
     refine zn ?_
     refine Go1.ret1 Try.func28 rfl ?_
     replace hB := hB.trans iv.fr
     exact ⟨(8 : Int), rfl, hB.same, H⟩
    replace H := ifp rfl H
    refine zo (J0l rfl) (zn (zf rfl rfl (zk ?_)))
    refine Go1.inBlock ?_
    refine zr ?_
    replace fo := fo.ch iv.ch
    refine zo (J0c rfl rfl (wrap_i64 (natbd h39 fo.bd))) (zm rfl (zn ?_))
    replace cC := cC.ch iv.ch
    replace c6 := c6.ch iv.ch
    replace cA := cA.ch iv.ch
    replace cD := cD.ch iv.ch
    replace dy := dy.ch iv.ch
    replace fW := fW.ch iv.ch
    replace fE := fE.ch iv.ch
    replace fF := fF.ch iv.ch
    replace gx := gx.ch iv.ch
    replace hB := hB.trans iv.fr
    exact hX1 _ H _ _ ⟨⟨rfl, rfl, rfl, rfl, rfl, trivial⟩, hO, cC, c6, cA, cD, dy, fo, fW, fE, fF, gx, hB⟩
   replace H := ifn h39 H
   refine zo (fun w => opB (J08 rfl rfl w) (decide_eq_false h39)) (zn (zq (zf rfl rfl ?_)))
   refine Go1.exit rfl ?_
   refine zq (zq ?_)
   refine Go1.cut [(1, .pointer (some ⟨B2, 0, none⟩)), (3, .pointer (some ⟨B27, 0, none⟩))] ⟨rfl, rfl, trivial⟩ ?_
   intro σ _
   refine zr (zo (J00 Try.underlying33 rfl ti30 rfl (by decide)) (zs (oblk (i := 2) 0 hO rfl rfl Try.underlying30 rfl rfl) (zo (J00 Try.underlying33 rfl ti30 rfl (by decide)) (zs (oblk (i := 2) 1 hO rfl rfl Try.underlying30 rfl rfl) ?_))))
   refine GoR.call (J0a body74 rfl (walk_slices_Equal_string hO.lt fW c6 H)) rfl rfl ?_
   rintro v62 w59 ⟨r58, rfl, Tn, H⟩
   have uD := Stp.same hO Tn
   replace hO := uD.own
   cases r58
   ·replace H := ifn Bool.false_ne_true H
    refine zo (J0l rfl) (zm rfl (zp (zp (zp (zp ?_)))))
    refine zp (zp (zo (J05 rfl rfl rfl) (zm rfl (zp (zp ?_)))))
    refine zp (zp (zp (zp (zo (J05 rfl rfl rfl) (zm rfl ?_)))))
    refine zp (zp (zp (zp (zp (zp ?_)))))
    refine zo (J05 rfl rfl rfl) (zn (zt rfl rfl (zq ?_)))
    refine Go1.cut [] trivial ?_
    intro σ _
    refine zr (za rfl (zn ?_))
    refine Go1.ret1 Try.func28 rfl ?_
    replace hB := hB.trans uD.fr
    exact ⟨(8 : Int), rfl, hB.same, H⟩
   replace H := ifp rfl H
   refine zo (J0l rfl) (zm rfl (zo (J00 Try.underlying33 rfl ti31 rfl (by decide)) (zs (oblk (i := 3) 0 hO rfl rfl Try.underlying31 rfl rfl) (zo (J00 Try.underlying33 rfl ti31 rfl (by decide)) (zs (oblk (i := 3) 1 hO rfl rfl Try.underlying31 rfl rfl) ?_)))))
   replace cA := cA.ch uD.ch
   replace fE := fE.ch uD.ch
   refine GoR.call (J0a body73 rfl (walk_slices_Equal_int hO.lt fE cA H)) rfl rfl ?_
   rintro v68 w65 ⟨r64, rfl, ie, H⟩
   have mb := Stp.same hO ie
   replace hO := mb.own
   cases r64
   ·replace H := ifn Bool.false_ne_true H
    refine zo (J0l rfl) (zo (J04 rfl rfl rfl) (zm rfl (zp (zp (zp ?_)))))
    refine zp (zp (zp (zo (J05 rfl rfl rfl) (zm rfl (zp ?_)))))
    refine zp (zp (zp (zp (zp (zo (J05 rfl rfl rfl) ?_)))))
    refine zn (zt rfl rfl (zq ?_))
    refine Go1.cut [] trivial ?_
    intro σ _
    refine zr (za rfl (zn ?_))
    refine Go1.ret1 Try.func28 rfl ?_
    replace hB := (hB.trans uD.fr).trans mb.fr
    exact ⟨(8 : Int), rfl, hB.same, H⟩
   replace H := ifp rfl H
   refine zo (J0l rfl) (zo (J04 rfl rfl rfl) (zm rfl (zo (J00 Try.underlying33 rfl ti22 rfl (by decide)) (zs (oblk (i := 4) 0 hO rfl rfl Try.underlying22 rfl rfl) (zo (J00 Try.underlying33 rfl ti22 rfl (by decide)) ?_)))))
   refine zs (oblk (i := 4) 1 hO rfl rfl Try.underlying22 rfl rfl) ?_
   have Z4 := uD.ch.trans mb.ch
   replace cD := cD.ch Z4
   replace fF := fF.ch Z4
   refine GoR.call (J0a body75 rfl (walk_slices_Equal_bool hO.lt fF cD H)) rfl rfl ?_
   rintro v74 w71 ⟨r70, rfl, To, H⟩
   have uE := Stp.same hO To
   replace hO := uE.own
   cases r70
   ·replace H := ifn Bool.false_ne_true H
    refine zo (J0l rfl) (zo (J04 rfl rfl rfl) (zm rfl (zp (zp (zp ?_)))))
    refine zp (zp (zp (zo (J05 rfl rfl rfl) (zn (zt rfl rfl ?_)))))
    refine zq ?_
    refine Go1.cut [] trivial ?_
    intro σ _
    refine zr (za rfl (zn ?_))
    refine Go1.ret1 Try.func28 rfl ?_
    replace hB := ((hB.trans uD.fr).trans mb.fr).trans uE.fr
    exact ⟨(8 : Int), rfl, hB.same, H⟩
   replace H := ifp rfl H
   refine zo (J0l rfl) (zo (J04 rfl rfl rfl) (zm rfl (zo (J00 Try.underlying33 rfl ti22 rfl (by decide)) (zs (oblk (i := 5) 0 hO rfl rfl Try.underlying22 rfl rfl) (zo (J00 Try.underlying33 rfl ti22 rfl (by decide)) ?_)))))
   refine zs (oblk (i := 5) 1 hO rfl rfl Try.underlying22 rfl rfl) ?_
   have Z5 := Z4.trans uE.ch
   replace dy := dy.ch Z5
   replace gx := gx.ch Z5
   refine GoR.call (J0a body75 rfl (walk_slices_Equal_bool hO.lt gx dy H)) rfl rfl ?_
   rintro v80 w77 ⟨r76, rfl, Tp, H⟩
   have jA := Stp.same hO Tp
   replace hO := jA.own
   cases r76
   ·replace H := ifn Bool.false_ne_true H
    refine zo (J0l rfl) (zo (J04 rfl rfl rfl) (zn (zt rfl rfl (zq (zr ?_)))))
    refine za rfl (zn ?_)
    refine Go1.ret1 Try.func28 rfl ?_
    replace hB := (((hB.trans uD.fr).trans mb.fr).trans uE.fr).trans jA.fr
    exact ⟨(8 : Int), rfl, hB.same, H⟩
   replace H := ifp rfl H
   refine zo (J0l rfl) (zo (J04 rfl rfl rfl) (zn (zf rfl rfl (zk (zq ?_)))))
   refine zr (za rfl (zn ?_))
   refine Go1.ret1 Try.func28 rfl ?_
   replace hB := (((hB.trans uD.fr).trans mb.fr).trans uE.fr).trans jA.fr
   exact ⟨(0 : Int), rfl, hB.same, H⟩
  replace H := ifn h36 H
  refine zo (fun w => opB (J0g rfl rfl w) (ndF h36)) (zo (J04 rfl rfl rfl) (zn (zt rfl rfl (zq (zr ?_)))))
  refine za rfl (zn ?_)
  refine Go1.ret1 Try.func28 rfl ?_
  replace hB := (((((hB.trans cB.fr).trans d8.fr).trans gG.fr).trans mT.fr).trans j4.fr).trans tt.fr
  exact ⟨(8 : Int), rfl, hB.same, H⟩
 replace H := ifn h35 H
 refine zo (fun w => opB (J0g rfl rfl w) (ndF h35)) (zm rfl (zp (zp (zp (zp ?_)))))
 refine zp (zp (zp (zo (J05 rfl rfl rfl) (zn (zt rfl rfl ?_)))))
 refine zq ?_
 refine Go1.cut [] trivial ?_
 intro σ _
 refine zr (za rfl (zn ?_))
 refine Go1.ret1 Try.func28 rfl ?_
 replace hB := (((((hB.trans cB.fr).trans d8.fr).trans gG.fr).trans mT.fr).trans j4.fr).trans tt.fr
 exact ⟨(8 : Int), rfl, hB.same, H⟩
end Sg
