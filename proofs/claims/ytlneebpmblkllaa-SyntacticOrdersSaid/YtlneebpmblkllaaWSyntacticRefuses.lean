/- -/
import Derived.Test.YtlneebpmblkllaaTi
import Derived.Test.YtlneebpmblkllaaWSyntacticJoint
import Derived.Test.YtlneebpmblkllaaWSyntacticMonoidse
import Derived.Test.YtlneebpmblkllaaAl
namespace Sg
open Go Go.RowKit Go.Proofs
set_option linter.unusedVariables false
set_option linter.unusedSimpArgs false
set_option maxRecDepth 100000
set_option maxHeartbeats 4000000
theorem body76 : Body Try.prog 76 := ⟨Try.f76, Try.func76, rfl, by kernel_rfl⟩
theorem J17 {A : List Nat} {w0 : World} {wD : Option Addr} {wE : Nat} {list : List Int} {n : Int} (hA : ∀ b ∈ A, b < w0.heap.size) (uU : ISl (Rp.int .i64) A w0 wD wE list) {K : Bool → Prop} (H : J0B list n K) :
    CallsV Try.prog 76 #[.slice wD list.length wE, .int .i64 n] w0 (fun v w' => ∃ (r0 : Bool), v = .bool r0 ∧ Same w0 w' ∧ K r0) := by
 refine CallsV.of (l := [.slice wD list.length wE, .int .i64 n]) Try.func76 rfl Try.ntmps76 rfl ?_
 have hO := Owns.start hA
 have hB := Fr.refl (bl []) w0
 unfold J0B at H
 refine zq (zr (za rfl (zn (zq (zq ?_)))))
 refine zr (zm rfl (zo (J0d Try.underlying31 rfl) ?_))
 replace uU := uU.ch (Ch.start A w0)
 replace H := H uU.bd
 refine zm rfl (zn (zb ?_))
 refine Go1.loopW (S := Nat) (fun s σ w => agrees σ [(1, .int .i64 n), (7, .slice wD list.length wE), (8, .int .i64 (list.length : Int)), (9, .int .i64 (s : Int))] ∧ Owns w0.heap.size w [] A ∧ ISl (Rp.int .i64) (bl [] ++ A) w wD wE list ∧ Fr (bl []) w0 (bl []) w) H ⟨⟨rfl, rfl, rfl, rfl, trivial⟩, hO, uU, hB⟩ ?_
 intro X1 k1_2
 intro H hX1 σ w1
 refine andE fun hag => andE fun hO => andE fun uU => fun hB => ?_
 refine Go1.keep [(1, .int .i64 n), (7, .slice wD list.length wE), (8, .int .i64 (list.length : Int)), (9, .int .i64 (k1_2 : Int))] hag ?_
 refine zq (zr ?_)
 by_cases h3 : (k1_2 : Int) < (list.length : Int)
 ·replace H := ifp h3 H
  refine zo (fun w => opB (J08 rfl rfl w) (decide_eq_true h3)) (zn (zq (zt rfl rfl (zk (zq ?_)))))
  refine zb (zq (zr ?_))
  obtain ⟨h4, H⟩ := H
  obtain ⟨h5, H⟩ := H
  refine zo (J02 Try.underlying31 ti3 rfl rfl h4 h5 (uU.some_ h4 h5)) (zs (ldInt uU h4 h5 Try.underlying3 rfl rfl) (za rfl (zn (zq (zr ?_)))))
  refine zm rfl ?_
  by_cases h6 : (ix list (k1_2 : Int)) < (0 : Int)
  ·replace H := ifp h6 H
   refine zo (fun w => opB (J08 rfl rfl w) (decide_eq_true h6)) (zm rfl (zp (zp (zp (zo (J06 rfl rfl rfl) ?_)))))
   refine zn (zt rfl rfl (zq (zr (za rfl (zn ?_)))))
   refine Go1.ret1 Try.func76 rfl ?_
   exact ⟨false, rfl, hB.same, H⟩
  replace H := ifn h6 H
  refine zo (fun w => opB (J08 rfl rfl w) (decide_eq_false h6)) (zm rfl (zm rfl (zm rfl ?_)))
  by_cases h7 : n ≤ (ix list (k1_2 : Int))
  ·replace H := ifp h7 H
   refine zo (fun w => opB (J1n rfl rfl w) (decide_eq_true h7)) (zo (J05 rfl rfl rfl) (zn (zt rfl rfl (zq (zr ?_)))))
   refine za rfl (zn ?_)
   refine Go1.ret1 Try.func76 rfl ?_
   exact ⟨false, rfl, hB.same, H⟩
  replace H := ifn h7 H
  refine zo (fun w => opB (J1n rfl rfl w) (decide_eq_false h7)) (zo (J05 rfl rfl rfl) (zn (zf rfl rfl (zk ?_))))
  refine Go1.inBlock ?_
  refine Go1.cut [(1, .int .i64 n), (7, .slice wD list.length wE), (8, .int .i64 (list.length : Int)), (9, .int .i64 (k1_2 : Int))] ⟨rfl, rfl, rfl, rfl, trivial⟩ ?_
  intro σ _
  refine zr (zo (J0c rfl rfl (wrap_i64 (natbd h3 uU.bd))) (zm rfl (zn ?_)))
  exact hX1 _ H _ _ ⟨⟨rfl, rfl, rfl, rfl, trivial⟩, hO, uU, hB⟩
 replace H := ifn h3 H
 refine zo (fun w => opB (J08 rfl rfl w) (decide_eq_false h3)) (zn (zq (zf rfl rfl ?_)))
 refine Go1.exit rfl ?_
 refine zq (zr (za rfl (zn ?_)))
 refine Go1.ret1 Try.func76 rfl ?_
 exact ⟨true, rfl, hB.same, H⟩
theorem body71 : Body Try.prog 71 := ⟨Try.f71, Try.func71, rfl, by kernel_rfl⟩
theorem walk_syntactic_shaped {A : List Nat} {w0 : World} {a8 : Option Addr} {a9 : Nat} {bv : Option Addr} {bw : Nat} {bc : Option Addr} {bf : Nat} {bg : Option Addr} {bh : Nat} {bB : Option Addr} {bC : Nat} {a0 : Syntactic} (hA : ∀ b ∈ A, b < w0.heap.size) (aA : ISl (Rp.sl (Rp.int .i64)) A w0 a8 a9 a0.Table) (bi : ISl (Rp.str) A w0 bv bw a0.Words) (aU : ISl (Rp.int .i64) A w0 bc bf a0.Images) (aE : ISl (Rp.bool) A w0 bg bh a0.Accept) (bx : ISl (Rp.bool) A w0 bB bC a0.Plus) {K : Bool → Prop} (H : J0S a0 K) :
    CallsV Try.prog 71 #[.agg #[.int .i64 a0.Letters, .slice a8 a0.Table.length a9, .slice bv a0.Words.length bw, .slice bc a0.Images.length bf, .slice bg a0.Accept.length bh, .slice bB a0.Plus.length bC]] w0 (fun v w' => ∃ (r0 : Bool), v = .bool r0 ∧ Same w0 w' ∧ K r0) := by
 refine CallsV.of (l := [.agg #[.int .i64 a0.Letters, .slice a8 a0.Table.length a9, .slice bv a0.Words.length bw, .slice bc a0.Images.length bf, .slice bg a0.Accept.length bh, .slice bB a0.Plus.length bC]]) Try.func71 rfl Try.ntmps71 rfl ?_
 have hO := Owns.start hA
 have hB := Fr.refl (bl []) w0
 unfold J0S at H
 refine zq (zr ?_)
 have zz := obox (t := 33) (v := .agg #[.int .i64 a0.Letters, .slice a8 a0.Table.length a9, .slice bv a0.Words.length bw, .slice bc a0.Images.length bf, .slice bg a0.Accept.length bh, .slice bB a0.Plus.length bC]) (cs := #[.int .i64 a0.Letters, .slice a8 a0.Table.length a9, .slice bv a0.Words.length bw, .slice bc a0.Images.length bf, .slice bg a0.Accept.length bh, .slice bB a0.Plus.length bC]) hO rfl
 obtain ⟨w1, B2, c5, hs4, iQ⟩ := zz
 refine zg (iQ rfl) ?_
 replace hO := c5.own
 refine za rfl (zn (zq (zr (zo (J00 Try.underlying33 rfl ti23 rfl (by decide)) (zs (oblk (i := 1) 0 hO rfl rfl Try.underlying23 rfl rfl) ?_)))))
 refine zo (J0d Try.underlying23 rfl) ?_
 replace aA := (aA.ch (Ch.start A w0)).ch c5.ch
 replace H := H aA.bd
 refine za rfl (zn (zq (zq (zr (zo (J00 Try.underlying33 rfl ti3 rfl (by decide)) ?_)))))
 refine zs (oblk (i := 0) 0 hO rfl rfl Try.underlying3 rfl rfl) ?_
 by_cases h7 : a0.Letters < (1 : Int)
 ·replace H := ifp h7 H
  refine zo (fun w => opB (J08 rfl rfl w) (decide_eq_true h7)) (zm rfl (zp (zp (zp (zo (J06 rfl rfl rfl) ?_)))))
  refine zm rfl (zp (zp (zo (J06 rfl rfl rfl) (zm rfl (zp ?_)))))
  refine zp (zo (J06 rfl rfl rfl) (zn (zt rfl rfl (zq ?_))))
  refine Go1.cut [] trivial ?_
  intro σ _
  refine zr (za rfl (zn ?_))
  refine Go1.ret1 Try.func71 rfl ?_
  replace hB := hB.trans c5.fr
  exact ⟨false, rfl, hB.same, H⟩
 replace H := ifn h7 H
 refine zo (fun w => opB (J08 rfl rfl w) (decide_eq_false h7)) (zm rfl (zo (J00 Try.underlying33 rfl ti3 rfl (by decide)) (zs (oblk (i := 0) 0 hO rfl rfl Try.underlying3 rfl rfl) ?_)))
 by_cases h8 : (6 : Int) < a0.Letters
 ·replace H := ifp h8 H
  refine zo (fun w => opB (J1a rfl rfl w) (decide_eq_true h8)) (zo (J05 rfl rfl rfl) (zm rfl (zp (zp (zo (J06 rfl rfl rfl) ?_)))))
  refine zm rfl (zp (zp (zo (J06 rfl rfl rfl) (zn (zt rfl rfl ?_)))))
  refine zq (zr (za rfl (zn ?_)))
  refine Go1.ret1 Try.func71 rfl ?_
  replace hB := hB.trans c5.fr
  exact ⟨false, rfl, hB.same, H⟩
 replace H := ifn h8 H
 refine zo (fun w => opB (J1a rfl rfl w) (decide_eq_false h8)) (zo (J05 rfl rfl rfl) (zm rfl (zm rfl ?_)))
 by_cases h9 : (a0.Table.length : Int) < (1 : Int)
 ·replace H := ifp h9 H
  refine zo (fun w => opB (J08 rfl rfl w) (decide_eq_true h9)) (zo (J05 rfl rfl rfl) (zm rfl (zp (zp (zo (J06 rfl rfl rfl) ?_)))))
  refine zn (zt rfl rfl (zq ?_))
  refine Go1.cut [] trivial ?_
  intro σ _
  refine zr (za rfl (zn ?_))
  refine Go1.ret1 Try.func71 rfl ?_
  replace hB := hB.trans c5.fr
  exact ⟨false, rfl, hB.same, H⟩
 replace H := ifn h9 H
 refine zo (fun w => opB (J08 rfl rfl w) (decide_eq_false h9)) (zo (J05 rfl rfl rfl) (zm rfl (zm rfl ?_)))
 by_cases h10 : (400 : Int) < (a0.Table.length : Int)
 ·replace H := ifp h10 H
  refine zo (fun w => opB (J1a rfl rfl w) (decide_eq_true h10)) (zo (J05 rfl rfl rfl) (zn (zt rfl rfl (zq (zr ?_)))))
  refine za rfl (zn ?_)
  refine Go1.ret1 Try.func71 rfl ?_
  replace hB := hB.trans c5.fr
  exact ⟨false, rfl, hB.same, H⟩
 replace H := ifn h10 H
 refine zo (fun w => opB (J1a rfl rfl w) (decide_eq_false h10)) (zo (J05 rfl rfl rfl) (zn (zf rfl rfl (zk (zq ?_)))))
 refine zq (zr (zo (J00 Try.underlying33 rfl ti30 rfl (by decide)) (zs (oblk (i := 2) 0 hO rfl rfl Try.underlying30 rfl rfl) (zo (J0d Try.underlying30 rfl) ?_))))
 replace bi := (bi.ch (Ch.start A w0)).ch c5.ch
 replace H := H bi.bd
 refine zm rfl ?_
 by_cases h11 : (a0.Words.length : Int) = (a0.Table.length : Int)
 ·replace H := ifp h11 H
  refine zo (fun w => opB (J0g rfl rfl w) (ndT h11)) (zm rfl (zo (J00 Try.underlying33 rfl ti22 rfl (by decide)) (zs (oblk (i := 4) 0 hO rfl rfl Try.underlying22 rfl rfl) (zo (J0d Try.underlying22 rfl) ?_))))
  replace aE := (aE.ch (Ch.start A w0)).ch c5.ch
  replace H := H aE.bd
  refine zm rfl ?_
  by_cases h12 : (a0.Accept.length : Int) = (a0.Table.length : Int)
  ·replace H := ifp h12 H
   refine zo (fun w => opB (J0g rfl rfl w) (ndT h12)) (zo (J05 rfl rfl rfl) (zm rfl (zo (J00 Try.underlying33 rfl ti22 rfl (by decide)) (zs (oblk (i := 5) 0 hO rfl rfl Try.underlying22 rfl rfl) (zo (J0d Try.underlying22 rfl) ?_)))))
   replace bx := (bx.ch (Ch.start A w0)).ch c5.ch
   replace H := H bx.bd
   refine zm rfl ?_
   by_cases h13 : (a0.Plus.length : Int) = (a0.Table.length : Int)
   ·replace H := ifp h13 H
    refine zo (fun w => opB (J0g rfl rfl w) (ndT h13)) (zo (J05 rfl rfl rfl) (zm rfl (zo (J00 Try.underlying33 rfl ti31 rfl (by decide)) (zs (oblk (i := 3) 0 hO rfl rfl Try.underlying31 rfl rfl) (zo (J0d Try.underlying31 rfl) ?_)))))
    replace aU := (aU.ch (Ch.start A w0)).ch c5.ch
    replace H := H aU.bd
    refine zo (J00 Try.underlying33 rfl ti3 rfl (by decide)) (zs (oblk (i := 0) 0 hO rfl rfl Try.underlying3 rfl rfl) ?_)
    by_cases h14 : (a0.Images.length : Int) = a0.Letters
    ·replace H := ifp h14 H
     refine zo (fun w => opB (J0g rfl rfl w) (ndT h14)) (zo (J05 rfl rfl rfl) (zn (zf rfl rfl (zk (zq ?_)))))
     refine zq ?_
     refine Go1.cut [(1, .pointer (some ⟨B2, 0, none⟩)), (3, .int .i64 (a0.Table.length : Int))] ⟨rfl, rfl, trivial⟩ ?_
     intro σ _
     refine zr (zo (J00 Try.underlying33 rfl ti23 rfl (by decide)) (zs (oblk (i := 1) 0 hO rfl rfl Try.underlying23 rfl rfl) (zo (J0d Try.underlying23 rfl) (zm rfl (zn ?_)))))
     refine zb ?_
     replace hB := hB.trans c5.fr
     refine Go1.loopW (S := Nat) (fun s σ w => agrees σ [(1, .pointer (some ⟨B2, 0, none⟩)), (3, .int .i64 (a0.Table.length : Int)), (53, .slice a8 a0.Table.length a9), (54, .int .i64 (a0.Table.length : Int)), (55, .int .i64 (s : Int))] ∧ (fun Z0 => Owns w0.heap.size w Z0 A ∧ ISl (Rp.sl (Rp.int .i64)) (bl Z0 ++ A) w a8 a9 a0.Table ∧ ISl (Rp.str) (bl Z0 ++ A) w bv bw a0.Words ∧ ISl (Rp.int .i64) (bl Z0 ++ A) w bc bf a0.Images ∧ ISl (Rp.bool) (bl Z0 ++ A) w bg bh a0.Accept ∧ ISl (Rp.bool) (bl Z0 ++ A) w bB bC a0.Plus ∧ Fr (bl []) w0 (bl Z0) w) [.blk B2 (.cells #[.int .i64 a0.Letters, .slice a8 a0.Table.length a9, .slice bv a0.Words.length bw, .slice bc a0.Images.length bf, .slice bg a0.Accept.length bh, .slice bB a0.Plus.length bC] 33 (0, 0))]) H ⟨⟨rfl, rfl, rfl, rfl, rfl, trivial⟩, hO, aA, bi, aU, aE, bx, hB⟩ ?_
     intro X1 k1_16
     intro H hX1 σ w15
     refine andE fun hag => andE fun hO => andE fun aA => andE fun bi => andE fun aU => andE fun aE => andE fun bx => fun hB => ?_
     refine Go1.keep [(1, .pointer (some ⟨B2, 0, none⟩)), (3, .int .i64 (a0.Table.length : Int)), (53, .slice a8 a0.Table.length a9), (54, .int .i64 (a0.Table.length : Int)), (55, .int .i64 (k1_16 : Int))] hag ?_
     refine zq (zr ?_)
     by_cases h17 : (k1_16 : Int) < (a0.Table.length : Int)
     ·replace H := ifp h17 H
      refine zo (fun w => opB (J08 rfl rfl w) (decide_eq_true h17)) (zn (zq (zt rfl rfl (zk (zq ?_)))))
      refine zb (zq (zr ?_))
      obtain ⟨h18, H⟩ := H
      obtain ⟨h19, H⟩ := H
      refine zo (J02 Try.underlying23 ti31 rfl rfl h18 h19 (aA.some_ h18 h19)) ?_
      have zz := ldSl aA h18 h19
      obtain ⟨p20, c21, z7, HM⟩ := zz
      refine zs (HM Try.underlying31 rfl rfl) (za rfl (zn (zq (zr (zm rfl ?_)))))
      refine zo (J0d Try.underlying31 rfl) ?_
      replace H := H z7.bd
      refine zm rfl ?_
      by_cases h24 : ((ix a0.Table (k1_16 : Int)).length : Int) = (a0.Table.length : Int)
      ·replace H := ifp h24 H
       refine zo (fun w => opB (J0g rfl rfl w) (ndT h24)) (zm rfl (zm rfl (zm rfl ?_)))
       refine GoR.call (J0a body76 rfl (J17 hO.lt z7 H)) rfl rfl ?_
       rintro v29 w26 ⟨r25, rfl, Tu, H⟩
       have sJ := Stp.same hO Tu
       replace hO := sJ.own
       cases r25
       ·replace H := ifn Bool.false_ne_true H
        refine zo (J0p rfl) (zo (J05 rfl rfl rfl) (zn (zt rfl rfl (zq (zr ?_)))))
        refine za rfl (zn ?_)
        refine Go1.ret1 Try.func71 rfl ?_
        replace hB := hB.trans sJ.fr
        exact ⟨false, rfl, hB.same, H⟩
       replace H := ifp rfl H
       refine zo (J0p rfl) (zo (J05 rfl rfl rfl) (zn (zf rfl rfl (zk ?_))))
       refine Go1.inBlock ?_
       refine zr ?_
       replace aA := aA.ch sJ.ch
       refine zo (J0c rfl rfl (wrap_i64 (natbd h17 aA.bd))) (zm rfl (zn ?_))
       replace bi := bi.ch sJ.ch
       replace aU := aU.ch sJ.ch
       replace aE := aE.ch sJ.ch
       replace bx := bx.ch sJ.ch
       replace hB := hB.trans sJ.fr
       exact hX1 _ H _ _ ⟨⟨rfl, rfl, rfl, rfl, rfl, trivial⟩, hO, aA, bi, aU, aE, bx, hB⟩
      replace H := ifn h24 H
      refine zo (fun w => opB (J0g rfl rfl w) (ndF h24)) (zm rfl (zp (zp (zp (zp ?_)))))
      refine zo (J06 rfl rfl rfl) (zn (zt rfl rfl (zq ?_)))
      refine Go1.cut [] trivial ?_
      intro σ _
      refine zr (za rfl (zn ?_))
      refine Go1.ret1 Try.func71 rfl ?_
      exact ⟨false, rfl, hB.same, H⟩
     replace H := ifn h17 H
     refine zo (fun w => opB (J08 rfl rfl w) (decide_eq_false h17)) (zn (zq (zf rfl rfl ?_)))
     refine Go1.exit rfl ?_
     refine zq (zr (zo (J00 Try.underlying33 rfl ti31 rfl (by decide)) (zs (oblk (i := 3) 0 hO rfl rfl Try.underlying31 rfl rfl) (zm rfl ?_))))
     refine GoR.call (J0a body76 rfl (J17 hO.lt aU H)) rfl rfl ?_
     rintro v35 w32 ⟨r31, rfl, Tv, H⟩
     have t7 := Stp.same hO Tv
     replace hO := t7.own
     refine za rfl (zn ?_)
     refine Go1.ret1 Try.func71 rfl ?_
     replace hB := hB.trans t7.fr
     exact ⟨r31, rfl, hB.same, H⟩
    replace H := ifn h14 H
    refine zo (fun w => opB (J0g rfl rfl w) (ndF h14)) (zo (J05 rfl rfl rfl) (zn (zt rfl rfl (zq (zr ?_)))))
    refine za rfl (zn ?_)
    refine Go1.ret1 Try.func71 rfl ?_
    replace hB := hB.trans c5.fr
    exact ⟨false, rfl, hB.same, H⟩
   replace H := ifn h13 H
   refine zo (fun w => opB (J0g rfl rfl w) (ndF h13)) (zo (J05 rfl rfl rfl) (zm rfl (zp (zp (zp ?_)))))
   refine zp (zp (zp (zo (J06 rfl rfl rfl) (zn (zt rfl rfl ?_)))))
   refine zq (zr (za rfl (zn ?_)))
   refine Go1.ret1 Try.func71 rfl ?_
   replace hB := hB.trans c5.fr
   exact ⟨false, rfl, hB.same, H⟩
  replace H := ifn h12 H
  refine zo (fun w => opB (J0g rfl rfl w) (ndF h12)) (zo (J05 rfl rfl rfl) (zm rfl (zp (zp (zp ?_)))))
  refine zp (zp (zo (J06 rfl rfl rfl) (zm rfl (zp (zp ?_)))))
  refine zp (zp (zp (zp (zo (J06 rfl rfl rfl) (zn ?_)))))
  refine zt rfl rfl (zq ?_)
  refine Go1.cut [] trivial ?_
  intro σ _
  refine zr (za rfl (zn ?_))
  refine Go1.ret1 Try.func71 rfl ?_
  replace hB := hB.trans c5.fr
  exact ⟨false, rfl, hB.same, H⟩
 replace H := ifn h11 H
 refine zo (fun w => opB (J0g rfl rfl w) (ndF h11)) (zm rfl (zp (zp (zp (zp ?_)))))
 refine zp (zo (J06 rfl rfl rfl) (zm rfl (zp (zp (zp ?_)))))
 refine zp (zp (zo (J06 rfl rfl rfl) (zm rfl (zp (zp ?_)))))
 refine zp (zp (zp (zp (zo (J06 rfl rfl rfl) (zn ?_)))))
 refine zt rfl rfl (zq ?_)
 refine Go1.cut [] trivial ?_
 intro σ _
 refine zr (za rfl (zn ?_))
 refine Go1.ret1 Try.func71 rfl ?_
 replace hB := hB.trans c5.fr
 exact ⟨false, rfl, hB.same, H⟩
theorem body72 : Body Try.prog 72 := ⟨Try.f72, Try.func72, rfl, by kernel_rfl⟩
theorem walk_syntactic_automaton {A : List Nat} {w0 : World} {bU : Option Addr} {bV : Nat} {b9 : Option Addr} {ca : Nat} {bI : Option Addr} {bK : Nat} {bO : Option Addr} {bP : Nat} {cC : Option Addr} {cD : Nat} {s_ : Syntactic} (hA : ∀ b ∈ A, b < w0.heap.size) (aN : ISl (Rp.sl (Rp.int .i64)) A w0 bU bV s_.Table) (bj : ISl (Rp.str) A w0 b9 ca s_.Words) (aO : ISl (Rp.int .i64) A w0 bI bK s_.Images) (aV : ISl (Rp.bool) A w0 bO bP s_.Accept) (bz : ISl (Rp.bool) A w0 cC cD s_.Plus) {K : DFA → Prop} (H : J0D s_ K) :
    CallsV Try.prog 72 #[.agg #[.int .i64 s_.Letters, .slice bU s_.Table.length bV, .slice b9 s_.Words.length ca, .slice bI s_.Images.length bK, .slice bO s_.Accept.length bP, .slice cC s_.Plus.length cD]] w0 (fun v w' => ∃ (r0 : DFA) (iR : Option Addr) (iT : Nat) (jv : Option Addr) (jw : Nat), v = .agg #[.int .i64 r0.Letters, .int .i64 r0.Start, .slice iR r0.Final.length iT, .slice jv r0.Next.length jw] ∧ Same w0 w' ∧ ISl (Rp.bool) A w' iR iT r0.Final ∧ ISl (Rp.sl (Rp.int .i64)) A w' jv jw r0.Next ∧ K r0) := by
 refine CallsV.of (l := [.agg #[.int .i64 s_.Letters, .slice bU s_.Table.length bV, .slice b9 s_.Words.length ca, .slice bI s_.Images.length bK, .slice bO s_.Accept.length bP, .slice cC s_.Plus.length cD]]) Try.func72 rfl Try.ntmps72 rfl ?_
 have hO := Owns.start hA
 have hB := Fr.refl (bl []) w0
 unfold J0D at H
 refine zq (zr ?_)
 have zz := obox (t := 33) (v := .agg #[.int .i64 s_.Letters, .slice bU s_.Table.length bV, .slice b9 s_.Words.length ca, .slice bI s_.Images.length bK, .slice bO s_.Accept.length bP, .slice cC s_.Plus.length cD]) (cs := #[.int .i64 s_.Letters, .slice bU s_.Table.length bV, .slice b9 s_.Words.length ca, .slice bI s_.Images.length bK, .slice bO s_.Accept.length bP, .slice cC s_.Plus.length cD]) hO rfl
 obtain ⟨w1, B2, c5, hs4, iQ⟩ := zz
 refine zg (iQ rfl) ?_
 replace hO := c5.own
 have zz := oalloc (t := 25) (cs := #[.int .i64 0, .int .i64 0, .slice none 0 0, .slice none 0 0]) ti25 hO rfl
 obtain ⟨w7, B8, f7, wX, tw⟩ := zz
 refine GoR.op tw rfl rfl ?_
 replace hO := f7.own
 refine zn (zq ?_)
 refine Go1.cut [(1, .pointer (some ⟨B2, 0, none⟩)), (2, .pointer (some ⟨B8, 0, none⟩))] ⟨rfl, rfl, trivial⟩ ?_
 intro σ _
 refine Go1.drawA Same.tr A 1 [(0, .pure), (1, .stable), (2, .pure), (3, .stable), (5, .pure), (6, .stable), (7, .pure), (4, .loud), (8, .alloc), (9, .pure), (10, .alloc), (11, .last)] mixed (by kernel_rfl) trivial hO.bd ?_
 intro w13 Tw
 have nQ := Stp.same hO Tw
 replace hO := nQ.own
 have Bt := hO.le
 replace hB := ((hB.trans c5.fr).trans f7.fr).trans nQ.fr
 have hw16 := hB.ch.size
 refine GoQA.pure rfl (J00 Try.underlying33 rfl ti3 rfl (by decide)) rfl rfl ?_
 refine GoQA.stable rfl (oblk (i := 0) 1 hO rfl rfl Try.underlying3 rfl rfl) rfl rfl ?_
 refine GoQA.pure rfl (J00 Try.underlying33 rfl ti22 rfl (by decide)) rfl rfl ?_
 refine GoQA.stable rfl (oblk (i := 4) 1 hO rfl rfl Try.underlying22 rfl rfl) rfl rfl ?_
 refine GoQA.pure rfl (J00 Try.underlying33 rfl ti23 rfl (by decide)) rfl rfl ?_
 refine GoQA.stable rfl (oblk (i := 1) 1 hO rfl rfl Try.underlying23 rfl rfl) rfl rfl ?_
 refine GoQA.pure rfl (J0d Try.underlying23 rfl) rfl rfl ?_
 have Z1 := (((Ch.start A w0).trans c5.ch).trans f7.ch).trans nQ.ch
 replace aN := aN.ch Z1
 replace H := H aN.bd
 refine GoQA.loudI rfl rfl ?_
 intro w18 A19 z8
 replace hO := z8.own hO
 replace aV := (aV.ch Z1).ch (z8.ch _)
 refine GoAt.call (J0a body69 rfl (walk_slices_Clone_bool hO.lt aV H)) (fun v w hr => ⟨fun _ => (by obtain ⟨_, _, _, _, _, _, hs, _, _, _⟩ := hr; exact hs), Same.kp hO (by obtain ⟨_, _, _, _, _, _, hs, _, _, _⟩ := hr; exact hs)⟩) rfl ?_
 rintro v26 w23 ⟨r21, fO, fB, fC, jB, rfl, Iq, hN25, f8, H⟩
 have qI := Stp.more hO Iq hN25
 replace hO := qI.own
 obtain ⟨h39, H⟩ := H
 obtain ⟨h40, H⟩ := H
 refine GoQA.alloc rfl rfl (alMake2 (e' := 3) (Fl.int .i64) Try.underlying23 ti31 h39 h40 (by decide) rfl rfl) ?_
 intro w30 A31 b32 A33 ym LN hd36 hnb37 hh38
 replace hO := ym.own hO
 have Bv := gainCh (w := w30) (E := [.row 4 1 fB fO fC jB, .blk B8 (.cells #[.int .i64 0, .int .i64 0, .slice none 0 0, .slice none 0 0] 25 (0, 0)), .blk B2 (.cells #[.int .i64 s_.Letters, .slice bU s_.Table.length bV, .slice b9 s_.Words.length ca, .slice bI s_.Images.length bK, .slice bO s_.Accept.length bP, .slice cC s_.Plus.length cD] 33 (0, 0))]) (e := t2 (Fl.int .i64) 31 3 (some ⟨b32, 0, none⟩) s_.Table.length s_.Table.length ((fun _ => (none, 0))) (List.replicate s_.Table.length ([] : List Int))) LN (t2fp_new b32)
 replace hB := ((hB.trans (z8.same.fr _)).trans qI.fr).trans (ym.same.fr _)
 replace hB := Fr.gain (e := t2 (Fl.int .i64) 31 3 (some ⟨b32, 0, none⟩) s_.Table.length s_.Table.length ((fun _ => (none, 0))) (List.replicate s_.Table.length ([] : List Int))) hB (Nat.le_trans hw16 hnb37) (t2fp_new b32)
 replace hO := Owns.gain hO LN Bt (t2fp_new b32) hh38 hd36
 refine GoQA.pure rfl (J0s Try.underlying25 ti25 (pl := [(0, 1), (1, 1), (2, 1), (3, 1)]) (vs := [(0, .int .i64 s_.Letters), (2, .slice fB fO fC), (3, .slice (some ⟨b32, 0, none⟩) s_.Table.length s_.Table.length)]) (cs := #[.int .i64 s_.Letters, .int .i64 0, .slice fB fO fC, .slice (some ⟨b32, 0, none⟩) s_.Table.length s_.Table.length]) (by kernel_rfl) rfl (by kernel_rfl)) rfl rfl ?_
 refine GoQA.alloc rfl rfl (alAlloc (cs := #[.int .i64 0, .int .i64 0, .slice none 0 0, .slice none 0 0]) ti25 rfl) ?_
 intro w43 A44 b45 A46 yn LO hd49 hnb50 hh51
 replace hO := yn.own hO
 have Bw := gainCh (w := w43) (E := [t2 (Fl.int .i64) 31 3 (some ⟨b32, 0, none⟩) s_.Table.length s_.Table.length ((fun _ => (none, 0))) (List.replicate s_.Table.length ([] : List Int)), .row 4 1 fB fO fC jB, .blk B8 (.cells #[.int .i64 0, .int .i64 0, .slice none 0 0, .slice none 0 0] 25 (0, 0)), .blk B2 (.cells #[.int .i64 s_.Letters, .slice bU s_.Table.length bV, .slice b9 s_.Words.length ca, .slice bI s_.Images.length bK, .slice bO s_.Accept.length bP, .slice cC s_.Plus.length cD] 33 (0, 0))]) (e := .blk b45 (.cells #[.int .i64 0, .int .i64 0, .slice none 0 0, .slice none 0 0] 25 (0, 0))) LO rfl
 replace hB := hB.trans (yn.same.fr _)
 replace hB := Fr.gain (e := .blk b45 (.cells #[.int .i64 0, .int .i64 0, .slice none 0 0, .slice none 0 0] 25 (0, 0))) hB (Nat.le_trans hw16 hnb50) rfl
 replace hO := Owns.gain hO LO Bt rfl hh51 hd49
 refine GoQA.lastI rfl rfl ?_
 intro w53 A54 yo
 replace hO := yo.own hO
 have zz := J0b (us := [.int .i64 s_.Letters, .int .i64 0, .slice fB fO fC, .slice (some ⟨b32, 0, none⟩) s_.Table.length s_.Table.length]) (o := 0) (cs' := #[.int .i64 s_.Letters, .int .i64 0, .slice fB fO fC, .slice (some ⟨b32, 0, none⟩) s_.Table.length s_.Table.length]) 0 hO rfl rfl (Nat.le_of_ble_eq_true rfl) rfl
 obtain ⟨w56, ir, Qq⟩ := zz
 dsimp only [sS, sZ] at ir
 refine GoAt.step (Qq ti25 (by exact rfl) (by exact rfl) rfl) (fun h => nomatch h) (Stp.kp hO ir) rfl ?_
 replace hO := ir.own
 refine GoQA.nil ?_
 intro w59 A60 yp z9
 replace hO := yp.own hO
 replace hO := hO.permA z9
 refine zq (zq (zr (zo (J00 Try.underlying33 rfl ti23 rfl (by decide)) (zs (oblk (i := 1) 4 hO rfl rfl Try.underlying23 rfl rfl) (zo (J0d Try.underlying23 rfl) ?_)))))
 refine zm rfl (zn (zb ?_))
 replace f8 := f8.ch (Ch.assoc _ _ _ _)
 replace hB := ((hB.trans (yo.same.fr _)).trans ir.fr).trans (yp.same.fr _)
 have Z2 := (((((((ym.ch _).trans Bv).trans (yn.ch _)).trans Bw).trans (yo.ch _)).trans ir.ch).trans (yp.ch _)).trans (permCh z9 _)
 replace f8 := f8.ch Z2
 have Z3 := (((((((qI.ch.trans (ym.ch _)).trans Bv).trans (yn.ch _)).trans Bw).trans (yo.ch _)).trans ir.ch).trans (yp.ch _)).trans (permCh z9 _)
 replace aV := aV.ch Z3
 have Z4 := (((((((((z8.ch _).trans qI.ch).trans (ym.ch _)).trans Bv).trans (yn.ch _)).trans Bw).trans (yo.ch _)).trans ir.ch).trans (yp.ch _)).trans (permCh z9 _)
 replace aN := aN.ch Z4
 have Z5 := (((((((((Z1.trans (z8.ch _)).trans qI.ch).trans (ym.ch _)).trans Bv).trans (yn.ch _)).trans Bw).trans (yo.ch _)).trans ir.ch).trans (yp.ch _)).trans (permCh z9 _)
 replace bj := bj.ch Z5
 replace aO := aO.ch Z5
 replace bz := bz.ch Z5
 refine Go1.loopW (S := Nat × List (List Int)) (fun s σ w => match s with | (k1_64, d_65) => ∃ (ia : Hd), agrees σ [(1, .pointer (some ⟨B2, 0, none⟩)), (2, .pointer (some ⟨B8, 0, none⟩)), (3, .pointer (some ⟨b45, 0, none⟩)), (19, .slice bU s_.Table.length bV), (20, .int .i64 (s_.Table.length : Int)), (21, .int .i64 (k1_64 : Int))] ∧ (fun Z0 => Owns w0.heap.size w Z0 A ∧ Els (Rp.bool) (bl Z0 ++ A) w jB r21 ∧ ISl (Rp.sl (Rp.int .i64)) (bl Z0 ++ A) w bU bV s_.Table ∧ ISl (Rp.str) (bl Z0 ++ A) w b9 ca s_.Words ∧ ISl (Rp.int .i64) (bl Z0 ++ A) w bI bK s_.Images ∧ ISl (Rp.bool) (bl Z0 ++ A) w bO bP s_.Accept ∧ ISl (Rp.bool) (bl Z0 ++ A) w cC cD s_.Plus ∧ Fr (bl []) w0 (bl Z0) w) [.blk b45 (.cells #[.int .i64 s_.Letters, .int .i64 0, .slice fB fO fC, .slice (some ⟨b32, 0, none⟩) s_.Table.length s_.Table.length] 25 (0, 0)), t2 (Fl.int .i64) 31 3 (some ⟨b32, 0, none⟩) s_.Table.length s_.Table.length ia d_65, .row 4 1 fB fO fC jB, .blk B8 (.cells #[.int .i64 0, .int .i64 0, .slice none 0 0, .slice none 0 0] 25 (0, 0)), .blk B2 (.cells #[.int .i64 s_.Letters, .slice bU s_.Table.length bV, .slice b9 s_.Words.length ca, .slice bI s_.Images.length bK, .slice bO s_.Accept.length bP, .slice cC s_.Plus.length cD] 33 (0, 0))]) H ⟨(fun _ => (none, 0)), ⟨rfl, rfl, rfl, rfl, rfl, rfl, trivial⟩, hO, f8, aN, bj, aO, aV, bz, hB⟩ ?_
 intro X1
 refine prE fun k1_64 => fun d_65 => ?_
 intro H hX1 σ w63
 refine exE fun ia => andE fun hag => andE fun hO => andE fun f8 => andE fun aN => andE fun bj => andE fun aO => andE fun aV => andE fun bz => fun hB => ?_
 dsimp only at H
 refine Go1.keep [(1, .pointer (some ⟨B2, 0, none⟩)), (2, .pointer (some ⟨B8, 0, none⟩)), (3, .pointer (some ⟨b45, 0, none⟩)), (19, .slice bU s_.Table.length bV), (20, .int .i64 (s_.Table.length : Int)), (21, .int .i64 (k1_64 : Int))] hag ?_
 refine zq (zr ?_)
 by_cases h67 : (k1_64 : Int) < (s_.Table.length : Int)
 ·replace H := ifp h67 H
  refine zo (fun w => opB (J08 rfl rfl w) (decide_eq_true h67)) (zn (zq (zt rfl rfl (zk (zq ?_)))))
  refine zb (zq (zr (zm rfl ?_)))
  obtain ⟨h68, H⟩ := H
  obtain ⟨h69, H⟩ := H
  refine zo (J02 Try.underlying23 ti31 rfl rfl h68 h69 (aN.some_ h68 h69)) ?_
  have zz := ldSl aN h68 h69
  obtain ⟨p70, c71, kG, Tx⟩ := zz
  refine zs (Tx Try.underlying31 rfl rfl) (za rfl (za rfl (zn (zq ?_))))
  refine Go1.drawS 1 [(0, .pure), (1, .stable), (2, .pure), (3, .pure), (4, .stable), (5, .loud), (6, .pure), (7, .last)] mixed (by kernel_rfl) ?_
  intro w74 Ty
  have wg := Stp.same hO Ty
  replace hO := wg.own
  refine GoQ.pure rfl (J00 Try.underlying25 rfl ti23 rfl (by decide)) rfl rfl ?_
  refine GoQ.stable rfl (oblk (i := 3) 0 hO rfl rfl Try.underlying23 rfl rfl) rfl rfl ?_
  refine GoQ.pure rfl (J03 rfl) rfl rfl ?_
  refine GoQ.pure rfl (J00 Try.underlying33 rfl ti3 rfl (by decide)) rfl rfl ?_
  refine GoQ.stable rfl (oblk (i := 0) 4 hO rfl rfl Try.underlying3 rfl rfl) rfl rfl ?_
  obtain ⟨h84, H⟩ := H
  obtain ⟨h85, H⟩ := H
  have zz := omake (n := s_.Letters) (r := Rp.int .i64) (d := (0 : Int)) Try.underlying31 ti3 (fun _ _ => rfl) rfl hO h84 h85 (by decide)
  obtain ⟨w77, p78, aax, gK, nt, Tz, Ek⟩ := zz
  refine GoQ.loud rfl (Ek rfl rfl) Tz rfl rfl ?_
  replace hO := gK.own
  obtain ⟨h87, H⟩ := H
  obtain ⟨h88, H⟩ := H
  refine GoQ.pure rfl (J02 Try.underlying23 ti31 rfl rfl h87 (ltn (t2neq 2 hO rfl) h88) (t2some 2 hO rfl h87 h88)) rfl rfl ?_
  have jY := Stp.front 2 hO rfl
  dsimp only [eS, eZ] at jY
  replace hO := jY.own
  have uV := Stp.front 1 hO rfl
  dsimp only [eS, eZ] at uV
  replace hO := uV.own
  replace nt := (nt.ch jY.ch).ch uV.ch
  have zz := t2put (hf := (Fl.int .i64)) hO nt h87 h88
  obtain ⟨w91, jD, Qr⟩ := zz
  refine GoQ.last rfl (Qr Try.underlying31 rfl ti31 (by exact rfl) (by exact rfl)) rfl rfl ?_
  replace hO := jD.own
  refine GoQ.nil ?_
  refine zq (zr (zo (J00 Try.underlying33 rfl ti31 rfl (by decide)) (zs (oblk (i := 3) 4 hO rfl rfl Try.underlying31 rfl rfl) (zo (J0d Try.underlying31 rfl) ?_))))
  have Z6 := (((wg.ch.trans gK.ch).trans jY.ch).trans uV.ch).trans jD.ch
  replace aO := aO.ch Z6
  replace H := H aO.bd
  refine zm rfl (zn (zb ?_))
  replace f8 := f8.ch Z6
  replace aN := aN.ch Z6
  replace bj := bj.ch Z6
  replace aV := aV.ch Z6
  replace bz := bz.ch Z6
  replace kG := kG.ch Z6
  replace hB := ((((hB.trans wg.fr).trans gK.fr).trans jY.fr).trans uV.fr).trans jD.fr
  refine Go1.loopW (S := Nat × List (List Int)) (fun s σ w => match s with | (k2_95, d_96) => agrees σ [(1, .pointer (some ⟨B2, 0, none⟩)), (2, .pointer (some ⟨B8, 0, none⟩)), (3, .pointer (some ⟨b45, 0, none⟩)), (4, .int .i64 (k1_64 : Int)), (5, .slice p70 ((ix s_.Table (k1_64 : Int)).length) c71), (19, .slice bU s_.Table.length bV), (20, .int .i64 (s_.Table.length : Int)), (21, .int .i64 (k1_64 : Int)), (34, .slice bI s_.Images.length bK), (35, .int .i64 (s_.Images.length : Int)), (36, .int .i64 (k2_95 : Int))] ∧ (fun Z0 => Owns w0.heap.size w Z0 A ∧ Els (Rp.bool) (bl Z0 ++ A) w jB r21 ∧ ISl (Rp.sl (Rp.int .i64)) (bl Z0 ++ A) w bU bV s_.Table ∧ ISl (Rp.str) (bl Z0 ++ A) w b9 ca s_.Words ∧ ISl (Rp.int .i64) (bl Z0 ++ A) w bI bK s_.Images ∧ ISl (Rp.bool) (bl Z0 ++ A) w bO bP s_.Accept ∧ ISl (Rp.bool) (bl Z0 ++ A) w cC cD s_.Plus ∧ ISl (Rp.int .i64) (bl Z0 ++ A) w p70 c71 (ix s_.Table (k1_64 : Int)) ∧ Fr (bl []) w0 (bl Z0) w) [t2 (Fl.int .i64) 31 3 (some ⟨b32, 0, none⟩) s_.Table.length s_.Table.length (hup ia (k1_64 : Int).toNat (p78, s_.Letters.toNat)) d_96, .blk b45 (.cells #[.int .i64 s_.Letters, .int .i64 0, .slice fB fO fC, .slice (some ⟨b32, 0, none⟩) s_.Table.length s_.Table.length] 25 (0, 0)), .row 4 1 fB fO fC jB, .blk B8 (.cells #[.int .i64 0, .int .i64 0, .slice none 0 0, .slice none 0 0] 25 (0, 0)), .blk B2 (.cells #[.int .i64 s_.Letters, .slice bU s_.Table.length bV, .slice b9 s_.Words.length ca, .slice bI s_.Images.length bK, .slice bO s_.Accept.length bP, .slice cC s_.Plus.length cD] 33 (0, 0))]) H ⟨⟨rfl, rfl, rfl, rfl, rfl, rfl, rfl, rfl, rfl, rfl, rfl, trivial⟩, hO, f8, aN, bj, aO, aV, bz, kG, hB⟩ ?_
  intro X2
  refine prE fun k2_95 => fun d_96 => ?_
  intro H hX2 σ w94
  refine andE fun hag => andE fun hO => andE fun f8 => andE fun aN => andE fun bj => andE fun aO => andE fun aV => andE fun bz => andE fun kG => fun hB => ?_
  dsimp only at H
  refine Go1.keep [(1, .pointer (some ⟨B2, 0, none⟩)), (2, .pointer (some ⟨B8, 0, none⟩)), (3, .pointer (some ⟨b45, 0, none⟩)), (4, .int .i64 (k1_64 : Int)), (5, .slice p70 ((ix s_.Table (k1_64 : Int)).length) c71), (19, .slice bU s_.Table.length bV), (20, .int .i64 (s_.Table.length : Int)), (21, .int .i64 (k1_64 : Int)), (34, .slice bI s_.Images.length bK), (35, .int .i64 (s_.Images.length : Int)), (36, .int .i64 (k2_95 : Int))] hag ?_
  refine zq (zr ?_)
  by_cases h97 : (k2_95 : Int) < (s_.Images.length : Int)
  ·replace H := ifp h97 H
   refine zo (fun w => opB (J08 rfl rfl w) (decide_eq_true h97)) (zn (zq (zt rfl rfl (zk (zq ?_)))))
   refine zb (zq (zr (zm rfl ?_)))
   obtain ⟨h98, H⟩ := H
   obtain ⟨h99, H⟩ := H
   refine zo (J02 Try.underlying31 ti3 rfl rfl h98 h99 (aO.some_ h98 h99)) (zs (ldInt aO h98 h99 Try.underlying3 rfl rfl) (za rfl (za rfl (zn ?_))))
   refine Go1.drawS 1 [(0, .pure), (1, .stable), (2, .pure), (3, .pure), (4, .stable), (5, .pure), (6, .pure), (7, .pure), (8, .pure), (9, .stable), (10, .pure), (11, .last)] mixed (by kernel_rfl) ?_
   intro Q9 Qs
   have uW := Stp.same hO Qs
   replace hO := uW.own
   refine GoQ.pure rfl (J00 Try.underlying25 rfl ti23 rfl (by decide)) rfl rfl ?_
   refine GoQ.stable rfl (oblk (i := 3) 1 hO rfl rfl Try.underlying23 rfl rfl) rfl rfl ?_
   refine GoQ.pure rfl (J03 rfl) rfl rfl ?_
   obtain ⟨zC, H⟩ := H
   obtain ⟨uC, H⟩ := H
   refine GoQ.pure rfl (J02 Try.underlying23 ti31 rfl rfl zC (ltn (t2neq 0 hO rfl) uC) (t2some 0 hO rfl zC uC)) rfl rfl ?_
   refine GoQ.stable rfl (t2head 0 hO rfl zC uC Try.underlying31 rfl rfl) rfl rfl ?_
   refine GoQ.pure rfl (J03 rfl) rfl rfl ?_
   refine GoQ.pure rfl (J03 rfl) rfl rfl ?_
   refine GoQ.pure rfl (J03 rfl) rfl rfl ?_
   obtain ⟨wr, H⟩ := H
   obtain ⟨zP, H⟩ := H
   replace kG := kG.ch uW.ch
   refine GoQ.pure rfl (J02 Try.underlying31 ti3 rfl rfl wr zP (kG.some_ wr zP)) rfl rfl ?_
   refine GoQ.stable rfl (ldInt kG wr zP Try.underlying3 rfl rfl) rfl rfl ?_
   obtain ⟨nN, H⟩ := H
   obtain ⟨qG, H⟩ := H
   refine GoQ.pure rfl (J02 Try.underlying31 ti3 rfl rfl nN qG (t2isome 0 hO rfl zC uC nN qG)) rfl rfl ?_
   have zz := t2st (r := Rp.int .i64) (hf := (Fl.int .i64)) rfl 0 hO rfl zC uC nN qG (v := .int .i64 (ix (ix s_.Table (k1_64 : Int)) (ix s_.Images (k2_95 : Int)))) (u := (ix (ix s_.Table (k1_64 : Int)) (ix s_.Images (k2_95 : Int)))) rfl rfl
   obtain ⟨Ja, kE, CF⟩ := zz
   dsimp only [sS, sZ] at kE
   refine GoQ.last rfl (CF Try.underlying3 rfl ti3 (by exact rfl) (by exact rfl)) rfl rfl ?_
   replace hO := kE.own
   refine GoQ.nil ?_
   refine Go1.inBlock ?_
   refine zr ?_
   replace aO := (aO.ch uW.ch).ch kE.ch
   refine zo (J0c rfl rfl (wrap_i64 (natbd h97 aO.bd))) (zm rfl (zn ?_))
   replace kG := kG.ch kE.ch
   have Z7 := uW.ch.trans kE.ch
   replace f8 := f8.ch Z7
   replace aN := aN.ch Z7
   replace bj := bj.ch Z7
   replace aV := aV.ch Z7
   replace bz := bz.ch Z7
   replace hB := (hB.trans uW.fr).trans kE.fr
   exact hX2 _ H _ _ ⟨⟨rfl, rfl, rfl, rfl, rfl, rfl, rfl, rfl, rfl, rfl, rfl, trivial⟩, hO, f8, aN, bj, aO, aV, bz, kG, hB⟩
  replace H := ifn h97 H
  refine zo (fun w => opB (J08 rfl rfl w) (decide_eq_false h97)) (zn (zq (zf rfl rfl ?_)))
  refine Go1.exit rfl ?_
  refine Go1.inBlock ?_
  refine Go1.cut [(1, .pointer (some ⟨B2, 0, none⟩)), (2, .pointer (some ⟨B8, 0, none⟩)), (3, .pointer (some ⟨b45, 0, none⟩)), (19, .slice bU s_.Table.length bV), (20, .int .i64 (s_.Table.length : Int)), (21, .int .i64 (k1_64 : Int))] ⟨rfl, rfl, rfl, rfl, rfl, rfl, trivial⟩ ?_
  intro σ _
  refine zr (zo (J0c rfl rfl (wrap_i64 (natbd h67 aN.bd))) (zm rfl (zn ?_)))
  have ma := Stp.front 4 hO rfl
  dsimp only [eS, eZ] at ma
  replace hO := ma.own
  have kY := Stp.front 4 hO rfl
  dsimp only [eS, eZ] at kY
  replace hO := kY.own
  have t5 := Stp.front 4 hO rfl
  dsimp only [eS, eZ] at t5
  replace hO := t5.own
  have iq := Stp.front 3 hO rfl
  dsimp only [eS, eZ] at iq
  replace hO := iq.own
  have mM := Stp.front 4 hO rfl
  dsimp only [eS, eZ] at mM
  replace hO := mM.own
  have Z8 := (((ma.ch.trans kY.ch).trans t5.ch).trans iq.ch).trans mM.ch
  replace f8 := f8.ch Z8
  replace aN := aN.ch Z8
  replace bj := bj.ch Z8
  replace aO := aO.ch Z8
  replace aV := aV.ch Z8
  replace bz := bz.ch Z8
  replace hB := ((((hB.trans ma.fr).trans kY.fr).trans t5.fr).trans iq.fr).trans mM.fr
  exact hX1 _ H _ _ ⟨hup ia (k1_64 : Int).toNat (p78, s_.Letters.toNat), ⟨rfl, rfl, rfl, rfl, rfl, rfl, trivial⟩, hO, f8, aN, bj, aO, aV, bz, hB⟩
 replace H := ifn h67 H
 refine zo (fun w => opB (J08 rfl rfl w) (decide_eq_false h67)) (zn (zq (zf rfl rfl ?_)))
 refine Go1.exit rfl ?_
 refine zq (zr (zs (J0n (vs := [.int .i64 s_.Letters, .int .i64 0, .slice fB fO fC, .slice (some ⟨b32, 0, none⟩) s_.Table.length s_.Table.length]) (i := 0) 0 hO rfl rfl Try.underlying25 rfl ti25 rfl) ?_))
 have zz := J0b (us := [.int .i64 s_.Letters, .int .i64 0, .slice fB fO fC, .slice (some ⟨b32, 0, none⟩) s_.Table.length s_.Table.length]) (o := 0) (cs' := #[.int .i64 s_.Letters, .int .i64 0, .slice fB fO fC, .slice (some ⟨b32, 0, none⟩) s_.Table.length s_.Table.length]) 3 hO rfl rfl (Nat.le_of_ble_eq_true rfl) rfl
 obtain ⟨Rj, uX, Dp⟩ := zz
 dsimp only [sS, sZ] at uX
 refine zg (Dp ti25 (by exact rfl) (by exact rfl) rfl) ?_
 replace hO := uX.own
 refine zn ?_
 replace f8 := f8.ch uX.ch
 have zz := freeze 2 hO rfl f8
 obtain ⟨hO1, yX, Cf, Qt⟩ := zz
 dsimp only [eS, eZ] at hO1 yX Cf
 replace hB := (hB.trans uX.fr).trans (Owns.J09 _ _ 2)
 dsimp only [eS, eZ] at hB
 replace hO := hO1; clear hO1
 have zz := t2freezeA 1 hO rfl
 obtain ⟨hO1, xR, Im, Qu⟩ := zz
 dsimp only [eS, eZ] at hO1 xR Im
 replace hB := hB.trans (Owns.J09 _ _ 1)
 dsimp only [eS, eZ] at hB
 replace hO := hO1; clear hO1
 refine Go1.retC1 Try.func72 rfl rfl (J0h (vs := [.int .i64 s_.Letters, .int .i64 0, .slice fB fO fC, .slice (some ⟨b32, 0, none⟩) s_.Table.length s_.Table.length]) 1 hO rfl rfl Try.underlying25 rfl ti25) ?_
 replace Cf := Cf.ch xR
 exact ⟨(⟨s_.Letters, (0 : Int), r21, d_65⟩ : DFA), fB, fC, (some ⟨b32, 0, none⟩), s_.Table.length, (congrArg (fun l => Value.agg (List.toArray l)) (J0i rfl (J0i rfl (J0i (congrArg (fun nn => Value.slice fB nn fC) Qt) (J0i (congrArg (fun nn => Value.slice (some ⟨b32, 0, none⟩) nn s_.Table.length) Qu) rfl))))), hB.same, (Cf.ch (Ch.weak _ _ _)), (Im.ch (Ch.weak _ _ _)), H⟩
theorem body73 : Body Try.prog 73 := ⟨Try.f73, Try.func73, rfl, by kernel_rfl⟩
theorem walk_slices_Equal_int {A : List Nat} {w0 : World} {qv : Option Addr} {qw : Nat} {qz : Option Addr} {qA : Nat} {s1 : List Int} {s2 : List Int} (hA : ∀ b ∈ A, b < w0.heap.size) (iE : ISl (Rp.int .i64) A w0 qv qw s1) (iJ : ISl (Rp.int .i64) A w0 qz qA s2) {K : Bool → Prop} (H : J0R s1 s2 K) :
    CallsV Try.prog 73 #[.slice qv s1.length qw, .slice qz s2.length qA] w0 (fun v w' => ∃ (r0 : Bool), v = .bool r0 ∧ Same w0 w' ∧ K r0) := by
 refine CallsV.of (l := [.slice qv s1.length qw, .slice qz s2.length qA]) Try.func73 rfl Try.ntmps73 rfl ?_
 have hO := Owns.start hA
 have hB := Fr.refl (bl []) w0
 unfold J0R at H
 refine zq (zr (za rfl (zn (zq (zq ?_)))))
 refine zr (zm rfl (zo (J0d Try.underlying31 rfl) ?_))
 replace iE := iE.ch (Ch.start A w0)
 replace H := H iE.bd
 refine zm rfl (zo (J0d Try.underlying31 rfl) ?_)
 replace iJ := iJ.ch (Ch.start A w0)
 replace H := H iJ.bd
 by_cases h1 : (s1.length : Int) = (s2.length : Int)
 ·replace H := ifp h1 H
  refine zo (fun w => opB (J0g rfl rfl w) (ndT h1)) (zn (zf rfl rfl (zk (zq (zq ?_)))))
  refine zr (zm rfl (zo (J0d Try.underlying31 rfl) (zm rfl (zn (zb ?_)))))
  refine Go1.loopW (S := Nat) (fun s σ w => agrees σ [(0, .slice qv s1.length qw), (1, .slice qz s2.length qA), (12, .int .i64 (s1.length : Int)), (13, .int .i64 (s : Int))] ∧ Owns w0.heap.size w [] A ∧ ISl (Rp.int .i64) (bl [] ++ A) w qv qw s1 ∧ ISl (Rp.int .i64) (bl [] ++ A) w qz qA s2 ∧ Fr (bl []) w0 (bl []) w) H ⟨⟨rfl, rfl, rfl, rfl, trivial⟩, hO, iE, iJ, hB⟩ ?_
  intro X1 k1_3
  intro H hX1 σ w2
  refine andE fun hag => andE fun hO => andE fun iE => andE fun iJ => fun hB => ?_
  refine Go1.keep [(0, .slice qv s1.length qw), (1, .slice qz s2.length qA), (12, .int .i64 (s1.length : Int)), (13, .int .i64 (k1_3 : Int))] hag ?_
  refine zq (zr ?_)
  by_cases h4 : (k1_3 : Int) < (s1.length : Int)
  ·replace H := ifp h4 H
   refine zo (fun w => opB (J08 rfl rfl w) (decide_eq_true h4)) (zn (zq (zt rfl rfl (zk (zq ?_)))))
   refine zb (zq (zr (zm rfl (za rfl (zn ?_)))))
   refine zq ?_
   refine Go1.drawS 0 [(0, .pure), (1, .pure), (2, .pure), (3, .stable), (4, .pure), (5, .pure), (6, .pure), (7, .stable), (8, .pure)] mixed (by kernel_rfl) ?_
   intro w5 hs6
   have kQ := Stp.same hO hs6
   replace hO := kQ.own
   refine GoQ.pure rfl (J03 rfl) rfl rfl ?_
   refine GoQ.pure rfl (J03 rfl) rfl rfl ?_
   obtain ⟨h8, H⟩ := H
   obtain ⟨h9, H⟩ := H
   replace iE := iE.ch kQ.ch
   refine GoQ.pure rfl (J02 Try.underlying31 ti3 rfl rfl h8 h9 (iE.some_ h8 h9)) rfl rfl ?_
   refine GoQ.stable rfl (ldInt iE h8 h9 Try.underlying3 rfl rfl) rfl rfl ?_
   refine GoQ.pure rfl (J03 rfl) rfl rfl ?_
   refine GoQ.pure rfl (J03 rfl) rfl rfl ?_
   obtain ⟨h10, H⟩ := H
   obtain ⟨h11, H⟩ := H
   replace iJ := iJ.ch kQ.ch
   refine GoQ.pure rfl (J02 Try.underlying31 ti3 rfl rfl h10 h11 (iJ.some_ h10 h11)) rfl rfl ?_
   refine GoQ.stable rfl (ldInt iJ h10 h11 Try.underlying3 rfl rfl) rfl rfl ?_
   by_cases h12 : (ix s1 (k1_3 : Int)) = (ix s2 (k1_3 : Int))
   ·replace H := ifp h12 H
    refine GoQ.pure rfl (fun w => opB (J0g rfl rfl w) (ndT h12)) rfl rfl ?_
    refine GoQ.nil ?_
    refine zf rfl rfl (zk ?_)
    refine Go1.inBlock ?_
    refine zr (zo (J0c rfl rfl (wrap_i64 (natbd h4 iE.bd))) (zm rfl (zn ?_)))
    replace hB := hB.trans kQ.fr
    exact hX1 _ H _ _ ⟨⟨rfl, rfl, rfl, rfl, trivial⟩, hO, iE, iJ, hB⟩
   replace H := ifn h12 H
   refine GoQ.pure rfl (fun w => opB (J0g rfl rfl w) (ndF h12)) rfl rfl ?_
   refine GoQ.nil ?_
   refine zt rfl rfl (zq (zr (za rfl (zn ?_))))
   refine Go1.ret1 Try.func73 rfl ?_
   replace hB := hB.trans kQ.fr
   exact ⟨false, rfl, hB.same, H⟩
  replace H := ifn h4 H
  refine zo (fun w => opB (J08 rfl rfl w) (decide_eq_false h4)) (zn (zq (zf rfl rfl ?_)))
  refine Go1.exit rfl ?_
  refine zq (zr (za rfl (zn ?_)))
  refine Go1.ret1 Try.func73 rfl ?_
  exact ⟨true, rfl, hB.same, H⟩
 replace H := ifn h1 H
 refine zo (fun w => opB (J0g rfl rfl w) (ndF h1)) (zn (zt rfl rfl (zq (zr (za rfl ?_)))))
 refine zn ?_
 refine Go1.ret1 Try.func73 rfl ?_
 exact ⟨false, rfl, hB.same, H⟩
theorem body74 : Body Try.prog 74 := ⟨Try.f74, Try.func74, rfl, by kernel_rfl⟩
theorem walk_slices_Equal_string {A : List Nat} {w0 : World} {qv : Option Addr} {qw : Nat} {qz : Option Addr} {qA : Nat} {s1 : List Str} {s2 : List Str} (hA : ∀ b ∈ A, b < w0.heap.size) (iE : ISl (Rp.str) A w0 qv qw s1) (iJ : ISl (Rp.str) A w0 qz qA s2) {K : Bool → Prop} (H : J0Q s1 s2 K) :
    CallsV Try.prog 74 #[.slice qv s1.length qw, .slice qz s2.length qA] w0 (fun v w' => ∃ (r0 : Bool), v = .bool r0 ∧ Same w0 w' ∧ K r0) := by
 refine CallsV.of (l := [.slice qv s1.length qw, .slice qz s2.length qA]) Try.func74 rfl Try.ntmps74 rfl ?_
 have hO := Owns.start hA
 have hB := Fr.refl (bl []) w0
 unfold J0Q at H
 refine zq (zr (za rfl (zn (zq (zq ?_)))))
 refine zr (zm rfl (zo (J0d Try.underlying30 rfl) ?_))
 replace iE := iE.ch (Ch.start A w0)
 replace H := H iE.bd
 refine zm rfl (zo (J0d Try.underlying30 rfl) ?_)
 replace iJ := iJ.ch (Ch.start A w0)
 replace H := H iJ.bd
 by_cases h1 : (s1.length : Int) = (s2.length : Int)
 ·replace H := ifp h1 H
  refine zo (fun w => opB (J0g rfl rfl w) (ndT h1)) (zn (zf rfl rfl (zk (zq (zq ?_)))))
  refine zr (zm rfl (zo (J0d Try.underlying30 rfl) (zm rfl (zn (zb ?_)))))
  refine Go1.loopW (S := Nat) (fun s σ w => agrees σ [(0, .slice qv s1.length qw), (1, .slice qz s2.length qA), (12, .int .i64 (s1.length : Int)), (13, .int .i64 (s : Int))] ∧ Owns w0.heap.size w [] A ∧ ISl (Rp.str) (bl [] ++ A) w qv qw s1 ∧ ISl (Rp.str) (bl [] ++ A) w qz qA s2 ∧ Fr (bl []) w0 (bl []) w) H ⟨⟨rfl, rfl, rfl, rfl, trivial⟩, hO, iE, iJ, hB⟩ ?_
  intro X1 k1_3
  intro H hX1 σ w2
  refine andE fun hag => andE fun hO => andE fun iE => andE fun iJ => fun hB => ?_
  refine Go1.keep [(0, .slice qv s1.length qw), (1, .slice qz s2.length qA), (12, .int .i64 (s1.length : Int)), (13, .int .i64 (k1_3 : Int))] hag ?_
  refine zq (zr ?_)
  by_cases h4 : (k1_3 : Int) < (s1.length : Int)
  ·replace H := ifp h4 H
   refine zo (fun w => opB (J08 rfl rfl w) (decide_eq_true h4)) (zn (zq (zt rfl rfl (zk (zq ?_)))))
   refine zb (zq (zr (zm rfl (za rfl (zn ?_)))))
   refine zq ?_
   refine Go1.drawS 0 [(0, .pure), (1, .pure), (2, .pure), (3, .stable), (4, .pure), (5, .pure), (6, .pure), (7, .stable), (8, .pure)] mixed (by kernel_rfl) ?_
   intro w5 hs6
   have kQ := Stp.same hO hs6
   replace hO := kQ.own
   refine GoQ.pure rfl (J03 rfl) rfl rfl ?_
   refine GoQ.pure rfl (J03 rfl) rfl rfl ?_
   obtain ⟨h8, H⟩ := H
   obtain ⟨h9, H⟩ := H
   replace iE := iE.ch kQ.ch
   refine GoQ.pure rfl (J02 Try.underlying30 ti9 rfl rfl h8 h9 (iE.some_ h8 h9)) rfl rfl ?_
   refine GoQ.stable rfl (ldStr iE h8 h9 Try.underlying9 rfl rfl) rfl rfl ?_
   have hle10 := ISl.str_le iE h8 h9
   refine GoQ.pure rfl (J03 rfl) rfl rfl ?_
   refine GoQ.pure rfl (J03 rfl) rfl rfl ?_
   obtain ⟨h11, H⟩ := H
   obtain ⟨h12, H⟩ := H
   replace iJ := iJ.ch kQ.ch
   refine GoQ.pure rfl (J02 Try.underlying30 ti9 rfl rfl h11 h12 (iJ.some_ h11 h12)) rfl rfl ?_
   refine GoQ.stable rfl (ldStr iJ h11 h12 Try.underlying9 rfl rfl) rfl rfl ?_
   have hle13 := ISl.str_le iJ h11 h12
   by_cases h14 : (ix s1 (k1_3 : Int)) = (ix s2 (k1_3 : Int))
   ·replace H := ifp h14 H
    refine GoQ.pure rfl (fun w => opB (op_neqS rfl rfl w) (ndT h14)) rfl rfl ?_
    refine GoQ.nil ?_
    refine zf rfl rfl (zk ?_)
    refine Go1.inBlock ?_
    refine zr (zo (J0c rfl rfl (wrap_i64 (natbd h4 iE.bd))) (zm rfl (zn ?_)))
    replace hB := hB.trans kQ.fr
    exact hX1 _ H _ _ ⟨⟨rfl, rfl, rfl, rfl, trivial⟩, hO, iE, iJ, hB⟩
   replace H := ifn h14 H
   refine GoQ.pure rfl (fun w => opB (op_neqS rfl rfl w) (ndF h14)) rfl rfl ?_
   refine GoQ.nil ?_
   refine zt rfl rfl (zq (zr (za rfl (zn ?_))))
   refine Go1.ret1 Try.func74 rfl ?_
   replace hB := hB.trans kQ.fr
   exact ⟨false, rfl, hB.same, H⟩
  replace H := ifn h4 H
  refine zo (fun w => opB (J08 rfl rfl w) (decide_eq_false h4)) (zn (zq (zf rfl rfl ?_)))
  refine Go1.exit rfl ?_
  refine zq (zr (za rfl (zn ?_)))
  refine Go1.ret1 Try.func74 rfl ?_
  exact ⟨true, rfl, hB.same, H⟩
 replace H := ifn h1 H
 refine zo (fun w => opB (J0g rfl rfl w) (ndF h1)) (zn (zt rfl rfl (zq (zr (za rfl ?_)))))
 refine zn ?_
 refine Go1.ret1 Try.func74 rfl ?_
 exact ⟨false, rfl, hB.same, H⟩
theorem body75 : Body Try.prog 75 := ⟨Try.f75, Try.func75, rfl, by kernel_rfl⟩
theorem walk_slices_Equal_bool {A : List Nat} {w0 : World} {qv : Option Addr} {qw : Nat} {qz : Option Addr} {qA : Nat} {s1 : List Bool} {s2 : List Bool} (hA : ∀ b ∈ A, b < w0.heap.size) (iE : ISl (Rp.bool) A w0 qv qw s1) (iJ : ISl (Rp.bool) A w0 qz qA s2) {K : Bool → Prop} (H : J0L s1 s2 K) :
    CallsV Try.prog 75 #[.slice qv s1.length qw, .slice qz s2.length qA] w0 (fun v w' => ∃ (r0 : Bool), v = .bool r0 ∧ Same w0 w' ∧ K r0) := by
 refine CallsV.of (l := [.slice qv s1.length qw, .slice qz s2.length qA]) Try.func75 rfl Try.ntmps75 rfl ?_
 have hO := Owns.start hA
 have hB := Fr.refl (bl []) w0
 unfold J0L at H
 refine zq (zr (za rfl (zn (zq (zq ?_)))))
 refine zr (zm rfl (zo (J0d Try.underlying22 rfl) ?_))
 replace iE := iE.ch (Ch.start A w0)
 replace H := H iE.bd
 refine zm rfl (zo (J0d Try.underlying22 rfl) ?_)
 replace iJ := iJ.ch (Ch.start A w0)
 replace H := H iJ.bd
 by_cases h1 : (s1.length : Int) = (s2.length : Int)
 ·replace H := ifp h1 H
  refine zo (fun w => opB (J0g rfl rfl w) (ndT h1)) (zn (zf rfl rfl (zk (zq (zq ?_)))))
  refine zr (zm rfl (zo (J0d Try.underlying22 rfl) (zm rfl (zn (zb ?_)))))
  refine Go1.loopW (S := Nat) (fun s σ w => agrees σ [(0, .slice qv s1.length qw), (1, .slice qz s2.length qA), (12, .int .i64 (s1.length : Int)), (13, .int .i64 (s : Int))] ∧ Owns w0.heap.size w [] A ∧ ISl (Rp.bool) (bl [] ++ A) w qv qw s1 ∧ ISl (Rp.bool) (bl [] ++ A) w qz qA s2 ∧ Fr (bl []) w0 (bl []) w) H ⟨⟨rfl, rfl, rfl, rfl, trivial⟩, hO, iE, iJ, hB⟩ ?_
  intro X1 k1_3
  intro H hX1 σ w2
  refine andE fun hag => andE fun hO => andE fun iE => andE fun iJ => fun hB => ?_
  refine Go1.keep [(0, .slice qv s1.length qw), (1, .slice qz s2.length qA), (12, .int .i64 (s1.length : Int)), (13, .int .i64 (k1_3 : Int))] hag ?_
  refine zq (zr ?_)
  by_cases h4 : (k1_3 : Int) < (s1.length : Int)
  ·replace H := ifp h4 H
   refine zo (fun w => opB (J08 rfl rfl w) (decide_eq_true h4)) (zn (zq (zt rfl rfl (zk (zq ?_)))))
   refine zb (zq (zr (zm rfl (za rfl (zn ?_)))))
   refine zq ?_
   refine Go1.drawS 0 [(0, .pure), (1, .pure), (2, .pure), (3, .stable), (4, .pure), (5, .pure), (6, .pure), (7, .stable), (8, .pure)] mixed (by kernel_rfl) ?_
   intro w5 hs6
   have kQ := Stp.same hO hs6
   replace hO := kQ.own
   refine GoQ.pure rfl (J03 rfl) rfl rfl ?_
   refine GoQ.pure rfl (J03 rfl) rfl rfl ?_
   obtain ⟨h8, H⟩ := H
   obtain ⟨h9, H⟩ := H
   replace iE := iE.ch kQ.ch
   refine GoQ.pure rfl (J02 Try.underlying22 ti4 rfl rfl h8 h9 (iE.some_ h8 h9)) rfl rfl ?_
   by_cases h10 : ix s1 (k1_3 : Int) = true
   ·replace H := ifp h10 H
    refine GoQ.stable rfl (fun w hw => opB ((ldBool iE h8 h9 Try.underlying4 rfl rfl) w hw) (h10)) rfl rfl ?_
    refine GoQ.pure rfl (J03 rfl) rfl rfl ?_
    refine GoQ.pure rfl (J03 rfl) rfl rfl ?_
    obtain ⟨h11, H⟩ := H
    obtain ⟨h12, H⟩ := H
    replace iJ := iJ.ch kQ.ch
    refine GoQ.pure rfl (J02 Try.underlying22 ti4 rfl rfl h11 h12 (iJ.some_ h11 h12)) rfl rfl ?_
    by_cases h13 : ix s2 (k1_3 : Int) = true
    ·replace H := ifp h13 H
     refine GoQ.stable rfl (fun w hw => opB ((ldBool iJ h11 h12 Try.underlying4 rfl rfl) w hw) (h13)) rfl rfl ?_
     refine GoQ.pure rfl (op_neqB Try.underlying4 rfl rfl) rfl rfl ?_
     refine GoQ.nil ?_
     refine zf rfl rfl (zk ?_)
     refine Go1.inBlock ?_
     refine zr (zo (J0c rfl rfl (wrap_i64 (natbd h4 iE.bd))) (zm rfl (zn ?_)))
     replace hB := hB.trans kQ.fr
     exact hX1 _ H _ _ ⟨⟨rfl, rfl, rfl, rfl, trivial⟩, hO, iE, iJ, hB⟩
    replace H := ifn h13 H
    refine GoQ.stable rfl (fun w hw => opB ((ldBool iJ h11 h12 Try.underlying4 rfl rfl) w hw) (Bool.eq_false_iff.2 h13)) rfl rfl ?_
    refine GoQ.pure rfl (op_neqB Try.underlying4 rfl rfl) rfl rfl ?_
    refine GoQ.nil ?_
    refine zt rfl rfl (zq (zr (za rfl (zn ?_))))
    refine Go1.ret1 Try.func75 rfl ?_
    replace hB := hB.trans kQ.fr
    exact ⟨false, rfl, hB.same, H⟩
   replace H := ifn h10 H
   refine GoQ.stable rfl (fun w hw => opB ((ldBool iE h8 h9 Try.underlying4 rfl rfl) w hw) (Bool.eq_false_iff.2 h10)) rfl rfl ?_
   refine GoQ.pure rfl (J03 rfl) rfl rfl ?_
   refine GoQ.pure rfl (J03 rfl) rfl rfl ?_
   obtain ⟨h14, H⟩ := H
   obtain ⟨h15, H⟩ := H
   replace iJ := iJ.ch kQ.ch
   refine GoQ.pure rfl (J02 Try.underlying22 ti4 rfl rfl h14 h15 (iJ.some_ h14 h15)) rfl rfl ?_
   by_cases h16 : ix s2 (k1_3 : Int) = true
   ·replace H := ifp h16 H
    refine GoQ.stable rfl (fun w hw => opB ((ldBool iJ h14 h15 Try.underlying4 rfl rfl) w hw) (h16)) rfl rfl ?_
    refine GoQ.pure rfl (op_neqB Try.underlying4 rfl rfl) rfl rfl ?_
    refine GoQ.nil ?_
    refine zt rfl rfl (zq ?_)
    refine Go1.cut [] trivial ?_
    intro σ _
    refine zr (za rfl (zn ?_))
    refine Go1.ret1 Try.func75 rfl ?_
    replace hB := hB.trans kQ.fr
    exact ⟨false, rfl, hB.same, H⟩
   replace H := ifn h16 H
   refine GoQ.stable rfl (fun w hw => opB ((ldBool iJ h14 h15 Try.underlying4 rfl rfl) w hw) (Bool.eq_false_iff.2 h16)) rfl rfl ?_
   refine GoQ.pure rfl (op_neqB Try.underlying4 rfl rfl) rfl rfl ?_
   refine GoQ.nil ?_
   refine zf rfl rfl (zk ?_)
   refine Go1.inBlock ?_
   refine zr (zo (J0c rfl rfl (wrap_i64 (natbd h4 iE.bd))) (zm rfl (zn ?_)))
   replace hB := hB.trans kQ.fr
   exact hX1 _ H _ _ ⟨⟨rfl, rfl, rfl, rfl, trivial⟩, hO, iE, iJ, hB⟩
  replace H := ifn h4 H
  refine zo (fun w => opB (J08 rfl rfl w) (decide_eq_false h4)) (zn (zq (zf rfl rfl ?_)))
  refine Go1.exit rfl ?_
  refine zq (zr (za rfl (zn ?_)))
  refine Go1.ret1 Try.func75 rfl ?_
  exact ⟨true, rfl, hB.same, H⟩
 replace H := ifn h1 H
 refine zo (fun w => opB (J0g rfl rfl w) (ndF h1)) (zn (zt rfl rfl (zq (zr (za rfl ?_)))))
 refine zn ?_
 refine Go1.ret1 Try.func75 rfl ?_
 exact ⟨false, rfl, hB.same, H⟩
theorem body28 : Body Try.prog 28 := ⟨Try.f28, Try.func28, rfl, by kernel_rfl⟩
theorem J1w {A : List Nat} {w0 : World} {a8 : Option Addr} {a9 : Nat} {bv : Option Addr} {bw : Nat} {bc : Option Addr} {bf : Nat} {bg : Option Addr} {bh : Nat} {bB : Option Addr} {bC : Nat} {a0 : Syntactic} (hA : ∀ b ∈ A, b < w0.heap.size) (aA : ISl (Rp.sl (Rp.int .i64)) A w0 a8 a9 a0.Table) (bi : ISl (Rp.str) A w0 bv bw a0.Words) (aU : ISl (Rp.int .i64) A w0 bc bf a0.Images) (aE : ISl (Rp.bool) A w0 bg bh a0.Accept) (bx : ISl (Rp.bool) A w0 bB bC a0.Plus) {K : Int → Prop} (H : J0y a0 K) :
    CallsV Try.prog 28 #[.agg #[.int .i64 a0.Letters, .slice a8 a0.Table.length a9, .slice bv a0.Words.length bw, .slice bc a0.Images.length bf, .slice bg a0.Accept.length bh, .slice bB a0.Plus.length bC]] w0 (fun v w' => ∃ (r0 : Int), v = .int .i64 r0 ∧ Same w0 w' ∧ K r0) := by
 refine CallsV.of (l := [.agg #[.int .i64 a0.Letters, .slice a8 a0.Table.length a9, .slice bv a0.Words.length bw, .slice bc a0.Images.length bf, .slice bg a0.Accept.length bh, .slice bB a0.Plus.length bC]]) Try.func28 rfl Try.ntmps28 rfl ?_
 have hO := Owns.start hA
 have hB := Fr.refl (bl []) w0
 unfold J0y at H
 refine zq (zr ?_)
 have zz := obox (t := 33) (v := .agg #[.int .i64 a0.Letters, .slice a8 a0.Table.length a9, .slice bv a0.Words.length bw, .slice bc a0.Images.length bf, .slice bg a0.Accept.length bh, .slice bB a0.Plus.length bC]) (cs := #[.int .i64 a0.Letters, .slice a8 a0.Table.length a9, .slice bv a0.Words.length bw, .slice bc a0.Images.length bf, .slice bg a0.Accept.length bh, .slice bB a0.Plus.length bC]) hO rfl
 obtain ⟨w1, B2, c5, hs4, iQ⟩ := zz
 refine zg (iQ rfl) ?_
 replace hO := c5.own
 refine za rfl (zn (zq (zq (zr (zs (J0n (vs := [.int .i64 a0.Letters, .slice a8 a0.Table.length a9, .slice bv a0.Words.length bw, .slice bc a0.Images.length bf, .slice bg a0.Accept.length bh, .slice bB a0.Plus.length bC]) (i := 0) 0 hO rfl rfl Try.underlying33 rfl ti33 rfl) ?_)))))
 have Z1 := (Ch.start A w0).trans c5.ch
 replace aA := aA.ch Z1
 replace bi := bi.ch Z1
 replace aU := aU.ch Z1
 replace aE := aE.ch Z1
 replace bx := bx.ch Z1
 refine GoR.call (J0a body71 rfl (walk_syntactic_shaped (a0 := a0) hO.lt aA bi aU aE bx H)) rfl rfl ?_
 rintro v11 w8 ⟨r7, rfl, hs9, H⟩
 have iK := Stp.same hO hs9
 replace hO := iK.own
 cases r7
 ·replace H := ifn Bool.false_ne_true H
  refine zo (J0p rfl) (zn (zt rfl rfl (zq (zr (za rfl ?_)))))
  refine zn ?_
  refine Go1.ret1 Try.func28 rfl ?_
  replace hB := (hB.trans c5.fr).trans iK.fr
  exact ⟨(8 : Int), rfl, hB.same, H⟩
 replace H := ifp rfl H
 refine zo (J0p rfl) (zn (zf rfl rfl (zk (zq (zr ?_)))))
 refine zs (J0n (vs := [.int .i64 a0.Letters, .slice a8 a0.Table.length a9, .slice bv a0.Words.length bw, .slice bc a0.Images.length bf, .slice bg a0.Accept.length bh, .slice bB a0.Plus.length bC]) (i := 0) 0 hO rfl rfl Try.underlying33 rfl ti33 rfl) ?_
 replace aA := aA.ch iK.ch
 replace bi := bi.ch iK.ch
 replace aU := aU.ch iK.ch
 replace aE := aE.ch iK.ch
 replace bx := bx.ch iK.ch
 refine GoR.call (J0a body72 rfl (walk_syntactic_automaton (s_ := a0) hO.lt aA bi aU aE bx H)) rfl rfl ?_
 rintro v17 w14 ⟨r13, d9, eg, eC, eF, rfl, xw, bk, bA, H⟩
 have gG := Stp.same hO xw
 replace hO := gG.own
 refine GoR.call (J0a body19 rfl (walk_syntactic_Of (d := r13) hO.lt bk bA H)) rfl rfl ?_
 rintro v24 w21 ⟨r19, r20, eQ, eU, fd, fe, eM, eN, eO, eP, fy, fA, rfl, HO, cy, cK, cf, cg, cQ, H⟩
 have mV := Stp.same hO HO
 replace hO := mV.own
 refine zm rfl (zo (J07 rfl rfl) (zo (J07 rfl rfl) ?_))
 have zz := oalloc (t := 33) (cs := #[.int .i64 0, .slice none 0 0, .slice none 0 0, .slice none 0 0, .slice none 0 0, .slice none 0 0]) ti33 hO rfl
 obtain ⟨w26, B27, gp, Tk, Fd⟩ := zz
 refine GoR.op Fd rfl rfl ?_
 replace hO := gp.own
 have zz := J0b (us := [.int .i64 r19.Letters, .slice eQ r19.Table.length eU, .slice fd r19.Words.length fe, .slice eM r19.Images.length eN, .slice eO r19.Accept.length eP, .slice fy r19.Plus.length fA]) (o := 0) (cs' := #[.int .i64 r19.Letters, .slice eQ r19.Table.length eU, .slice fd r19.Words.length fe, .slice eM r19.Images.length eN, .slice eO r19.Accept.length eP, .slice fy r19.Plus.length fA]) 0 hO rfl rfl (Nat.le_of_ble_eq_true rfl) rfl
 obtain ⟨w32, j5, Fe⟩ := zz
 refine zg (Fe ti33 (by exact rfl) (by exact rfl) rfl) ?_
 replace hO := j5.own
 refine za rfl (zn (zq (zq (zr (zm rfl ?_)))))
 by_cases h35 : r20 = (0 : Int)
 ·replace H := ifp h35 H
  refine zo (fun w => opB (J0g rfl rfl w) (ndT h35)) (zm rfl (zo (J00 Try.underlying33 rfl ti23 rfl (by decide)) (zs (oblk (i := 1) 0 hO rfl rfl Try.underlying23 rfl rfl) (zo (J0d Try.underlying23 rfl) ?_))))
  replace cy := (cy.ch gp.ch).ch j5.ch
  replace H := H cy.bd
  refine zo (J00 Try.underlying33 rfl ti23 rfl (by decide)) (zs (oblk (i := 1) 1 hO rfl rfl Try.underlying23 rfl rfl) (zo (J0d Try.underlying23 rfl) ?_))
  have Z2 := ((gG.ch.trans mV.ch).trans gp.ch).trans j5.ch
  replace aA := aA.ch Z2
  replace H := H aA.bd
  by_cases h36 : (r19.Table.length : Int) = (a0.Table.length : Int)
  ·replace H := ifp h36 H
   refine zo (fun w => opB (J0g rfl rfl w) (ndT h36)) (zo (J05 rfl rfl rfl) (zn (zf rfl rfl (zk (zq ?_)))))
   refine zq ?_
   refine Go1.cut [(1, .pointer (some ⟨B2, 0, none⟩)), (3, .pointer (some ⟨B27, 0, none⟩))] ⟨rfl, rfl, trivial⟩ ?_
   intro σ _
   refine zr (zo (J00 Try.underlying33 rfl ti23 rfl (by decide)) (zs (oblk (i := 1) 0 hO rfl rfl Try.underlying23 rfl rfl) (zo (J0d Try.underlying23 rfl) (zm rfl (zn ?_)))))
   refine zb ?_
   have Z3 := gp.ch.trans j5.ch
   replace cK := cK.ch Z3
   replace cf := cf.ch Z3
   replace cg := cg.ch Z3
   replace cQ := cQ.ch Z3
   replace bi := bi.ch Z2
   replace aU := aU.ch Z2
   replace aE := aE.ch Z2
   replace bx := bx.ch Z2
   replace hB := (((((hB.trans c5.fr).trans iK.fr).trans gG.fr).trans mV.fr).trans gp.fr).trans j5.fr
   refine Go1.loopW (S := Nat) (fun s σ w => agrees σ [(1, .pointer (some ⟨B2, 0, none⟩)), (3, .pointer (some ⟨B27, 0, none⟩)), (28, .slice eQ r19.Table.length eU), (29, .int .i64 (r19.Table.length : Int)), (30, .int .i64 (s : Int))] ∧ (fun Z0 => Owns w0.heap.size w Z0 A ∧ ISl (Rp.sl (Rp.int .i64)) (bl Z0 ++ A) w a8 a9 a0.Table ∧ ISl (Rp.str) (bl Z0 ++ A) w bv bw a0.Words ∧ ISl (Rp.int .i64) (bl Z0 ++ A) w bc bf a0.Images ∧ ISl (Rp.bool) (bl Z0 ++ A) w bg bh a0.Accept ∧ ISl (Rp.bool) (bl Z0 ++ A) w bB bC a0.Plus ∧ ISl (Rp.sl (Rp.int .i64)) (bl Z0 ++ A) w eQ eU r19.Table ∧ ISl (Rp.str) (bl Z0 ++ A) w fd fe r19.Words ∧ ISl (Rp.int .i64) (bl Z0 ++ A) w eM eN r19.Images ∧ ISl (Rp.bool) (bl Z0 ++ A) w eO eP r19.Accept ∧ ISl (Rp.bool) (bl Z0 ++ A) w fy fA r19.Plus ∧ Fr (bl []) w0 (bl Z0) w) [.blk B27 (.cells #[.int .i64 r19.Letters, .slice eQ r19.Table.length eU, .slice fd r19.Words.length fe, .slice eM r19.Images.length eN, .slice eO r19.Accept.length eP, .slice fy r19.Plus.length fA] 33 (0, 0)), .blk B2 (.cells #[.int .i64 a0.Letters, .slice a8 a0.Table.length a9, .slice bv a0.Words.length bw, .slice bc a0.Images.length bf, .slice bg a0.Accept.length bh, .slice bB a0.Plus.length bC] 33 (0, 0))]) H ⟨⟨rfl, rfl, rfl, rfl, rfl, trivial⟩, hO, aA, bi, aU, aE, bx, cy, cK, cf, cg, cQ, hB⟩ ?_
   intro X1 k1_38
   intro H hX1 σ w37
   refine andE fun hag => andE fun hO => andE fun aA => andE fun bi => andE fun aU => andE fun aE => andE fun bx => andE fun cy => andE fun cK => andE fun cf => andE fun cg => andE fun cQ => fun hB => ?_
   refine Go1.keep [(1, .pointer (some ⟨B2, 0, none⟩)), (3, .pointer (some ⟨B27, 0, none⟩)), (28, .slice eQ r19.Table.length eU), (29, .int .i64 (r19.Table.length : Int)), (30, .int .i64 (k1_38 : Int))] hag ?_
   refine zq (zr ?_)
   by_cases h39 : (k1_38 : Int) < (r19.Table.length : Int)
   ·replace H := ifp h39 H
    refine zo (fun w => opB (J08 rfl rfl w) (decide_eq_true h39)) (zn (zq (zt rfl rfl (zk (zq ?_)))))
    refine zb (zq (zr (zm rfl ?_)))
    obtain ⟨h40, H⟩ := H
    obtain ⟨h41, H⟩ := H
    refine zo (J02 Try.underlying23 ti31 rfl rfl h40 h41 (cy.some_ h40 h41)) ?_
    have zz := ldSl cy h40 h41
    obtain ⟨p42, c43, Bu, HL⟩ := zz
    refine zs (HL Try.underlying31 rfl rfl) (za rfl (za rfl (zn (zq (zr ?_)))))
    refine zm rfl (zo (J00 Try.underlying33 rfl ti23 rfl (by decide)) (zs (oblk (i := 1) 1 hO rfl rfl Try.underlying23 rfl rfl) (zm rfl ?_)))
    obtain ⟨h46, H⟩ := H
    obtain ⟨h47, H⟩ := H
    refine zo (J02 Try.underlying23 ti31 rfl rfl h46 h47 (aA.some_ h46 h47)) ?_
    have zz := ldSl aA h46 h47
    obtain ⟨p48, c49, HP, TA⟩ := zz
    refine zs (TA Try.underlying31 rfl rfl) ?_
    refine GoR.call (J0a body73 rfl (walk_slices_Equal_int hO.lt Bu HP H)) rfl rfl ?_
    rintro v56 w53 ⟨r52, rfl, TB, H⟩
    have ir := Stp.same hO TB
    replace hO := ir.own
    cases r52
    ·replace H := ifn Bool.false_ne_true H
     refine zo (J0p rfl) (zn (zt rfl rfl (zq (zr (za rfl ?_)))))
     refine zn ?_
     refine Go1.ret1 Try.func28 rfl ?_
     replace hB := hB.trans ir.fr
     exact ⟨(8 : Int), rfl, hB.same, H⟩
    replace H := ifp rfl H
    refine zo (J0p rfl) (zn (zf rfl rfl (zk ?_)))
    refine Go1.inBlock ?_
    refine zr ?_
    replace cy := cy.ch ir.ch
    refine zo (J0c rfl rfl (wrap_i64 (natbd h39 cy.bd))) (zm rfl (zn ?_))
    replace aA := aA.ch ir.ch
    replace bi := bi.ch ir.ch
    replace aU := aU.ch ir.ch
    replace aE := aE.ch ir.ch
    replace bx := bx.ch ir.ch
    replace cK := cK.ch ir.ch
    replace cf := cf.ch ir.ch
    replace cg := cg.ch ir.ch
    replace cQ := cQ.ch ir.ch
    replace hB := hB.trans ir.fr
    exact hX1 _ H _ _ ⟨⟨rfl, rfl, rfl, rfl, rfl, trivial⟩, hO, aA, bi, aU, aE, bx, cy, cK, cf, cg, cQ, hB⟩
   replace H := ifn h39 H
   refine zo (fun w => opB (J08 rfl rfl w) (decide_eq_false h39)) (zn (zq (zf rfl rfl ?_)))
   refine Go1.exit rfl ?_
   refine zq (zq ?_)
   refine Go1.cut [(1, .pointer (some ⟨B2, 0, none⟩)), (3, .pointer (some ⟨B27, 0, none⟩))] ⟨rfl, rfl, trivial⟩ ?_
   intro σ _
   refine zr (zo (J00 Try.underlying33 rfl ti30 rfl (by decide)) (zs (oblk (i := 2) 0 hO rfl rfl Try.underlying30 rfl rfl) (zo (J00 Try.underlying33 rfl ti30 rfl (by decide)) (zs (oblk (i := 2) 1 hO rfl rfl Try.underlying30 rfl rfl) ?_))))
   refine GoR.call (J0a body74 rfl (walk_slices_Equal_string hO.lt cK bi H)) rfl rfl ?_
   rintro v62 w59 ⟨r58, rfl, TC, H⟩
   have kX := Stp.same hO TC
   replace hO := kX.own
   cases r58
   ·replace H := ifn Bool.false_ne_true H
    refine zo (J0p rfl) (zm rfl (zp (zp (zp (zp ?_)))))
    refine zp (zp (zo (J06 rfl rfl rfl) (zm rfl (zp (zp ?_)))))
    refine zp (zp (zp (zp (zo (J06 rfl rfl rfl) (zm rfl ?_)))))
    refine zp (zp (zp (zp (zp (zp ?_)))))
    refine zo (J06 rfl rfl rfl) (zn (zt rfl rfl (zq ?_)))
    refine Go1.cut [] trivial ?_
    intro σ _
    refine zr (za rfl (zn ?_))
    refine Go1.ret1 Try.func28 rfl ?_
    replace hB := hB.trans kX.fr
    exact ⟨(8 : Int), rfl, hB.same, H⟩
   replace H := ifp rfl H
   refine zo (J0p rfl) (zm rfl (zo (J00 Try.underlying33 rfl ti31 rfl (by decide)) (zs (oblk (i := 3) 0 hO rfl rfl Try.underlying31 rfl rfl) (zo (J00 Try.underlying33 rfl ti31 rfl (by decide)) (zs (oblk (i := 3) 1 hO rfl rfl Try.underlying31 rfl rfl) ?_)))))
   replace aU := aU.ch kX.ch
   replace cf := cf.ch kX.ch
   refine GoR.call (J0a body73 rfl (walk_slices_Equal_int hO.lt cf aU H)) rfl rfl ?_
   rintro v68 w65 ⟨r64, rfl, ia, H⟩
   have me := Stp.same hO ia
   replace hO := me.own
   cases r64
   ·replace H := ifn Bool.false_ne_true H
    refine zo (J0p rfl) (zo (J05 rfl rfl rfl) (zm rfl (zp (zp (zp ?_)))))
    refine zp (zp (zp (zo (J06 rfl rfl rfl) (zm rfl (zp ?_)))))
    refine zp (zp (zp (zp (zp (zo (J06 rfl rfl rfl) ?_)))))
    refine zn (zt rfl rfl (zq ?_))
    refine Go1.cut [] trivial ?_
    intro σ _
    refine zr (za rfl (zn ?_))
    refine Go1.ret1 Try.func28 rfl ?_
    replace hB := (hB.trans kX.fr).trans me.fr
    exact ⟨(8 : Int), rfl, hB.same, H⟩
   replace H := ifp rfl H
   refine zo (J0p rfl) (zo (J05 rfl rfl rfl) (zm rfl (zo (J00 Try.underlying33 rfl ti22 rfl (by decide)) (zs (oblk (i := 4) 0 hO rfl rfl Try.underlying22 rfl rfl) (zo (J00 Try.underlying33 rfl ti22 rfl (by decide)) ?_)))))
   refine zs (oblk (i := 4) 1 hO rfl rfl Try.underlying22 rfl rfl) ?_
   have Z4 := kX.ch.trans me.ch
   replace aE := aE.ch Z4
   replace cg := cg.ch Z4
   refine GoR.call (J0a body75 rfl (walk_slices_Equal_bool hO.lt cg aE H)) rfl rfl ?_
   rintro v74 w71 ⟨r70, rfl, TD, H⟩
   have um := Stp.same hO TD
   replace hO := um.own
   cases r70
   ·replace H := ifn Bool.false_ne_true H
    refine zo (J0p rfl) (zo (J05 rfl rfl rfl) (zm rfl (zp (zp (zp ?_)))))
    refine zp (zp (zp (zo (J06 rfl rfl rfl) (zn (zt rfl rfl ?_)))))
    refine zq ?_
    refine Go1.cut [] trivial ?_
    intro σ _
    refine zr (za rfl (zn ?_))
    refine Go1.ret1 Try.func28 rfl ?_
    replace hB := ((hB.trans kX.fr).trans me.fr).trans um.fr
    exact ⟨(8 : Int), rfl, hB.same, H⟩
   replace H := ifp rfl H
   refine zo (J0p rfl) (zo (J05 rfl rfl rfl) (zm rfl (zo (J00 Try.underlying33 rfl ti22 rfl (by decide)) (zs (oblk (i := 5) 0 hO rfl rfl Try.underlying22 rfl rfl) (zo (J00 Try.underlying33 rfl ti22 rfl (by decide)) ?_)))))
   refine zs (oblk (i := 5) 1 hO rfl rfl Try.underlying22 rfl rfl) ?_
   have Z5 := Z4.trans um.ch
   replace bx := bx.ch Z5
   replace cQ := cQ.ch Z5
   refine GoR.call (J0a body75 rfl (walk_slices_Equal_bool hO.lt cQ bx H)) rfl rfl ?_
   rintro v80 w77 ⟨r76, rfl, TE, H⟩
   have jx := Stp.same hO TE
   replace hO := jx.own
   cases r76
   ·replace H := ifn Bool.false_ne_true H
    refine zo (J0p rfl) (zo (J05 rfl rfl rfl) (zn (zt rfl rfl (zq (zr ?_)))))
    refine za rfl (zn ?_)
    refine Go1.ret1 Try.func28 rfl ?_
    replace hB := (((hB.trans kX.fr).trans me.fr).trans um.fr).trans jx.fr
    exact ⟨(8 : Int), rfl, hB.same, H⟩
   replace H := ifp rfl H
   refine zo (J0p rfl) (zo (J05 rfl rfl rfl) (zn (zf rfl rfl (zk (zq ?_)))))
   refine zr (za rfl (zn ?_))
   refine Go1.ret1 Try.func28 rfl ?_
   replace hB := (((hB.trans kX.fr).trans me.fr).trans um.fr).trans jx.fr
   exact ⟨(0 : Int), rfl, hB.same, H⟩
  replace H := ifn h36 H
  refine zo (fun w => opB (J0g rfl rfl w) (ndF h36)) (zo (J05 rfl rfl rfl) (zn (zt rfl rfl (zq (zr ?_)))))
  refine za rfl (zn ?_)
  refine Go1.ret1 Try.func28 rfl ?_
  replace hB := (((((hB.trans c5.fr).trans iK.fr).trans gG.fr).trans mV.fr).trans gp.fr).trans j5.fr
  exact ⟨(8 : Int), rfl, hB.same, H⟩
 replace H := ifn h35 H
 refine zo (fun w => opB (J0g rfl rfl w) (ndF h35)) (zm rfl (zp (zp (zp (zp ?_)))))
 refine zp (zp (zp (zo (J06 rfl rfl rfl) (zn (zt rfl rfl ?_)))))
 refine zq ?_
 refine Go1.cut [] trivial ?_
 intro σ _
 refine zr (za rfl (zn ?_))
 refine Go1.ret1 Try.func28 rfl ?_
 replace hB := (((((hB.trans c5.fr).trans iK.fr).trans gG.fr).trans mV.fr).trans gp.fr).trans j5.fr
 exact ⟨(8 : Int), rfl, hB.same, H⟩
theorem body30 : Body Try.prog 30 := ⟨Try.f30, Try.func30, rfl, by kernel_rfl⟩
theorem walk_ref14_In {A : List Nat} {w0 : World} {p_t : Option Addr} {c_t : Nat} {p_l : Option Addr} {c_l : Nat} {t : List (List Int)} {l : List Int} (hA : ∀ b ∈ A, b < w0.heap.size) (h_t : ISl (Rp.sl (Rp.int .i64)) A w0 p_t c_t t) (h_l : ISl (Rp.int .i64) A w0 p_l c_l l) {K : Bool → Prop} (H : ref14_In t l K) :
    CallsV Try.prog 30 #[.slice p_t t.length c_t, .slice p_l l.length c_l] w0 (fun v w' => ∃ (r0 : Bool), v = .bool r0 ∧ Same w0 w' ∧ K r0) := by
 refine CallsV.of (l := [.slice p_t t.length c_t, .slice p_l l.length c_l]) Try.func30 rfl Try.ntmps30 rfl ?_
 have hO := Owns.start hA
 have hB := Fr.refl (bl []) w0
 unfold ref14_In at H
 refine zq (zr (za rfl (zn (zq (zq ?_)))))
 refine zr (zm rfl (zo (J0d Try.underlying31 rfl) ?_))
 replace h_l := h_l.ch (Ch.start A w0)
 replace H := H h_l.bd
 refine zm rfl (zn (zb ?_))
 replace h_t := h_t.ch (Ch.start A w0)
 refine Go1.loopW (S := Nat) (fun s σ w => agrees σ [(0, .slice p_t t.length c_t), (7, .slice p_l l.length c_l), (8, .int .i64 (l.length : Int)), (9, .int .i64 (s : Int))] ∧ Owns w0.heap.size w [] A ∧ ISl (Rp.sl (Rp.int .i64)) (bl [] ++ A) w p_t c_t t ∧ ISl (Rp.int .i64) (bl [] ++ A) w p_l c_l l ∧ Fr (bl []) w0 (bl []) w) H ⟨⟨rfl, rfl, rfl, rfl, trivial⟩, hO, h_t, h_l, hB⟩ ?_
 intro X1 k1_2
 intro H hX1 σ w1
 refine andE fun hag => andE fun hO => andE fun h_t => andE fun h_l => fun hB => ?_
 refine Go1.keep [(0, .slice p_t t.length c_t), (7, .slice p_l l.length c_l), (8, .int .i64 (l.length : Int)), (9, .int .i64 (k1_2 : Int))] hag ?_
 refine zq (zr ?_)
 by_cases h3 : (k1_2 : Int) < (l.length : Int)
 ·replace H := ifp h3 H
  refine zo (fun w => opB (J08 rfl rfl w) (decide_eq_true h3)) (zn (zq (zt rfl rfl (zk (zq ?_)))))
  refine zb (zq (zr ?_))
  obtain ⟨h4, H⟩ := H
  obtain ⟨h5, H⟩ := H
  refine zo (J02 Try.underlying31 ti3 rfl rfl h4 h5 (h_l.some_ h4 h5)) (zs (ldInt h_l h4 h5 Try.underlying3 rfl rfl) (za rfl (zn (zq (zr ?_)))))
  refine zm rfl ?_
  by_cases h6 : (ix l (k1_2 : Int)) < (0 : Int)
  ·replace H := ifp h6 H
   refine zo (fun w => opB (J08 rfl rfl w) (decide_eq_true h6)) (zm rfl (zp (zp (zp (zp ?_)))))
   refine zo (J06 rfl rfl rfl) (zn (zt rfl rfl (zq (zr (za rfl ?_)))))
   refine zn ?_
   refine Go1.ret1 Try.func30 rfl ?_
   exact ⟨false, rfl, hB.same, H⟩
  replace H := ifn h6 H
  refine zo (fun w => opB (J08 rfl rfl w) (decide_eq_false h6)) (zm rfl (zm rfl (zm rfl (zo (J0d Try.underlying23 rfl) ?_))))
  replace H := H h_t.bd
  by_cases h7 : (t.length : Int) ≤ (ix l (k1_2 : Int))
  ·replace H := ifp h7 H
   refine zo (fun w => opB (J1n rfl rfl w) (decide_eq_true h7)) (zo (J05 rfl rfl rfl) (zn (zt rfl rfl (zq ?_))))
   refine Go1.cut [] trivial ?_
   intro σ _
   refine zr (za rfl (zn ?_))
   refine Go1.ret1 Try.func30 rfl ?_
   exact ⟨false, rfl, hB.same, H⟩
  replace H := ifn h7 H
  refine zo (fun w => opB (J1n rfl rfl w) (decide_eq_false h7)) (zo (J05 rfl rfl rfl) (zn (zf rfl rfl (zk ?_))))
  refine Go1.inBlock ?_
  refine zr (zo (J0c rfl rfl (wrap_i64 (natbd h3 h_l.bd))) (zm rfl (zn ?_)))
  exact hX1 _ H _ _ ⟨⟨rfl, rfl, rfl, rfl, trivial⟩, hO, h_t, h_l, hB⟩
 replace H := ifn h3 H
 refine zo (fun w => opB (J08 rfl rfl w) (decide_eq_false h3)) (zn (zq (zf rfl rfl ?_)))
 refine Go1.exit rfl ?_
 refine zq (zr (za rfl (zn ?_)))
 refine Go1.ret1 Try.func30 rfl ?_
 exact ⟨true, rfl, hB.same, H⟩
end Sg
